import Derived.Test.YtdljjajjonfjbaaGreatDoorSwl
import Derived.Test.YtdljjajjonfjbaaGreatDoorSn
import Derived.Test.YtdljjajjonfjbaaGreatDoorSx
import Derived.WalkKit
import Derived.ProofKit
import Derived.OpenShut
import Derived.ShutString
import Derived.ChangeOld
import Derived.Carry
import Derived.LaidMore
import Derived.LaidOnce
import Derived.SevenTiedAt
import Derived.SizedLaws
import Derived.Test.YtdljjajjonfjbaaGreatDoorShBase
import Derived.Test.YtdljjajjonfjbaaGreatDoorShh
import Derived.Test.YtdljjajjonfjbaaGreatDoorCards
import Derived.Test.YtdljjajjonfjbaaGreatDoorTie
import Derived.ChangeMaps5
set_option linter.unusedVariables false
set_option linter.unusedSimpArgs false
set_option maxRecDepth 10000
open Go.Proofs.Tryz renaming prog->sD
open List renaming length_map->sK,not_mem_nil->sN,append_nil->sP
open ByteArray renaming size_append->sU
namespace Go.Proofs.YtdljjajjonfjbaaGreatDoor
open Go Go.Shelf Go.RowKit Go.Proofs Go.Proofs.Sx
theorem pL {α:Type} {x y : α} {a b:List α} (h:(x::a).Sublist (y::b)) (hne : ¬ y=x):(x::a).Sublist b:=by
 cases h with
 | cons _ h=>exact h
 | cons_cons _ h=>exact absurd rfl hne
theorem dA {a:List RunL} {b:List RunL} {x y:RunL} {i j:Nat} (hx:a[i]? = some x) (hy:b[j]? = some y) (h:((a.drop i).map RunL.path).Sublist ((b.drop j).map RunL.path)) (hne : ¬ y.path=x.path):((a.drop i).map RunL.path).Sublist ((b.drop (j+1)).map RunL.path):=by
 have hi:=(List.getElem?_eq_some_iff.1 hx).1;have hj:=(List.getElem?_eq_some_iff.1 hy).1;rw [List.drop_eq_getElem_cons hi,(List.getElem?_eq_some_iff.1 hx).2,List.map_cons] at h ⊢;rw [List.drop_eq_getElem_cons hj,(List.getElem?_eq_some_iff.1 hy).2,List.map_cons] at h;exact pL h hne
theorem cZ {a:List RunL} {b:List RunL} {x y:RunL} {i j:Nat} (hx:a[i]? = some x) (hy:b[j]? = some y) (h:((a.drop i).map RunL.path).Sublist ((b.drop j).map RunL.path)) (he:y.path=x.path):((a.drop (i+1)).map RunL.path).Sublist ((b.drop (j+1)).map RunL.path):=by
 have hi:=(List.getElem?_eq_some_iff.1 hx).1;have hj:=(List.getElem?_eq_some_iff.1 hy).1;rw [List.drop_eq_getElem_cons hi,(List.getElem?_eq_some_iff.1 hx).2,List.map_cons,List.drop_eq_getElem_cons hj,(List.getElem?_eq_some_iff.1 hy).2,List.map_cons,he] at h;exact List.cons_sublist_cons.1 h
theorem No {a:List RunL} {b:List RunL} {x:RunL} {i j:Nat} (hx:a[i]? = some x) (h:((a.drop i).map RunL.path).Sublist ((b.drop j).map RunL.path)):j < b.length:=by
 have hi:=(List.getElem?_eq_some_iff.1 hx).1;have:=h.length_le;rw [sK,sK,List.length_drop,List.length_drop] at this;omega
set_option maxHeartbeats 4000000 in
theorem dE (p:Option Addr) (c:Nat) (l:List JV) (fp:Option Addr) (fc:Nat) (ff:List Int) (w:World) (hE:ErrOk w) (hv:VL w (.slice p l.length c) l) (hsm:smL 1000000000000000000 (l.map JV.d)) (hvf:Vw fB w (.slice fp ff.length fc) ff) (hff:ff.length<=1000000000000000000) (hcf:ff.length<=fc) (hvl:Aq (l.map JV.d)=false) :
 Calls sD 5 #[.slice p l.length c,.slice fp ff.length fc] w fun e w'=>e = .returned (.bool true)/\Only Ai w w':=by
 refine Ao (args:=[.slice p l.length c,.slice fp ff.length fc]) (m:=95) (n:=97) Tryz.func5 rfl (by kernel_rfl) (by kernel_rfl) fun J V=>?_;have O:=Ow.nil sD Ai w;refine Sa [(4,I false)] V fun J V=>wp_seq (sr 2 (Ag (mC (d:=(some 14)) V Tryz.func7 ((Qr _ (hE.keep O.only)).mono ?_))));rintro en w1 ⟨rfl,ho⟩;refine ⟨_,rfl,?_⟩;clear V J; intro J V;replace O:=O.st ho; clear ho;refine Ka 1 [(15,I false)] V fun J V=>Ab (Aa (cF V (wp_skip (Aa (sr 7 (Ka 1 [(17,.slice p l.length c)] V fun J V=>Mk 18 V O Tryz.func9 (Yc p c l _ (hv.keep O.only) hsm hvl) fun J w2 V O=>Ka 5 [(5,Y (⟨#[]⟩))] V fun J V=>Ab (Aa (wp_seq (sr 13 (Ka 1 [(21,.slice p l.length c)] V fun J V=>Mk 22 V O Tryz.func8 (Zv p c l _ (hv.keep O.only) hsm) fun J w3 V O=>Ka 2 [(23,I (!(Kc (l.map JV.d)))),(24,I (!(Kc (l.map JV.d))))] V fun J V=>?_))))))))));rw [((mQ hvl):(Kc (l.map JV.d))=false)] at V;exact Ka 9 [(33,I true)] V fun J V=>Ab (Aa (cT V (Sa [(4,I true)] V fun J V=>wp_ret (Ad (cv [I true] V (⟨rfl,O.only⟩))))))
set_option maxHeartbeats 4000000 in
theorem kD (p:Option Addr) (c:Nat) (l:List JV) (fp:Option Addr) (fc:Nat) (ff:List Int) (w:World) (hE:ErrOk w) (hv:VL w (.slice p l.length c) l) (hsm:smL 1000000000000000000 (l.map JV.d)) (hvf:Vw fB w (.slice fp ff.length fc) ff) (hff:ff.length<=1000000000000000000) (hcf:ff.length<=fc) (hvl:Aq (l.map JV.d)=true) :
 Calls sD 5 #[.slice p l.length c,.slice fp ff.length fc] w fun e w'=>e = .returned (.bool true)/\Only Ai w w':=by
 refine Ao (args:=[.slice p l.length c,.slice fp ff.length fc]) (m:=95) (n:=97) Tryz.func5 rfl (by kernel_rfl) (by kernel_rfl) fun J V=>?_;have O:=Ow.nil sD Ai w;have hpz:=Q9 hvl;refine Sa [(4,I false)] V fun J V=>wp_seq (sr 2 (Ag (mC (d:=(some 14)) V Tryz.func7 ((Qr _ (hE.keep O.only)).mono ?_))));rintro en w1 ⟨rfl,ho⟩;refine ⟨_,rfl,?_⟩;clear V J; intro J V;replace O:=O.st ho; clear ho;refine Ka 1 [(15,I false)] V fun J V=>Ab (Aa (cF V (wp_skip (Aa (sr 7 (Ka 1 [(17,.slice p l.length c)] V fun J V=>Mk 18 V O Tryz.func9 (cM p c l _ (hv.keep O.only) (L9 hvl) hvl) fun J w2 V O=>Ka 5 [(5,Y (bA (prL (l.map JV.d))))] V fun J V=>Ab (Aa (wp_seq (sr 13 (Ka 1 [(21,.slice p l.length c)] V fun J V=>Mk 22 V O Tryz.func8 (Zv p c l _ (hv.keep O.only) hsm) fun J w3 V O=>Ka 2 [(23,I (!(Kc (l.map JV.d)))),(24,I (!(Kc (l.map JV.d))))] V fun J V=>?_))))))))));rcases rX (Kc (l.map JV.d)) with h1 | h1
 · rw [h1] at V;refine Ka 5 [(27,I (decide (((ff.length:Nat):Int) > 60))),(28,I (decide (((ff.length:Nat):Int) > 60))),(29,I (decide (((ff.length:Nat):Int) > 60)))] V fun J V=>?_;rcases rX (decide (((ff.length:Nat):Int) > 60)) with h2 | h2
   · rw [h2] at V;have h2p:=rY h2;exact Ka 4 [(33,I true)] V fun J V=>Ab (Aa (cT V (Sa [(4,I true)] V fun J V=>wp_ret (Ad (cv [I true] V (⟨rfl,O.only⟩))))))
   rw [h2] at V;have h2p:=rZ h2;refine Ka 4 [(33,I (decide ((((bA (prL (l.map JV.d))).size:Nat):Int) > 200)))] V fun J V=>Ab (Aa ?_);rcases rX (decide ((((bA (prL (l.map JV.d))).size:Nat):Int) > 200)) with h3 | h3
   · rw [h3] at V;have h3p:=rY h3;exact cT V (Sa [(4,I true)] V fun J V=>wp_ret (Ad (cv [I true] V (⟨rfl,O.only⟩))))
   rw [h3] at V;have h3p:=rZ h3;refine cF V (wp_skip (Aa (sr 6 (Kb 2 [(35,Y ((bA (prL (l.map JV.d)))++(⟨#[10]⟩:ByteArray)))] V [] (cc ((by have z1_:(⟨#[10]⟩:ByteArray).size=1:=rfl; omega):(bA (prL (l.map JV.d))).size+(⟨#[10]⟩:ByteArray).size<=9223372036854775807) c0) fun J V=>Ag (mC (d:=(some 36)) V Tryz.func11 ((X7 ((bA (prL (l.map JV.d)))++(⟨#[10]⟩:ByteArray)) 80 _ (by omega) (by omega) (by rw [sU]; show (bA (prL (l.map JV.d))).size+1<=_; omega)).mono ?_))))));rintro en w4 ⟨p1,c1,T1,rfl,hT1,hW⟩;refine ⟨_,rfl,?_⟩;clear V J; intro J V;replace O:Ow sD Ai w _ ([]++[]):=O.to (sP _).symm;replace O:=Ow.join O hW; clear hW;replace O:Ow sD Ai w _ ([]++(T1++([]))):=O.to (by first | rfl | (simp only [TP,apd]));refine Ka 1 [(37,.slice fp ff.length fc)] V fun J V=>?_;replace O:Ow sD Ai w w4 ([]++(T1++([]))):=O;refine Ag (mC (d:=(some 38)) V Tryz.func10 ((dZ p1 c1 (Fu ((bA (prL (l.map JV.d)))++(⟨#[10]⟩:ByteArray)) 80) fp fc ff _ (hT1.vw (A:=[]) (B:=[]) O.m) (hvf.keep O.only) (hE.keep O.only) hT1.le hcf (fun c_ h_=>by (have q_:=Qp (n:=80) (by omega) _ _ (Nat.le_refl _) c_ h_; omega))).mono ?_));rintro en w5 ⟨wb1,a1,TW1,rfl,hd1,hTW1,hW⟩;refine ⟨_,rfl,?_⟩;clear V J; intro J V;replace O:=Ow.join O hW; clear hW;refine Ka 1 [(7,pt wb1)] V fun J V=>Ab (Aa ?_);have hfin:Fin (ff=[]) a1.d (B4 (l.map JV.d) ex0).1 (B4 (l.map JV.d) ex0).2:=hd1 ▸ lF (l:=l.map JV.d) (by assumption) (by omega) ff
   have hrl1:a1.rl.length<=900:=by have q_:=aO (Fu (bA (prL (l.map JV.d))++(⟨#[10]⟩:ByteArray)) 80) ff; rw [← hd1] at q_; exact q_
   refine sr 11 (Ka 1 [(40,.slice p l.length c)] V fun J V=>Ag (mC (d:=(some 41)) V Tryz.func12 ((Rt p c l _ (hv.keep O.only) hvl).mono ?_)));rintro en w6 ⟨pr,cr,Tr,pw,cw,Tw,rfl,hTr,hTw,hrl_,hwl_,hW⟩;refine ⟨_,rfl,?_⟩;clear V J; intro J V;replace O:=Ow.join O hW; clear hW;refine Ka 9 [(8,.slice pr (((B4 (l.map JV.d) ex0).1.runs).length) cr),(11,I ((B4 (l.map JV.d) ex0).2))] V fun J V=>Ab (Aa (Sa [(12,Z 0)] V fun J V=>wp_seq (Sa [(13,Z 0)] V fun J V=>wp_block (Be (fun mm J W=>∃ (i k:Nat),mm=a1.rl.length - i/\Holds 97 [] J [(4,I false),(7,pt wb1),(8,.slice pr (((B4 (l.map JV.d) ex0).1.runs).length) cr),(11,I ((B4 (l.map JV.d) ex0).2)),(12,Z ((k:Nat):Int)),(13,Z ((i:Nat):Int))]/\Ow sD Ai w W ([]++(T1++(((wb1,46,wc a1)::TW1)++(Tr++(Tw++([]))))))/\i<=a1.rl.length/\k<=(B4 (l.map JV.d) ex0).1.runs.length/\((a1.rl.drop i).map RunL.path).Sublist (((B4 (l.map JV.d) ex0).1.runs.drop k).map RunL.path)/\True) ?_ ?_))))
   · exact ⟨_,0,0,rfl,V.ss,O.tt,(Nat.zero_le _),(Nat.zero_le _),(by rw [List.drop_zero,List.drop_zero]; exact hfin.sub),trivial⟩
   rintro _ J w7 ⟨i,k,rfl,V,O,hi,hk,hS,-⟩;refine wp_seq (Sb [(52,I (decide (((i:Nat):Int) < ((a1.rl.length:Nat):Int))))] V [.slice a1.rp a1.rl.length a1.rc] (cc (((O.m.blk (wb1,46,wc a1) (by simp)).ld1 (i:=27) (by kernel_rfl) (by kernel_rfl)):Ld sD w7 ⟨wb1,27,none⟩ 32 (.slice a1.rp a1.rl.length a1.rc)) c0) fun J V=>?_);rcases rX (decide (((i:Nat):Int) < ((a1.rl.length:Nat):Int))) with h4 | h4
   · rw [h4] at V;have h4p:=rY h4;obtain ⟨x,hx⟩ : ∃ x,a1.rl[i]? = some x:=⟨_,List.getElem?_eq_getElem (by omega)⟩;obtain ⟨ad1,hrp⟩ : ∃ ad,a1.rp=some ad:=Vw.pos (w:=w7) (m:=a1.rl.length) (c:=a1.rc) (Ah.at (A:=([]++(T1++([])))) (B:=Tr++(Tw++([]))) (T:=((wb1,46,wc a1)::TW1)) (Ah.r (T:=[(wb1,46,wc a1)]) hTW1.runs) (O.tt:Ow sD Ai w _ (([]++(T1++([])))++(((wb1,46,wc a1)::TW1)++(Tr++(Tw++([])))))).m) (by omega);refine cT V (wp_skip (Aa (wp_seq (wp_block (wp_seq (wp_block (Be (fun mm J W=>∃ (j:Nat),mm=(B4 (l.map JV.d) ex0).1.runs.length - j/\Holds 97 [] J [(4,I false),(7,pt wb1),(8,.slice pr (((B4 (l.map JV.d) ex0).1.runs).length) cr),(11,I ((B4 (l.map JV.d) ex0).2)),(12,Z ((j:Nat):Int)),(13,Z ((i:Nat):Int))]/\Ow sD Ai w W ([]++(T1++(((wb1,46,wc a1)::TW1)++(Tr++(Tw++([]))))))/\j<=(B4 (l.map JV.d) ex0).1.runs.length/\((a1.rl.drop i).map RunL.path).Sublist (((B4 (l.map JV.d) ex0).1.runs.drop j).map RunL.path)/\True) ?_ ?_)))))))
     · exact ⟨_,k,rfl,V.ss,O.tt,hk,hS,trivial⟩
     rintro _ J w8 ⟨j,rfl,V,O,hj,hS2,-⟩;refine wp_seq (wp_seq ?_);have hS:=O;refine rP [(0,true),(1,true),(2,true),(3,true),(4,true),(5,true),(6,true),(7,true),(8,true),(9,true),(10,true),(11,true),(12,true),(13,true),(14,true),(15,true),(16,true),(17,true),(18,true),(19,true)] hS ?_;intro w9 ho; replace O:=O.st ho; clear ho;refine Kd 5 [(58,I (decide (((j:Nat):Int) < ((((B4 (l.map JV.d) ex0).1.runs).length:Nat):Int)))),(59,I (decide (((j:Nat):Int) < ((((B4 (l.map JV.d) ex0).1.runs).length:Nat):Int))))] V fun J V=>?_;rcases rX (decide (((j:Nat):Int) < ((((B4 (l.map JV.d) ex0).1.runs).length:Nat):Int))) with h5 | h5
     · rw [h5] at V;have h5p:=rY h5;obtain ⟨y,hy⟩ : ∃ x,(B4 (l.map JV.d) ex0).1.runs[j]? = some x:=⟨_,List.getElem?_eq_getElem (by omega)⟩;obtain ⟨ad2,rfl⟩ : ∃ ad,pr=some ad:=by (obtain ⟨b_,r_,e_,_⟩:=hTr.open (by omega); exact ⟨_,e_⟩)
       refine Ke 15 [(8,.slice (some ad2) (((B4 (l.map JV.d) ex0).1.runs).length) cr),(74,I (!(y.path.toList == x.path.toList)))] V [Y y.path,.slice (some ad1) a1.rl.length a1.rc,Y x.path] (cc (⟨by omega,by omega⟩:(0:Int)<=((j:Nat):Int)/\((j:Nat):Int) < ((((B4 (l.map JV.d) ex0).1.runs).length:Nat):Int)) (cc (hS.sx (ad2.add (j*9)) 9 (Y y.path) fun _ O=>(((show Vw fR _ (.slice (some ad2) ((B4 (l.map JV.d) ex0).1.runs).length cr) ((B4 (l.map JV.d) ex0).1.runs) from One.vw hTr (A:=([]++(T1++(((wb1,46,wc a1)::TW1)++([]))))) (B:=Tw++([])) (O.tt:Ow sD Ai w _ (([]++(T1++(((wb1,46,wc a1)::TW1)++([]))))++(Tr++(Tw++([]))))).m)).ld0 Ux hy (by rfl))) (cc (hS.sx ⟨wb1,27,none⟩ 32 (.slice (some ad1) a1.rl.length a1.rc) fun _ O=>(by have q_:=(((O.m.blk (wb1,46,wc a1) (by simp)).ld1 (i:=27) (by kernel_rfl) (by kernel_rfl)):Ld sD _ ⟨wb1,27,none⟩ 32 (.slice a1.rp a1.rl.length a1.rc)); rw [hrp] at q_; exact q_)) (cc (⟨by omega,by omega⟩:(0:Int)<=((i:Nat):Int)/\((i:Nat):Int) < ((a1.rl.length:Nat):Int)) (cc (hS.sx (ad1.add (i*9)) 9 (Y x.path) fun _ O=>(((show Vw fR _ (.slice (some ad1) a1.rl.length a1.rc) a1.rl from hrp ▸ (show Vw fR _ (.slice a1.rp a1.rl.length a1.rc) a1.rl from (Ah.at (A:=([]++(T1++([])))) (B:=Tr++(Tw++([]))) (T:=((wb1,46,wc a1)::TW1)) (Ah.r (T:=[(wb1,46,wc a1)]) hTW1.runs) (O.tt:Ow sD Ai w _ (([]++(T1++([])))++(((wb1,46,wc a1)::TW1)++(Tr++(Tw++([])))))).m)))).ld0 Ux hx (by rfl))) c0))))) fun J V=>Az (Aa ?_);rcases rX (y.path.toList == x.path.toList) with h6 | h6
       · rw [h6] at V;have h6e:y.path=x.path:=oF.1 h6;refine cF V (wp_exit (Aj (Aj (An (Aa (wp_seq (Sa [(80,I (((j:Nat):Int) == ((((B4 (l.map JV.d) ex0).1.runs).length:Nat):Int)))] V fun J V=>?_)))))));rw [((by rw [beq_eq_false_iff_ne]; have:=No hx hS2; omega):(((j:Nat):Int) == ((((B4 (l.map JV.d) ex0).1.runs).length:Nat):Int))=false)] at V;exact cF V (wp_skip (Aa (Rc [(12,Z (((j:Nat):Int)+1))] V [I true] (cc ((Am (by omega) (by omega)):inK .i64 (((j:Nat):Int)+1)) c0) fun J V=>Ac (Aa (Rc [(13,Z (((i:Nat):Int)+1))] V [I true] (cc ((Am (by omega) (by omega)):inK .i64 (((i:Nat):Int)+1)) c0) fun J V=>Aa (⟨_,by omega,i+1,j+1,rfl,V.ss,O.tt,(by omega),(by have:=No hx hS2; omega),(cZ hx hy hS2 (by assumption)),trivial⟩))))))
       rw [h6] at V;have h6e : ¬ y.path=x.path:=fun q_=>by rw [oF.2 q_] at h6; cases h6
       exact cT V (wp_skip (Aa (wp_block (Rc [(12,Z (((j:Nat):Int)+1))] V [I true] (cc ((Am (by omega) (by omega)):inK .i64 (((j:Nat):Int)+1)) c0) fun J V=>Ac (Aa (⟨_,by omega,j+1,rfl,V.ss,O.tt,(by omega),(dA hx hy hS2 (by assumption)),trivial⟩))))))
     exact absurd (No hx hS2) (by have q_:=rZ h5; omega)
   rw [h4] at V;have h4p:=rZ h4;refine cF V (wp_exit (Aj (Aj (An (Aa (sr 15 (Kb 5 [(86,I a1.ok),(87,I a1.ok)] V [I a1.ok] (cc (((O.m.blk (wb1,46,wc a1) (by simp)).ld1 (i:=32) (by kernel_rfl) (by kernel_rfl)):Ld sD w7 ⟨wb1,32,none⟩ 4 (I a1.ok)) c0) fun J V=>?_)))))));replace V:=V.ss.bool (f:=fun z_=>[(4,I false),(7,pt wb1),(11,I ((B4 (l.map JV.d) ex0).2)),(86,.bool z_),(87,.bool z_)]) (hfin.ok:(a1.ok)=true);refine Ka 2 [(87,I true),(88,I ((B4 (l.map JV.d) ex0).2)),(89,I ((B4 (l.map JV.d) ex0).2))] V fun J V=>?_;rcases rX ((B4 (l.map JV.d) ex0).2) with h7 | h7
   · rw [h7] at V;exact Ka 8 [(4,I true)] V fun J V=>Ab (Aa (wp_ret (cv [I true] V (⟨rfl,O.only⟩))))
   rw [h7] at V;exact Kb 8 [(4,I (a1.exit == 0))] V [Z a1.exit] (cc (((O.m.blk (wb1,46,wc a1) (by simp)).ld1 (i:=30) (by kernel_rfl) (by kernel_rfl)):Ld sD w7 ⟨wb1,30,none⟩ 3 (Z a1.exit)) c0) fun J V=>Ab (Aa (wp_ret (cv [I (a1.exit == 0)] V (⟨congrArg (fun b=>Ending.returned (.bool b)) (beq_iff_eq.2 (hfin.e0 (by assumption))),O.only⟩))))
 rw [h1] at V;exact Ka 9 [(33,I true)] V fun J V=>Ab (Aa (cT V (Sa [(4,I true)] V fun J V=>wp_ret (Ad (cv [I true] V (⟨rfl,O.only⟩))))))
theorem dF (p:Option Addr) (c:Nat) (l:List JV) (fp:Option Addr) (fc:Nat) (ff:List Int) (w:World) (hE:ErrOk w) (hv:VL w (.slice p l.length c) l) (hsm:smL 1000000000000000000 (l.map JV.d)) (hvf:Vw fB w (.slice fp ff.length fc) ff) (hff:ff.length<=1000000000000000000) (hcf:ff.length<=fc) :
 Calls sD 5 #[.slice p l.length c,.slice fp ff.length fc] w fun e w'=>e = .returned (.bool true)/\Only Ai w w':=by
 cases hvl:Aq (l.map JV.d) with
 | false=>exact dE p c l fp fc ff w hE hv hsm hvf hff hcf hvl
 | true=>exact kD p c l fp fc ff w hE hv hsm hvf hff hcf hvl
end Go.Proofs.YtdljjajjonfjbaaGreatDoor
namespace Go.Proofs.Fr
open Go Go.ChangeShapes Go.WideShapes Go.ChangeAt Go.RowKit Go.Proofs.Sx
section
variable {H:Type} {enc:TypeId×Value->H} {P:Program}
theorem Jq (hl:laidOutB P=true) {W W':World} (hb:Below W.heap.size W W') : ∀ (ts:List TypeId) (vs:List Value) (ds:List (DataW H)) (ps:List MemPlace),
 (ts.all fun t=>P.readableRec t && decide (t < P.types.size))=true->DataW.TrodAll enc P W 0 (fun _=>true) true ts vs ds ps->DataW.TrodAll enc P W' 0 (fun b=>decide (b < W.heap.size)) true ts vs ds ps
 | [],[],[],_,_,h=>h
 | [],[],_::_,_,_,h=>h.elim
 | [],_::_,_,_,_,h=>h.elim
 | _::_,[],_,_,_,h=>h.elim
 | _::_,_::_,[],_,_,h=>h.elim
 | t::ts,v::vs,d::ds,ps,ht,h=>by
  obtain ⟨p,q,h1,h2,rfl⟩:=h
  simp only [List.all_cons,Bool.and_eq_true,decide_eq_true_eq] at ht
  have lt : ∀ x∈p,x.block < W.heap.size:=by obtain ⟨m,hm⟩:=h1; exact DataW.trod_lt m _ _ _ hm
  exact ⟨p,q,Below.trod hl ht.1.1 ht.1.2 h1 hb lt,Jq hl hb ts vs ds q ht.2 h2,rfl⟩
theorem Xp {C:Checked} {os:Os} {f:FuncId} {fn:Func} {s:ChangeSpec} {conds:List PathCond} {apart fresh handsOn:Bool} {X:World->Prop}
 (hX : ∀ (w w':World),w.heap=w'.heap->X w->X w') (own:ownKnob C.prog.godebug=none) (started:os.Started) (noInit:C.prog.inits.idxOf? f=none) (hfn:C.prog.funcs[f]? = some fn)
 (witness : ∃ (w:World) (tape:Tape) (i:Input),w.os=os/\(w.forCall tape i).Shaped C.prog/\i.vars=[]/\Input.okWide C.prog (w.forCall tape i) .any w.heap.size f i /\
  ((s.pre enc C.prog fn conds apart (w.forCall tape i).memory i.args/\X (w.forCall tape i).memory)/\sizedMet enc C.prog fn (OpenSpec.ofChange s) apart (w.forCall tape i).memory i.args)/\({}:Assume).holds C.prog (lone (Frame.enter C.prog f i.args .normal) [] (w.forCall tape i)))
 (hl:laidOutB C.prog=true) (hps:(fn.params.toList.all fun t=>C.prog.readableRec t && decide (t < C.prog.types.size))=true) (hb : ∃ t,fn.resultTypes=#[t]/\C.prog.underlying t=some .bool)
 (hvars:s.vars=[]) (hs : ∀ ds:List (DataW H),ds.length=fn.params.toList.length->s.fn H ds = {results:=[.lit (.bool true)],args:=ds})
 (walk : ∀ (W:World) (base:Nat) (args:Array Value) (ds:List (DataW H)) (p:List MemPlace),(∀ (j:Nat) t v,fn.params[j]? = some t->args[j]? = some v->Value.okWide C.prog W .any base t v) ->
  DataW.TrodAll enc C.prog W 0 (fun _=>true) true fn.params.toList args.toList ds p->conds.all (PathCond.test C.prog ⟨fn.params.toList,ds,s.plain.varTypes C.prog,[]⟩)=true->(∀ (j:Nat) t d,fn.params.toList[j]? = some t->ds[j]? = some d->∀ n∈d.weights C.prog t,n<=reachBytes)->X W ->
  Calls C.prog f args W fun e W'=>e = .returned (.bool true)/\Only Ai W W') :
 ReturnsInHanded {} C os f .any (fun w args=>(s.pre enc C.prog fn conds apart w args/\X w)/\sizedMet enc C.prog fn (OpenSpec.ofChange s) apart w args) (s.post enc C.prog fn apart fresh handsOn false):=by
 refine returnsInHanded_of_change_and (C:=C) (X:=fun w _=>X w) (fun w w' _ hh h=>hX w w' hh h) own started noInit hfn witness ?_
 intro W base args ds gs before hval hW hcnd hwt hL _
 have hW':=hW
 obtain ⟨p,q,V,hV,rfl,hfz,hnd⟩:=hW
 have hgs:gs=[]/\q=[]:=by
  rw [hvars] at hV
  cases gs with
  | nil=>exact ⟨rfl,hV⟩
  | cons g gs=>exact hV.elim
 obtain ⟨rfl,rfl⟩:=hgs
 obtain ⟨tb,hrt,htb⟩:=hb
 have hlen : ∀ (ts:List TypeId) (vs:List Value) (ds:List (DataW H)) (p:List MemPlace),DataW.TrodAll enc C.prog W 0 (fun _=>true) true ts vs ds p->ds.length=ts.length:=by
  intro ts
  induction ts with
  | nil=>intro vs ds p h; cases vs <;> cases ds <;> first | rfl | exact h.elim
  | cons t ts ih=>intro vs ds p h; cases vs <;> cases ds <;> first | exact h.elim | (obtain ⟨_,q,_,h2,_⟩:=h; simp [ih _ _ q h2])
 have hsd:=hs ds (hlen _ _ _ _ V)
 have hwt' : ∀ (j:Nat) t d,fn.params.toList[j]? = some t->ds[j]? = some d->∀ n∈d.weights C.prog t,n<=reachBytes:=fun j t d ht hd n hn=>by
  have hj:=List.all_eq_true.1 hwt n (DataW.weights_mem_each (j:=j) (t:=t) (d:=d) (by rw [List.getElem?_append_left (List.getElem?_eq_some_iff.1 ht).1]; exact ht) (by rw [sP]; exact hd) n hn)
  exact rY hj
 refine (walk W base args ds p hval V hcnd hwt' hL).mono fun e W' ⟨he,ho⟩=>?_
 subst he
 have bel:=ho.below
 refine ⟨_,rfl,ds,[],p++[],[],p,[],hW',?_,?_,?_,bel.frame _,fun h=>by cases h⟩
 · rw [hrt,sP,hsd]
   exact trodAll_mk1 (shut_bool htb true)
 · rw [sP,hsd]
   exact Jq hl bel _ _ _ _ hps V
 · rw [sP,hsd,hvars]
   rfl
end
end Go.Proofs.Fr
set_option maxRecDepth 100000
namespace Go.Proofs.YtdljjajjonfjbaaGreatDoor
open Go Go.ChangeShapes Go.WideShapes Go.ChangeAt Go.RowKit Go.Proofs.Sx
section
variable {H:Type} {enc:TypeId×Value->H} {P:Program} {W:World}
theorem R2 {e:TypeId} {n:Nat} : ∀ {l:List (DataW H)} {d:DataW H},d∈l->n∈d.weights P e->n∈DataW.weightsAll P e l
 | [],_,h,_=>absurd h sN
 | x::r,d,h,hn=>by
  simp only [DataW.weightsAll,List.mem_append]
  rcases List.mem_cons.1 h with rfl | h
  · exact .inl hn
  · exact .inr (R2 h hn)
theorem Yu {α:Type} {f : α->List Value} {G : α->Prop} {sz:Nat} {a:Addr} (E:Enc f sz) : ∀ n,(∀ i,i < n->∃ x : α,(∀ k,k < sz->W.cell? (a.add (i*sz+k))=(f x)[k]?)/\G x) ->
 ∃ l:List α,l.length=n/\(∀ j u,(l.flatMap f)[j]? = some u->W.cell? (a.add j)=some u)/\∀ x∈l,G x
 | 0,_=>⟨[],rfl,fun j u h=>by simp at h,fun x hx=>absurd hx sN⟩
 | n+1,h=>by
  obtain ⟨l,hl,hc,hg⟩:=Yu E n fun i hi=>h i (by omega)
  obtain ⟨x,hx,gx⟩:=h n (by omega)
  refine ⟨l++[x],by simp [hl],fun j u hj=>?_,fun y hy=>?_⟩
  · rw [List.flatMap_append,show [x].flatMap f=f x by simp] at hj
    have hfl:(l.flatMap f).length=n*sz:=by rw [E.flen,hl]
    by_cases hlt:j < n*sz
    · rw [List.getElem?_append_left (by omega)] at hj; exact hc j u hj
    · rw [List.getElem?_append_right (by omega),hfl] at hj
      have hk:j - n*sz < sz:=by
       have:=(List.getElem?_eq_some_iff.1 hj).1
       rw [E.len] at this; exact this
      have:=hx _ hk
      rw [show n*sz+(j - n*sz)=j by omega,hj] at this
      exact this
  · rcases List.mem_append.1 hy with hy | hy
    · exact hg y hy
    · rw [List.mem_singleton.1 hy]; exact gx
theorem M1 {α:Type} {f : α->List Value} {G : α->Prop} {t e:TypeId} {sz N fuel:Nat} {cs:List Value} {x:DataW H×List MemPlace} (ht:P.underlying t=some (.slice e)) (hc:P.cellsOf e=sz) (E:Enc f sz) (hb:decide (1<=P.bytesOf e)=true)
 (el : ∀ n cs y,DataW.trod enc P W 0 (fun _=>true) true n e cs=some y->(∀ k∈y.1.weights P e,k<=N)->∃ x : α,cs=f x/\G x)
 (h:DataW.trod enc P W 0 (fun _=>true) true fuel t cs=some x) (hw : ∀ k∈x.1.weights P t,k<=N) :
 ∃ p c,∃ l:List α,cs=[.slice p l.length c]/\Vw f W (.slice p l.length c) l/\l.length<=N/\∀ x∈l,G x:=by
 rcases DataW.trod_slice ht h with ⟨rfl,_⟩ | ⟨a,len,cap,elems,rest,n,rfl,rfl,rfl,_,hl,hm,hlen,hel,_,_⟩
 · exact ⟨none,0,[],rfl,.inl ⟨rfl,rfl⟩,Nat.zero_le _,fun x hx=>absurd hx sN⟩
 · have hlN:len<=N:=by
    have:=hw ((elems.length+rest.length)*P.bytesOf e) (by simp [DataW.weights,ht])
    have h2:len*1<=(elems.length+rest.length)*P.bytesOf e:=Nat.mul_le_mul (by omega) (rY hb)
    omega
   obtain ⟨l,h1,h2,h3⟩:=Yu (W:=W) (a:=a) (G:=G) E len fun i hi=>by
    have g:=hel i hi
    rw [List.getElem?_eq_getElem (by omega),Option.bind_eq_some_iff] at g
    obtain ⟨cs,hcs,hy⟩:=g
    obtain ⟨_,hcl,hcell⟩:=World.cells?_some hcs
    obtain ⟨x,rfl,hG⟩:=el n _ _ hy fun k hk=>hw k (by
     simp only [DataW.weights,ht,List.mem_cons,List.mem_append]
     exact .inr (.inl (R2 (List.mem_map_of_mem (List.getElem_mem _)) hk)))
    rw [hc] at hcell
    exact ⟨x,fun k hk=>by rw [← Sx.add_add]; exact hcell k hk,hG⟩
   exact ⟨some a,cap,l,by rw [h1],.inr ⟨a,cap,rfl,h2⟩,by omega,h3⟩
theorem Vr {t:TypeId} {N fuel:Nat} {cs:List Value} {x:DataW H×List MemPlace} (ht:P.underlying t=some .string) (h:DataW.trod enc P W 0 (fun _=>true) true fuel t cs=some x) (hw : ∀ k∈x.1.weights P t,k<=N) : ∃ s:ByteArray,cs=[.string s]/\s.size<=N:=by
 obtain ⟨s,rfl,rfl,_⟩:=DataW.trod_string ht h
 refine ⟨s,rfl,hw _ ?_⟩
 simp [DataW.weights]
theorem Qk {t:TypeId} {fs:Array Field} {N fuel:Nat} {cs:List Value} {x:DataW H×List MemPlace} (ht:P.underlying t=some (.struct fs)) (h:DataW.trod enc P W 0 (fun _=>true) true fuel t cs=some x) (hw : ∀ k∈x.1.weights P t,k<=N) :
 cs.length=P.cellsOf t/\∃ n,∀ (i:Nat) (f:Field),fs[i]? = some f->∃ y,DataW.trod enc P W 0 (fun _=>true) true n f.type ((cs.drop f.offset).take (P.cellsOf f.type))=some y/\∀ k∈y.1.weights P f.type,k<=N:=by
 obtain ⟨xs,n,rfl,rfl,h1,h2,h3⟩:=DataW.trod_struct ht h
 refine ⟨h1,n,fun i f hf=>?_⟩
 have hi:i < xs.length:=by have:=(Array.getElem?_eq_some_iff.1 hf).1; omega
 refine ⟨xs[i],by rw [h3 i f hf,List.getElem?_eq_getElem hi],fun k hk=>hw k ?_⟩
 simp only [DataW.weights,ht]
 exact DataW.weights_mem_each (j:=i) (t:=f.type) (d:=xs[i].1) (by simp [hf]) (by simp [hi]) k hk
end
section
variable {H:Type} {enc:TypeId×Value->H} {W:World} {N:Nat}
theorem oE:sD.underlying 22=some (.slice 71):=by kernel_rfl
theorem und69:sD.underlying 69=some (.slice 73):=by kernel_rfl
theorem und30:sD.underlying 30=some (.slice 9):=by kernel_rfl
theorem pF:sD.underlying 9=some .string:=by kernel_rfl
theorem und4:sD.underlying 4=some .bool:=by kernel_rfl
theorem rK {n:Nat} {cs:List Value} {y:DataW H×List MemPlace} (h:DataW.trod enc sD W 0 (fun _=>true) true n 73 cs=some y) (hw : ∀ k∈y.1.weights sD 73,k<=N) : ∃ x:CV,cs=fC x/\(VC W x/\smC N x.d):=by
 obtain ⟨fs,hfs,g0,g1,g2,g3⟩ : ∃ fs,sD.underlying 73=some (.struct fs)/\(fs[0]?.map fun f=>(f.type,f.offset))=some (30,0)/\(fs[1]?.map fun f=>(f.type,f.offset))=some (9,1)/\(fs[2]?.map fun f=>(f.type,f.offset))=some (9,2)/\(fs[3]?.map fun f=>(f.type,f.offset))=some (4,3) :=
  ⟨(match sD.underlying 73 with | some (.struct fs)=>fs | _=>#[]),by kernel_rfl,by kernel_rfl,by kernel_rfl,by kernel_rfl,by kernel_rfl⟩
 obtain ⟨hl,m,hx⟩:=Qk hfs h hw
 rw [show sD.cellsOf 73=4 by kernel_rfl] at hl
 match cs,hl with
 | [a,b,c,d],_ =>
  have fld : ∀ {i t o:Nat},(fs[i]?.map fun f:Field=>(f.type,f.offset))=some (t,o)->∃ z,DataW.trod enc sD W 0 (fun _=>true) true m t (([a,b,c,d].drop o).take (sD.cellsOf t))=some z/\∀ k∈z.1.weights sD t,k<=N:=by
   intro i t o hg
   obtain ⟨f,hf,he⟩:=Option.map_eq_some_iff.1 hg
   obtain ⟨rfl,rfl⟩:=Prod.mk.inj he
   exact hx i f hf
  obtain ⟨z0,q0,w0⟩:=fld g0
  obtain ⟨z1,q1,w1⟩:=fld g1
  obtain ⟨z2,q2,w2⟩:=fld g2
  obtain ⟨z3,q3,_⟩:=fld g3
  rw [show sD.cellsOf 30=1 by kernel_rfl] at q0
  rw [show sD.cellsOf 9=1 by kernel_rfl] at q1 q2
  rw [show sD.cellsOf 4=1 by kernel_rfl] at q3
  simp only [List.drop_zero,List.drop_succ_cons,List.take_succ_cons,List.take_zero] at q0 q1 q2 q3
  obtain ⟨p,k,ws,e0,hv,hn,hs⟩:=M1 (f:=fT) (G:=fun s=>s.size<=N) und30 (by kernel_rfl) Jo (by kernel_rfl) (fun _ _ _ g gw=>by obtain ⟨s,e,hs⟩:=Vr pF g gw; exact ⟨s,e,hs⟩) q0 w0
  obtain ⟨s1,e1,n1⟩:=Vr pF q1 w1
  obtain ⟨s2,e2,n2⟩:=Vr pF q2 w2
  obtain ⟨b3,e3,_⟩:=DataW.trod_bool und4 q3
  cases e0; cases e1; cases e2; cases e3
  exact ⟨⟨p,k,⟨ws,s1,s2,b3⟩⟩,rfl,hv,hs,n1,n2,hn⟩
theorem qP {n:Nat} {cs:List Value} {y:DataW H×List MemPlace} (h:DataW.trod enc sD W 0 (fun _=>true) true n 71 cs=some y) (hw : ∀ k∈y.1.weights sD 71,k<=N) : ∃ x:JV,cs=fJ x/\(VJ W x/\smJ N x.d):=by
 obtain ⟨fs,hfs,g0,g1⟩ : ∃ fs,sD.underlying 71=some (.struct fs)/\(fs[0]?.map fun f=>(f.type,f.offset))=some (69,0)/\(fs[1]?.map fun f=>(f.type,f.offset))=some (4,1) :=
  ⟨(match sD.underlying 71 with | some (.struct fs)=>fs | _=>#[]),by kernel_rfl,by kernel_rfl,by kernel_rfl⟩
 obtain ⟨hl,m,hx⟩:=Qk hfs h hw
 rw [show sD.cellsOf 71=2 by kernel_rfl] at hl
 match cs,hl with
 | [a,b],_ =>
  have fld : ∀ {i t o:Nat},(fs[i]?.map fun f:Field=>(f.type,f.offset))=some (t,o)->∃ z,DataW.trod enc sD W 0 (fun _=>true) true m t (([a,b].drop o).take (sD.cellsOf t))=some z/\∀ k∈z.1.weights sD t,k<=N:=by
   intro i t o hg
   obtain ⟨f,hf,he⟩:=Option.map_eq_some_iff.1 hg
   obtain ⟨rfl,rfl⟩:=Prod.mk.inj he
   exact hx i f hf
  obtain ⟨z0,q0,w0⟩:=fld g0
  obtain ⟨z1,q1,_⟩:=fld g1
  rw [show sD.cellsOf 69=1 by kernel_rfl] at q0
  rw [show sD.cellsOf 4=1 by kernel_rfl] at q1
  simp only [List.drop_zero,List.drop_succ_cons,List.take_succ_cons,List.take_zero] at q0 q1
  obtain ⟨p,k,ys,e0,hv,hn,hs⟩:=M1 (f:=fC) (G:=fun x=>VC W x/\smC N x.d) und69 (by kernel_rfl) Ey (by kernel_rfl) (fun _ _ _ g gw=>rK g gw) q0 w0
  obtain ⟨b1,e1,_⟩:=DataW.trod_bool und4 q1
  cases e0; cases e1
  refine ⟨⟨p,k,ys,b1⟩,rfl,⟨hv,fun y hy=>(hs y hy).1⟩,?_,fun c hc=>?_⟩
  · show (ys.map (·.d)).length<=N
    rw [sK]; exact hn
  · obtain ⟨y,hy,rfl⟩:=List.mem_map.1 hc
    exact (hs y hy).2
theorem gD {base:Nat} {v:Value} {d:DataW H} {p:List MemPlace} (hv:Value.okWide sD W .any base 22 v) (h:DataW.Trod enc sD W 0 (fun _=>true) true 22 v d p) (hw : ∀ k∈d.weights sD 22,k<=reachBytes) :
 ∃ p c,∃ l:List JV,v = .slice p l.length c/\VL W (.slice p l.length c) l/\smL 1000000000000000000 (l.map JV.d):=by
 obtain ⟨a,len,cap,rfl⟩:=okWide_slice oE hv
 obtain ⟨fuel,hf⟩:=h
 obtain ⟨p,c,l,e,h1,h2,h3⟩:=M1 (f:=fJ) (G:=fun x=>VJ W x/\smJ reachBytes x.d) oE (by kernel_rfl) Ec (by kernel_rfl) (fun _ _ _ g gw=>qP g gw) hf hw
 have hr:reachBytes<=1000000000000000000:=by decide
 have hC : ∀ {c:CmdL},smC reachBytes c->smC 1000000000000000000 c:=fun h=>⟨fun u hu=>Nat.le_trans (h.1 u hu) hr,Nat.le_trans h.2.1 hr,Nat.le_trans h.2.2.1 hr,Nat.le_trans h.2.2.2 hr⟩
 refine ⟨p,c,l,by simpa [Value.cells] using e,⟨h1,fun x hx=>(h3 x hx).1⟩,by rw [sK]; omega,fun x hx=>?_⟩
 obtain ⟨y,hy,rfl⟩:=List.mem_map.1 hx
 exact ⟨Nat.le_trans (h3 y hy).2.1 hr,fun c hc=>hC ((h3 y hy).2.2 c hc)⟩
end
end Go.Proofs.YtdljjajjonfjbaaGreatDoor
namespace Go.Proofs.Fr
open Go Go.RowKit Go.Proofs.Sx
section
variable {P:Program} {w:World} {name:String} {D:DataW Unit} {rest:List (String×DataW Unit)} {ps:List MemPlace} {g:Nat} {t:TypeId} {cs:List Value}
theorem lv_of {laid:List (String×DataW Unit)} (h:laidMet P laid w) : ∃ ps,DataW.LaidVars P w laid ps:=⟨_,h.choose_spec.1⟩
theorem G5 (h : ∃ ps,DataW.LaidVars P w ((name,D)::rest) ps) : ∃ ps,DataW.LaidVars P w rest ps:=by
 obtain ⟨ps,g',t',cs',fu',p',q,_,_,_,_,hr,_⟩:=h
 exact ⟨q,hr⟩
end
section
variable {P:Program} {w:World} {name:String} {D:DataW Unit} {rest:List (String×DataW Unit)} {g:Nat} {t:TypeId}
theorem Vo {u:TypeId} {H:Type} (enc:TypeId×Value->H) (P:Program) (w:World) (b:Nat) (sp:Nat->Bool) (held:Bool) : ∀ (fu:Nat) (t:TypeId) (cs:List Value) (x:DataW H×List MemPlace) {ms},P.underlying t=some (.interface ms)->DataW.trod enc P w b sp held fu t cs=some x ->
 ∃ v,cs=[v]/\(v = .nilIface\/∃ te pe,v = .iface te pe):=by
 intro fu t cs x ms hu h
 cases fu with
 | zero=>simp [DataW.trod] at h
 | succ fu =>
  unfold DataW.trod at h
  rw [hu] at h
  split at h
  all_goals first
   | (exact ⟨_,rfl,.inl rfl⟩)
   | (exact ⟨_,rfl,.inr ⟨_,_,rfl⟩⟩)
   | (simp_all; done)
theorem Tu (h : ∃ ps,DataW.LaidVars P w ((name,D)::rest) ps) (hg:P.globalNamed name=some g) (ht:(P.globals[g]?).map (·.type)=some t) (hu0:(match P.underlying t with | some (.interface _)=>true | _=>false)=true) :
 ∃ v,w.cell? ⟨g,0,none⟩=some v/\(v = .nilIface\/∃ te pe,v = .iface te pe):=by
 obtain ⟨ps,g',t',cs',fu',p',q,hg',ht',hvar,hd',_,_⟩:=h
 obtain rfl:=Option.some.inj (hg.symm.trans hg')
 obtain rfl:=Option.some.inj (ht.symm.trans ht')
 have hu : ∃ ms,P.underlying t=some (.interface ms):=by
  split at hu0
  · exact ⟨_,by assumption⟩
  · cases hu0
 obtain ⟨ms,hu⟩:=hu
 obtain ⟨v,hc,hv⟩:=Vo (u:=0) _ _ _ _ _ _ _ _ _ _ hu hd'
 refine ⟨v,?_,hv⟩
 have:=World.var?_cell hg hvar 0
 rw [this,← Array.getElem?_toList,hc]
 rfl
end
end Go.Proofs.Fr
namespace Go.Proofs.YtdljjajjonfjbaaGreatDoor
open Go Go.ChangeShapes Go.WideShapes Go.ChangeAt Go.RowKit Go.Proofs.Sx Go.Proofs.Fr
section
variable {H:Type} {enc:TypeId×Value->H} {W:World}
theorem cQ:sD.underlying 41=some (.slice 5):=by kernel_rfl
theorem und5:sD.underlying 5=some (.int .u8):=by kernel_rfl
theorem cG {base:Nat} {v:Value} {d:DataW H} {p:List MemPlace} (hv:Value.okWide sD W .any base 41 v) (h:DataW.Trod enc sD W 0 (fun _=>true) true 41 v d p) (hw : ∀ k∈d.weights sD 41,k<=reachBytes) :
 ∃ q c,∃ l:List Int,v = .slice q l.length c/\Vw fB W (.slice q l.length c) l/\l.length<=1000000000000000000/\l.length<=c:=by
 obtain ⟨a,len,cap,rfl⟩:=okWide_slice cQ hv
 obtain ⟨fuel,hf⟩:=h
 obtain ⟨q,c,l,e,h1,h2,_⟩:=M1 (f:=fB) (G:=fun _=>True) cQ (by kernel_rfl) Ru (by kernel_rfl) (fun _ _ _ g gw=>by obtain ⟨z,e,_⟩:=DataW.trod_int und5 g; exact ⟨z,e,trivial⟩) hf hw
 have hr:reachBytes<=1000000000000000000:=by decide
 have e1:(.slice a len cap:Value) = .slice q l.length c:=by simpa [Value.cells] using e
 have hc:l.length<=c:=by
  rcases DataW.trod_slice cQ hf with ⟨h0,_⟩ | ⟨a',n,k,_,_,_,_,h0,_,_,hk,_⟩
  · have h1:(.slice a len cap:Value) = .slice none 0 0:=by simpa [Value.cells] using h0
    rw [e1] at h1
    injection h1 with _ h2 h3
    omega
  · have h1:(.slice a len cap:Value) = .slice (some a') n k:=by simpa [Value.cells] using h0
    rw [e1] at h1
    injection h1 with _ h2 h3
    omega
 exact ⟨q,c,l,e1,h1,by omega,hc⟩
end
theorem aT:ownKnob sD.godebug=none:=by kernel_rfl
theorem aU:laidOutB sD=true:=by kernel_rfl
theorem gY {W:World} {A B C D E:DataW Unit} {a b c:String} (h : ∃ ps,DataW.LaidVars sD W [(a,A),(b,B),(c,C),("strconv.ErrRange",D),("strconv.ErrSyntax",E)] ps):ErrOk W :=
 ⟨Tu (g:=1) (t:=155) (G5 (G5 (G5 (G5 h)))) (by kernel_rfl) (by kernel_rfl) (by kernel_rfl),
  Tu (g:=2) (t:=155) (G5 (G5 (G5 h))) (by kernel_rfl) (by kernel_rfl) (by kernel_rfl)⟩
open Go Go.ChangeShapes Go.WideShapes Go.ChangeAt Go.ChangeMaps Go.RowKit Go.Proofs.Sx Go.Proofs.Fr
theorem Pf (os:Os) (args:Array Value):laidMet sD Rows.shellSomeRow.laid ((World.doorLaid sD 200 os).forCall (fun _ _=>0) ⟨#[],args,[]⟩).memory :=
 laidMet_of_run' 8 (by kernel_rfl) (by kernel_rfl)
set_option maxRecDepth 100000 in
theorem shellSome_lifted (os:Os) (started:os.Started) (H:Type) (enc:TypeId×Value->H) :
 ReturnsInHanded {} Tryz.checked os 5 .any (fun w args=>(Rows.shellSomeSpec.pre enc sD Tryz.f5 [] false w args/\laidMet sD Rows.shellSomeRow.laid w)/\sizedMet enc sD Tryz.f5 (OpenSpec.ofChange Rows.shellSomeSpec) false w args)
  (Rows.shellSomeSpec.post enc sD Tryz.f5 false true false false):=by
 refine Xp (C:=Tryz.checked) (X:=fun w=>laidMet sD Rows.shellSomeRow.laid w) (fun _ _ hh h=>h.of_heap hh) aT started (by kernel_rfl) Tryz.func5
  (ChangeSpec.witness_shaped (enc:=enc) (C:=Tryz.checked) (os:=os) (X:=fun w _=>laidMet sD Rows.shellSomeRow.laid w) false (World.doorLaid sD 200 os) #[.slice none 0 0,.slice none 0 0] 8 rfl (World.shaped_of_RefB (by kernel_rfl) (by kernel_rfl)) (by kernel_rfl) (by kernel_rfl) (by kernel_rfl) (Pf os _))
  aU (by kernel_rfl) ⟨4,by kernel_rfl,by kernel_rfl⟩ rfl (fun ds hd=>by
   have hd':ds.length=2:=hd
   match ds,hd' with
   | [_,_],_=>rfl) ?_
 intro W base args ds p hval0 hA0 _ hwt0 hL
 have hval : ∀ (j:Nat) t v,Tryz.f5.params[j]? = some t->args[j]? = some v->Value.okWide sD W .any base t v:=hval0
 have V:DataW.TrodAll enc sD W 0 (fun _=>true) true Tryz.f5.params.toList args.toList ds p:=hA0
 have hwt : ∀ (j:Nat) t d,Tryz.f5.params.toList[j]? = some t->ds[j]? = some d->∀ n∈d.weights sD t,n<=reachBytes:=hwt0
 have hE:=gY (lv_of hL)
 rw [Tryz.params5] at V hval hwt
 obtain ⟨v0,vs0,d0,ds0,p0,q0,hargs,rfl,rfl,h0,r0⟩:=trodAll_cons V
 obtain ⟨v1,vs1,d1,ds1,p1,q1,rfl,rfl,rfl,h1,r1⟩:=trodAll_cons r0
 obtain ⟨rfl,rfl,rfl⟩:=trodAll_nil r1
 obtain rfl:args=#[v0,v1]:=by cases args; simp_all
 obtain ⟨a0,c0,l0,rfl,hl0,hm0⟩:=gD (hval 0 22 _ rfl rfl) h0 (hwt 0 22 _ rfl rfl)
 obtain ⟨a1,c1,l1,rfl,hl1,hm1,hc1⟩:=cG (hval 1 41 _ rfl rfl) h1 (hwt 1 41 _ rfl rfl)
 exact dF a0 c0 l0 a1 c1 l1 W hE hl0 hm0 hl1 hm1 hc1
theorem shellSome_holds:Rows.shellSomeRow.holds Tryz.pinned (OpenSpec.ofChange Rows.shellSomeSpec) :=
 OpenClaim.holds_of_wide 5 Tryz.f5 rfl rfl rfl rfl rfl rfl rfl ⟨rfl,rfl,rfl,rfl,rfl⟩ rfl rfl rfl rfl rfl (by kernel_rfl) Tryz.func5 (by kernel_rfl)
  (rY (by kernel_rfl)) (by unfold Func.isWrapper; first | (rw [if_pos (by decide +kernel)]; kernel_rfl) | (rw [if_neg (by decide +kernel)]; exact ⟨rfl,rfl⟩))
  (fun os started H enc _=>shellSome_lifted os started H enc)
theorem shellSome_card:Rows.ShellSomeCardSaid :=
 Claim7.holds_tied_plain_at .later [] [.data,.data,.data,.sentinel,.sentinel] true (true,"4734b94de298b7b64cc2fd277eff1d3660d84aa407701e3cb9226c78e0ecb46d") true
  shellSome_holds (fun _ h=>by cases h) (by kernel_rfl) (fun _ h=>by cases h) shellSome_row_tie rfl ⟨rfl,rfl⟩ (by kernel_rfl) rfl
  (fun f fn hf hfn=>by
   obtain rfl:f=5:=Option.some.inj ((show sD.funcNamed "ratoon/ratoonlaw52.ShellSome" = some 5 by kernel_rfl).symm.trans hf) |>.symm
   obtain rfl:fn=Tryz.f5:=(Option.some.inj (Tryz.func5.symm.trans hfn)).symm
   exact ⟨by kernel_rfl,fun j t ht=>by
    rw [Tryz.params5] at ht
    have hm:t∈[22,41]:=by simpa using Array.mem_of_getElem? ht
    have hall:([22,41].all fun u=>!sD.wantsStandIn u)=true:=by kernel_rfl
    exact (show sD.wantsStandIn t=false by simpa using List.all_eq_true.1 hall t hm)⟩)
  (by kernel_rfl)
#print axioms shellSome_card
end Go.Proofs.YtdljjajjonfjbaaGreatDoor
