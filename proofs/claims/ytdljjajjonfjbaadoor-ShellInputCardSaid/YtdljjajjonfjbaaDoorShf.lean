import Derived.Test.YtdljjajjonfjbaaDoorShe
import Derived.Test.YtdljjajjonfjbaaDoorSn
set_option linter.unusedVariables false
set_option linter.unusedSimpArgs false
set_option maxRecDepth 10000
namespace Go.Proofs.YtdljjajjonfjbaaDoor
open Go Go.Shelf Go.RowKit Go.Proofs Go.Proofs.Sx
theorem finish_more (pb:Nat) (mo po:Int) (inp:ByteArray) (aj:Addr) (kj:Nat) (xj:JV) (rj:List JV) (rd wr pv:Int) (pn:Option Addr) (kn:Nat) (ln:List Int) (pp:Option Addr) (kp:Nat) (lp:List PV)  (w:World) (h0:Ow Tryd.prog (inT [(pb,31,cS mo po inp (some aj) ((xj::rj).length) kj rd wr pv pn ln.length kn pp lp.length kp)]) w w [(pb,31,cS mo po inp (some aj) ((xj::rj).length) kj rd wr pv pn ln.length kn pp lp.length kp)]) (hk:(xj::rj).length<=kj) (h1 : 1 < kj) :
    Calls Tryd.prog 53 #[pt pb] w fun e w'=>e = .returned (.tuple #[])/\Ow Tryd.prog (inT [(pb,31,cS mo po inp (some aj) ((xj::rj).length) kj rd wr pv pn ln.length kn pp lp.length kp)]) w w' [(pb,31,cS mo po inp (some (aj.add 2)) rj.length (kj - 1) rd wr pv pn ln.length kn pp lp.length kp)]:=by
 refine c_enter (args:=[pt pb]) (m:=9) (n:=10) Tryd.func53 rfl (by kernel_rfl) (by kernel_rfl) fun fr hA=>?_
 generalize inT [(pb,31,cS mo po inp (some aj) ((xj::rj).length) kj rd wr pv pn ln.length kn pp lp.length kp)]=M at *
 have hO:Ow Tryd.prog M w w [(pb,31,(cS mo po inp (some aj) ((xj::rj).length) kj rd wr pv pn ln.length kn pp lp.length kp))]:=h0.to (by first | rfl | first | rfl | (simp only [TP,apd]))
 have hpos_:(1:Int)<=(((xj::rj).length:Nat):Int):=by rw [List.length_cons]; omega
 refine rr 9 ?_
 refine Kb 8 [(7,.slice (some (atIx (aj:Addr) 2 1)) (((xj::rj).length) - (1)) ((kj) - (1))),(9,pf pb 3)] hA [.slice (some aj) ((xj::rj).length) kj,bl true] (cc (hO.l1 0 3 27 (.slice (some aj) ((xj::rj).length) kj)) (cc (⟨by omega,hpos_,by omega,by omega,by omega⟩:(0:Int)<=1/\(1:Int)<=(((xj::rj).length:Nat):Int)/\(((xj::rj).length:Nat):Int)<=((kj:Nat):Int)/\((kj:Nat):Int)<=((kj:Nat):Int)/\(1:Int) < ((kj:Nat):Int)) c0)) fun fr hA=>?_
 rw [show atIx aj 2 1=((aj.add 2):Addr) from atIx_two _] at hA
 rw [show (((xj::rj).length) - (1))=rj.length from rfl] at hA
 rw [show ((kj) - (1))=(kj - 1) from rfl] at hA
 refine Ms 3 [.slice (some (aj.add 2)) rj.length (kj - 1)] 0 hA hO fun w1 hO=>?_
 refine end_ops ?_
 refine c_end ?_
 refine cv [] hA ?_
 exact ⟨rfl,hO.to⟩
theorem finish_last (pb:Nat) (mo po:Int) (inp:ByteArray) (aj:Addr) (kj:Nat) (xj:JV) (rj:List JV) (rd wr pv:Int) (pn:Option Addr) (kn:Nat) (ln:List Int) (pp:Option Addr) (kp:Nat) (lp:List PV)  (w:World) (h0:Ow Tryd.prog (inT [(pb,31,cS mo po inp (some aj) ((xj::rj).length) 1 rd wr pv pn ln.length kn pp lp.length kp)]) w w [(pb,31,cS mo po inp (some aj) ((xj::rj).length) 1 rd wr pv pn ln.length kn pp lp.length kp)]) (hk:(xj::rj).length<=1) :
    Calls Tryd.prog 53 #[pt pb] w fun e w'=>e = .returned (.tuple #[])/\Ow Tryd.prog (inT [(pb,31,cS mo po inp (some aj) ((xj::rj).length) 1 rd wr pv pn ln.length kn pp lp.length kp)]) w w' [(pb,31,cS mo po inp (some aj) rj.length 0 rd wr pv pn ln.length kn pp lp.length kp)]:=by
 refine c_enter (args:=[pt pb]) (m:=9) (n:=10) Tryd.func53 rfl (by kernel_rfl) (by kernel_rfl) fun fr hA=>?_
 generalize inT [(pb,31,cS mo po inp (some aj) ((xj::rj).length) 1 rd wr pv pn ln.length kn pp lp.length kp)]=M at *
 have hO:Ow Tryd.prog M w w [(pb,31,(cS mo po inp (some aj) ((xj::rj).length) 1 rd wr pv pn ln.length kn pp lp.length kp))]:=h0.to (by first | rfl | first | rfl | (simp only [TP,apd]))
 have hpos_:(1:Int)<=(((xj::rj).length:Nat):Int):=by rw [List.length_cons]; omega
 refine rr 9 ?_
 refine Kb 8 [(7,.slice (some aj) (((xj::rj).length) - (1)) 0),(9,pf pb 3)] hA [.slice (some aj) ((xj::rj).length) 1,bl false] (cc (hO.l1 0 3 27 (.slice (some aj) ((xj::rj).length) 1)) (cc (⟨by omega,hpos_,by omega,by omega,by omega⟩:(0:Int)<=1/\(1:Int)<=(((xj::rj).length:Nat):Int)/\(((xj::rj).length:Nat):Int)<=((1:Nat):Int)/\((1:Nat):Int)<=((1:Nat):Int)/\((1:Int)=((1:Nat):Int)\/(1:Int)=0)) c0)) fun fr hA=>?_
 rw [show (((xj::rj).length) - (1))=rj.length from rfl] at hA
 refine Ms 3 [.slice (some aj) rj.length 0] 0 hA hO fun w1 hO=>?_
 refine end_ops ?_
 refine c_end ?_
 refine cv [] hA ?_
 exact ⟨rfl,hO.to⟩
theorem finish_any (pb:Nat) (mo po:Int) (inp:ByteArray) (aj:Addr) (kj:Nat) (xj:JV) (rj:List JV) (rd wr pv:Int) (pn:Option Addr) (kn:Nat) (ln:List Int) (pp:Option Addr) (kp:Nat) (lp:List PV) (w:World) (h0:Ow Tryd.prog (inT [(pb,31,cS mo po inp (some aj) ((xj::rj).length) kj rd wr pv pn ln.length kn pp lp.length kp)]) w w [(pb,31,cS mo po inp (some aj) ((xj::rj).length) kj rd wr pv pn ln.length kn pp lp.length kp)]) (hk:(xj::rj).length<=kj):Calls Tryd.prog 53 #[pt pb] w fun e w'=>e = .returned (.tuple #[])/\∃ p' c',Ow Tryd.prog (inT [(pb,31,cS mo po inp (some aj) ((xj::rj).length) kj rd wr pv pn ln.length kn pp lp.length kp)]) w w' [(pb,31,cS mo po inp p' rj.length c' rd wr pv pn ln.length kn pp lp.length kp)]/\rj.length<=c'/\∀ w,VL w (.slice (some aj) (xj::rj).length kj) (xj::rj)->VL w (.slice p' rj.length c') rj:=by
  by_cases h1 : 1 < kj
  · exact (finish_more pb mo po inp aj kj xj rj rd wr pv pn kn ln pp kp lp w h0 hk h1).mono fun e w' h=>⟨h.1,_,_,h.2,by rw [List.length_cons] at hk; omega,fun w h=>vl_tail h⟩
  · have:kj=1:=by rw [List.length_cons] at hk; omega
    subst this
    have hr:rj=[]:=by cases rj with
      | nil=>rfl
      | cons y r=>simp only [List.length_cons] at hk; omega
    subst hr
    exact (finish_last pb mo po inp aj 1 xj [] rd wr pv pn kn ln pp kp lp w h0 hk).mono fun e w' h=>⟨h.1,_,_,h.2,Nat.le_refl _,fun w h=>⟨Vw.nil_any h.1 _,fun x hx=>absurd hx List.not_mem_nil⟩⟩
theorem shut_any (pb:Nat) (mo po:Int) (inp:ByteArray) (pj:Option Addr) (kj:Nat) (lj:List JV) (rd wr pv:Int) (pn:Option Addr) (kn:Nat) (ln:List Int) (pp:Option Addr) (kp:Nat) (lp:List PV) (T:OwL) (al:Addr) (cl:Nat) (ls:List Int) (w:World) (hG:Holds' T (SV.ok (⟨mo,po,inp,pj,kj,lj,rd,wr,pv,pn,kn,ln,pp,kp,lp⟩:SV))) (h0:Ow Tryd.prog (inT ((pb,31,cS mo po inp pj lj.length kj rd wr pv pn ln.length kn pp lp.length kp)::T)) w w ((pb,31,cS mo po inp pj lj.length kj rd wr pv pn ln.length kn pp lp.length kp)::T)) (hvl : ∀ w',Only (inT ((pb,31,cS mo po inp pj lj.length kj rd wr pv pn ln.length kn pp lp.length kp)::T)) w w'->Vw fN w' (.slice (some al) ls.length cl) ls) (hl1:lp.length<=500000) (hl2:ls.length<=1000) (hkp:lp.length<=kp) :
    Calls Tryd.prog 43 #[pt pb,.slice (some al) ls.length cl] w fun e w'=>e = .returned (.tuple #[])/\∃ p' c',∃ lp':List PV,∃ Tn,lp'.map PV.d=lp.map PV.d++closesL ls/\lp'.length<=c'/\lp'.length<=lp.length+ls.length/\Ow Tryd.prog (inT ((pb,31,cS mo po inp pj lj.length kj rd wr pv pn ln.length kn pp lp.length kp)::T)) w w' ((pb,31,cS mo po inp pj lj.length kj rd wr pv pn ln.length kn p' lp'.length c')::(T++Tn))/\Holds' (T++Tn) (fun w=>PL w (.slice p' lp'.length c') lp'):=by
 refine c_enter (args:=[pt pb,.slice (some al) ls.length cl]) (m:=19) (n:=21) Tryd.func43 rfl (by kernel_rfl) (by kernel_rfl) fun fr hA=>?_
 generalize inT ((pb,31,cS mo po inp pj lj.length kj rd wr pv pn ln.length kn pp lp.length kp)::T)=M at *
 have hO:Ow Tryd.prog M w w ([(pb,31,(cS mo po inp pj lj.length kj rd wr pv pn ln.length kn pp lp.length kp))]++(T++([]))):=h0.to (by first | rfl | first | rfl | (simp only [TP,apd]))
 refine Sa [(6,.slice (some al) ls.length cl),(7,i64 ((ls.length:Nat):Int)),(8,i64 0)] hA fun fr hA=>?_
 refine wp_block ?_
 have hTN:Holds' (T++[]) (fun w_=>PL w_ (.slice pp lp.length kp) lp):=(hG.mono fun _ h_=>h_.p).l
 refine c_loop (fun mm fr W=>∃ (i:Nat) (p8:Option Addr) (k8:Nat) (l8:List PV) (TL1:OwL),mm=ls.length - i/\Holds 21 [] fr [(0,pt pb),(6,.slice (some al) ls.length cl),(7,i64 ((ls.length:Nat):Int)),(8,i64 ((i:Nat):Int))]/\Ow Tryd.prog M w W ([(pb,31,(cS mo po inp pj lj.length kj rd wr pv pn ln.length kn p8 l8.length k8))]++(T++(TL1++([]))))/\Holds' (T++TL1) (fun w_=>PL w_ (.slice p8 l8.length k8) l8)/\i<=ls.length/\l8.map PV.d=lp.map PV.d++closesL (ls.take i)/\l8.length<=k8/\l8.length<=lp.length+i/\True) ?_ ?_
 · exact ⟨_,0,pp,kp,lp,[],rfl,hA.ss,hO.tt,hTN,(Nat.zero_le _),(by rw [List.take_zero]; exact (List.append_nil _).symm),hkp,(Nat.le_refl _),trivial⟩
 rintro _ fr w1 ⟨i,p8,k8,l8,TL1,rfl,hA,hO,hTL1,hi_i,hc8,hk8,hl8,-⟩
 refine Sa [(9,bl (decide (((i:Nat):Int) < ((ls.length:Nat):Int))))] hA fun fr hA=>?_
 refine wp_seq ?_
 rcases Bool.eq_false_or_eq_true (decide (((i:Nat):Int) < ((ls.length:Nat):Int))) with h1 | h1
 · rw [h1] at hA
   have h1p:=of_decide_eq_true h1
   obtain ⟨v1,hx1⟩ : ∃ x,(ls)[i]? = some x:=⟨_,getD_at _ 0 (by first | omega | exact Nat.zero_lt_succ _)⟩
   refine cT hA ?_
   refine wp_skip ?_
   refine then_normal ?_
   refine wp_seq ?_
   refine wp_block ?_
   refine Sb [(5,i64 v1)] hA [i64 v1] (cc (⟨by omega,by omega⟩:(0:Int)<=((i:Nat):Int)/\((i:Nat):Int) < ((ls.length:Nat):Int)) (cc ((ldN ((hvl _ hO.only)) hx1):Ld Tryd.prog w1 (al.add i) 3 (i64 v1)) c0)) fun fr hA=>?_
   refine Sa [(13,bl (decide (v1 ≥ 0)))] hA fun fr hA=>?_
   rcases Bool.eq_false_or_eq_true (decide (v1 ≥ 0)) with h2 | h2
   · rw [h2] at hA
     have h2p:=of_decide_eq_true h2
     refine cT hA ?_
     refine rr 6 ?_
     refine Ka 2 [(14,pt pb),(15,i64 v1)] hA fun fr hA=>?_
     refine Mv [i64 v1] 3 1 16 hA hO fun fr w2 b1 hA hO=>?_
     refine Mk 17 hA hO Tryd.func12 (call_1 8 v1 ⟨b1,0,none⟩ 1 _ ((hO.b 0).vw (off:=0) (xs:=[v1]) (by kernel_rfl))) fun fr w3 hA hO=>?_
     refine Mv [i64 8,i64 v1,i64 0,i64 0,.slice none 0 0] 35 1 18 hA hO fun fr w4 b2 hA hO=>?_
     refine wpOps_cons' (mC (d:=(some 19)) hA Tryd.func44 ((plan_any pb mo po inp pj kj lj rd wr pv pn kn ln p8 k8 l8 ⟨none,0,⟨8,v1,0,0,[]⟩⟩ ⟨b2,0,none⟩ 1 _ (Ow.self (A:=[(b2,35,[i64 8,i64 v1,i64 0,i64 0,.slice none 0 0]),(b1,3,[i64 v1])]) (T:=[(pb,31,cS mo po inp pj lj.length kj rd wr pv pn ln.length kn p8 l8.length k8)]) (B:=([]++(T++(TL1++([]))))) (hO.tt)) (mkeep (A:=[(b2,35,[i64 8,i64 v1,i64 0,i64 0,.slice none 0 0]),(b1,3,[i64 v1])]) (B:=[]) (T:=T++(TL1++([]))) (Q:=(fun w_=>Vw fP w_ (.slice p8 l8.length k8) l8)) (((Holds'.l (T':=[]) hTL1).mono fun _ h_=>h_.1).to (by simp only [List.append_assoc])) (hO.tt:Ow Tryd.prog M w _ (([(b2,35,[i64 8,i64 v1,i64 0,i64 0,.slice none 0 0]),(b1,3,[i64 v1])]++[(pb,31,cS mo po inp pj lj.length kj rd wr pv pn ln.length kn p8 l8.length k8)])++((T++(TL1++([])))++[])))) (fun w_ k_=>((mrest (A:=[(b2,35,[i64 8,i64 v1,i64 0,i64 0,.slice none 0 0]),(b1,3,[i64 v1])]) (B:=[]) (T:=T++(TL1++([]))) (hO.tt:Ow Tryd.prog M w _ (([(b2,35,[i64 8,i64 v1,i64 0,i64 0,.slice none 0 0]),(b1,3,[i64 v1])]++[(pb,31,cS mo po inp pj lj.length kj rd wr pv pn ln.length kn p8 l8.length k8)])++((T++(TL1++([])))++[]))) k_).b 0).vw (off:=0) (xs:=([⟨none,0,⟨8,v1,0,0,[]⟩⟩]:List PV)) (by kernel_rfl)) (by omega)).mono ?_))
     rintro en w5 ⟨rfl,p1,k1,T1,hT1,hW⟩
     refine ⟨_,rfl,?_⟩
     clear hA fr; intro fr hA
     replace hO:=Ow.pass2 (A:=[_,_]) hO hW; clear hW
     refine end_ops ?_
     refine inBlock_normal ?_
     refine then_normal ?_
     refine Rc [(8,i64 (((i:Nat):Int)+1))] hA [bl true] (cc ((inK_i64 (by omega) (by omega)):inK .i64 (((i:Nat):Int)+1)) c0) fun fr hA=>?_
     refine then_normal ?_
     have hTN2:Holds' (T++(TL1++T1)) (fun w_=>PL w_ (.slice p1 (l8++([⟨none,0,⟨8,v1,0,0,[]⟩⟩]:List PV)).length k1) (l8++([⟨none,0,⟨8,v1,0,0,[]⟩⟩]:List PV))):=(pl_app (T:=T++(TL1++(T1++([])))) (hT1.holds.l.r.r) (((Holds'.l (T':=T1++([])) hTL1).mono fun _ h_=>h_.2).to (by simp only [List.append_assoc])) (fun _ _ _ _=>bare_vp (bare_one _ _ _ _) _)).to (by simp only [List.append_nil])
     replace hO:Ow Tryd.prog M w w5 ([(b2,35,[i64 8,i64 v1,i64 0,i64 0,.slice none 0 0]),(b1,3,[i64 v1]),(pb,31,(cS mo po inp pj lj.length kj rd wr pv pn ln.length kn p1 ((l8++([⟨none,0,⟨8,v1,0,0,[]⟩⟩]:List PV)).length) k1))]++(T++((TL1++T1)++([])))):=hO.to (by first | rfl | (simp only [TP,apd]))
     exact ⟨_,by omega,i+1,p1,k1,l8++([⟨none,0,⟨8,v1,0,0,[]⟩⟩]:List PV),(TL1++T1),rfl,hA.ss,(Ow.subP (A:=[_,_,_]) hO (.cons _ (.cons _ (.cons_cons _ .slnil)))),hTN2,(by omega),(closes_yes hc8 hx1 (by assumption)),hT1.le,(by simp only [List.length_append,List.length_cons,List.length_nil]; omega),trivial⟩
   rw [h2] at hA
   have h2p:=of_decide_eq_false h2
   refine cF hA ?_
   refine wp_skip ?_
   refine inBlock_normal ?_
   refine then_normal ?_
   refine Rc [(8,i64 (((i:Nat):Int)+1))] hA [bl true] (cc ((inK_i64 (by omega) (by omega)):inK .i64 (((i:Nat):Int)+1)) c0) fun fr hA=>?_
   refine then_normal ?_
   exact ⟨_,by omega,i+1,p8,k8,l8,TL1,rfl,hA.ss,hO.tt,hTL1,(by omega),(closes_no hc8 hx1 (by assumption)),(by omega),(by omega),trivial⟩
 rw [h1] at hA
 have h1p:=of_decide_eq_false h1
 refine cF hA ?_
 refine wp_exit ?_
 refine then_exit ?_
 refine then_exit ?_
 refine inBlock_exit ?_
 refine c_end ?_
 refine cv [] hA ?_
 replace hO:Ow Tryd.prog M w w1 ([(pb,31,(cS mo po inp pj lj.length kj rd wr pv pn ln.length kn p8 l8.length k8))]++(T++(TL1++([])))):=hO
 exact ⟨rfl,p8,k8,l8,TL1,closes_end hc8 (by omega),hk8,by omega,(hO).to (by simp only [List.append_nil,List.cons_append,List.nil_append]),hTL1⟩
end Go.Proofs.YtdljjajjonfjbaaDoor
