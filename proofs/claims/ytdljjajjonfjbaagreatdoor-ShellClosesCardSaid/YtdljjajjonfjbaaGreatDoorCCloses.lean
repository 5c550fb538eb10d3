/- Proved: for every input the law ratoonlaw52.ShellCloses returns true, and each argument reads behind the call as before (the tied card). Condition: the listed package variables read, when the call begins, as the program's text lays them, which the card ties. -/
import Derived.Test.YtdljjajjonfjbaaGreatDoorSwf
import Derived.Test.YtdljjajjonfjbaaGreatDoorShpr
import Derived.Test.YtdljjajjonfjbaaGreatDoorSn
import Derived.Test.YtdljjajjonfjbaaGreatDoorSx
import Derived.WalkKit
import Derived.ProofKit
import Derived.OpenShut
import Derived.ShutString
import Derived.ChangeOld
import Derived.Carry
import Derived.LaidMore
import Derived.LaidOnce
import Derived.SevenTiedAt
import Derived.SizedLaws
import Derived.Test.YtdljjajjonfjbaaGreatDoorReaders
import Derived.Test.YtdljjajjonfjbaaGreatDoorShh
import Derived.Test.YtdljjajjonfjbaaGreatDoorCards
import Derived.Test.YtdljjajjonfjbaaGreatDoorTie
import Derived.ChangeMaps5
set_option linter.unusedVariables false
set_option linter.unusedSimpArgs false
set_option maxRecDepth 10000
namespace Go.Proofs.YtdljjajjonfjbaaGreatDoor
open Go Go.Shelf Go.RowKit Go.Proofs Go.Proofs.Sx
def Lw (l:List JobL):Nat->Int
 | 0=>0
 | i+1=>IntKind.i64.wrap (Lw l i+((l.getD i pU).cmds.length:Int))
def J4 (l:List JobL):Bool:=decide (Lw l l.length<=15) && (Of l && Aq l)
theorem gR {l:List JV} {i:Nat} {xp:Option Addr} {xc:Nat} {xl:List CV} {xb:Bool} (hx:l[i]? = some ⟨xp,xc,xl,xb⟩):IntKind.i64.wrap (Lw (l.map JV.d) i+((xl.length:Nat):Int))=Lw (l.map JV.d) (i+1):=by
 simp only [Lw];rw [Jc (Vy hx)];show _=IntKind.i64.wrap (Lw (l.map JV.d) i+(((xl.map CV.d).length:Nat):Int));rw [List.length_map]
theorem Zp {l:List JobL} (h : ∀ x∈l,x.cmds.length<=8) (hl:l.length<=12) : ∀ i,i<=l.length->Lw l i=(nC (l.take i):Int)/\nC (l.take i)<=8*i
 | 0,_=>⟨rfl,Nat.le_refl _⟩
 | i+1,hi=>by
  obtain ⟨h1,h2⟩:=Zp h hl i (by omega);have hx:l[i]? = some l[i]:=List.getElem?_eq_getElem (by omega);have h3:=h _ (List.getElem_mem (show i < l.length by omega))
  have e:nC (l.take (i+1))=nC (l.take i)+l[i].cmds.length:=by
   rw [List.take_add_one,hx]
   have : ∀ (a:List JobL) (x:JobL),nC (a++[x])=nC a+x.cmds.length:=fun a x=>by
    induction a with
    | nil=>show x.cmds.length+0=0+x.cmds.length; omega
    | cons y r ih=>show y.cmds.length+nC (r++[x])=y.cmds.length+nC r+x.cmds.length; omega
   exact this _ _
  refine ⟨?_,by omega⟩;simp only [Lw];rw [Jc hx,h1,e];have hk:inK .i64 ((nC (l.take i):Int)+(l[i].cmds.length:Int)):=Am (by omega) (by omega);rw [hk.wrap];omega
theorem gC {l:List JobL} (h:J4 l=true):Aq l=true/\nC l<=15/\Of l=true:=by
 unfold J4 at h;rw [Bool.and_eq_true,Bool.and_eq_true] at h;obtain ⟨h1,h2,h3⟩:=h;refine ⟨h3,?_,h2⟩;have hf:=h2;unfold Of at hf;rw [Bool.and_eq_true,List.all_eq_true] at hf;have hl:=qX hf.2
 have:=(Zp (fun x hx=>by
  have:=hf.1 x hx;unfold Lv at this;rw [Bool.and_eq_true] at this;exact qX this.1) hl l.length (Nat.le_refl _)).1
 rw [List.take_length] at this;have:=qX h1;omega
theorem Zi (p:Option Addr) (c:Nat) (l:List JV) (w:World) (hv:VL w (.slice p l.length c) l) (hsm:smL 1000000000000000000 (l.map JV.d)) :
 Calls Tryz.prog 8 #[.slice p l.length c] w fun e w'=>e = .returned (.bool (J4 (l.map JV.d)))/\Only Ai w w':=by
 refine An (args:=[.slice p l.length c]) (m:=28) (n:=29) Tryz.func8 rfl (by kernel_rfl) (by kernel_rfl) fun fr hA=>?_;have hO:=Ow.nil Tryz.prog Ai w;have hsl:=hsm.len;refine Sa [(2,bl false)] hA fun fr hA=>Sa [(3,i64 0)] hA fun fr hA=>wp_seq (Sa [(4,i64 0)] hA fun fr hA=>wp_block (Bg (fun mm fr W=>∃ (i:Nat),mm=l.length - i/\Holds 29 [] fr [(0,.slice p l.length c),(2,bl false),(3,i64 (Lw (l.map JV.d) i)),(4,i64 ((i:Nat):Int))]/\Ow Tryz.prog Ai w W []/\i<=l.length/\True) ?_ ?_))
 · exact ⟨_,0,rfl,hA.ss,hO.to,(Nat.zero_le _),trivial⟩
 rintro _ fr w1 ⟨i,rfl,hA,hO,hi_i,-⟩;refine wp_seq (Sa [(8,bl (decide (((i:Nat):Int) < ((l.length:Nat):Int))))] hA fun fr hA=>?_);rcases qV (decide (((i:Nat):Int) < ((l.length:Nat):Int))) with h1 | h1
 · rw [h1] at hA;have h1p:=qX h1;obtain ⟨ad1,rfl⟩:=(hv.1).pos (by omega);obtain ⟨⟨xp1,xc1,xl1,xb1⟩,hx1⟩ : ∃ x,l[i]? = some x:=⟨_,Bi _ JV0 (by omega)⟩;have hvx1:Vw fC _ (.slice xp1 xl1.length xc1) xl1/\∀ y∈xl1,VC _ y:=hv.2 _ (List.mem_of_getElem? hx1);have hsj1:smJ _ (JV.d ⟨xp1,xc1,xl1,xb1⟩):=hsm.at hx1;have hsjl1:xl1.length<=_:=smJ.len (x:=⟨xp1,xc1,xl1,xb1⟩) hsj1;refine cT hA (wp_skip (Aa (wp_seq (wp_block (Rc [(0,.slice (some ad1) l.length c),(3,i64 (IntKind.i64.wrap ((Lw (l.map JV.d) i)+((xl1.length:Nat):Int))))] hA [.slice xp1 xl1.length xc1,bl false] (cc (⟨by omega,by omega⟩:(0:Int)<=((i:Nat):Int)/\((i:Nat):Int) < ((l.length:Nat):Int)) (cc (((hv.1.keep hO.only).ld0 Eb hx1 (by rfl)):Ld Tryz.prog w1 (ad1.add (i*2)) 69 (.slice xp1 xl1.length xc1)) c0)) fun fr hA=>Ad (Aa (Rc [(4,i64 (((i:Nat):Int)+1))] hA [bl true] (cc ((Am (by omega) (by omega)):inK .i64 (((i:Nat):Int)+1)) c0) fun fr hA=>Aa ?_)))))));rw [gR hx1] at hA;exact ⟨_,by omega,i+1,rfl,hA.ss,hO.to,(by omega),trivial⟩
 rw [h1] at hA;have h1p:=qY h1;refine cF hA (wp_exit (Aj (Aj (Ap (Aa (sr 11 (Ka 3 [(20,bl (decide ((Lw (l.map JV.d) i)<=15))),(21,bl (decide ((Lw (l.map JV.d) i)<=15)))] hA fun fr hA=>?_)))))));rcases qV (decide ((Lw (l.map JV.d) i)<=15)) with h2 | h2
 · rw [h2] at hA;have h2p:=qX h2;refine Ka 1 [(21,bl true),(22,.slice p l.length c)] hA fun fr hA=>Mk 23 hA hO Tryz.func25 (mZ p c l _ (hv.keep hO.only) hsm) fun fr w2 hA hO=>Ka 2 [(24,bl (Of (l.map JV.d))),(25,bl (Of (l.map JV.d)))] hA fun fr hA=>?_;rcases qV (Of (l.map JV.d)) with h3 | h3
   · rw [h3] at hA;refine Ka 1 [(25,bl true),(26,.slice p l.length c)] hA fun fr hA=>Mk 27 hA hO Tryz.func26 (H1 p c l _ (hv.keep hO.only) hsm) fun fr w3 hA hO=>Ka 2 [(2,bl (Aq (l.map JV.d)))] hA fun fr hA=>Ab (Aa (wp_ret (cv [bl (Aq (l.map JV.d))] hA ?_)));have hF:=hO.only; clear hA hO;refine ⟨congrArg (fun b=>Ending.returned (.bool b)) ?_,hF⟩;unfold J4;rw [List.length_map,show l.length=i by omega];first | (simp_all; done) | (simp_all; omega)
   rw [h3] at hA;refine Ka 4 [] hA fun fr hA=>Ab (Aa (wp_ret (cv [bl false] hA ?_)));have hF:=hO.only; clear hA hO;refine ⟨congrArg (fun b=>Ending.returned (.bool b)) ?_,hF⟩;unfold J4;rw [List.length_map,show l.length=i by omega];first | (simp_all; done) | (simp_all; omega)
 rw [h2] at hA;have h2p:=qY h2;refine Ka 8 [] hA fun fr hA=>Ab (Aa (wp_ret (cv [bl false] hA ?_)));have hF:=hO.only; clear hA hO;refine ⟨congrArg (fun b=>Ending.returned (.bool b)) ?_,hF⟩;unfold J4;rw [List.length_map,show l.length=i by omega];first | (simp_all; done) | (simp_all; omega)
open Go Go.RowKit Go.Proofs.Sx
def n10 (l:List UInt8):Prop:=∀ x∈l,x≠10
theorem n10.app {a b:List UInt8} (h:n10 a) (k:n10 b):n10 (a++b):=fun x hx=>(List.mem_append.1 hx).elim (h x) (k x)
theorem Kq:n10 []:=fun x hx=>absurd hx List.not_mem_nil
theorem F3 {l:List UInt8} (h:l.all (fun x=>x != 10)=true:=by decide):n10 l:=fun x hx=>by
 have:=List.all_eq_true.1 h x hx
 simpa using this
theorem S2 {u:ByteArray} (h:A0 u=true):n10 u.data.toList:=fun x hx e=>by
 have:=fK h x hx
 rw [e] at this
 exact absurd this (by decide)
theorem Q9 {u:ByteArray} (h:B9 u=true):n10 u.data.toList:=by
 by_cases hz:u.size=0
 · have:u.data.toList=[]:=List.length_eq_zero_iff.1 (by rw [Ar]; exact hz)
   rw [this]; exact Kq
 · exact S2 (Kp h hz)
theorem dZ (r:List (List UInt8)) (h : ∀ y∈r,n10 y):n10 (Lib.joinTail [32] r):=fun x hx=>by
 unfold Lib.joinTail at hx
 obtain ⟨y,hy,hxy⟩:=List.mem_flatten.1 hx
 obtain ⟨z,hz,rfl⟩:=List.mem_map.1 hy
 exact (F3 (l:=[32])).app (h z hz) x hxy
theorem eA : ∀ (r:List (List UInt8)),(∀ y∈r,n10 y)->n10 (Lib.join r [32])
 | [],_=>Kq
 | y::r,h=>by
  rw [Lib.join_cons]
  exact (h y (List.mem_cons_self ..)).app (dZ r fun z hz=>h z (List.mem_cons_of_mem _ hz))
theorem Yv {d:CmdL} (h:Av d=true):n10 (prC d):=by
 obtain ⟨h1,h2,h3,h4,h5⟩:=Bk h
 unfold prC
 refine eA _ fun y hy=>?_
 obtain ⟨u,hu,rfl⟩:=List.mem_map.1 hy
 rcases List.mem_append.1 hu with hu | hu
 · exact S2 (h1 u hu)
 · unfold Xh at hu
   rcases List.mem_append.1 hu with hu | hu
   · split at hu
     · exact absurd hu List.not_mem_nil
     · rcases List.mem_cons.1 hu with rfl | hu
       · exact F3 (l:=[60])
       · rw [List.mem_singleton.1 hu]; exact Q9 h3
   · split at hu
     · rcases List.mem_cons.1 hu with rfl | hu
       · exact F3 (l:=[62,62])
       · rw [List.mem_singleton.1 hu]; exact Q9 h4
     · split at hu
       · exact absurd hu List.not_mem_nil
       · rcases List.mem_cons.1 hu with rfl | hu
         · exact F3 (l:=[62])
         · rw [List.mem_singleton.1 hu]; exact Q9 h4
theorem S4 : ∀ v:List CmdL,(∀ c∈v,Av c=true)->n10 (Q3 v)
 | [],_=>Kq
 | c::r,h=>(F3 (l:=[32,124,32])).app ((Yv (h c (List.mem_cons_self ..))).app (S4 r fun x hx=>h x (List.mem_cons_of_mem _ hx)))
theorem Kg {x:JobL} (h:Bm x=true):x.cmds≠[]/\∀ c∈x.cmds,Av c=true:=by
 rw [U6,Bool.and_eq_true,List.all_eq_true] at h
 have:=qX h.1
 exact ⟨fun e=>by rw [e] at this; simp at this,h.2⟩
theorem jZ {x:JobL} (h:Bm x=true):n10 (prJ x):=by
 obtain ⟨h1,h2⟩:=Kg h
 unfold prJ
 cases hc:x.cmds with
 | nil=>exact absurd hc h1
 | cons c r =>
  rw [Po]
  rw [hc] at h2
  exact (Yv (h2 c (List.mem_cons_self ..))).app (S4 r fun y hy=>h2 y (List.mem_cons_of_mem _ hy))
theorem S3 : ∀ v:List JobL,(∀ x∈v,Bm x=true)->n10 (Sg v)
 | [],_=>Kq
 | x::r,h=>by
  have hs:n10 (Mm x.bg r.isEmpty):=by
   unfold Mm
   split
   · split
     · exact F3
     · exact F3
   · split
     · exact Kq
     · exact F3
  exact (jZ (h x (List.mem_cons_self ..))).app (hs.app (S3 r fun y hy=>h y (List.mem_cons_of_mem _ hy)))
theorem kN {l:List JobL} (hf:J4 l=true) (hs:(bA (prL l)).size<=200) (fails:List Int):Fin (fails=[]) (Pp (Fk (bA (prL l)++(⟨#[10]⟩:ByteArray)) 80) fails) (Pa l ex0).1 (Pa l ex0).2:=by
 obtain ⟨hv,hn,_⟩:=gC hf
 have hp:=Gr hv
 refine eK (Tg hv) ?_ hv (fun j hj=>(Kg (hp.1 j hj)).1) hn hs (cs:=Fk (bA (prL l)++nlB) 80) ?_ ?_ fails
 · intro x hx
   rw [M7,Sh] at hx
   exact S3 l hp.1 x hx
 · exact Ov (by decide) _ _ (Nat.le_refl _)
 · refine Ou (by decide) _ _ (Nat.le_refl _) ?_
   rw [ByteArray.size_append]
   have:nlB.size=1:=rfl
   omega
theorem Yk : ∀ (m i:Nat) (w:WL),smW i w->smW (i+m) (Fs m w)
 | 0,i,w,h=>h
 | m+1,i,w,h=>by
  by_cases he:w.exit < 0
  · rw [Ym he,show i+(m+1)=(i+1)+m by omega];exact Yk m (i+1) _ h.step
  · rw [Sj he]
    have : ∀ k,smW (i+k) w:=fun k=>by
     induction k with
     | zero=>exact h
     | succ k ih=>exact ih.up
    exact this _
theorem Z9 (inp:List ByteArray) (fails:List Int):(Pp inp fails).runs.length<=900:=by
 have:=(Yk 900 0 _ (smW0 inp fails)).runs;rw [Nat.zero_add] at this;exact this
theorem Xx.runs {a:WV} {T:OwL} (h:Xx a T):Ah T fun w=>Vw fR w (.slice a.rp a.rl.length a.rc) a.rl:=by
 obtain ⟨TR,TA,TW,TS,rfl,hk⟩:=h;exact hk.r.holds.l
theorem _root_.Go.Proofs.Sx.Vw.ldfl {P:Program} {w:World} {ad:Addr} {m c:Nat} {l:List RunL} (h:Vw fR w (.slice (some ad) m c) l) {i:Nat} {x:RunL} (hx:l[i]? = some x) {t:TypeId} (ht:Xw P t=some 8:=by kernel_rfl):Ld P w ((ad.add (i*9)).add 1) t (.agg (List.toArray (fl8 x.fl))) :=
 V4 ht rfl fun j v hj=>by
  rw [add_add,add_add];refine h.cell gJ hx (k:=1+j) ?_;rw [Nat.add_comm 1 j];exact hj
theorem Qz {l:List JV} (h:Aq (l.map JV.d)=true):(bA (prL (l.map JV.d))).size<=1000000:=by
 have h1:=(Fi h).1;have h2:=Q2 h l.length (Nat.le_refl _);rw [Bh];unfold prL;rw [List.length_map]; omega
theorem lN {l:List JobL} (h:Aq l=false):J4 l=false:=by unfold J4; rw [h]; simp
set_option maxHeartbeats 4000000 in
theorem Xq (p:Option Addr) (c:Nat) (l:List JV) (fp:Option Addr) (fc:Nat) (ff:List Int) (w:World) (hE:ErrOk w) (hv:VL w (.slice p l.length c) l) (hsm:smL 1000000000000000000 (l.map JV.d)) (hvf:Vw fB w (.slice fp ff.length fc) ff) (hff:ff.length<=1000000000000000000) (hcf:ff.length<=fc) (hvl:Aq (l.map JV.d)=false) :
 Calls Tryz.prog 4 #[.slice p l.length c,.slice fp ff.length fc] w fun e w'=>e = .returned (.bool true)/\Only Ai w w':=by
 refine An (args:=[.slice p l.length c,.slice fp ff.length fc]) (m:=69) (n:=71) Tryz.func4 rfl (by kernel_rfl) (by kernel_rfl) fun fr hA=>?_;have hO:=Ow.nil Tryz.prog Ai w;refine Sa [(4,bl false)] hA fun fr hA=>wp_seq (sr 2 (Ag (mC (d:=(some 9)) hA Tryz.func7 ((Qg _ (hE.keep hO.only)).mono ?_))));rintro en w1 ⟨rfl,ho⟩;refine ⟨_,rfl,?_⟩;clear hA fr; intro fr hA;replace hO:=hO.st ho; clear ho;refine Ka 1 [(10,bl false)] hA fun fr hA=>Ab (Aa (cF hA (wp_skip (Aa (sr 7 (Ka 1 [(12,.slice p l.length c)] hA fun fr hA=>Mk 13 hA hO Tryz.func9 (Xz p c l _ (hv.keep hO.only) hsm hvl) fun fr w2 hA hO=>Ka 5 [(5,str (⟨#[]⟩))] hA fun fr hA=>Ab (Aa (wp_seq (sr 13 (Ka 1 [(16,.slice p l.length c)] hA fun fr hA=>Mk 17 hA hO Tryz.func8 (Zi p c l _ (hv.keep hO.only) hsm) fun fr w3 hA hO=>Ka 2 [(18,bl (!(J4 (l.map JV.d)))),(19,bl (!(J4 (l.map JV.d))))] hA fun fr hA=>?_))))))))));rw [((lN hvl):(J4 (l.map JV.d))=false)] at hA;exact Ka 9 [(28,bl true)] hA fun fr hA=>Ab (Aa (cT hA (Sa [(4,bl true)] hA fun fr hA=>wp_ret (Ac (cv [bl true] hA (⟨rfl,hO.only⟩))))))
set_option maxHeartbeats 4000000 in
theorem bM (p:Option Addr) (c:Nat) (l:List JV) (fp:Option Addr) (fc:Nat) (ff:List Int) (w:World) (hE:ErrOk w) (hv:VL w (.slice p l.length c) l) (hsm:smL 1000000000000000000 (l.map JV.d)) (hvf:Vw fB w (.slice fp ff.length fc) ff) (hff:ff.length<=1000000000000000000) (hcf:ff.length<=fc) (hvl:Aq (l.map JV.d)=true) :
 Calls Tryz.prog 4 #[.slice p l.length c,.slice fp ff.length fc] w fun e w'=>e = .returned (.bool true)/\Only Ai w w':=by
 refine An (args:=[.slice p l.length c,.slice fp ff.length fc]) (m:=69) (n:=71) Tryz.func4 rfl (by kernel_rfl) (by kernel_rfl) fun fr hA=>?_;have hO:=Ow.nil Tryz.prog Ai w;have hpz:=Qz hvl;refine Sa [(4,bl false)] hA fun fr hA=>wp_seq (sr 2 (Ag (mC (d:=(some 9)) hA Tryz.func7 ((Qg _ (hE.keep hO.only)).mono ?_))));rintro en w1 ⟨rfl,ho⟩;refine ⟨_,rfl,?_⟩;clear hA fr; intro fr hA;replace hO:=hO.st ho; clear ho;refine Ka 1 [(10,bl false)] hA fun fr hA=>Ab (Aa (cF hA (wp_skip (Aa (sr 7 (Ka 1 [(12,.slice p l.length c)] hA fun fr hA=>Mk 13 hA hO Tryz.func9 (bV p c l _ (hv.keep hO.only) (L2 hvl) hvl) fun fr w2 hA hO=>Ka 5 [(5,str (bA (prL (l.map JV.d))))] hA fun fr hA=>Ab (Aa (wp_seq (sr 13 (Ka 1 [(16,.slice p l.length c)] hA fun fr hA=>Mk 17 hA hO Tryz.func8 (Zi p c l _ (hv.keep hO.only) hsm) fun fr w3 hA hO=>Ka 2 [(18,bl (!(J4 (l.map JV.d)))),(19,bl (!(J4 (l.map JV.d))))] hA fun fr hA=>?_))))))))));rcases qV (J4 (l.map JV.d)) with h1 | h1
 · rw [h1] at hA;refine Ka 5 [(22,bl (decide (((ff.length:Nat):Int) > 60))),(23,bl (decide (((ff.length:Nat):Int) > 60))),(24,bl (decide (((ff.length:Nat):Int) > 60)))] hA fun fr hA=>?_;rcases qV (decide (((ff.length:Nat):Int) > 60)) with h2 | h2
   · rw [h2] at hA;have h2p:=qX h2;exact Ka 4 [(28,bl true)] hA fun fr hA=>Ab (Aa (cT hA (Sa [(4,bl true)] hA fun fr hA=>wp_ret (Ac (cv [bl true] hA (⟨rfl,hO.only⟩))))))
   rw [h2] at hA;have h2p:=qY h2;refine Ka 4 [(28,bl (decide ((((bA (prL (l.map JV.d))).size:Nat):Int) > 200)))] hA fun fr hA=>Ab (Aa ?_);rcases qV (decide ((((bA (prL (l.map JV.d))).size:Nat):Int) > 200)) with h3 | h3
   · rw [h3] at hA;have h3p:=qX h3;exact cT hA (Sa [(4,bl true)] hA fun fr hA=>wp_ret (Ac (cv [bl true] hA (⟨rfl,hO.only⟩))))
   rw [h3] at hA;have h3p:=qY h3;refine cF hA (wp_skip (Aa (sr 6 (Kb 2 [(30,str ((bA (prL (l.map JV.d)))++(⟨#[10]⟩:ByteArray)))] hA [] (cc ((by have z1_:(⟨#[10]⟩:ByteArray).size=1:=rfl; omega):(bA (prL (l.map JV.d))).size+(⟨#[10]⟩:ByteArray).size<=9223372036854775807) c0) fun fr hA=>Ag (mC (d:=(some 31)) hA Tryz.func11 ((Xt ((bA (prL (l.map JV.d)))++(⟨#[10]⟩:ByteArray)) 80 _ (by omega) (by omega) (by rw [ByteArray.size_append]; show (bA (prL (l.map JV.d))).size+1<=_; omega)).mono ?_))))));rintro en w4 ⟨p1,c1,T1,rfl,hT1,hW⟩;refine ⟨_,rfl,?_⟩;clear hA fr; intro fr hA;replace hO:Ow Tryz.prog Ai w _ ([]++[]):=hO.to (List.append_nil _).symm;replace hO:=Ow.join hO hW; clear hW;replace hO:Ow Tryz.prog Ai w _ ([]++(T1++([]))):=hO.to (by first | rfl | (simp only [TP,apd]));refine Ka 1 [(32,.slice fp ff.length fc)] hA fun fr hA=>?_;replace hO:Ow Tryz.prog Ai w w4 ([]++(T1++([]))):=hO;refine Ag (mC (d:=(some 33)) hA Tryz.func10 ((dG p1 c1 (Fk ((bA (prL (l.map JV.d)))++(⟨#[10]⟩:ByteArray)) 80) fp fc ff _ (hT1.vw (A:=[]) (B:=[]) hO.m) (hvf.keep hO.only) (hE.keep hO.only) hT1.le hcf (fun c_ h_=>by (have q_:=Qe (n:=80) (by omega) _ _ (Nat.le_refl _) c_ h_; omega))).mono ?_));rintro en w5 ⟨wb1,a1,TW1,rfl,hd1,hTW1,hW⟩;refine ⟨_,rfl,?_⟩;clear hA fr; intro fr hA;replace hO:=Ow.join hO hW; clear hW;refine Ka 1 [(7,pt wb1)] hA fun fr hA=>Ab (Aa ?_);have hfin:Fin (ff=[]) a1.d _ _:=hd1 ▸ kN (l:=l.map JV.d) (by assumption) (by omega) ff;have hex : 0<=a1.exit:=hfin.ex
   have hrl1:a1.rl.length<=900:=by have q_:=Z9 (Fk (bA (prL (l.map JV.d))++(⟨#[10]⟩:ByteArray)) 80) ff; rw [← hd1] at q_; exact q_
   refine wp_seq (sr 18 (Kb 6 [(38,bl (!a1.ok)),(39,bl (!a1.ok))] hA [bl a1.ok] (cc (((hO.m.blk (wb1,46,wc a1) (by simp)).ld1 (i:=32) (by kernel_rfl) (by kernel_rfl)):Ld Tryz.prog w5 ⟨wb1,32,none⟩ 4 (bl a1.ok)) c0) fun fr hA=>?_));replace hA:=hA.ss.bool (f:=fun z_=>[(4,bl false),(7,pt wb1),(38,.bool !z_),(39,.bool !z_)]) (hfin.ok:(a1.ok)=true);refine Kb 6 [(43,bl a1.leak),(44,bl a1.leak),(45,bl a1.leak)] hA [bl a1.leak] (cc (((hO.m.blk (wb1,46,wc a1) (by simp)).ld1 (i:=31) (by kernel_rfl) (by kernel_rfl)):Ld Tryz.prog w5 ⟨wb1,31,none⟩ 4 (bl a1.leak)) c0) fun fr hA=>?_;replace hA:=hA.ss.bool (f:=fun z_=>[(4,bl false),(7,pt wb1),(43,.bool z_),(44,.bool z_),(45,.bool z_)]) (hfin.lk:(a1.leak)=false);refine Kb 6 [(51,bl (decide (a1.exit < 0)))] hA [i64 a1.exit] (cc (((hO.m.blk (wb1,46,wc a1) (by simp)).ld1 (i:=30) (by kernel_rfl) (by kernel_rfl)):Ld Tryz.prog w5 ⟨wb1,30,none⟩ 3 (i64 a1.exit)) c0) fun fr hA=>Ab (Aa ?_);rw [((rA (by omega)):(decide (a1.exit < 0))=false)] at hA;refine cF hA (wp_skip (Aa (wp_seq (Sa [(8,i64 0)] hA fun fr hA=>wp_block (Bg (fun mm fr W=>∃ (i:Nat),mm=a1.rl.length - i/\Holds 71 [] fr [(4,bl false),(7,pt wb1),(8,i64 ((i:Nat):Int))]/\Ow Tryz.prog Ai w W ([]++(T1++(((wb1,46,wc a1)::TW1)++([]))))/\i<=a1.rl.length/\True) ?_ ?_)))))
   · exact ⟨_,0,rfl,hA.ss,hO.tt,(Nat.zero_le _),trivial⟩
   rintro _ fr w6 ⟨i,rfl,hA,hO,hi,-⟩;refine wp_seq (Sb [(58,bl (decide (((i:Nat):Int) < ((a1.rl.length:Nat):Int))))] hA [.slice a1.rp a1.rl.length a1.rc] (cc (((hO.m.blk (wb1,46,wc a1) (by simp)).ld1 (i:=27) (by kernel_rfl) (by kernel_rfl)):Ld Tryz.prog w6 ⟨wb1,27,none⟩ 32 (.slice a1.rp a1.rl.length a1.rc)) c0) fun fr hA=>?_);rcases qV (decide (((i:Nat):Int) < ((a1.rl.length:Nat):Int))) with h4 | h4
   · rw [h4] at hA;have h4p:=qX h4;obtain ⟨x,hx⟩ : ∃ x,a1.rl[i]? = some x:=⟨_,List.getElem?_eq_getElem (by omega)⟩;obtain ⟨ad1,hrp⟩ : ∃ ad,a1.rp=some ad:=Vw.pos (w:=w6) (m:=a1.rl.length) (c:=a1.rc) (Ah.at (A:=([]++(T1++([])))) (B:=[]) (T:=((wb1,46,wc a1)::TW1)) (Ah.r (T:=[(wb1,46,wc a1)]) hTW1.runs) (hO.tt:Ow Tryz.prog Ai w _ (([]++(T1++([])))++(((wb1,46,wc a1)::TW1)++([])))).m) (by omega);refine cT hA (wp_skip (Aa (wp_seq (wp_block (sr 10 (Kb 8 [(68,.agg (List.toArray (fl8 x.fl)))] hA [.slice (some ad1) a1.rl.length a1.rc,.agg (List.toArray (fl8 x.fl))] (cc ((by have q_:=(((hO.m.blk (wb1,46,wc a1) (by simp)).ld1 (i:=27) (by kernel_rfl) (by kernel_rfl)):Ld Tryz.prog w6 ⟨wb1,27,none⟩ 32 (.slice a1.rp a1.rl.length a1.rc)); rw [hrp] at q_; exact q_:Ld Tryz.prog w6 ⟨wb1,27,none⟩ 32 (.slice (some ad1) a1.rl.length a1.rc)):Ld Tryz.prog w6 ⟨wb1,27,none⟩ 32 (.slice (some ad1) a1.rl.length a1.rc)) (cc (⟨by omega,by omega⟩:(0:Int)<=((i:Nat):Int)/\((i:Nat):Int) < ((a1.rl.length:Nat):Int)) (cc (((show Vw fR _ (.slice (some ad1) a1.rl.length a1.rc) a1.rl from hrp ▸ (show Vw fR _ (.slice a1.rp a1.rl.length a1.rc) a1.rl from (Ah.at (A:=([]++(T1++([])))) (B:=[]) (T:=((wb1,46,wc a1)::TW1)) (Ah.r (T:=[(wb1,46,wc a1)]) hTW1.runs) (hO.tt:Ow Tryz.prog Ai w _ (([]++(T1++([])))++(((wb1,46,wc a1)::TW1)++([])))).m))).ldfl hx):Ld Tryz.prog w6 ((ad1.add (i*9)).add 1) 44 (.agg (List.toArray (fl8 x.fl)))) c0))) fun fr hA=>Mk 69 hA hO Tryz.func14 (Li x.fl _) fun fr w7 hA hO=>Ka 1 [(70,bl (!(Bq x.fl)))] hA fun fr hA=>Ab (Aa ?_)))))))
     rw [((hfin.pl x (List.mem_of_getElem? hx)):(Bq x.fl)=true)] at hA;exact cF hA (wp_skip (Ad (Aa (Rc [(8,i64 (((i:Nat):Int)+1))] hA [bl true] (cc ((Am (by omega) (by omega)):inK .i64 (((i:Nat):Int)+1)) c0) fun fr hA=>Aa (⟨_,by omega,i+1,rfl,hA.ss,hO.tt,(by omega),trivial⟩)))))
   rw [h4] at hA;have h4p:=qY h4;exact cF hA (wp_exit (Aj (Aj (Ap (Aa (Sa [(4,bl true)] hA fun fr hA=>wp_ret (cv [bl true] hA (⟨rfl,hO.only⟩))))))))
 rw [h1] at hA;exact Ka 9 [(28,bl true)] hA fun fr hA=>Ab (Aa (cT hA (Sa [(4,bl true)] hA fun fr hA=>wp_ret (Ac (cv [bl true] hA (⟨rfl,hO.only⟩))))))
theorem Xr (p:Option Addr) (c:Nat) (l:List JV) (fp:Option Addr) (fc:Nat) (ff:List Int) (w:World) (hE:ErrOk w) (hv:VL w (.slice p l.length c) l) (hsm:smL 1000000000000000000 (l.map JV.d)) (hvf:Vw fB w (.slice fp ff.length fc) ff) (hff:ff.length<=1000000000000000000) (hcf:ff.length<=fc) :
 Calls Tryz.prog 4 #[.slice p l.length c,.slice fp ff.length fc] w fun e w'=>e = .returned (.bool true)/\Only Ai w w':=by
 cases hvl:Aq (l.map JV.d) with
 | false=>exact Xq p c l fp fc ff w hE hv hsm hvf hff hcf hvl
 | true=>exact bM p c l fp fc ff w hE hv hsm hvf hff hcf hvl
end Go.Proofs.YtdljjajjonfjbaaGreatDoor
namespace Go.Proofs.Fr
open Go Go.ChangeShapes Go.WideShapes Go.ChangeAt Go.RowKit Go.Proofs.Sx
section
variable {H:Type} {enc:TypeId×Value->H} {P:Program}
theorem Jj (hl:laidOutB P=true) {W W':World} (hb:Below W.heap.size W W') : ∀ (ts:List TypeId) (vs:List Value) (ds:List (DataW H)) (ps:List MemPlace),
 (ts.all fun t=>P.readableRec t && decide (t < P.types.size))=true->DataW.TrodAll enc P W 0 (fun _=>true) true ts vs ds ps->DataW.TrodAll enc P W' 0 (fun b=>decide (b < W.heap.size)) true ts vs ds ps
 | [],[],[],_,_,h=>h
 | [],[],_::_,_,_,h=>h.elim
 | [],_::_,_,_,_,h=>h.elim
 | _::_,[],_,_,_,h=>h.elim
 | _::_,_::_,[],_,_,h=>h.elim
 | t::ts,v::vs,d::ds,ps,ht,h=>by
  obtain ⟨p,q,h1,h2,rfl⟩:=h
  simp only [List.all_cons,Bool.and_eq_true,decide_eq_true_eq] at ht
  have lt : ∀ x∈p,x.block < W.heap.size:=by obtain ⟨m,hm⟩:=h1; exact DataW.trod_lt m _ _ _ hm
  exact ⟨p,q,Below.trod hl ht.1.1 ht.1.2 h1 hb lt,Jj hl hb ts vs ds q ht.2 h2,rfl⟩
theorem Xb {C:Checked} {os:Os} {f:FuncId} {fn:Func} {s:ChangeSpec} {conds:List PathCond} {apart fresh handsOn:Bool} {X:World->Prop}
 (hX : ∀ (w w':World),w.heap=w'.heap->X w->X w') (own:ownKnob C.prog.godebug=none) (started:os.Started) (noInit:C.prog.inits.idxOf? f=none) (hfn:C.prog.funcs[f]? = some fn)
 (witness : ∃ (w:World) (tape:Tape) (i:Input),w.os=os/\(w.forCall tape i).Shaped C.prog/\i.vars=[]/\Input.okWide C.prog (w.forCall tape i) .any w.heap.size f i /\
  ((s.pre enc C.prog fn conds apart (w.forCall tape i).memory i.args/\X (w.forCall tape i).memory)/\sizedMet enc C.prog fn (OpenSpec.ofChange s) apart (w.forCall tape i).memory i.args)/\({}:Assume).holds C.prog (lone (Frame.enter C.prog f i.args .normal) [] (w.forCall tape i)))
 (hl:laidOutB C.prog=true) (hps:(fn.params.toList.all fun t=>C.prog.readableRec t && decide (t < C.prog.types.size))=true) (hb : ∃ t,fn.resultTypes=#[t]/\C.prog.underlying t=some .bool)
 (hvars:s.vars=[]) (hs : ∀ ds:List (DataW H),ds.length=fn.params.toList.length->s.fn H ds = {results:=[.lit (.bool true)],args:=ds})
 (walk : ∀ (W:World) (base:Nat) (args:Array Value) (ds:List (DataW H)) (p:List MemPlace),(∀ (j:Nat) t v,fn.params[j]? = some t->args[j]? = some v->Value.okWide C.prog W .any base t v) ->
  DataW.TrodAll enc C.prog W 0 (fun _=>true) true fn.params.toList args.toList ds p->conds.all (PathCond.test C.prog ⟨fn.params.toList,ds,s.plain.varTypes C.prog,[]⟩)=true->(∀ (j:Nat) t d,fn.params.toList[j]? = some t->ds[j]? = some d->∀ n∈d.weights C.prog t,n<=reachBytes)->X W ->
  Calls C.prog f args W fun e W'=>e = .returned (.bool true)/\Only Ai W W') :
 ReturnsInHanded {} C os f .any (fun w args=>(s.pre enc C.prog fn conds apart w args/\X w)/\sizedMet enc C.prog fn (OpenSpec.ofChange s) apart w args) (s.post enc C.prog fn apart fresh handsOn false):=by
 refine returnsInHanded_of_change_and (C:=C) (X:=fun w _=>X w) (fun w w' _ hh h=>hX w w' hh h) own started noInit hfn witness ?_
 intro W base args ds gs before hval hW hcnd hwt hL _
 have hW':=hW
 obtain ⟨p,q,hA,hV,rfl,hfz,hnd⟩:=hW
 have hgs:gs=[]/\q=[]:=by
  rw [hvars] at hV
  cases gs with
  | nil=>exact ⟨rfl,hV⟩
  | cons g gs=>exact hV.elim
 obtain ⟨rfl,rfl⟩:=hgs
 obtain ⟨tb,hrt,htb⟩:=hb
 have hlen : ∀ (ts:List TypeId) (vs:List Value) (ds:List (DataW H)) (p:List MemPlace),DataW.TrodAll enc C.prog W 0 (fun _=>true) true ts vs ds p->ds.length=ts.length:=by
  intro ts
  induction ts with
  | nil=>intro vs ds p h; cases vs <;> cases ds <;> first | rfl | exact h.elim
  | cons t ts ih=>intro vs ds p h; cases vs <;> cases ds <;> first | exact h.elim | (obtain ⟨_,q,_,h2,_⟩:=h; simp [ih _ _ q h2])
 have hsd:=hs ds (hlen _ _ _ _ hA)
 have hwt' : ∀ (j:Nat) t d,fn.params.toList[j]? = some t->ds[j]? = some d->∀ n∈d.weights C.prog t,n<=reachBytes:=fun j t d ht hd n hn=>by
  have hj:=List.all_eq_true.1 hwt n (DataW.weights_mem_each (j:=j) (t:=t) (d:=d) (by rw [List.getElem?_append_left (List.getElem?_eq_some_iff.1 ht).1]; exact ht) (by rw [List.append_nil]; exact hd) n hn)
  exact qX hj
 refine (walk W base args ds p hval hA hcnd hwt' hL).mono fun e W' ⟨he,ho⟩=>?_
 subst he
 have bel:=ho.below
 refine ⟨_,rfl,ds,[],p++[],[],p,[],hW',?_,?_,?_,bel.frame _,fun h=>by cases h⟩
 · rw [hrt,List.append_nil,hsd]
   exact trodAll_mk1 (shut_bool htb true)
 · rw [List.append_nil,hsd]
   exact Jj hl bel _ _ _ _ hps hA
 · rw [List.append_nil,hsd,hvars]
   rfl
end
end Go.Proofs.Fr
set_option maxRecDepth 100000
namespace Go.Proofs.YtdljjajjonfjbaaGreatDoor
open Go Go.ChangeShapes Go.WideShapes Go.ChangeAt Go.RowKit Go.Proofs.Sx
section
variable {H:Type} {enc:TypeId×Value->H} {P:Program} {W:World}
theorem Rr {e:TypeId} {n:Nat} : ∀ {l:List (DataW H)} {d:DataW H},d∈l->n∈d.weights P e->n∈DataW.weightsAll P e l
 | [],_,h,_=>absurd h List.not_mem_nil
 | x::r,d,h,hn=>by
  simp only [DataW.weightsAll,List.mem_append]
  rcases List.mem_cons.1 h with rfl | h
  · exact .inl hn
  · exact .inr (Rr h hn)
theorem Yg {α:Type} {f : α->List Value} {G : α->Prop} {sz:Nat} {a:Addr} (E:Enc f sz) : ∀ n,(∀ i,i < n->∃ x : α,(∀ k,k < sz->W.cell? (a.add (i*sz+k))=(f x)[k]?)/\G x) ->
 ∃ l:List α,l.length=n/\(∀ j u,(l.flatMap f)[j]? = some u->W.cell? (a.add j)=some u)/\∀ x∈l,G x
 | 0,_=>⟨[],rfl,fun j u h=>by simp at h,fun x hx=>absurd hx List.not_mem_nil⟩
 | n+1,h=>by
  obtain ⟨l,hl,hc,hg⟩:=Yg E n fun i hi=>h i (by omega)
  obtain ⟨x,hx,gx⟩:=h n (by omega)
  refine ⟨l++[x],by simp [hl],fun j u hj=>?_,fun y hy=>?_⟩
  · rw [List.flatMap_append,show [x].flatMap f=f x by simp] at hj
    have hfl:(l.flatMap f).length=n*sz:=by rw [E.flen,hl]
    by_cases hlt:j < n*sz
    · rw [List.getElem?_append_left (by omega)] at hj; exact hc j u hj
    · rw [List.getElem?_append_right (by omega),hfl] at hj
      have hk:j - n*sz < sz:=by
       have:=(List.getElem?_eq_some_iff.1 hj).1
       rw [E.len] at this; exact this
      have:=hx _ hk
      rw [show n*sz+(j - n*sz)=j by omega,hj] at this
      exact this
  · rcases List.mem_append.1 hy with hy | hy
    · exact hg y hy
    · rw [List.mem_singleton.1 hy]; exact gx
theorem Mt {α:Type} {f : α->List Value} {G : α->Prop} {t e:TypeId} {sz N fuel:Nat} {cs:List Value} {x:DataW H×List MemPlace} (ht:P.underlying t=some (.slice e)) (hc:P.cellsOf e=sz) (E:Enc f sz) (hb:decide (1<=P.bytesOf e)=true)
 (el : ∀ n cs y,DataW.trod enc P W 0 (fun _=>true) true n e cs=some y->(∀ k∈y.1.weights P e,k<=N)->∃ x : α,cs=f x/\G x)
 (h:DataW.trod enc P W 0 (fun _=>true) true fuel t cs=some x) (hw : ∀ k∈x.1.weights P t,k<=N) :
 ∃ p c,∃ l:List α,cs=[.slice p l.length c]/\Vw f W (.slice p l.length c) l/\l.length<=N/\∀ x∈l,G x:=by
 rcases DataW.trod_slice ht h with ⟨rfl,_⟩ | ⟨a,len,cap,elems,rest,n,rfl,rfl,rfl,_,hl,hm,hlen,hel,_,_⟩
 · exact ⟨none,0,[],rfl,.inl ⟨rfl,rfl⟩,Nat.zero_le _,fun x hx=>absurd hx List.not_mem_nil⟩
 · have hlN:len<=N:=by
    have:=hw ((elems.length+rest.length)*P.bytesOf e) (by simp [DataW.weights,ht])
    have h2:len*1<=(elems.length+rest.length)*P.bytesOf e:=Nat.mul_le_mul (by omega) (qX hb)
    omega
   obtain ⟨l,h1,h2,h3⟩:=Yg (W:=W) (a:=a) (G:=G) E len fun i hi=>by
    have g:=hel i hi
    rw [List.getElem?_eq_getElem (by omega),Option.bind_eq_some_iff] at g
    obtain ⟨cs,hcs,hy⟩:=g
    obtain ⟨_,hcl,hcell⟩:=World.cells?_some hcs
    obtain ⟨x,rfl,hG⟩:=el n _ _ hy fun k hk=>hw k (by
     simp only [DataW.weights,ht,List.mem_cons,List.mem_append]
     exact .inr (.inl (Rr (List.mem_map_of_mem (List.getElem_mem _)) hk)))
    rw [hc] at hcell
    exact ⟨x,fun k hk=>by rw [← Sx.add_add]; exact hcell k hk,hG⟩
   exact ⟨some a,cap,l,by rw [h1],.inr ⟨a,cap,rfl,h2⟩,by omega,h3⟩
theorem Vb {t:TypeId} {N fuel:Nat} {cs:List Value} {x:DataW H×List MemPlace} (ht:P.underlying t=some .string) (h:DataW.trod enc P W 0 (fun _=>true) true fuel t cs=some x) (hw : ∀ k∈x.1.weights P t,k<=N) : ∃ s:ByteArray,cs=[.string s]/\s.size<=N:=by
 obtain ⟨s,rfl,rfl,_⟩:=DataW.trod_string ht h
 refine ⟨s,rfl,hw _ ?_⟩
 simp [DataW.weights]
theorem Qa {t:TypeId} {fs:Array Field} {N fuel:Nat} {cs:List Value} {x:DataW H×List MemPlace} (ht:P.underlying t=some (.struct fs)) (h:DataW.trod enc P W 0 (fun _=>true) true fuel t cs=some x) (hw : ∀ k∈x.1.weights P t,k<=N) :
 cs.length=P.cellsOf t/\∃ n,∀ (i:Nat) (f:Field),fs[i]? = some f->∃ y,DataW.trod enc P W 0 (fun _=>true) true n f.type ((cs.drop f.offset).take (P.cellsOf f.type))=some y/\∀ k∈y.1.weights P f.type,k<=N:=by
 obtain ⟨xs,n,rfl,rfl,h1,h2,h3⟩:=DataW.trod_struct ht h
 refine ⟨h1,n,fun i f hf=>?_⟩
 have hi:i < xs.length:=by have:=(Array.getElem?_eq_some_iff.1 hf).1; omega
 refine ⟨xs[i],by rw [h3 i f hf,List.getElem?_eq_getElem hi],fun k hk=>hw k ?_⟩
 simp only [DataW.weights,ht]
 exact DataW.weights_mem_each (j:=i) (t:=f.type) (d:=xs[i].1) (by simp [hf]) (by simp [hi]) k hk
end
section
variable {H:Type} {enc:TypeId×Value->H} {W:World} {N:Nat}
theorem nF:Tryz.prog.underlying 22=some (.slice 71):=by kernel_rfl
theorem und69:Tryz.prog.underlying 69=some (.slice 73):=by kernel_rfl
theorem und30:Tryz.prog.underlying 30=some (.slice 9):=by kernel_rfl
theorem oF:Tryz.prog.underlying 9=some .string:=by kernel_rfl
theorem und4:Tryz.prog.underlying 4=some .bool:=by kernel_rfl
theorem qM {n:Nat} {cs:List Value} {y:DataW H×List MemPlace} (h:DataW.trod enc Tryz.prog W 0 (fun _=>true) true n 73 cs=some y) (hw : ∀ k∈y.1.weights Tryz.prog 73,k<=N) : ∃ x:CV,cs=fC x/\(VC W x/\smC N x.d):=by
 obtain ⟨fs,hfs,g0,g1,g2,g3⟩ : ∃ fs,Tryz.prog.underlying 73=some (.struct fs)/\(fs[0]?.map fun f=>(f.type,f.offset))=some (30,0)/\(fs[1]?.map fun f=>(f.type,f.offset))=some (9,1)/\(fs[2]?.map fun f=>(f.type,f.offset))=some (9,2)/\(fs[3]?.map fun f=>(f.type,f.offset))=some (4,3) :=
  ⟨(match Tryz.prog.underlying 73 with | some (.struct fs)=>fs | _=>#[]),by kernel_rfl,by kernel_rfl,by kernel_rfl,by kernel_rfl,by kernel_rfl⟩
 obtain ⟨hl,m,hx⟩:=Qa hfs h hw
 rw [show Tryz.prog.cellsOf 73=4 by kernel_rfl] at hl
 match cs,hl with
 | [a,b,c,d],_ =>
  have fld : ∀ {i t o:Nat},(fs[i]?.map fun f:Field=>(f.type,f.offset))=some (t,o)->∃ z,DataW.trod enc Tryz.prog W 0 (fun _=>true) true m t (([a,b,c,d].drop o).take (Tryz.prog.cellsOf t))=some z/\∀ k∈z.1.weights Tryz.prog t,k<=N:=by
   intro i t o hg
   obtain ⟨f,hf,he⟩:=Option.map_eq_some_iff.1 hg
   obtain ⟨rfl,rfl⟩:=Prod.mk.inj he
   exact hx i f hf
  obtain ⟨z0,q0,w0⟩:=fld g0
  obtain ⟨z1,q1,w1⟩:=fld g1
  obtain ⟨z2,q2,w2⟩:=fld g2
  obtain ⟨z3,q3,_⟩:=fld g3
  rw [show Tryz.prog.cellsOf 30=1 by kernel_rfl] at q0
  rw [show Tryz.prog.cellsOf 9=1 by kernel_rfl] at q1 q2
  rw [show Tryz.prog.cellsOf 4=1 by kernel_rfl] at q3
  simp only [List.drop_zero,List.drop_succ_cons,List.take_succ_cons,List.take_zero] at q0 q1 q2 q3
  obtain ⟨p,k,ws,e0,hv,hn,hs⟩:=Mt (f:=fT) (G:=fun s=>s.size<=N) und30 (by kernel_rfl) Jh (by kernel_rfl) (fun _ _ _ g gw=>by obtain ⟨s,e,hs⟩:=Vb oF g gw; exact ⟨s,e,hs⟩) q0 w0
  obtain ⟨s1,e1,n1⟩:=Vb oF q1 w1
  obtain ⟨s2,e2,n2⟩:=Vb oF q2 w2
  obtain ⟨b3,e3,_⟩:=DataW.trod_bool und4 q3
  cases e0; cases e1; cases e2; cases e3
  exact ⟨⟨p,k,⟨ws,s1,s2,b3⟩⟩,rfl,hv,hs,n1,n2,hn⟩
theorem pT {n:Nat} {cs:List Value} {y:DataW H×List MemPlace} (h:DataW.trod enc Tryz.prog W 0 (fun _=>true) true n 71 cs=some y) (hw : ∀ k∈y.1.weights Tryz.prog 71,k<=N) : ∃ x:JV,cs=fJ x/\(VJ W x/\smJ N x.d):=by
 obtain ⟨fs,hfs,g0,g1⟩ : ∃ fs,Tryz.prog.underlying 71=some (.struct fs)/\(fs[0]?.map fun f=>(f.type,f.offset))=some (69,0)/\(fs[1]?.map fun f=>(f.type,f.offset))=some (4,1) :=
  ⟨(match Tryz.prog.underlying 71 with | some (.struct fs)=>fs | _=>#[]),by kernel_rfl,by kernel_rfl,by kernel_rfl⟩
 obtain ⟨hl,m,hx⟩:=Qa hfs h hw
 rw [show Tryz.prog.cellsOf 71=2 by kernel_rfl] at hl
 match cs,hl with
 | [a,b],_ =>
  have fld : ∀ {i t o:Nat},(fs[i]?.map fun f:Field=>(f.type,f.offset))=some (t,o)->∃ z,DataW.trod enc Tryz.prog W 0 (fun _=>true) true m t (([a,b].drop o).take (Tryz.prog.cellsOf t))=some z/\∀ k∈z.1.weights Tryz.prog t,k<=N:=by
   intro i t o hg
   obtain ⟨f,hf,he⟩:=Option.map_eq_some_iff.1 hg
   obtain ⟨rfl,rfl⟩:=Prod.mk.inj he
   exact hx i f hf
  obtain ⟨z0,q0,w0⟩:=fld g0
  obtain ⟨z1,q1,_⟩:=fld g1
  rw [show Tryz.prog.cellsOf 69=1 by kernel_rfl] at q0
  rw [show Tryz.prog.cellsOf 4=1 by kernel_rfl] at q1
  simp only [List.drop_zero,List.drop_succ_cons,List.take_succ_cons,List.take_zero] at q0 q1
  obtain ⟨p,k,ys,e0,hv,hn,hs⟩:=Mt (f:=fC) (G:=fun x=>VC W x/\smC N x.d) und69 (by kernel_rfl) Fj (by kernel_rfl) (fun _ _ _ g gw=>qM g gw) q0 w0
  obtain ⟨b1,e1,_⟩:=DataW.trod_bool und4 q1
  cases e0; cases e1
  refine ⟨⟨p,k,ys,b1⟩,rfl,⟨hv,fun y hy=>(hs y hy).1⟩,?_,fun c hc=>?_⟩
  · show (ys.map (·.d)).length<=N
    rw [List.length_map]; exact hn
  · obtain ⟨y,hy,rfl⟩:=List.mem_map.1 hc
    exact (hs y hy).2
theorem fD {base:Nat} {v:Value} {d:DataW H} {p:List MemPlace} (hv:Value.okWide Tryz.prog W .any base 22 v) (h:DataW.Trod enc Tryz.prog W 0 (fun _=>true) true 22 v d p) (hw : ∀ k∈d.weights Tryz.prog 22,k<=reachBytes) :
 ∃ p c,∃ l:List JV,v = .slice p l.length c/\VL W (.slice p l.length c) l/\smL 1000000000000000000 (l.map JV.d):=by
 obtain ⟨a,len,cap,rfl⟩:=okWide_slice nF hv
 obtain ⟨fuel,hf⟩:=h
 obtain ⟨p,c,l,e,h1,h2,h3⟩:=Mt (f:=fJ) (G:=fun x=>VJ W x/\smJ reachBytes x.d) nF (by kernel_rfl) Eb (by kernel_rfl) (fun _ _ _ g gw=>pT g gw) hf hw
 have hr:reachBytes<=1000000000000000000:=by decide
 have hC : ∀ {c:CmdL},smC reachBytes c->smC 1000000000000000000 c:=fun h=>⟨fun u hu=>Nat.le_trans (h.1 u hu) hr,Nat.le_trans h.2.1 hr,Nat.le_trans h.2.2.1 hr,Nat.le_trans h.2.2.2 hr⟩
 refine ⟨p,c,l,by simpa [Value.cells] using e,⟨h1,fun x hx=>(h3 x hx).1⟩,by rw [List.length_map]; omega,fun x hx=>?_⟩
 obtain ⟨y,hy,rfl⟩:=List.mem_map.1 hx
 exact ⟨Nat.le_trans (h3 y hy).2.1 hr,fun c hc=>hC ((h3 y hy).2.2 c hc)⟩
end
end Go.Proofs.YtdljjajjonfjbaaGreatDoor
namespace Go.Proofs.Fr
open Go Go.RowKit Go.Proofs.Sx
section
variable {P:Program} {w:World} {name:String} {D:DataW Unit} {rest:List (String×DataW Unit)} {ps:List MemPlace} {g:Nat} {t:TypeId} {cs:List Value}
theorem lv_of {laid:List (String×DataW Unit)} (h:laidMet P laid w) : ∃ ps,DataW.LaidVars P w laid ps:=⟨_,h.choose_spec.1⟩
theorem Gz (h : ∃ ps,DataW.LaidVars P w ((name,D)::rest) ps) : ∃ ps,DataW.LaidVars P w rest ps:=by
 obtain ⟨ps,g',t',cs',fu',p',q,_,_,_,_,hr,_⟩:=h
 exact ⟨q,hr⟩
end
section
variable {P:Program} {w:World} {name:String} {D:DataW Unit} {rest:List (String×DataW Unit)} {g:Nat} {t:TypeId}
theorem U8 {u:TypeId} {H:Type} (enc:TypeId×Value->H) (P:Program) (w:World) (b:Nat) (sp:Nat->Bool) (held:Bool) : ∀ (fu:Nat) (t:TypeId) (cs:List Value) (x:DataW H×List MemPlace) {ms},P.underlying t=some (.interface ms)->DataW.trod enc P w b sp held fu t cs=some x ->
 ∃ v,cs=[v]/\(v = .nilIface\/∃ te pe,v = .iface te pe):=by
 intro fu t cs x ms hu h
 cases fu with
 | zero=>simp [DataW.trod] at h
 | succ fu =>
  unfold DataW.trod at h
  rw [hu] at h
  split at h
  all_goals first
   | (exact ⟨_,rfl,.inl rfl⟩)
   | (exact ⟨_,rfl,.inr ⟨_,_,rfl⟩⟩)
   | (simp_all; done)
theorem S9 (h : ∃ ps,DataW.LaidVars P w ((name,D)::rest) ps) (hg:P.globalNamed name=some g) (ht:(P.globals[g]?).map (·.type)=some t) (hu0:(match P.underlying t with | some (.interface _)=>true | _=>false)=true) :
 ∃ v,w.cell? ⟨g,0,none⟩=some v/\(v = .nilIface\/∃ te pe,v = .iface te pe):=by
 obtain ⟨ps,g',t',cs',fu',p',q,hg',ht',hvar,hd',_,_⟩:=h
 obtain rfl:=Option.some.inj (hg.symm.trans hg')
 obtain rfl:=Option.some.inj (ht.symm.trans ht')
 have hu : ∃ ms,P.underlying t=some (.interface ms):=by
  split at hu0
  · exact ⟨_,by assumption⟩
  · cases hu0
 obtain ⟨ms,hu⟩:=hu
 obtain ⟨v,hc,hv⟩:=U8 (u:=0) _ _ _ _ _ _ _ _ _ _ hu hd'
 refine ⟨v,?_,hv⟩
 have:=World.var?_cell hg hvar 0
 rw [this,← Array.getElem?_toList,hc]
 rfl
end
end Go.Proofs.Fr
namespace Go.Proofs.YtdljjajjonfjbaaGreatDoor
open Go Go.ChangeShapes Go.WideShapes Go.ChangeAt Go.RowKit Go.Proofs.Sx Go.Proofs.Fr
section
variable {H:Type} {enc:TypeId×Value->H} {W:World}
theorem bZ:Tryz.prog.underlying 41=some (.slice 5):=by kernel_rfl
theorem und5:Tryz.prog.underlying 5=some (.int .u8):=by kernel_rfl
theorem bR {base:Nat} {v:Value} {d:DataW H} {p:List MemPlace} (hv:Value.okWide Tryz.prog W .any base 41 v) (h:DataW.Trod enc Tryz.prog W 0 (fun _=>true) true 41 v d p) (hw : ∀ k∈d.weights Tryz.prog 41,k<=reachBytes) :
 ∃ q c,∃ l:List Int,v = .slice q l.length c/\Vw fB W (.slice q l.length c) l/\l.length<=1000000000000000000/\l.length<=c:=by
 obtain ⟨a,len,cap,rfl⟩:=okWide_slice bZ hv
 obtain ⟨fuel,hf⟩:=h
 obtain ⟨q,c,l,e,h1,h2,_⟩:=Mt (f:=fB) (G:=fun _=>True) bZ (by kernel_rfl) Ri (by kernel_rfl) (fun _ _ _ g gw=>by obtain ⟨z,e,_⟩:=DataW.trod_int und5 g; exact ⟨z,e,trivial⟩) hf hw
 have hr:reachBytes<=1000000000000000000:=by decide
 have e1:(.slice a len cap:Value) = .slice q l.length c:=by simpa [Value.cells] using e
 have hc:l.length<=c:=by
  rcases DataW.trod_slice bZ hf with ⟨h0,_⟩ | ⟨a',n,k,_,_,_,_,h0,_,_,hk,_⟩
  · have h1:(.slice a len cap:Value) = .slice none 0 0:=by simpa [Value.cells] using h0
    rw [e1] at h1
    injection h1 with _ h2 h3
    omega
  · have h1:(.slice a len cap:Value) = .slice (some a') n k:=by simpa [Value.cells] using h0
    rw [e1] at h1
    injection h1 with _ h2 h3
    omega
 exact ⟨q,c,l,e1,h1,by omega,hc⟩
end
theorem aC:ownKnob Tryz.prog.godebug=none:=by kernel_rfl
theorem aD:laidOutB Tryz.prog=true:=by kernel_rfl
theorem gF {W:World} {A B C D E:DataW Unit} {a b c:String} (h : ∃ ps,DataW.LaidVars Tryz.prog W [(a,A),(b,B),(c,C),("strconv.ErrRange",D),("strconv.ErrSyntax",E)] ps):ErrOk W :=
 ⟨S9 (g:=1) (t:=155) (Gz (Gz (Gz (Gz h)))) (by kernel_rfl) (by kernel_rfl) (by kernel_rfl),
  S9 (g:=2) (t:=155) (Gz (Gz (Gz h))) (by kernel_rfl) (by kernel_rfl) (by kernel_rfl)⟩
open Go Go.ChangeShapes Go.WideShapes Go.ChangeAt Go.ChangeMaps Go.RowKit Go.Proofs.Sx Go.Proofs.Fr
theorem Mq (os:Os) (args:Array Value):laidMet Tryz.prog Rows.shellClosesRow.laid ((World.doorLaid Tryz.prog 200 os).forCall (fun _ _=>0) ⟨#[],args,[]⟩).memory :=
 laidMet_of_run' 8 (by kernel_rfl) (by kernel_rfl)
set_option maxRecDepth 100000 in
theorem shellCloses_lifted (os:Os) (started:os.Started) (H:Type) (enc:TypeId×Value->H) :
 ReturnsInHanded {} Tryz.checked os 4 .any (fun w args=>(Rows.shellClosesSpec.pre enc Tryz.prog Tryz.f4 [] false w args/\laidMet Tryz.prog Rows.shellClosesRow.laid w)/\sizedMet enc Tryz.prog Tryz.f4 (OpenSpec.ofChange Rows.shellClosesSpec) false w args)
  (Rows.shellClosesSpec.post enc Tryz.prog Tryz.f4 false true false false):=by
 refine Xb (C:=Tryz.checked) (X:=fun w=>laidMet Tryz.prog Rows.shellClosesRow.laid w) (fun _ _ hh h=>h.of_heap hh) aC started (by kernel_rfl) Tryz.func4
  (ChangeSpec.witness_shaped (enc:=enc) (C:=Tryz.checked) (os:=os) (X:=fun w _=>laidMet Tryz.prog Rows.shellClosesRow.laid w) false (World.doorLaid Tryz.prog 200 os) #[.slice none 0 0,.slice none 0 0] 8 rfl (World.shaped_of_RefB (by kernel_rfl) (by kernel_rfl)) (by kernel_rfl) (by kernel_rfl) (by kernel_rfl) (Mq os _))
  aD (by kernel_rfl) ⟨4,by kernel_rfl,by kernel_rfl⟩ rfl (fun ds hd=>by
   have hd':ds.length=2:=hd
   match ds,hd' with
   | [_,_],_=>rfl) ?_
 intro W base args ds p hval0 hA0 _ hwt0 hL
 have hval : ∀ (j:Nat) t v,Tryz.f4.params[j]? = some t->args[j]? = some v->Value.okWide Tryz.prog W .any base t v:=hval0
 have hA:DataW.TrodAll enc Tryz.prog W 0 (fun _=>true) true Tryz.f4.params.toList args.toList ds p:=hA0
 have hwt : ∀ (j:Nat) t d,Tryz.f4.params.toList[j]? = some t->ds[j]? = some d->∀ n∈d.weights Tryz.prog t,n<=reachBytes:=hwt0
 have hE:=gF (lv_of hL)
 rw [Tryz.params4] at hA hval hwt
 obtain ⟨v0,vs0,d0,ds0,p0,q0,hargs,rfl,rfl,h0,r0⟩:=trodAll_cons hA
 obtain ⟨v1,vs1,d1,ds1,p1,q1,rfl,rfl,rfl,h1,r1⟩:=trodAll_cons r0
 obtain ⟨rfl,rfl,rfl⟩:=trodAll_nil r1
 obtain rfl:args=#[v0,v1]:=by cases args; simp_all
 obtain ⟨a0,c0,l0,rfl,hl0,hm0⟩:=fD (hval 0 22 _ rfl rfl) h0 (hwt 0 22 _ rfl rfl)
 obtain ⟨a1,c1,l1,rfl,hl1,hm1,hc1⟩:=bR (hval 1 41 _ rfl rfl) h1 (hwt 1 41 _ rfl rfl)
 exact Xr a0 c0 l0 a1 c1 l1 W hE hl0 hm0 hl1 hm1 hc1
theorem shellCloses_holds:Rows.shellClosesRow.holds Tryz.pinned (OpenSpec.ofChange Rows.shellClosesSpec) :=
 OpenClaim.holds_of_wide 4 Tryz.f4 rfl rfl rfl rfl rfl rfl rfl ⟨rfl,rfl,rfl,rfl,rfl⟩ rfl rfl rfl rfl rfl (by kernel_rfl) Tryz.func4 (by kernel_rfl)
  (qX (by kernel_rfl)) (by unfold Func.isWrapper; first | (rw [if_pos (by decide +kernel)]; kernel_rfl) | (rw [if_neg (by decide +kernel)]; exact ⟨rfl,rfl⟩))
  (fun os started H enc _=>shellCloses_lifted os started H enc)
theorem shellCloses_card:Rows.ShellClosesCardSaid :=
 Claim7.holds_tied_plain_at .later [] [.data,.data,.data,.sentinel,.sentinel] true (true,"4734b94de298b7b64cc2fd277eff1d3660d84aa407701e3cb9226c78e0ecb46d") true
  shellCloses_holds (fun _ h=>by cases h) (by kernel_rfl) (fun _ h=>by cases h) shellCloses_row_tie rfl ⟨rfl,rfl⟩ (by kernel_rfl) rfl
  (fun f fn hf hfn=>by
   obtain rfl:f=4:=Option.some.inj ((show Tryz.prog.funcNamed "ratoon/ratoonlaw52.ShellCloses" = some 4 by kernel_rfl).symm.trans hf) |>.symm
   obtain rfl:fn=Tryz.f4:=(Option.some.inj (Tryz.func4.symm.trans hfn)).symm
   exact ⟨by kernel_rfl,fun j t ht=>by
    rw [Tryz.params4] at ht
    have hm:t∈[22,41]:=by simpa using Array.mem_of_getElem? ht
    have hall:([22,41].all fun u=>!Tryz.prog.wantsStandIn u)=true:=by kernel_rfl
    exact (show Tryz.prog.wantsStandIn t=false by simpa using List.all_eq_true.1 hall t hm)⟩)
  (by kernel_rfl)
#print axioms shellCloses_card
end Go.Proofs.YtdljjajjonfjbaaGreatDoor
