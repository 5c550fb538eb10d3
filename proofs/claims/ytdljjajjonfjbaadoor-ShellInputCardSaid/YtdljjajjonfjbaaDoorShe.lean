import Derived.Test.YtdljjajjonfjbaaDoorShc
import Derived.Test.YtdljjajjonfjbaaDoorSn
set_option linter.unusedVariables false
set_option linter.unusedSimpArgs false
set_option maxRecDepth 10000
namespace Go.Proofs.YtdljjajjonfjbaaDoor
open Go Go.Shelf Go.RowKit Go.Proofs Go.Proofs.Sx
theorem cloneb_some (ad:Addr) (c:Nat) (l:List Int) (w:World) (hv:Vw fB w (.slice (some ad) l.length c) l) (hl:l.length<=1000000) (hu:U8s l) :
    Calls Tryd.prog 15 #[.slice (some ad) l.length c] w fun e w'=>∃ p' c' T,e = .returned (.slice p' l.length c')/\One fB 5 1 p' c' l T/\Ow Tryd.prog none' w w' T:=by
 refine c_enter (args:=[.slice (some ad) l.length c]) (m:=7) (n:=8) Tryd.func15 rfl (by kernel_rfl) (by kernel_rfl) fun fr hA=>?_
 have hO:=Ow.nil Tryd.prog none' w
 refine Sa [(2,.slice none 0 0)] hA fun fr hA=>?_
 refine wp_seq ?_
 refine Sa [(4,bl false)] hA fun fr hA=>?_
 refine cF hA ?_
 refine wp_skip ?_
 refine then_normal ?_
 refine sr 4 ?_
 refine Mv [] 5 0 5 hA hO fun fr w1 b1 hA hO=>?_
 refine Ka 1 [(6,.slice (some ad) l.length c)] hA fun fr hA=>?_
 have hT1:One fB 5 1 (some ⟨b1,0,none⟩) 0 [] [(b1,5,[])]:=One.ofBlk (r:=[]) (by kernel_rfl) (by first | decide | simp) (by decide) (by kernel_rfl)
 replace hO:=Ow.move (A:=[]) (B:=[]) (C:=[]) (x:=(b1,5,[])) hO
 refine wpOps_cons' (mA (f:=fB) (el:=5) (sz:=1) (bytes:=1) (p:=some ⟨b1,0,none⟩) (c:=0) (l:=[]) (l':=l) (T:=[(b1,5,[])]) (t:=33) (tx:=33) (ty:=33) (x:= .slice (some ad) l.length c) (d:=7) [] ([]) encB hA hO hT1 (Vw.src (e':=5) encB (hv.keep hO.only) (by kernel_rfl)) (by first | omega | (simp only [List.length_append,List.length_cons,List.length_nil]; omega)) (by unfold maxLen; first | omega | (simp only [List.length_append,List.length_cons,List.length_nil]; omega)) fun fr w2 p1 c1 T2 hA hO hT2=>?_)
 have huT2:U8s (([])++l):=(U8s.app U8s.nil hu)
 rw [show (([])++l)=l from List.nil_append _] at hA hT2 huT2
 refine Ka 1 [(2,.slice p1 l.length c1)] hA fun fr hA=>?_
 refine end_ops ?_
 refine then_normal ?_
 refine wp_ret ?_
 refine cv [.slice p1 l.length c1] hA ?_
 exact ⟨_,_,_,rfl,hT2,(hO).to (by simp only [List.nil_append,List.append_nil])⟩
theorem cloneb_none (w:World) :
    Calls Tryd.prog 15 #[.slice none 0 0] w fun e w'=>e = .returned (.slice none 0 0)/\Only none' w w':=by
 refine c_enter (args:=[.slice none 0 0]) (m:=7) (n:=8) Tryd.func15 rfl (by kernel_rfl) (by kernel_rfl) fun fr hA=>?_
 have hO:=Ow.nil Tryd.prog none' w
 refine Sa [(2,.slice none 0 0)] hA fun fr hA=>?_
 refine wp_seq ?_
 refine Sa [(4,bl true)] hA fun fr hA=>?_
 refine cT hA ?_
 refine Sa [] hA fun fr hA=>?_
 refine wp_ret ?_
 refine then_ret ?_
 refine cv [.slice none 0 0] hA ?_
 have hF:=hO.only; clear hA hO
 exact ⟨rfl,hF⟩
theorem cloneb_any (p:Option Addr) (c:Nat) (l:List Int) (w:World) (hv:Vw fB w (.slice p l.length c) l) (hl:l.length<=1000000) (hu:U8s l):Calls Tryd.prog 15 #[.slice p l.length c] w fun e w'=>∃ p' c' T,e = .returned (.slice p' l.length c')/\One fB 5 1 p' c' l T/\Ow Tryd.prog none' w w' T:=by
 rcases hv with ⟨h,rfl⟩ | ⟨ad,cap,h,hc⟩
 · cases h
   exact (cloneb_none w).mono fun e w' h=>⟨none,0,[],h.1,One.nil _ _ _,(Ow.nil Tryd.prog none' w).st h.2⟩
 cases h
 exact cloneb_some ad c l w (.inr ⟨ad,c,rfl,hc⟩) hl hu
theorem clonen_some (ad:Addr) (c:Nat) (l:List Int) (w:World) (hv:Vw fN w (.slice (some ad) l.length c) l) (hl:l.length<=1000000) :
    Calls Tryd.prog 24 #[.slice (some ad) l.length c] w fun e w'=>∃ p' c' T,e = .returned (.slice p' l.length c')/\One fN 3 1 p' c' l T/\Ow Tryd.prog none' w w' T:=by
 refine c_enter (args:=[.slice (some ad) l.length c]) (m:=7) (n:=8) Tryd.func24 rfl (by kernel_rfl) (by kernel_rfl) fun fr hA=>?_
 have hO:=Ow.nil Tryd.prog none' w
 refine Sa [(2,.slice none 0 0)] hA fun fr hA=>?_
 refine wp_seq ?_
 refine Sa [(4,bl false)] hA fun fr hA=>?_
 refine cF hA ?_
 refine wp_skip ?_
 refine then_normal ?_
 refine sr 4 ?_
 refine Mv [] 3 0 5 hA hO fun fr w1 b1 hA hO=>?_
 refine Ka 1 [(6,.slice (some ad) l.length c)] hA fun fr hA=>?_
 have hT1:One fN 3 1 (some ⟨b1,0,none⟩) 0 ([]:List Int) [(b1,3,[])]:=One.ofBlk (r:=[]) (by kernel_rfl) (by first | decide | simp) (by decide) (by kernel_rfl)
 replace hO:=Ow.move (A:=[]) (B:=[]) (C:=[]) (x:=(b1,3,[])) hO
 refine wpOps_cons' (mA (f:=fN) (el:=3) (sz:=1) (bytes:=8) (p:=some ⟨b1,0,none⟩) (c:=0) (l:=([]:List Int)) (l':=l) (T:=[(b1,3,[])]) (t:=28) (tx:=28) (ty:=28) (x:= .slice (some ad) l.length c) (d:=7) [] ([]) encN hA hO hT1 (Vw.src (e':=3) encN (hv.keep hO.only) (by kernel_rfl)) (by first | omega | (simp only [List.length_append,List.length_cons,List.length_nil]; omega)) (by unfold maxLen; first | omega | (simp only [List.length_append,List.length_cons,List.length_nil]; omega)) fun fr w2 p1 c1 T2 hA hO hT2=>?_)
 rw [show (([]:List Int)++l)=l from List.nil_append _] at hA hT2
 refine Ka 1 [(2,.slice p1 l.length c1)] hA fun fr hA=>?_
 refine end_ops ?_
 refine then_normal ?_
 refine wp_ret ?_
 refine cv [.slice p1 l.length c1] hA ?_
 exact ⟨_,_,_,rfl,hT2,(hO).to (by simp only [List.nil_append,List.append_nil])⟩
theorem clonen_none (w:World) :
    Calls Tryd.prog 24 #[.slice none 0 0] w fun e w'=>e = .returned (.slice none 0 0)/\Only none' w w':=by
 refine c_enter (args:=[.slice none 0 0]) (m:=7) (n:=8) Tryd.func24 rfl (by kernel_rfl) (by kernel_rfl) fun fr hA=>?_
 have hO:=Ow.nil Tryd.prog none' w
 refine Sa [(2,.slice none 0 0)] hA fun fr hA=>?_
 refine wp_seq ?_
 refine Sa [(4,bl true)] hA fun fr hA=>?_
 refine cT hA ?_
 refine Sa [] hA fun fr hA=>?_
 refine wp_ret ?_
 refine then_ret ?_
 refine cv [.slice none 0 0] hA ?_
 have hF:=hO.only; clear hA hO
 exact ⟨rfl,hF⟩
theorem clonen_any (p:Option Addr) (c:Nat) (l:List Int) (w:World) (hv:Vw fN w (.slice p l.length c) l) (hl:l.length<=1000000):Calls Tryd.prog 24 #[.slice p l.length c] w fun e w'=>∃ p' c' T,e = .returned (.slice p' l.length c')/\One fN 3 1 p' c' l T/\Ow Tryd.prog none' w w' T:=by
 rcases hv with ⟨h,rfl⟩ | ⟨ad,cap,h,hc⟩
 · cases h
   exact (clonen_none w).mono fun e w' h=>⟨none,0,[],h.1,One.nil _ _ _,(Ow.nil Tryd.prog none' w).st h.2⟩
 cases h
 exact clonen_some ad c l w (.inr ⟨ad,c,rfl,hc⟩) hl
theorem clonep_some (ad:Addr) (c:Nat) (l:List PV) (w:World) (hv:Vw fP w (.slice (some ad) l.length c) l) (hl:l.length<=1000000) :
    Calls Tryd.prog 25 #[.slice (some ad) l.length c] w fun e w'=>∃ p' c' T,e = .returned (.slice p' l.length c')/\One fP 35 5 p' c' l T/\Ow Tryd.prog none' w w' T:=by
 refine c_enter (args:=[.slice (some ad) l.length c]) (m:=7) (n:=8) Tryd.func25 rfl (by kernel_rfl) (by kernel_rfl) fun fr hA=>?_
 have hO:=Ow.nil Tryd.prog none' w
 refine Sa [(2,.slice none 0 0)] hA fun fr hA=>?_
 refine wp_seq ?_
 refine Sa [(4,bl false)] hA fun fr hA=>?_
 refine cF hA ?_
 refine wp_skip ?_
 refine then_normal ?_
 refine sr 4 ?_
 refine Mv [] 35 0 5 hA hO fun fr w1 b1 hA hO=>?_
 refine Ka 1 [(6,.slice (some ad) l.length c)] hA fun fr hA=>?_
 have hT1:One fP 35 5 (some ⟨b1,0,none⟩) 0 ([]:List PV) [(b1,35,[])]:=One.ofBlk (r:=[]) (by kernel_rfl) (by first | decide | simp) (by decide) (by kernel_rfl)
 replace hO:=Ow.move (A:=[]) (B:=[]) (C:=[]) (x:=(b1,35,[])) hO
 refine wpOps_cons' (mA (f:=fP) (el:=35) (sz:=5) (bytes:=56) (p:=some ⟨b1,0,none⟩) (c:=0) (l:=([]:List PV)) (l':=l) (T:=[(b1,35,[])]) (t:=29) (tx:=29) (ty:=29) (x:= .slice (some ad) l.length c) (d:=7) [] ([]) encP hA hO hT1 (Vw.src (e':=35) encP (hv.keep hO.only) (by kernel_rfl)) (by first | omega | (simp only [List.length_append,List.length_cons,List.length_nil]; omega)) (by unfold maxLen; first | omega | (simp only [List.length_append,List.length_cons,List.length_nil]; omega)) fun fr w2 p1 c1 T2 hA hO hT2=>?_)
 rw [show (([]:List PV)++l)=l from List.nil_append _] at hA hT2
 refine Ka 1 [(2,.slice p1 l.length c1)] hA fun fr hA=>?_
 refine end_ops ?_
 refine then_normal ?_
 refine wp_ret ?_
 refine cv [.slice p1 l.length c1] hA ?_
 exact ⟨_,_,_,rfl,hT2,(hO).to (by simp only [List.nil_append,List.append_nil])⟩
theorem clonep_none (w:World) :
    Calls Tryd.prog 25 #[.slice none 0 0] w fun e w'=>e = .returned (.slice none 0 0)/\Only none' w w':=by
 refine c_enter (args:=[.slice none 0 0]) (m:=7) (n:=8) Tryd.func25 rfl (by kernel_rfl) (by kernel_rfl) fun fr hA=>?_
 have hO:=Ow.nil Tryd.prog none' w
 refine Sa [(2,.slice none 0 0)] hA fun fr hA=>?_
 refine wp_seq ?_
 refine Sa [(4,bl true)] hA fun fr hA=>?_
 refine cT hA ?_
 refine Sa [] hA fun fr hA=>?_
 refine wp_ret ?_
 refine then_ret ?_
 refine cv [.slice none 0 0] hA ?_
 have hF:=hO.only; clear hA hO
 exact ⟨rfl,hF⟩
theorem clonep_any (p:Option Addr) (c:Nat) (l:List PV) (w:World) (hv:Vw fP w (.slice p l.length c) l) (hl:l.length<=1000000):Calls Tryd.prog 25 #[.slice p l.length c] w fun e w'=>∃ p' c' T,e = .returned (.slice p' l.length c')/\One fP 35 5 p' c' l T/\Ow Tryd.prog none' w w' T:=by
 rcases hv with ⟨h,rfl⟩ | ⟨ad,cap,h,hc⟩
 · cases h
   exact (clonep_none w).mono fun e w' h=>⟨none,0,[],h.1,One.nil _ _ _,(Ow.nil Tryd.prog none' w).st h.2⟩
 cases h
 exact clonep_some ad c l w (.inr ⟨ad,c,rfl,hc⟩) hl
theorem clonet_some (ad:Addr) (c:Nat) (l:List ByteArray) (w:World) (hv:Vw fT w (.slice (some ad) l.length c) l) (hl:l.length<=1000000) :
    Calls Tryd.prog 26 #[.slice (some ad) l.length c] w fun e w'=>∃ p' c' T,e = .returned (.slice p' l.length c')/\One fT 9 1 p' c' l T/\Ow Tryd.prog none' w w' T:=by
 refine c_enter (args:=[.slice (some ad) l.length c]) (m:=7) (n:=8) Tryd.func26 rfl (by kernel_rfl) (by kernel_rfl) fun fr hA=>?_
 have hO:=Ow.nil Tryd.prog none' w
 refine Sa [(2,.slice none 0 0)] hA fun fr hA=>?_
 refine wp_seq ?_
 refine Sa [(4,bl false)] hA fun fr hA=>?_
 refine cF hA ?_
 refine wp_skip ?_
 refine then_normal ?_
 refine sr 4 ?_
 refine Mv [] 9 0 5 hA hO fun fr w1 b1 hA hO=>?_
 refine Ka 1 [(6,.slice (some ad) l.length c)] hA fun fr hA=>?_
 have hT1:One fT 9 1 (some ⟨b1,0,none⟩) 0 ([]:List ByteArray) [(b1,9,[])]:=One.ofBlk (r:=[]) (by kernel_rfl) (by first | decide | simp) (by decide) (by kernel_rfl)
 replace hO:=Ow.move (A:=[]) (B:=[]) (C:=[]) (x:=(b1,9,[])) hO
 refine wpOps_cons' (mA (f:=fT) (el:=9) (sz:=1) (bytes:=16) (p:=some ⟨b1,0,none⟩) (c:=0) (l:=([]:List ByteArray)) (l':=l) (T:=[(b1,9,[])]) (t:=25) (tx:=25) (ty:=25) (x:= .slice (some ad) l.length c) (d:=7) [] ([]) encT hA hO hT1 (Vw.src (e':=9) encT (hv.keep hO.only) (by kernel_rfl)) (by first | omega | (simp only [List.length_append,List.length_cons,List.length_nil]; omega)) (by unfold maxLen; first | omega | (simp only [List.length_append,List.length_cons,List.length_nil]; omega)) fun fr w2 p1 c1 T2 hA hO hT2=>?_)
 rw [show (([]:List ByteArray)++l)=l from List.nil_append _] at hA hT2
 refine Ka 1 [(2,.slice p1 l.length c1)] hA fun fr hA=>?_
 refine end_ops ?_
 refine then_normal ?_
 refine wp_ret ?_
 refine cv [.slice p1 l.length c1] hA ?_
 exact ⟨_,_,_,rfl,hT2,(hO).to (by simp only [List.nil_append,List.append_nil])⟩
theorem clonet_none (w:World) :
    Calls Tryd.prog 26 #[.slice none 0 0] w fun e w'=>e = .returned (.slice none 0 0)/\Only none' w w':=by
 refine c_enter (args:=[.slice none 0 0]) (m:=7) (n:=8) Tryd.func26 rfl (by kernel_rfl) (by kernel_rfl) fun fr hA=>?_
 have hO:=Ow.nil Tryd.prog none' w
 refine Sa [(2,.slice none 0 0)] hA fun fr hA=>?_
 refine wp_seq ?_
 refine Sa [(4,bl true)] hA fun fr hA=>?_
 refine cT hA ?_
 refine Sa [] hA fun fr hA=>?_
 refine wp_ret ?_
 refine then_ret ?_
 refine cv [.slice none 0 0] hA ?_
 have hF:=hO.only; clear hA hO
 exact ⟨rfl,hF⟩
theorem clonet_any (p:Option Addr) (c:Nat) (l:List ByteArray) (w:World) (hv:Vw fT w (.slice p l.length c) l) (hl:l.length<=1000000):Calls Tryd.prog 26 #[.slice p l.length c] w fun e w'=>∃ p' c' T,e = .returned (.slice p' l.length c')/\One fT 9 1 p' c' l T/\Ow Tryd.prog none' w w' T:=by
 rcases hv with ⟨h,rfl⟩ | ⟨ad,cap,h,hc⟩
 · cases h
   exact (clonet_none w).mono fun e w' h=>⟨none,0,[],h.1,One.nil _ _ _,(Ow.nil Tryd.prog none' w).st h.2⟩
 cases h
 exact clonet_some ad c l w (.inr ⟨ad,c,rfl,hc⟩) hl
end Go.Proofs.YtdljjajjonfjbaaDoor
namespace Go.Proofs.YtdljjajjonfjbaaDoor
open Go Go.RowKit Go.Proofs.Sx
section
variable {P:Program} {X:Nat->Prop} {w₀ w w':World} {A B T Tn:OwL} {x x':Nat×TypeId×List Value}
theorem mself (h:Ow P X w₀ w ((A++[x])++(T++B))):Ow P (inT (x::T)) w w (x::T) :=
  Ow.self (A:=A) (T:=x::T) (B:=B) (h.to (by simp only [List.append_assoc,List.cons_append,List.nil_append]))
theorem mcall (h:Ow P X w₀ w ((A++[x])++(T++B))) (h':Ow P (inT (x::T)) w w' (x'::(T++Tn))):Ow P X w₀ w' ((A++[x'])++(T++(Tn++B))) :=
  (Ow.pass (A:=A) (T:=x::T) (B:=B) (T':=x'::(T++Tn)) (h.to (by simp only [List.append_assoc,List.cons_append,List.nil_append])) h').to (by simp only [List.append_assoc,List.cons_append,List.nil_append])
theorem mrest (h:Ow P X w₀ w ((A++[x])++(T++B))) (k:Only (inT [x]) w w'):Ow P X w₀ w' (A++(T++B)) :=
  Ow.pan3 (A:=A) (T:=[x]) (B:=T++B) (h.to (by simp only [List.append_assoc,List.cons_append,List.nil_append])) k
theorem mrestT (h:Ow P X w₀ w ((A++[x])++(T++B))) (k:Only (inT (x::T)) w w'):Ow P X w₀ w' (A++B) :=
  Ow.pan3 (A:=A) (T:=x::T) (B:=B) (h.to (by simp only [List.append_assoc,List.cons_append,List.nil_append])) k
theorem mkeep {Q:World->Prop} (hT:Holds' T Q) (h:Ow P X w₀ w ((A++[x])++(T++B))) : ∀ w',Only (inT [x]) w w'->Q w':=fun w' k=>hT.at (mrest h k).m
theorem moveL {C:OwL} (h:Ow P X w₀ w (A++(x::(B++C)))):Ow P X w₀ w (A++(B++(C++[x]))):=by
  refine (h.m.perm (List.Perm.append_left A ?_)).o
  rw [← List.append_assoc]
  exact (List.perm_append_singleton x (B++C)).symm
end
section
variable {T T':OwL} {l l1 l2:List PV} {v:Value}
theorem Holds'.sub {Q:World->Prop} (h:Holds' T Q) (s:T.Sublist T'):Holds' T' Q:=fun X w₀ w hO=>h X w₀ w (hO.less s)
theorem Holds'.to {Q:World->Prop} (h:Holds' T Q) (e:T=T'):Holds' T' Q:=e ▸ h
theorem Holds'.tt {Q:World->Prop} (h:Holds' T Q) (e:T=T':=by first | rfl | simp only [List.append_assoc,List.cons_append,List.nil_append,List.append_nil]):Holds' T' Q:=e ▸ h
theorem ok3 {x:SV} (h1:Holds' T fun w=>VL w (.slice x.pj x.lj.length x.cj) x.lj) (h2:Holds' T fun w=>Vw fN w (.slice x.pc x.lc.length x.cc) x.lc) (h3:Holds' T fun w=>PL w (.slice x.pp x.lp.length x.cp) x.lp):Holds' T x.ok:=fun X w₀ w hO=>⟨h1 X w₀ w hO,h2 X w₀ w hO,h3 X w₀ w hO⟩
def bare (l:List PV):Prop:=∀ x∈l,x.p=none/\x.c=0/\x.d.data=[]
theorem bare_vp (h:bare l) (w:World) : ∀ x∈l,VP w x:=fun x hx=>by
  obtain ⟨h1,h2,h3⟩:=h x hx
  unfold VP
  rw [h1,h2,h3]
  exact ⟨.inl ⟨rfl,rfl⟩,fun x h=>absurd h List.not_mem_nil⟩
theorem bare_one (a b c d:Int):bare [⟨none,0,⟨a,b,c,d,[]⟩⟩]:=fun x hx=>by rw [List.mem_singleton.1 hx]; exact ⟨rfl,rfl,rfl⟩
theorem pl_app (h:Holds' T fun w=>Vw fP w v (l1++l2)) (h1:Holds' T fun w=>∀ x∈l1,VP w x) (h2:Holds' T fun w=>∀ x∈l2,VP w x):Holds' T fun w=>PL w v (l1++l2):=fun X w₀ w hO =>
  ⟨h X w₀ w hO,fun x hx=>(List.mem_append.1 hx).elim (h1 X w₀ w hO x) (h2 X w₀ w hO x)⟩
theorem vp_one {x:PV} (h:Holds' T fun w=>Vw fB w (.slice x.p x.d.data.length x.c) x.d.data) (hu:U8s x.d.data):Holds' T fun w=>∀ y∈[x],VP w y:=fun X w₀ w hO y hy=>by
  rw [List.mem_singleton.1 hy]; exact ⟨h X w₀ w hO,hu⟩
end
theorem _root_.Go.Proofs.Sx.One.le {α:Type} {f : α->List Value} {e:TypeId} {sz:Nat} {p:Option Addr} {c:Nat} {l:List α} {T:OwL} (h:One f e sz p c l T):l.length<=c:=by
  rcases h with ⟨_,rfl,rfl,_⟩ | ⟨b,r,_,h1,_⟩
  · exact Nat.le_refl _
  · exact h1
theorem closes_step {l:List Int} {i:Nat} {v:Int} (hx:l[i]? = some v):closesL (l.take (i+1))=closesL (l.take i)++(if 0<=v then [callL 8 v 0] else []):=by
  unfold closesL
  rw [List.take_add_one,hx,List.filter_append,List.map_append]
  congr 1
  by_cases h : 0<=v
  · rw [if_pos h]; simp [h]
  · rw [if_neg h]; simp [h]
theorem closes_yes {l:List Int} {i:Nat} {v:Int} {q r:List PV} {p:Option Addr} {c:Nat} (h:q.map PV.d=r.map PV.d++closesL (l.take i)) (hx:l[i]? = some v) (hv:v ≥ 0):(q++[(⟨p,c,⟨8,v,0,0,[]⟩⟩:PV)]).map PV.d=r.map PV.d++closesL (l.take (i+1)):=by
  rw [closes_step hx,if_pos (show 0<=v from hv),List.map_append,h,List.append_assoc]; rfl
theorem closes_no {l:List Int} {i:Nat} {v:Int} {q r:List PV} (h:q.map PV.d=r.map PV.d++closesL (l.take i)) (hx:l[i]? = some v) (hv : ¬ v ≥ 0):q.map PV.d=r.map PV.d++closesL (l.take (i+1)):=by
  rw [closes_step hx,if_neg (show ¬ 0<=v from hv),List.append_nil,h]
theorem closes_end {l:List Int} {i:Nat} {q r:List PV} (h:q.map PV.d=r.map PV.d++closesL (l.take i)) (hi : ¬ i < l.length):q.map PV.d=r.map PV.d++closesL l:=by rwa [List.take_of_length_le (by omega)] at h
theorem atIx_two (ad:Addr):atIx ad 2 1=ad.add 2:=by rw [atIx_eq]; rfl
theorem atIx_five (ad:Addr):atIx ad 5 1=ad.add 5:=by rw [atIx_eq]; rfl
theorem vl_tail {w:World} {ad:Addr} {x:JV} {r:List JV} {m c c':Nat} (h:VL w (.slice (some ad) m c) (x::r)):VL w (.slice (some (ad.add 2)) r.length c') r:=⟨Vw.tail encJ h.1,fun y hy=>h.2 y (List.mem_cons_of_mem _ hy)⟩
theorem pl_tail {w:World} {ad:Addr} {x:PV} {r:List PV} {m c c':Nat} (h:PL w (.slice (some ad) m c) (x::r)):PL w (.slice (some (ad.add 5)) r.length c') r:=⟨Vw.tail encP h.1,fun y hy=>h.2 y (List.mem_cons_of_mem _ hy)⟩
end Go.Proofs.YtdljjajjonfjbaaDoor
namespace Go.Proofs.YtdljjajjonfjbaaDoor
open Go Go.Shelf Go.RowKit Go.Proofs Go.Proofs.Sx
theorem telling_any (w:World) :
    Calls Tryd.prog 45 #[] w fun e w'=>∃ p c T,e = .returned (.agg #[i64 10,i64 2,i64 0,i64 0,.slice p ([63,10]:List Int).length c])/\One fB 5 1 p c [63,10] T/\Ow Tryd.prog none' w w' T:=by
 refine c_enter (args:=[]) (m:=5) (n:=5) Tryd.func45 rfl (by kernel_rfl) (by kernel_rfl) fun fr hA=>?_
 have hO:=Ow.nil Tryd.prog none' w
 refine sr 1 ?_
 refine Mn [i64 0,i64 0,i64 0,i64 0,.slice none 0 0] 35 0 hA hO fun fr w1 b1 hA hO=>?_
 refine end_ops ?_
 refine then_normal ?_
 refine sr 5 ?_
 refine Ka 1 [(1,.agg #[i64 2,i64 0,i64 0])] hA fun fr hA=>?_
 refine Mv [u8 63,u8 10] 5 2 2 hA hO fun fr w2 b2 hA hO=>?_
 refine wpOps_cons' (mV (L:=[(b2,5,[u8 63,u8 10]),(b1,35,[i64 0,i64 0,i64 0,i64 0,.slice none 0 0])]) (t:=33) (el:=5) (off:=0) (m:=2) (c:=2) (d:=3) 0 hA hO fun fr w3 hA hO=>?_)
 refine Ka 1 [(4,.agg #[i64 10,i64 2,i64 0,i64 0,.slice (some ⟨b2,0,none⟩) 2 2])] hA fun fr hA=>?_
 refine Ms 0 [i64 10,i64 2,i64 0,i64 0,.slice (some ⟨b2,0,none⟩) 2 2] 1 hA hO fun w4 hO=>?_
 refine end_ops ?_
 refine then_normal ?_
 refine wp_ret ?_
 refine cR (cs:=[some (⟨b1,0,none⟩,35)]) (us:=[.agg #[i64 10,i64 2,i64 0,i64 0,.slice (some ⟨b2,0,none⟩) 2 2]]) hA [.agg #[i64 10,i64 2,i64 0,i64 0,.slice (some ⟨b2,0,none⟩) 2 2]] ⟨(hO.ln 1 0 35 [i64 10,i64 2,i64 0,i64 0,.slice (some ⟨b2,0,none⟩) 2 2]),trivial⟩ ?_
 have hT1:One fB 5 1 (some ⟨b2,0,none⟩) 2 [63,10] [(b2,5,[u8 63,u8 10])]:=One.ofBlk (r:=[]) (by kernel_rfl) (by first | decide | simp) (by decide) (by kernel_rfl)
 replace hO:=Ow.move (A:=[]) (B:=[(b1,35,[i64 10,i64 2,i64 0,i64 0,.slice (some ⟨b2,0,none⟩) 2 2])]) (C:=[]) (x:=(b2,5,[u8 63,u8 10])) hO
 exact ⟨_,_,_,rfl,hT1,((Ow.subP (A:=[_]) hO (.cons _ .slnil))).to (by simp only [List.nil_append,List.append_nil])⟩
theorem tell_u8:U8s [63,10]:=U8s.cons (inK_u8 (by decide) (by decide)) (U8s.cons (inK_u8 (by decide) (by decide)) U8s.nil)
theorem plan_any (pb:Nat) (mo po:Int) (inp:ByteArray) (pj:Option Addr) (kj:Nat) (lj:List JV) (rd wr pv:Int) (pn:Option Addr) (kn:Nat) (ln:List Int) (pp:Option Addr) (kp:Nat) (lp:List PV) (x:PV) (al:Addr) (cl:Nat) (w:World) (h0:Ow Tryd.prog (inT [(pb,31,cS mo po inp pj lj.length kj rd wr pv pn ln.length kn pp lp.length kp)]) w w [(pb,31,cS mo po inp pj lj.length kj rd wr pv pn ln.length kn pp lp.length kp)]) (hvp : ∀ w',Only (inT [(pb,31,cS mo po inp pj lj.length kj rd wr pv pn ln.length kn pp lp.length kp)]) w w'->Vw fP w' (.slice pp lp.length kp) lp) (hvl : ∀ w',Only (inT [(pb,31,cS mo po inp pj lj.length kj rd wr pv pn ln.length kn pp lp.length kp)]) w w'->Vw fP w' (.slice (some al) 1 cl) [x]) (hlp:lp.length<=1000000) :
    Calls Tryd.prog 44 #[pt pb,.slice (some al) 1 cl] w fun e w'=>e = .returned (.tuple #[])/\∃ p' c' Tn,One fP 35 5 p' c' (lp++[x]) Tn/\Ow Tryd.prog (inT [(pb,31,cS mo po inp pj lj.length kj rd wr pv pn ln.length kn pp lp.length kp)]) w w' ([(pb,31,cS mo po inp pj lj.length kj rd wr pv pn ln.length kn p' ((lp++[x]).length) c')]++Tn):=by
 refine c_enter (args:=[pt pb,.slice (some al) 1 cl]) (m:=12) (n:=14) Tryd.func44 rfl (by kernel_rfl) (by kernel_rfl) fun fr hA=>?_
 generalize inT [(pb,31,cS mo po inp pj lj.length kj rd wr pv pn ln.length kn pp lp.length kp)]=M at *
 have hO:Ow Tryd.prog M w w [(pb,31,(cS mo po inp pj lj.length kj rd wr pv pn ln.length kn pp lp.length kp))]:=h0.to (by first | rfl | first | rfl | (simp only [TP,apd]))
 refine rr 11 ?_
 refine Kb 5 [(4,pt pb),(8,.slice pp lp.length kp)] hA [.slice pp lp.length kp] (cc (hO.l1 0 8 29 (.slice pp lp.length kp)) c0) fun fr hA=>?_
 refine wpOps_cons' (mC (d:=(some 9)) hA Tryd.func25 ((clonep_any pp kp lp _ (hvp _ hO.only) (by omega)).mono ?_))
 rintro en w1 ⟨p1,c1,T1,rfl,hT1,hW⟩
 refine ⟨_,rfl,?_⟩
 clear hA fr; intro fr hA
 replace hO:Ow Tryd.prog M w _ ([(pb,31,(cS mo po inp pj lj.length kj rd wr pv pn ln.length kn pp lp.length kp))]++[]):=hO.to (List.append_nil _).symm
 replace hO:=Ow.join hO hW; clear hW
 replace hO:Ow Tryd.prog M w _ ([(pb,31,(cS mo po inp pj lj.length kj rd wr pv pn ln.length kn pp lp.length kp))]++(T1++([]))):=hO.to (by first | rfl | (simp only [TP,apd]))
 refine Ka 1 [(10,.slice (some al) 1 cl)] hA fun fr hA=>?_
 replace hO:Ow Tryd.prog M w w1 ([(pb,31,(cS mo po inp pj lj.length kj rd wr pv pn ln.length kn pp lp.length kp))]++(T1++([]))):=hO
 refine wpOps_cons' (mA (f:=fP) (el:=35) (sz:=5) (bytes:=56) (p:=p1) (c:=c1) (l:=lp) (l':=[x]) (T:=T1) (t:=29) (tx:=29) (ty:=29) (x:= .slice (some al) 1 cl) (d:=11) [(pb,31,(cS mo po inp pj lj.length kj rd wr pv pn ln.length kn pp lp.length kp))] ([]) encP hA hO hT1 (Vw.src (e':=35) encP (hvl _ hO.only) (by kernel_rfl)) (by first | omega | (simp only [List.length_append,List.length_cons,List.length_nil]; omega)) (by unfold maxLen; first | omega | (simp only [List.length_append,List.length_cons,List.length_nil]; omega)) fun fr w2 p2 c2 T2 hA hO hT2=>?_)
 refine Ka 2 [(13,pf pb 8)] hA fun fr hA=>?_
 refine Ms 8 [.slice p2 ((lp++([x])).length) c2] 0 hA hO fun w3 hO=>?_
 refine end_ops ?_
 refine c_end ?_
 refine cv [] hA ?_
 replace hO:Ow Tryd.prog M w w3 ([(pb,31,(cS mo po inp pj lj.length kj rd wr pv pn ln.length kn p2 ((lp++([x])).length) c2))]++(T2++([]))):=hO
 exact ⟨rfl,_,_,_,hT2,(hO).to (by simp only [List.append_nil])⟩
end Go.Proofs.YtdljjajjonfjbaaDoor
