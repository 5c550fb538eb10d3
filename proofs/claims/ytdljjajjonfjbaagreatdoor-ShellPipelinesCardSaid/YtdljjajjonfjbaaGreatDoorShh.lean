import Derived.Test.YtdljjajjonfjbaaGreatDoorShc
import Derived.Test.YtdljjajjonfjbaaGreatDoorSn
import Derived.Shelf.Pu.ParseUintPublic10
import Derived.Test.YtdljjajjonfjbaaGreatDoorParsf
set_option linter.unusedVariables false
set_option linter.unusedSimpArgs false
set_option maxRecDepth 10000
open Go.Proofs.Tryz renaming prog->sA
open Go.Ending renaming returned->sB
open List renaming length_append->sD,length_cons->sE,length_nil->sF,length_map->sG,append_assoc->sH,mem_cons_self->sK,not_mem_nil->sL,mem_singleton->sM,append_nil->sN,nil_append->sO,mem_cons_of_mem->sP
open Nat renaming zero_lt_succ->sU
open Bool renaming and_eq_true->sV
namespace Go.Proofs.YtdljjajjonfjbaaGreatDoor
open Go Go.Shelf Go.RowKit Go.Proofs Go.Proofs.Sx
theorem Vd (ad:Addr) (c:Nat) (l:List Int) (w:World) (hv:Vw fB w (.slice (some ad) l.length c) l) (hl:l.length<=1000000) (hu:U8s l) :
 Calls sA 31 #[.slice (some ad) l.length c] w fun e w'=>∃ p' c' T,e = .returned (.slice p' l.length c')/\One fB 5 1 p' c' l T/\Ow sA Ai w w' T:=by
 refine Ao (args:=[.slice (some ad) l.length c]) (m:=7) (n:=8) Tryz.func31 rfl (by kernel_rfl) (by kernel_rfl) fun J V=>?_;have O:=Ow.nil sA Ai w;refine Sa [(2,.slice none 0 0)] V fun J V=>wp_seq (Sa [(4,I false)] V fun J V=>cF V (wp_skip (Aa (sr 4 (Mv [] 5 0 5 V O fun J w1 b1 V O=>Ka 1 [(6,.slice (some ad) l.length c)] V fun J V=>?_)))));have hT1:One fB 5 1 (some ⟨b1,0,none⟩) 0 [] [(b1,5,[])]:=One.ofBlk (r:=[]) (by kernel_rfl) (by first | decide | simp) (by decide) (by kernel_rfl);replace O:=Ow.move (A:=[]) (B:=[]) (C:=[]) (x:=(b1,5,[])) O;refine Ag (mA (f:=fB) (el:=5) (sz:=1) (bytes:=1) (p:=some ⟨b1,0,none⟩) (c:=0) (l:=[]) (l':=l) (T:=[(b1,5,[])]) (t:=41) (tx:=41) (ty:=41) (x:= .slice (some ad) l.length c) (d:=7) [] ([]) U1 V O hT1 (Vw.src (e':=5) U1 (hv.keep O.only) (by kernel_rfl)) (by first | omega | (simp only [sD,sE,sF]; omega)) (by unfold maxLen; first | omega | (simp only [sD,sE,sF]; omega)) fun J w2 p1 c1 T2 V O hT2=>?_);have huT2:U8s (([])++l):=(U8s.app U8s.nil hu);rw [show (([])++l)=l from sO _] at V hT2 huT2;exact Ka 1 [(2,.slice p1 l.length c1)] V fun J V=>Ab (Aa (wp_ret (cv [.slice p1 l.length c1] V (⟨_,_,_,rfl,hT2,(O).to (by simp only [sO,sN])⟩))))
theorem Ve (w:World) :
 Calls sA 31 #[.slice none 0 0] w fun e w'=>e = .returned (.slice none 0 0)/\Only Ai w w':=by
 refine Ao (args:=[.slice none 0 0]) (m:=7) (n:=8) Tryz.func31 rfl (by kernel_rfl) (by kernel_rfl) fun J V=>?_;have O:=Ow.nil sA Ai w;refine Sa [(2,.slice none 0 0)] V fun J V=>wp_seq (Sa [(4,I true)] V fun J V=>cT V (Sa [] V fun J V=>wp_ret (Ad (cv [.slice none 0 0] V ?_))));have hF:=O.only; clear V O;exact ⟨rfl,hF⟩
theorem O3 (p:Option Addr) (c:Nat) (l:List Int) (w:World) (hv:Vw fB w (.slice p l.length c) l) (hl:l.length<=1000000) (hu:U8s l):Calls sA 31 #[.slice p l.length c] w fun e w'=>∃ p' c' T,e = .returned (.slice p' l.length c')/\One fB 5 1 p' c' l T/\Ow sA Ai w w' T:=by
 rcases hv with ⟨h,rfl⟩ | ⟨ad,cap,h,hc⟩
 · cases h;exact (Ve w).mono fun e w' h=>⟨none,0,[],h.1,One.nil _ _ _,(Ow.nil sA Ai w).st h.2⟩
 cases h;exact Vd ad c l w (.inr ⟨ad,c,rfl,hc⟩) hl hu
theorem Vb (ad:Addr) (c:Nat) (l:List Int) (w:World) (hv:Vw fN w (.slice (some ad) l.length c) l) (hl:l.length<=1000000) :
 Calls sA 58 #[.slice (some ad) l.length c] w fun e w'=>∃ p' c' T,e = .returned (.slice p' l.length c')/\One fN 3 1 p' c' l T/\Ow sA Ai w w' T:=by
 refine Ao (args:=[.slice (some ad) l.length c]) (m:=7) (n:=8) Tryz.func58 rfl (by kernel_rfl) (by kernel_rfl) fun J V=>?_;have O:=Ow.nil sA Ai w;refine Sa [(2,.slice none 0 0)] V fun J V=>wp_seq (Sa [(4,I false)] V fun J V=>cF V (wp_skip (Aa (sr 4 (Mv [] 3 0 5 V O fun J w1 b1 V O=>Ka 1 [(6,.slice (some ad) l.length c)] V fun J V=>?_)))));have hT1:One fN 3 1 (some ⟨b1,0,none⟩) 0 ([]:List Int) [(b1,3,[])]:=One.ofBlk (r:=[]) (by kernel_rfl) (by first | decide | simp) (by decide) (by kernel_rfl);replace O:=Ow.move (A:=[]) (B:=[]) (C:=[]) (x:=(b1,3,[])) O;refine Ag (mA (f:=fN) (el:=3) (sz:=1) (bytes:=8) (p:=some ⟨b1,0,none⟩) (c:=0) (l:=([]:List Int)) (l':=l) (T:=[(b1,3,[])]) (t:=33) (tx:=33) (ty:=33) (x:= .slice (some ad) l.length c) (d:=7) [] ([]) Fg V O hT1 (Vw.src (e':=3) Fg (hv.keep O.only) (by kernel_rfl)) (by first | omega | (simp only [sD,sE,sF]; omega)) (by unfold maxLen; first | omega | (simp only [sD,sE,sF]; omega)) fun J w2 p1 c1 T2 V O hT2=>?_);rw [show (([]:List Int)++l)=l from sO _] at V hT2;exact Ka 1 [(2,.slice p1 l.length c1)] V fun J V=>Ab (Aa (wp_ret (cv [.slice p1 l.length c1] V (⟨_,_,_,rfl,hT2,(O).to (by simp only [sO,sN])⟩))))
theorem Vc (w:World) :
 Calls sA 58 #[.slice none 0 0] w fun e w'=>e = .returned (.slice none 0 0)/\Only Ai w w':=by
 refine Ao (args:=[.slice none 0 0]) (m:=7) (n:=8) Tryz.func58 rfl (by kernel_rfl) (by kernel_rfl) fun J V=>?_;have O:=Ow.nil sA Ai w;refine Sa [(2,.slice none 0 0)] V fun J V=>wp_seq (Sa [(4,I true)] V fun J V=>cT V (Sa [] V fun J V=>wp_ret (Ad (cv [.slice none 0 0] V ?_))));have hF:=O.only; clear V O;exact ⟨rfl,hF⟩
theorem Hi (p:Option Addr) (c:Nat) (l:List Int) (w:World) (hv:Vw fN w (.slice p l.length c) l) (hl:l.length<=1000000):Calls sA 58 #[.slice p l.length c] w fun e w'=>∃ p' c' T,e = .returned (.slice p' l.length c')/\One fN 3 1 p' c' l T/\Ow sA Ai w w' T:=by
 rcases hv with ⟨h,rfl⟩ | ⟨ad,cap,h,hc⟩
 · cases h;exact (Vc w).mono fun e w' h=>⟨none,0,[],h.1,One.nil _ _ _,(Ow.nil sA Ai w).st h.2⟩
 cases h;exact Vb ad c l w (.inr ⟨ad,c,rfl,hc⟩) hl
theorem U9 (ad:Addr) (c:Nat) (l:List PV) (w:World) (hv:Vw fP w (.slice (some ad) l.length c) l) (hl:l.length<=1000000) :
 Calls sA 59 #[.slice (some ad) l.length c] w fun e w'=>∃ p' c' T,e = .returned (.slice p' l.length c')/\One fP 43 5 p' c' l T/\Ow sA Ai w w' T:=by
 refine Ao (args:=[.slice (some ad) l.length c]) (m:=7) (n:=8) Tryz.func59 rfl (by kernel_rfl) (by kernel_rfl) fun J V=>?_;have O:=Ow.nil sA Ai w;refine Sa [(2,.slice none 0 0)] V fun J V=>wp_seq (Sa [(4,I false)] V fun J V=>cF V (wp_skip (Aa (sr 4 (Mv [] 43 0 5 V O fun J w1 b1 V O=>Ka 1 [(6,.slice (some ad) l.length c)] V fun J V=>?_)))));have hT1:One fP 43 5 (some ⟨b1,0,none⟩) 0 ([]:List PV) [(b1,43,[])]:=One.ofBlk (r:=[]) (by kernel_rfl) (by first | decide | simp) (by decide) (by kernel_rfl);replace O:=Ow.move (A:=[]) (B:=[]) (C:=[]) (x:=(b1,43,[])) O;refine Ag (mA (f:=fP) (el:=43) (sz:=5) (bytes:=56) (p:=some ⟨b1,0,none⟩) (c:=0) (l:=([]:List PV)) (l':=l) (T:=[(b1,43,[])]) (t:=37) (tx:=37) (ty:=37) (x:= .slice (some ad) l.length c) (d:=7) [] ([]) De V O hT1 (Vw.src (e':=43) De (hv.keep O.only) (by kernel_rfl)) (by first | omega | (simp only [sD,sE,sF]; omega)) (by unfold maxLen; first | omega | (simp only [sD,sE,sF]; omega)) fun J w2 p1 c1 T2 V O hT2=>?_);rw [show (([]:List PV)++l)=l from sO _] at V hT2;exact Ka 1 [(2,.slice p1 l.length c1)] V fun J V=>Ab (Aa (wp_ret (cv [.slice p1 l.length c1] V (⟨_,_,_,rfl,hT2,(O).to (by simp only [sO,sN])⟩))))
theorem Va (w:World) :
 Calls sA 59 #[.slice none 0 0] w fun e w'=>e = .returned (.slice none 0 0)/\Only Ai w w':=by
 refine Ao (args:=[.slice none 0 0]) (m:=7) (n:=8) Tryz.func59 rfl (by kernel_rfl) (by kernel_rfl) fun J V=>?_;have O:=Ow.nil sA Ai w;refine Sa [(2,.slice none 0 0)] V fun J V=>wp_seq (Sa [(4,I true)] V fun J V=>cT V (Sa [] V fun J V=>wp_ret (Ad (cv [.slice none 0 0] V ?_))));have hF:=O.only; clear V O;exact ⟨rfl,hF⟩
theorem F4 (p:Option Addr) (c:Nat) (l:List PV) (w:World) (hv:Vw fP w (.slice p l.length c) l) (hl:l.length<=1000000):Calls sA 59 #[.slice p l.length c] w fun e w'=>∃ p' c' T,e = .returned (.slice p' l.length c')/\One fP 43 5 p' c' l T/\Ow sA Ai w w' T:=by
 rcases hv with ⟨h,rfl⟩ | ⟨ad,cap,h,hc⟩
 · cases h;exact (Va w).mono fun e w' h=>⟨none,0,[],h.1,One.nil _ _ _,(Ow.nil sA Ai w).st h.2⟩
 cases h;exact U9 ad c l w (.inr ⟨ad,c,rfl,hc⟩) hl
theorem U7 (ad:Addr) (c:Nat) (l:List ByteArray) (w:World) (hv:Vw fT w (.slice (some ad) l.length c) l) (hl:l.length<=1000000) :
 Calls sA 60 #[.slice (some ad) l.length c] w fun e w'=>∃ p' c' T,e = .returned (.slice p' l.length c')/\One fT 9 1 p' c' l T/\Ow sA Ai w w' T:=by
 refine Ao (args:=[.slice (some ad) l.length c]) (m:=7) (n:=8) Tryz.func60 rfl (by kernel_rfl) (by kernel_rfl) fun J V=>?_;have O:=Ow.nil sA Ai w;refine Sa [(2,.slice none 0 0)] V fun J V=>wp_seq (Sa [(4,I false)] V fun J V=>cF V (wp_skip (Aa (sr 4 (Mv [] 9 0 5 V O fun J w1 b1 V O=>Ka 1 [(6,.slice (some ad) l.length c)] V fun J V=>?_)))));have hT1:One fT 9 1 (some ⟨b1,0,none⟩) 0 ([]:List ByteArray) [(b1,9,[])]:=One.ofBlk (r:=[]) (by kernel_rfl) (by first | decide | simp) (by decide) (by kernel_rfl);replace O:=Ow.move (A:=[]) (B:=[]) (C:=[]) (x:=(b1,9,[])) O;refine Ag (mA (f:=fT) (el:=9) (sz:=1) (bytes:=16) (p:=some ⟨b1,0,none⟩) (c:=0) (l:=([]:List ByteArray)) (l':=l) (T:=[(b1,9,[])]) (t:=30) (tx:=30) (ty:=30) (x:= .slice (some ad) l.length c) (d:=7) [] ([]) Jn V O hT1 (Vw.src (e':=9) Jn (hv.keep O.only) (by kernel_rfl)) (by first | omega | (simp only [sD,sE,sF]; omega)) (by unfold maxLen; first | omega | (simp only [sD,sE,sF]; omega)) fun J w2 p1 c1 T2 V O hT2=>?_);rw [show (([]:List ByteArray)++l)=l from sO _] at V hT2;exact Ka 1 [(2,.slice p1 l.length c1)] V fun J V=>Ab (Aa (wp_ret (cv [.slice p1 l.length c1] V (⟨_,_,_,rfl,hT2,(O).to (by simp only [sO,sN])⟩))))
theorem U8 (w:World) :
 Calls sA 60 #[.slice none 0 0] w fun e w'=>e = .returned (.slice none 0 0)/\Only Ai w w':=by
 refine Ao (args:=[.slice none 0 0]) (m:=7) (n:=8) Tryz.func60 rfl (by kernel_rfl) (by kernel_rfl) fun J V=>?_;have O:=Ow.nil sA Ai w;refine Sa [(2,.slice none 0 0)] V fun J V=>wp_seq (Sa [(4,I true)] V fun J V=>cT V (Sa [] V fun J V=>wp_ret (Ad (cv [.slice none 0 0] V ?_))));have hF:=O.only; clear V O;exact ⟨rfl,hF⟩
theorem Ya (p:Option Addr) (c:Nat) (l:List ByteArray) (w:World) (hv:Vw fT w (.slice p l.length c) l) (hl:l.length<=1000000):Calls sA 60 #[.slice p l.length c] w fun e w'=>∃ p' c' T,e = .returned (.slice p' l.length c')/\One fT 9 1 p' c' l T/\Ow sA Ai w w' T:=by
 rcases hv with ⟨h,rfl⟩ | ⟨ad,cap,h,hc⟩
 · cases h;exact (U8 w).mono fun e w' h=>⟨none,0,[],h.1,One.nil _ _ _,(Ow.nil sA Ai w).st h.2⟩
 cases h;exact U7 ad c l w (.inr ⟨ad,c,rfl,hc⟩) hl
open Go Go.RowKit Go.Proofs.Sx
section
variable {P:Program} {X:Nat->Prop} {w₀ w w':World} {A B T Tn:OwL} {x x':Nat×TypeId×List Value}
theorem Cm (h:Ow P X w₀ w ((A++[x])++(T++B))):Ow P (inT (x::T)) w w (x::T) :=
 Ow.self (A:=A) (T:=x::T) (B:=B) (h.to (by simp only [sH,List.cons_append,sO]))
theorem Cx (h:Ow P X w₀ w ((A++[x])++(T++B))) (h':Ow P (inT (x::T)) w w' (x'::(T++Tn))):Ow P X w₀ w' ((A++[x'])++(T++(Tn++B))) :=
 (Ow.pass (A:=A) (T:=x::T) (B:=B) (T':=x'::(T++Tn)) (h.to (by simp only [sH,List.cons_append,sO])) h').to (by simp only [sH,List.cons_append,sO])
theorem Tt (h:Ow P X w₀ w ((A++[x])++(T++B))) (k:Only (inT [x]) w w'):Ow P X w₀ w' (A++(T++B)) :=
 Ow.pan3 (A:=A) (T:=[x]) (B:=T++B) (h.to (by simp only [sH,List.cons_append,sO])) k
theorem N8 (h:Ow P X w₀ w ((A++[x])++(T++B))) (k:Only (inT (x::T)) w w'):Ow P X w₀ w' (A++B) :=
 Ow.pan3 (A:=A) (T:=x::T) (B:=B) (h.to (by simp only [sH,List.cons_append,sO])) k
theorem Zb {Q:World->Prop} (hT:Ah T Q) (h:Ow P X w₀ w ((A++[x])++(T++B))) : ∀ w',Only (inT [x]) w w'->Q w':=fun w' k=>hT.at (Tt h k).m
theorem fE {C:OwL} (h:Ow P X w₀ w (A++(x::(B++C)))):Ow P X w₀ w (A++(B++(C++[x]))):=by
 refine (h.m.perm (List.Perm.append_left A ?_)).o
 rw [← sH]
 exact (List.perm_append_singleton x (B++C)).symm
end
section
variable {T T':OwL} {l l1 l2:List PV} {v:Value}
theorem Ah.sub {Q:World->Prop} (h:Ah T Q) (s:T.Sublist T'):Ah T' Q:=fun X w₀ w O=>h X w₀ w (O.less s)
theorem Ah.to {Q:World->Prop} (h:Ah T Q) (e:T=T'):Ah T' Q:=e ▸ h
theorem Ah.tt {Q:World->Prop} (h:Ah T Q) (e:T=T':=by first | rfl | simp only [List.append_assoc,List.cons_append,List.nil_append,List.append_nil]):Ah T' Q:=e ▸ h
theorem ok3 {x:SV} (h1:Ah T fun w=>VL w (.slice x.pj x.lj.length x.cj) x.lj) (h2:Ah T fun w=>Vw fN w (.slice x.pc x.lc.length x.cc) x.lc) (h3:Ah T fun w=>PL w (.slice x.pp x.lp.length x.cp) x.lp):Ah T x.ok:=fun X w₀ w O=>⟨h1 X w₀ w O,h2 X w₀ w O,h3 X w₀ w O⟩
def bare (l:List PV):Prop:=∀ x∈l,x.p=none/\x.c=0/\x.d.data=[]
theorem Ce (h:bare l) (w:World) : ∀ x∈l,VP w x:=fun x hx=>by
 obtain ⟨h1,h2,h3⟩:=h x hx
 unfold VP
 rw [h1,h2,h3]
 exact ⟨.inl ⟨rfl,rfl⟩,fun x h=>absurd h sL⟩
theorem B5 (a b c d:Int):bare [⟨none,0,⟨a,b,c,d,[]⟩⟩]:=fun x hx=>by rw [sM.1 hx]; exact ⟨rfl,rfl,rfl⟩
theorem N1 (h:Ah T fun w=>Vw fP w v (l1++l2)) (h1:Ah T fun w=>∀ x∈l1,VP w x) (h2:Ah T fun w=>∀ x∈l2,VP w x):Ah T fun w=>PL w v (l1++l2):=fun X w₀ w O =>
 ⟨h X w₀ w O,fun x hx=>(List.mem_append.1 hx).elim (h1 X w₀ w O x) (h2 X w₀ w O x)⟩
theorem Hq {x:PV} (h:Ah T fun w=>Vw fB w (.slice x.p x.d.data.length x.c) x.d.data) (hu:U8s x.d.data):Ah T fun w=>∀ y∈[x],VP w y:=fun X w₀ w O y hy=>by
 rw [sM.1 hy]; exact ⟨h X w₀ w O,hu⟩
end
theorem _root_.Go.Proofs.Sx.One.le {α:Type} {f : α->List Value} {e:TypeId} {sz:Nat} {p:Option Addr} {c:Nat} {l:List α} {T:OwL} (h:One f e sz p c l T):l.length<=c:=by
 rcases h with ⟨_,rfl,rfl,_⟩ | ⟨b,r,_,h1,_⟩
 · exact Nat.le_refl _
 · exact h1
theorem Mq {l:List Int} {i:Nat} {v:Int} (hx:l[i]? = some v):Bh (l.take (i+1))=Bh (l.take i)++(if 0<=v then [Ap 8 v 0] else []):=by
 unfold Bh
 rw [List.take_add_one,hx,List.filter_append,List.map_append]
 congr 1
 by_cases h : 0<=v
 · rw [if_pos h]; simp [h]
 · rw [if_neg h]; simp [h]
theorem X8 {l:List Int} {i:Nat} {v:Int} {q r:List PV} {p:Option Addr} {c:Nat} (h:q.map PV.d=r.map PV.d++Bh (l.take i)) (hx:l[i]? = some v) (hv:v ≥ 0):(q++[(⟨p,c,⟨8,v,0,0,[]⟩⟩:PV)]).map PV.d=r.map PV.d++Bh (l.take (i+1)):=by
 rw [Mq hx,if_pos (show 0<=v from hv),List.map_append,h,sH]; rfl
theorem cJ {l:List Int} {i:Nat} {v:Int} {q r:List PV} (h:q.map PV.d=r.map PV.d++Bh (l.take i)) (hx:l[i]? = some v) (hv : ¬ v ≥ 0):q.map PV.d=r.map PV.d++Bh (l.take (i+1)):=by
 rw [Mq hx,if_neg (show ¬ 0<=v from hv),sN,h]
theorem X9 {l:List Int} {i:Nat} {q r:List PV} (h:q.map PV.d=r.map PV.d++Bh (l.take i)) (hi : ¬ i < l.length):q.map PV.d=r.map PV.d++Bh l:=by rwa [List.take_of_length_le (by omega)] at h
theorem jA (ad:Addr):E1 ad 2 1=ad.add 2:=by rw [Hj]; rfl
theorem Qt (ad:Addr):E1 ad 5 1=ad.add 5:=by rw [Hj]; rfl
theorem jQ {w:World} {ad:Addr} {x:JV} {r:List JV} {m c c':Nat} (h:VL w (.slice (some ad) m c) (x::r)):VL w (.slice (some (ad.add 2)) r.length c') r:=⟨Vw.tail Ec h.1,fun y hy=>h.2 y (sP _ hy)⟩
theorem M7 {w:World} {ad:Addr} {x:PV} {r:List PV} {m c c':Nat} (h:PL w (.slice (some ad) m c) (x::r)):PL w (.slice (some (ad.add 5)) r.length c') r:=⟨Vw.tail De h.1,fun y hy=>h.2 y (sP _ hy)⟩
theorem F9 (w:World) :
 Calls sA 96 #[] w fun e w'=>∃ p c T,e = .returned (.agg #[Z 10,Z 2,Z 0,Z 0,.slice p ([63,10]:List Int).length c])/\One fB 5 1 p c [63,10] T/\Ow sA Ai w w' T:=by
 refine Ao (args:=[]) (m:=5) (n:=5) Tryz.func96 rfl (by kernel_rfl) (by kernel_rfl) fun J V=>?_;have O:=Ow.nil sA Ai w;refine sr 1 (Mn [Z 0,Z 0,Z 0,Z 0,.slice none 0 0] 43 0 V O fun J w1 b1 V O=>Ab (Aa (sr 5 (Ka 1 [(1,.agg #[Z 2,Z 0,Z 0])] V fun J V=>Mv [u8 63,u8 10] 5 2 2 V O fun J w2 b2 V O=>Ag (mV (L:=[(b2,5,[u8 63,u8 10]),(b1,43,[Z 0,Z 0,Z 0,Z 0,.slice none 0 0])]) (t:=41) (el:=5) (off:=0) (m:=2) (c:=2) (d:=3) 0 V O fun J w3 V O=>Ka 1 [(4,.agg #[Z 10,Z 2,Z 0,Z 0,.slice (some ⟨b2,0,none⟩) 2 2])] V fun J V=>Ms 0 [Z 10,Z 2,Z 0,Z 0,.slice (some ⟨b2,0,none⟩) 2 2] 1 V O fun w4 O=>Ab (Aa (wp_ret (cR (cs:=[some (⟨b1,0,none⟩,43)]) (us:=[.agg #[Z 10,Z 2,Z 0,Z 0,.slice (some ⟨b2,0,none⟩) 2 2]]) V [.agg #[Z 10,Z 2,Z 0,Z 0,.slice (some ⟨b2,0,none⟩) 2 2]] ⟨(O.ln 1 0 43 [Z 10,Z 2,Z 0,Z 0,.slice (some ⟨b2,0,none⟩) 2 2]),trivial⟩ ?_))))))));have hT1:One fB 5 1 (some ⟨b2,0,none⟩) 2 [63,10] [(b2,5,[u8 63,u8 10])]:=One.ofBlk (r:=[]) (by kernel_rfl) (by first | decide | simp) (by decide) (by kernel_rfl);replace O:=Ow.move (A:=[]) (B:=[(b1,43,[Z 10,Z 2,Z 0,Z 0,.slice (some ⟨b2,0,none⟩) 2 2])]) (C:=[]) (x:=(b2,5,[u8 63,u8 10])) O;exact ⟨_,_,_,rfl,hT1,((Ow.subP (A:=[_]) O (.cons _ .slnil))).to (by simp only [sO,sN])⟩
theorem H9:U8s [63,10]:=U8s.cons (H0 (by decide) (by decide)) (U8s.cons (H0 (by decide) (by decide)) U8s.nil)
theorem Kv (pb:Nat) (mo po:Int) (inp:ByteArray) (pj:Option Addr) (kj:Nat) (lj:List JV) (rd wr pv:Int) (pn:Option Addr) (kn:Nat) (ln:List Int) (pp:Option Addr) (kp:Nat) (lp:List PV) (x:PV) (al:Addr) (cl:Nat) (w:World) (h0:Ow sA (inT [(pb,39,cS mo po inp pj lj.length kj rd wr pv pn ln.length kn pp lp.length kp)]) w w [(pb,39,cS mo po inp pj lj.length kj rd wr pv pn ln.length kn pp lp.length kp)]) (hvp : ∀ w',Only (inT [(pb,39,cS mo po inp pj lj.length kj rd wr pv pn ln.length kn pp lp.length kp)]) w w'->Vw fP w' (.slice pp lp.length kp) lp) (hvl : ∀ w',Only (inT [(pb,39,cS mo po inp pj lj.length kj rd wr pv pn ln.length kn pp lp.length kp)]) w w'->Vw fP w' (.slice (some al) 1 cl) [x]) (hlp:lp.length<=1000000) :
 Calls sA 95 #[pt pb,.slice (some al) 1 cl] w fun e w'=>e = .returned (.tuple #[])/\∃ p' c' Tn,One fP 43 5 p' c' (lp++[x]) Tn/\Ow sA (inT [(pb,39,cS mo po inp pj lj.length kj rd wr pv pn ln.length kn pp lp.length kp)]) w w' ([(pb,39,cS mo po inp pj lj.length kj rd wr pv pn ln.length kn p' ((lp++[x]).length) c')]++Tn):=by
 refine Ao (args:=[pt pb,.slice (some al) 1 cl]) (m:=12) (n:=14) Tryz.func95 rfl (by kernel_rfl) (by kernel_rfl) fun J V=>?_;generalize inT [(pb,39,cS mo po inp pj lj.length kj rd wr pv pn ln.length kn pp lp.length kp)]=M at *;have O:Ow sA M w w [(pb,39,(cS mo po inp pj lj.length kj rd wr pv pn ln.length kn pp lp.length kp))]:=h0.to (by first | rfl | first | rfl | (simp only [TP,apd]));refine rr 11 (Kb 5 [(4,pt pb),(8,.slice pp lp.length kp)] V [.slice pp lp.length kp] (cc (O.l1 0 8 37 (.slice pp lp.length kp)) c0) fun J V=>Ag (mC (d:=(some 9)) V Tryz.func59 ((F4 pp kp lp _ (hvp _ O.only) (by omega)).mono ?_)));rintro en w1 ⟨p1,c1,T1,rfl,hT1,hW⟩;refine ⟨_,rfl,?_⟩;clear V J; intro J V;replace O:Ow sA M w _ ([(pb,39,(cS mo po inp pj lj.length kj rd wr pv pn ln.length kn pp lp.length kp))]++[]):=O.to (sN _).symm;replace O:=Ow.join O hW; clear hW;replace O:Ow sA M w _ ([(pb,39,(cS mo po inp pj lj.length kj rd wr pv pn ln.length kn pp lp.length kp))]++(T1++([]))):=O.to (by first | rfl | (simp only [TP,apd]));refine Ka 1 [(10,.slice (some al) 1 cl)] V fun J V=>?_;replace O:Ow sA M w w1 ([(pb,39,(cS mo po inp pj lj.length kj rd wr pv pn ln.length kn pp lp.length kp))]++(T1++([]))):=O
 refine Ag (mA (f:=fP) (el:=43) (sz:=5) (bytes:=56) (p:=p1) (c:=c1) (l:=lp) (l':=[x]) (T:=T1) (t:=37) (tx:=37) (ty:=37) (x:= .slice (some al) 1 cl) (d:=11) [(pb,39,(cS mo po inp pj lj.length kj rd wr pv pn ln.length kn pp lp.length kp))] ([]) De V O hT1 (Vw.src (e':=43) De (hvl _ O.only) (by kernel_rfl)) (by first | omega | (simp only [sD,sE,sF]; omega)) (by unfold maxLen; first | omega | (simp only [sD,sE,sF]; omega)) fun J w2 p2 c2 T2 V O hT2=>Ka 2 [(13,pf pb 8)] V fun J V=>Ms 8 [.slice p2 ((lp++([x])).length) c2] 0 V O fun w3 O=>Ab (Fq (cv [] V ?_)));replace O:Ow sA M w w3 ([(pb,39,(cS mo po inp pj lj.length kj rd wr pv pn ln.length kn p2 ((lp++([x])).length) c2))]++(T2++([]))):=O;exact ⟨rfl,_,_,_,hT2,(O).to (by simp only [sN])⟩
theorem Ut (pb:Nat) (mo po:Int) (inp:ByteArray) (aj:Addr) (kj:Nat) (xj:JV) (rj:List JV) (rd wr pv:Int) (pn:Option Addr) (kn:Nat) (ln:List Int) (pp:Option Addr) (kp:Nat) (lp:List PV)  (w:World) (h0:Ow sA (inT [(pb,39,cS mo po inp (some aj) ((xj::rj).length) kj rd wr pv pn ln.length kn pp lp.length kp)]) w w [(pb,39,cS mo po inp (some aj) ((xj::rj).length) kj rd wr pv pn ln.length kn pp lp.length kp)]) (hk:(xj::rj).length<=kj) (h1 : 1 < kj) :
 Calls sA 109 #[pt pb] w fun e w'=>e = .returned (.tuple #[])/\Ow sA (inT [(pb,39,cS mo po inp (some aj) ((xj::rj).length) kj rd wr pv pn ln.length kn pp lp.length kp)]) w w' [(pb,39,cS mo po inp (some (aj.add 2)) rj.length (kj - 1) rd wr pv pn ln.length kn pp lp.length kp)]:=by
 refine Ao (args:=[pt pb]) (m:=9) (n:=10) Tryz.func109 rfl (by kernel_rfl) (by kernel_rfl) fun J V=>?_;generalize inT [(pb,39,cS mo po inp (some aj) ((xj::rj).length) kj rd wr pv pn ln.length kn pp lp.length kp)]=M at *;have O:Ow sA M w w [(pb,39,(cS mo po inp (some aj) ((xj::rj).length) kj rd wr pv pn ln.length kn pp lp.length kp))]:=h0.to (by first | rfl | first | rfl | (simp only [TP,apd]));have hpos_:(1:Int)<=(((xj::rj).length:Nat):Int):=by rw [sE]; omega
 refine rr 9 (Kb 8 [(7,.slice (some (E1 (aj:Addr) 2 1)) (((xj::rj).length) - (1)) ((kj) - (1))),(9,pf pb 3)] V [.slice (some aj) ((xj::rj).length) kj,I true] (cc (O.l1 0 3 36 (.slice (some aj) ((xj::rj).length) kj)) (cc (⟨by omega,hpos_,by omega,by omega,by omega⟩:(0:Int)<=1/\(1:Int)<=(((xj::rj).length:Nat):Int)/\(((xj::rj).length:Nat):Int)<=((kj:Nat):Int)/\((kj:Nat):Int)<=((kj:Nat):Int)/\(1:Int) < ((kj:Nat):Int)) c0)) fun J V=>?_);rw [show E1 aj 2 1=((aj.add 2):Addr) from jA _] at V;rw [show (((xj::rj).length) - (1))=rj.length from rfl] at V;rw [show ((kj) - (1))=(kj - 1) from rfl] at V;exact Ms 3 [.slice (some (aj.add 2)) rj.length (kj - 1)] 0 V O fun w1 O=>Ab (Fq (cv [] V (⟨rfl,O.to⟩)))
theorem Uu (pb:Nat) (mo po:Int) (inp:ByteArray) (aj:Addr) (kj:Nat) (xj:JV) (rj:List JV) (rd wr pv:Int) (pn:Option Addr) (kn:Nat) (ln:List Int) (pp:Option Addr) (kp:Nat) (lp:List PV)  (w:World) (h0:Ow sA (inT [(pb,39,cS mo po inp (some aj) ((xj::rj).length) 1 rd wr pv pn ln.length kn pp lp.length kp)]) w w [(pb,39,cS mo po inp (some aj) ((xj::rj).length) 1 rd wr pv pn ln.length kn pp lp.length kp)]) (hk:(xj::rj).length<=1) :
 Calls sA 109 #[pt pb] w fun e w'=>e = .returned (.tuple #[])/\Ow sA (inT [(pb,39,cS mo po inp (some aj) ((xj::rj).length) 1 rd wr pv pn ln.length kn pp lp.length kp)]) w w' [(pb,39,cS mo po inp (some aj) rj.length 0 rd wr pv pn ln.length kn pp lp.length kp)]:=by
 refine Ao (args:=[pt pb]) (m:=9) (n:=10) Tryz.func109 rfl (by kernel_rfl) (by kernel_rfl) fun J V=>?_;generalize inT [(pb,39,cS mo po inp (some aj) ((xj::rj).length) 1 rd wr pv pn ln.length kn pp lp.length kp)]=M at *;have O:Ow sA M w w [(pb,39,(cS mo po inp (some aj) ((xj::rj).length) 1 rd wr pv pn ln.length kn pp lp.length kp))]:=h0.to (by first | rfl | first | rfl | (simp only [TP,apd]));have hpos_:(1:Int)<=(((xj::rj).length:Nat):Int):=by rw [sE]; omega
 refine rr 9 (Kb 8 [(7,.slice (some aj) (((xj::rj).length) - (1)) 0),(9,pf pb 3)] V [.slice (some aj) ((xj::rj).length) 1,I false] (cc (O.l1 0 3 36 (.slice (some aj) ((xj::rj).length) 1)) (cc (⟨by omega,hpos_,by omega,by omega,by omega⟩:(0:Int)<=1/\(1:Int)<=(((xj::rj).length:Nat):Int)/\(((xj::rj).length:Nat):Int)<=((1:Nat):Int)/\((1:Nat):Int)<=((1:Nat):Int)/\((1:Int)=((1:Nat):Int)\/(1:Int)=0)) c0)) fun J V=>?_);rw [show (((xj::rj).length) - (1))=rj.length from rfl] at V;exact Ms 3 [.slice (some aj) rj.length 0] 0 V O fun w1 O=>Ab (Fq (cv [] V (⟨rfl,O.to⟩)))
theorem On (pb:Nat) (mo po:Int) (inp:ByteArray) (aj:Addr) (kj:Nat) (xj:JV) (rj:List JV) (rd wr pv:Int) (pn:Option Addr) (kn:Nat) (ln:List Int) (pp:Option Addr) (kp:Nat) (lp:List PV) (w:World) (h0:Ow sA (inT [(pb,39,cS mo po inp (some aj) ((xj::rj).length) kj rd wr pv pn ln.length kn pp lp.length kp)]) w w [(pb,39,cS mo po inp (some aj) ((xj::rj).length) kj rd wr pv pn ln.length kn pp lp.length kp)]) (hk:(xj::rj).length<=kj):Calls sA 109 #[pt pb] w fun e w'=>e = .returned (.tuple #[])/\∃ p' c',Ow sA (inT [(pb,39,cS mo po inp (some aj) ((xj::rj).length) kj rd wr pv pn ln.length kn pp lp.length kp)]) w w' [(pb,39,cS mo po inp p' rj.length c' rd wr pv pn ln.length kn pp lp.length kp)]/\rj.length<=c'/\∀ w,VL w (.slice (some aj) (xj::rj).length kj) (xj::rj)->VL w (.slice p' rj.length c') rj:=by
 by_cases h1 : 1 < kj
 · exact (Ut pb mo po inp aj kj xj rj rd wr pv pn kn ln pp kp lp w h0 hk h1).mono fun e w' h=>⟨h.1,_,_,h.2,by rw [sE] at hk; omega,fun w h=>jQ h⟩
 · have:kj=1:=by rw [sE] at hk; omega
   subst this
   have hr:rj=[]:=by cases rj with
    | nil=>rfl
    | cons y r=>simp only [sE] at hk; omega
   subst hr;exact (Uu pb mo po inp aj 1 xj [] rd wr pv pn kn ln pp kp lp w h0 hk).mono fun e w' h=>⟨h.1,_,_,h.2,Nat.le_refl _,fun w h=>⟨Vw.nil_any h.1 _,fun x hx=>absurd hx sL⟩⟩
theorem Hs (pb:Nat) (mo po:Int) (inp:ByteArray) (pj:Option Addr) (kj:Nat) (lj:List JV) (rd wr pv:Int) (pn:Option Addr) (kn:Nat) (ln:List Int) (pp:Option Addr) (kp:Nat) (lp:List PV) (T:OwL) (al:Addr) (cl:Nat) (ls:List Int) (w:World) (hG:Ah T (SV.ok (⟨mo,po,inp,pj,kj,lj,rd,wr,pv,pn,kn,ln,pp,kp,lp⟩:SV))) (h0:Ow sA (inT ((pb,39,cS mo po inp pj lj.length kj rd wr pv pn ln.length kn pp lp.length kp)::T)) w w ((pb,39,cS mo po inp pj lj.length kj rd wr pv pn ln.length kn pp lp.length kp)::T)) (hvl : ∀ w',Only (inT ((pb,39,cS mo po inp pj lj.length kj rd wr pv pn ln.length kn pp lp.length kp)::T)) w w'->Vw fN w' (.slice (some al) ls.length cl) ls) (hl1:lp.length<=500000) (hl2:ls.length<=1000) (hkp:lp.length<=kp) :
 Calls sA 94 #[pt pb,.slice (some al) ls.length cl] w fun e w'=>e = .returned (.tuple #[])/\∃ p' c',∃ lp':List PV,∃ Tn,lp'.map PV.d=lp.map PV.d++Bh ls/\lp'.length<=c'/\lp'.length<=lp.length+ls.length/\Ow sA (inT ((pb,39,cS mo po inp pj lj.length kj rd wr pv pn ln.length kn pp lp.length kp)::T)) w w' ((pb,39,cS mo po inp pj lj.length kj rd wr pv pn ln.length kn p' lp'.length c')::(T++Tn))/\Ah (T++Tn) (fun w=>PL w (.slice p' lp'.length c') lp'):=by
 refine Ao (args:=[pt pb,.slice (some al) ls.length cl]) (m:=19) (n:=21) Tryz.func94 rfl (by kernel_rfl) (by kernel_rfl) fun J V=>?_;generalize inT ((pb,39,cS mo po inp pj lj.length kj rd wr pv pn ln.length kn pp lp.length kp)::T)=M at *;have O:Ow sA M w w ([(pb,39,(cS mo po inp pj lj.length kj rd wr pv pn ln.length kn pp lp.length kp))]++(T++([]))):=h0.to (by first | rfl | first | rfl | (simp only [TP,apd]));refine Sa [(6,.slice (some al) ls.length cl),(7,Z ((ls.length:Nat):Int)),(8,Z 0)] V fun J V=>wp_block ?_;have hTN:Ah (T++[]) (fun w_=>PL w_ (.slice pp lp.length kp) lp):=(hG.mono fun _ h_=>h_.p).l;refine Bc (fun mm J W=>∃ (i:Nat) (p8:Option Addr) (k8:Nat) (l8:List PV) (TL1:OwL),mm=ls.length - i/\Holds 21 [] J [(0,pt pb),(6,.slice (some al) ls.length cl),(7,Z ((ls.length:Nat):Int)),(8,Z ((i:Nat):Int))]/\Ow sA M w W ([(pb,39,(cS mo po inp pj lj.length kj rd wr pv pn ln.length kn p8 l8.length k8))]++(T++(TL1++([]))))/\Ah (T++TL1) (fun w_=>PL w_ (.slice p8 l8.length k8) l8)/\i<=ls.length/\l8.map PV.d=lp.map PV.d++Bh (ls.take i)/\l8.length<=k8/\l8.length<=lp.length+i/\True) ?_ ?_
 · exact ⟨_,0,pp,kp,lp,[],rfl,V.ss,O.tt,hTN,(Nat.zero_le _),(by rw [List.take_zero]; exact (sN _).symm),hkp,(Nat.le_refl _),trivial⟩
 rintro _ J w1 ⟨i,p8,k8,l8,TL1,rfl,V,O,hTL1,hi_i,hc8,hk8,hl8,-⟩;refine Sa [(9,I (decide (((i:Nat):Int) < ((ls.length:Nat):Int))))] V fun J V=>wp_seq ?_;rcases rU (decide (((i:Nat):Int) < ((ls.length:Nat):Int))) with h1 | h1
 · rw [h1] at V;have h1p:=rV h1;obtain ⟨v1,hx1⟩ : ∃ x,(ls)[i]? = some x:=⟨_,Bg _ 0 (by first | omega | exact sU _)⟩;refine cT V (wp_skip (Aa (wp_seq (wp_block (Sb [(5,Z v1)] V [Z v1] (cc (⟨by omega,by omega⟩:(0:Int)<=((i:Nat):Int)/\((i:Nat):Int) < ((ls.length:Nat):Int)) (cc ((ldN ((hvl _ O.only)) hx1):Ld sA w1 (al.add i) 3 (Z v1)) c0)) fun J V=>Sa [(13,I (decide (v1 ≥ 0)))] V fun J V=>?_)))));rcases rU (decide (v1 ≥ 0)) with h2 | h2
   · rw [h2] at V;have h2p:=rV h2;refine cT V (rr 6 (Ka 2 [(14,pt pb),(15,Z v1)] V fun J V=>Mv [Z v1] 3 1 16 V O fun J w2 b1 V O=>Mk 17 V O Tryz.func28 (Dj 8 v1 ⟨b1,0,none⟩ 1 _ ((O.b 0).vw (off:=0) (xs:=[v1]) (by kernel_rfl))) fun J w3 V O=>Mv [Z 8,Z v1,Z 0,Z 0,.slice none 0 0] 43 1 18 V O fun J w4 b2 V O=>Ag (mC (d:=(some 19)) V Tryz.func95 ((Kv pb mo po inp pj kj lj rd wr pv pn kn ln p8 k8 l8 ⟨none,0,⟨8,v1,0,0,[]⟩⟩ ⟨b2,0,none⟩ 1 _ (Ow.self (A:=[(b2,43,[Z 8,Z v1,Z 0,Z 0,.slice none 0 0]),(b1,3,[Z v1])]) (T:=[(pb,39,cS mo po inp pj lj.length kj rd wr pv pn ln.length kn p8 l8.length k8)]) (B:=([]++(T++(TL1++([]))))) (O.tt)) (Zb (A:=[(b2,43,[Z 8,Z v1,Z 0,Z 0,.slice none 0 0]),(b1,3,[Z v1])]) (B:=[]) (T:=T++(TL1++([]))) (Q:=(fun w_=>Vw fP w_ (.slice p8 l8.length k8) l8)) (((Ah.l (T':=[]) hTL1).mono fun _ h_=>h_.1).to (by simp only [sH])) (O.tt:Ow sA M w _ (([(b2,43,[Z 8,Z v1,Z 0,Z 0,.slice none 0 0]),(b1,3,[Z v1])]++[(pb,39,cS mo po inp pj lj.length kj rd wr pv pn ln.length kn p8 l8.length k8)])++((T++(TL1++([])))++[])))) (fun w_ k_=>((Tt (A:=[(b2,43,[Z 8,Z v1,Z 0,Z 0,.slice none 0 0]),(b1,3,[Z v1])]) (B:=[]) (T:=T++(TL1++([]))) (O.tt:Ow sA M w _ (([(b2,43,[Z 8,Z v1,Z 0,Z 0,.slice none 0 0]),(b1,3,[Z v1])]++[(pb,39,cS mo po inp pj lj.length kj rd wr pv pn ln.length kn p8 l8.length k8)])++((T++(TL1++([])))++[]))) k_).b 0).vw (off:=0) (xs:=([⟨none,0,⟨8,v1,0,0,[]⟩⟩]:List PV)) (by kernel_rfl)) (by omega)).mono ?_))))
     rintro en w5 ⟨rfl,p1,k1,T1,hT1,hW⟩;refine ⟨_,rfl,?_⟩;clear V J; intro J V;replace O:=Ow.pass2 (A:=[_,_]) O hW; clear hW;refine Ab (Ac (Aa (Rc [(8,Z (((i:Nat):Int)+1))] V [I true] (cc ((Am (by omega) (by omega)):inK .i64 (((i:Nat):Int)+1)) c0) fun J V=>Aa ?_)));have hTN2:Ah (T++(TL1++T1)) (fun w_=>PL w_ (.slice p1 (l8++([⟨none,0,⟨8,v1,0,0,[]⟩⟩]:List PV)).length k1) (l8++([⟨none,0,⟨8,v1,0,0,[]⟩⟩]:List PV))):=(N1 (T:=T++(TL1++(T1++([])))) (hT1.holds.l.r.r) (((Ah.l (T':=T1++([])) hTL1).mono fun _ h_=>h_.2).to (by simp only [sH])) (fun _ _ _ _=>Ce (B5 _ _ _ _) _)).to (by simp only [sN]);replace O:Ow sA M w w5 ([(b2,43,[Z 8,Z v1,Z 0,Z 0,.slice none 0 0]),(b1,3,[Z v1]),(pb,39,(cS mo po inp pj lj.length kj rd wr pv pn ln.length kn p1 ((l8++([⟨none,0,⟨8,v1,0,0,[]⟩⟩]:List PV)).length) k1))]++(T++((TL1++T1)++([])))):=O.to (by first | rfl | (simp only [TP,apd]));exact ⟨_,by omega,i+1,p1,k1,l8++([⟨none,0,⟨8,v1,0,0,[]⟩⟩]:List PV),(TL1++T1),rfl,V.ss,(Ow.subP (A:=[_,_,_]) O (.cons _ (.cons _ (.cons_cons _ .slnil)))),hTN2,(by omega),(X8 hc8 hx1 (by assumption)),hT1.le,(by simp only [sD,sE,sF]; omega),trivial⟩
   rw [h2] at V;have h2p:=rX h2;exact cF V (wp_skip (Ac (Aa (Rc [(8,Z (((i:Nat):Int)+1))] V [I true] (cc ((Am (by omega) (by omega)):inK .i64 (((i:Nat):Int)+1)) c0) fun J V=>Aa (⟨_,by omega,i+1,p8,k8,l8,TL1,rfl,V.ss,O.tt,hTL1,(by omega),(cJ hc8 hx1 (by assumption)),(by omega),(by omega),trivial⟩)))))
 rw [h1] at V;have h1p:=rX h1;refine cF V (wp_exit (Aj (Aj (An (Fq (cv [] V ?_))))));replace O:Ow sA M w w1 ([(pb,39,(cS mo po inp pj lj.length kj rd wr pv pn ln.length kn p8 l8.length k8))]++(T++(TL1++([])))):=O;exact ⟨rfl,p8,k8,l8,TL1,X9 hc8 (by omega),hk8,by omega,(O).to (by simp only [sN,List.cons_append,sO]),hTL1⟩
def F3:Go.Shelf.Ren:=⟨fun | 14=>116 | 16=>122 | 17=>123 | 19=>130 | 20=>131 | 21=>132 | 22=>133 | 23=>134 | 24=>135 | 25=>138 | 27=>140 | 26=>139 | 28=>144 | 29=>145 | 30=>146 | 31=>147 | 32=>148 | 33=>149 | 35=>151 | 34=>150 | 36=>152 | 37=>153 | 38=>154 | 39=>155 | 40=>156 | n=>n,fun | 9=>9 | 3=>3 | 22=>153 | 24=>155 | 25=>156 | 4=>4 | 34=>170 | 5=>5 | 36=>172 | 37=>41 | 0=>0 | 39=>173 | 21=>21 | 44=>180 | 47=>185 | 50=>188 | 48=>186 | 2=>2 | 52=>190 | 55=>193 | 59=>197 | 60=>198 | 20=>20 | 61=>199 | 65=>202 | 66=>203 | 67=>166 | n=>n,fun | 0=>1 | 1=>2 | 2=>3 | 3=>4 | 4=>5 | n=>n⟩
theorem Xn:LaysPu.n14 sA F3 where
 mixed:=by kernel_rfl
 f14:=Tryz.func116.trans (congrArg some (by kernel_rfl))
 f16:=Tryz.func122.trans (congrArg some (by kernel_rfl))
 f17:=Tryz.func123.trans (congrArg some (by kernel_rfl))
 f19:=Tryz.func130.trans (congrArg some (by kernel_rfl))
 f20:=Tryz.func131.trans (congrArg some (by kernel_rfl))
 f21:=Tryz.func132.trans (congrArg some (by kernel_rfl))
 f22:=Tryz.func133.trans (congrArg some (by kernel_rfl))
 f23:=Tryz.func134.trans (congrArg some (by kernel_rfl))
 f24:=Tryz.func135.trans (congrArg some (by kernel_rfl))
 f25:=Tryz.func138.trans (congrArg some (by kernel_rfl))
 f26:=Tryz.func139.trans (congrArg some (by kernel_rfl))
 f27:=Tryz.func140.trans (congrArg some (by kernel_rfl))
 f28:=Tryz.func144.trans (congrArg some (by kernel_rfl))
 f29:=Tryz.func145.trans (congrArg some (by kernel_rfl))
 f30:=Tryz.func146.trans (congrArg some (by kernel_rfl))
 f31:=Tryz.func147.trans (congrArg some (by kernel_rfl))
 f32:=Tryz.func148.trans (congrArg some (by kernel_rfl))
 f33:=Tryz.func149.trans (congrArg some (by kernel_rfl))
 f34:=Tryz.func150.trans (congrArg some (by kernel_rfl))
 f35:=Tryz.func151.trans (congrArg some (by kernel_rfl))
 f36:=Tryz.func152.trans (congrArg some (by kernel_rfl))
 f37:=Tryz.func153.trans (congrArg some (by kernel_rfl))
 f38:=Tryz.func154.trans (congrArg some (by kernel_rfl))
 f39:=Tryz.func155.trans (congrArg some (by kernel_rfl))
 f40:=Tryz.func156.trans (congrArg some (by kernel_rfl))
 t0:=Tryz.underlying0
 a0:=Tryz.isAgg0
 z0:=Tryz.sizeOf0
 v0:=Tryz.zeroValue0
 i0:=by kernel_rfl
 t2:=Tryz.underlying2
 a2:=Tryz.isAgg2
 z2:=Tryz.sizeOf2
 v2:=Tryz.zeroValue2
 i2:=by kernel_rfl
 t3:=Tryz.underlying3
 a3:=Tryz.isAgg3
 z3:=Tryz.sizeOf3
 v3:=Tryz.zeroValue3
 i3:=by kernel_rfl
 t4:=Tryz.underlying4
 a4:=Tryz.isAgg4
 z4:=Tryz.sizeOf4
 v4:=Tryz.zeroValue4
 i4:=by kernel_rfl
 t5:=Tryz.underlying5
 a5:=Tryz.isAgg5
 z5:=Tryz.sizeOf5
 v5:=Tryz.zeroValue5
 i5:=by kernel_rfl
 t9:=Tryz.underlying9
 a9:=Tryz.isAgg9
 z9:=Tryz.sizeOf9
 v9:=Tryz.zeroValue9
 i9:=by kernel_rfl
 t20:=Tryz.underlying20
 a20:=Tryz.isAgg20
 z20:=Tryz.sizeOf20
 v20:=Tryz.zeroValue20
 i20:=by kernel_rfl
 t21:=Tryz.underlying21
 a21:=Tryz.isAgg21
 z21:=Tryz.sizeOf21
 v21:=Tryz.zeroValue21
 i21:=by kernel_rfl
 t22:=Tryz.underlying153
 a22:=Tryz.isAgg153
 z22:=Tryz.sizeOf153
 v22:=Tryz.zeroValue153
 i22:=by kernel_rfl
 t24:=Tryz.underlying155
 a24:=Tryz.isAgg155
 z24:=Tryz.sizeOf155
 v24:=Tryz.zeroValue155
 i24:=by kernel_rfl
 t25:=Tryz.underlying156
 a25:=Tryz.isAgg156
 z25:=Tryz.sizeOf156
 v25:=Tryz.zeroValue156
 i25:=by kernel_rfl
 t34:=Tryz.underlying170
 a34:=Tryz.isAgg170
 z34:=Tryz.sizeOf170
 v34:=Tryz.zeroValue170
 i34:=by kernel_rfl
 c34:=by kernel_rfl
 t36:=Tryz.underlying172
 a36:=Tryz.isAgg172
 z36:=Tryz.sizeOf172
 v36:=Tryz.zeroValue172
 i36:=by kernel_rfl
 t37:=Tryz.underlying41
 a37:=Tryz.isAgg41
 z37:=Tryz.sizeOf41
 v37:=Tryz.zeroValue41
 i37:=by kernel_rfl
 t39:=Tryz.underlying173
 a39:=Tryz.isAgg173
 z39:=Tryz.sizeOf173
 v39:=Tryz.zeroValue173
 i39:=by kernel_rfl
 t44:=Tryz.underlying180
 a44:=Tryz.isAgg180
 z44:=Tryz.sizeOf180
 v44:=Tryz.zeroValue180
 i44:=by kernel_rfl
 t47:=Tryz.underlying185
 a47:=Tryz.isAgg185
 z47:=Tryz.sizeOf185
 v47:=Tryz.zeroValue185
 i47:=by kernel_rfl
 t48:=Tryz.underlying186
 a48:=Tryz.isAgg186
 z48:=Tryz.sizeOf186
 v48:=Tryz.zeroValue186
 i48:=by kernel_rfl
 t50:=Tryz.underlying188
 a50:=Tryz.isAgg188
 z50:=Tryz.sizeOf188
 v50:=Tryz.zeroValue188
 i50:=by kernel_rfl
 t52:=Tryz.underlying190
 a52:=Tryz.isAgg190
 z52:=Tryz.sizeOf190
 v52:=Tryz.zeroValue190
 i52:=by kernel_rfl
 t55:=Tryz.underlying193
 a55:=Tryz.isAgg193
 z55:=Tryz.sizeOf193
 v55:=Tryz.zeroValue193
 i55:=by kernel_rfl
 t59:=Tryz.underlying197
 a59:=Tryz.isAgg197
 z59:=Tryz.sizeOf197
 v59:=Tryz.zeroValue197
 i59:=by kernel_rfl
 t60:=Tryz.underlying198
 a60:=Tryz.isAgg198
 z60:=Tryz.sizeOf198
 v60:=Tryz.zeroValue198
 i60:=by kernel_rfl
 t61:=Tryz.underlying199
 a61:=Tryz.isAgg199
 z61:=Tryz.sizeOf199
 t65:=Tryz.underlying202
 a65:=Tryz.isAgg202
 z65:=Tryz.sizeOf202
 v65:=Tryz.zeroValue202
 i65:=by kernel_rfl
 t66:=Tryz.underlying203
 a66:=Tryz.isAgg203
 z66:=Tryz.sizeOf203
 v66:=Tryz.zeroValue203
 i66:=by kernel_rfl
 t67:=Tryz.underlying166
 a67:=Tryz.isAgg166
 z67:=Tryz.sizeOf166
 v67:=Tryz.zeroValue166
 i67:=by kernel_rfl
 g0:=by kernel_rfl
 m0:=by kernel_rfl
 g1:=by kernel_rfl
 m1:=by kernel_rfl
 g2:=by kernel_rfl
 m2:=by kernel_rfl
 g3:=by kernel_rfl
 m3:=by kernel_rfl
 g4:=by kernel_rfl
 m4:=by kernel_rfl
def oR (v:Value):Prop:=v = .nilIface\/∃ te pe,v = .iface te pe
structure ErrOk (w:World):Prop where
 s : ∃ v,w.cell? ⟨F3.g 0,0,none⟩=some v/\oR v
 r : ∃ v,w.cell? ⟨F3.g 1,0,none⟩=some v/\oR v
theorem ErrOk.keep {w w':World} (h:ErrOk w) (k:Only Ai w w'):ErrOk w':=by
 obtain ⟨⟨v,h1,h2⟩,⟨u,h3,h4⟩⟩:=h;exact ⟨⟨v,k.cell h1 (fun h=>h),h2⟩,⟨u,k.cell h3 (fun h=>h),h4⟩⟩
theorem dT : ∀ (l:List UInt8) (acc u:Nat),Lib.parseUintM 65535 acc l = .ok u->X4 l=true/\u=l.foldl (fun n c=>10*n+(c.toNat - 48)) acc/\(acc<=65535->u<=65535)
 | [],acc,u,h=>by cases h; exact ⟨rfl,rfl,fun h=>h⟩
 | c::r,acc,u,h=>by
  simp only [Lib.parseUintM] at h;split at h
  · rename_i hc
    split at h
    · cases h
    · split at h
      · cases h
      · obtain ⟨h1,h2,h3⟩:=dT r _ u h;refine ⟨?_,?_,fun _=>h3 (by omega)⟩
        · unfold X4 at h1 ⊢;rw [List.all_cons,h1,rY hc]; rfl
        · rw [h2,List.foldl_cons,Nat.mul_comm]
  · cases h
abbrev Vu:Lib.NumEnd Nat:=Lib.parseUintB 16 []
theorem dS : ∀ (l:List UInt8) (acc:Nat),Lib.parseUintM 65535 acc l=Vu->X4 l=false
 | [],acc,h=>by simp [Vu,Lib.parseUintB,Lib.parseUintM] at h
 | c::r,acc,h=>by
  simp only [Lib.parseUintM] at h;unfold X4;split at h
  · split at h
    · simp [Vu,Lib.parseUintB] at h
    · split at h
      · simp [Vu,Lib.parseUintB] at h
      · have:=dS r _ h;unfold X4 at this;rw [List.all_cons,this,Bool.and_false]
  · rename_i hc
    rw [List.all_cons,rZ hc]; rfl
theorem Ss : ∀ (l:List UInt8) (acc m:Nat),acc < 10 ^ m->m+l.length<=3->Lib.parseUintM 65535 acc l≠ .range
 | [],acc,m,_,_,h=>by cases h
 | c::r,acc,m,ha,hm,h=>by
  rw [sE] at hm;have h3 : 10 ^ (m+1)<=10 ^ 3:=Nat.pow_le_pow_right (by decide) (by omega);have h4 : 10 ^ (m+1)=10 ^ m*10:=Nat.pow_succ 10 m;simp only [Lib.parseUintM] at h;split at h
  · rename_i hc
    split at h
    · omega
    · split at h
      · omega
      · exact Ss r _ (m+1) (by omega) (by omega) h
  · cases h
theorem Lf {ws:List ByteArray} {z:ByteArray} (h:ws[1]? = some z):Co ws=if X4 z.data.toList=true/\z.size<=3 then ((qZ z.data.toList % 256:Nat):Int) else 1:=by
 match ws,h with
 | a::b::r,h =>
  simp only [List.getElem?_cons_succ,List.getElem?_cons_zero,Option.some.injEq] at h;subst h; rfl
theorem U3 {ws:List ByteArray} (h:ws.length < 2):Co ws=0:=by
 match ws,h with
 | [],_=>rfl
 | [_],_=>rfl
 | _::_::_,h=>simp only [sE] at h; omega
section
variable {ws:List ByteArray} {z:ByteArray}
theorem Yy (hz : 0 < z.size):Lib.parseUintB 16 z.data.toList=Lib.parseUintM 65535 0 z.data.toList:=by
 unfold Lib.parseUintB;rw [if_neg (fun e=>by rw [← Ar,e] at hz; simp at hz)]
theorem nO {u:Nat} (h:ws[1]? = some z) (hz : 0 < z.size) (hp:Lib.parseUintB 16 z.data.toList = .ok u) (h3:z.size<=3):Co ws=((u:Nat):Int) % 256:=by
 rw [Yy hz] at hp;obtain ⟨h1,h2,_⟩:=dT _ _ _ hp;rw [Lf h,if_pos ⟨h1,h3⟩];unfold qZ;rw [← h2]; rfl
theorem cG (h:ws[1]? = some z) (h3 : ¬ z.size<=3):Co ws=1:=by rw [Lf h,if_neg (fun q=>h3 q.2)]
theorem iK (h:ws[1]? = some z) (hz : 0 < z.size) (hp:Lib.parseUintB 16 z.data.toList=Vu):Co ws=1:=by
 rw [Yy hz] at hp;rw [Lf h,if_neg (fun q=>by rw [dS _ _ hp] at q; exact absurd q.1 (by simp))]
theorem X7 (h:ws[1]? = some z) (hz : 0 < z.size) (hp:Lib.parseUintB 16 z.data.toList = .range):Co ws=1:=by
 rw [Yy hz] at hp;rw [Lf h,if_neg (fun q=>Ss _ 0 0 (by decide) (by rw [Ar]; omega) hp)]
theorem rA {u:Nat} (hz : 0 < z.size) (hp:Lib.parseUintB 16 z.data.toList = .ok u):u<=65535:=by
 rw [Yy hz] at hp;exact (dT _ _ _ hp).2.2 (by decide)
end
theorem kL (s:ByteArray) (hm:s.size<=1000000) (u:Nat) (h:Lib.parseUintB 16 s.data.toList = .ok u) (w:World):Calls sA 116 #[Y s,Z 10,Z 16] w fun e w'=>e = .returned (.tuple #[.int .u64 ((u:Nat):Int),.nilIface])/\Only Ai w w' :=
 (Any.strconv_ParseUint_10_at16_ok Xn s (by omega) u h w).mono fun e w' hh=>⟨hh.1,by
  rcases hh.2 with rfl | rfl
  · exact Only.refl _ _
  · refine ⟨by (unfold Lib.bytesWorld; simp [World.freeze]) <;> rfl,by (unfold Lib.bytesWorld; simp [World.freeze]) <;> rfl,by (unfold Lib.bytesWorld; simp [World.freeze]) <;> rfl,by rw [Lib.bytesWorld_size]; omega,fun k hk _=>Lib.bytesWorld_at_old w _ s k hk⟩⟩
theorem dU (s:ByteArray) (hm:s.size<=1000000) (h:Lib.parseUintB 16 s.data.toList=Vu) (w:World) (hE:ErrOk w):Calls sA 116 #[Y s,Z 10,Z 16] w fun e w'=>∃ N,e = .returned (.tuple #[.int .u64 0,.iface (F3.t 39) (.pointer (some ⟨N,0,none⟩))])/\Only Ai w w':=by
 obtain ⟨v,h1,h2⟩:=hE.s;exact (Any.strconv_ParseUint_10_at16_syntax Xn s (by omega) h v w h1 h2).mono fun e w' ⟨N,hh,_,_,hb⟩=>⟨N,hh,Only.of_below hb⟩
theorem V3 (s:ByteArray) (hm:s.size<=1000000) (h:Lib.parseUintB 16 s.data.toList = .range) (w:World) (hE:ErrOk w):Calls sA 116 #[Y s,Z 10,Z 16] w fun e w'=>∃ N,e = .returned (.tuple #[.int .u64 65535,.iface (F3.t 39) (.pointer (some ⟨N,0,none⟩))])/\Only Ai w w':=by
 obtain ⟨v,h1,h2⟩:=hE.r;exact (Any.strconv_ParseUint_10_at16_range Xn s (by omega) h v w h1 h2).mono fun e w' ⟨N,hh,_,_,hb⟩=>⟨N,hh,Only.of_below hb⟩
theorem rG (p:Option Addr) (c:Nat) (d:CmdL) (w:World) (hv:Vw fT w (.slice p d.words.length c) d.words) (hs:d.words.length < 2) :
 Calls sA 106 #[.agg #[.slice p d.words.length c,Y d.inp,Y d.out,I d.app]] w fun e w'=>e = .returned (Z (Co d.words))/\Only Ai w w':=by
 refine Ao (args:=[.agg #[.slice p d.words.length c,Y d.inp,Y d.out,I d.app]]) (m:=29) (n:=30) Tryz.func106 rfl (by kernel_rfl) (by kernel_rfl) fun J V=>?_;have O:=Ow.nil sA Ai w;have hnl:decide (((d.words.length:Nat):Int) < 2)=true:=rY (by omega);refine sr 2 (Mn [.slice p d.words.length c,Y d.inp,Y d.out,I d.app] 104 1 V O fun J w1 b1 V O=>Ka 1 [(2,Z 0)] V fun J V=>Ab (Aa (wp_seq (Sb [(8,I (decide (((d.words.length:Nat):Int) < 2)))] V [.slice p d.words.length c] (cc (O.l1 0 0 30 (.slice p d.words.length c)) c0) fun J V=>?_))));rw [(hnl:(decide (((d.words.length:Nat):Int) < 2))=true)] at V;refine cT V (Sa [] V fun J V=>wp_ret (Ad (cv [Z 0] V ?_)));have hF:=O.only; clear V O;exact ⟨congrArg (fun k=>sB (Z k)) (U3 hs).symm,hF⟩
theorem rF (p:Option Addr) (c:Nat) (d:CmdL) (w:World) (hv:Vw fT w (.slice p d.words.length c) d.words) (z:ByteArray) (hz:d.words[1]? = some z) (hz0 : 0 < z.size) (hz1:z.size<=1000000) (u:Nat) (hp:Lib.parseUintB 16 z.data.toList = .ok u) :
 Calls sA 106 #[.agg #[.slice p d.words.length c,Y d.inp,Y d.out,I d.app]] w fun e w'=>e = .returned (Z (Co d.words))/\Only Ai w w':=by
 refine Ao (args:=[.agg #[.slice p d.words.length c,Y d.inp,Y d.out,I d.app]]) (m:=29) (n:=30) Tryz.func106 rfl (by kernel_rfl) (by kernel_rfl) fun J V=>?_;have O:=Ow.nil sA Ai w;have hlen_:=(List.getElem?_eq_some_iff.1 hz).1;obtain ⟨ad1,rfl⟩:=((hv.keep O.only)).pos (by first | omega | exact sU _);have hnl:decide (((d.words.length:Nat):Int) < 2)=false:=rZ (by omega);have hu_:=rA hz0 hp;refine sr 2 (Mn [.slice (some ad1) d.words.length c,Y d.inp,Y d.out,I d.app] 104 1 V O ?_);clear V O J; intro J w1 b1 V O;refine Ka 1 [(2,Z 0)] V ?_;clear V J; intro J V;refine Ab (Aa (wp_seq (Sb [(8,I (decide (((d.words.length:Nat):Int) < 2)))] V [.slice (some ad1) d.words.length c] (cc (O.l1 0 0 30 (.slice (some ad1) d.words.length c)) c0) ?_)));clear V J; intro J V;rw [(hnl:(decide (((d.words.length:Nat):Int) < 2))=false)] at V;refine cF V (wp_skip (Aa (sr 10 (Kb 4 [(13,Y z)] V [.slice (some ad1) d.words.length c,Y z] (cc (O.l1 0 0 30 (.slice (some ad1) d.words.length c)) (cc (⟨by omega,by omega⟩:(0:Int)<=1/\1 < ((d.words.length:Nat):Int)) (cc ((((hv.keep O.only)).ldT hz):Ld sA w1 (ad1.add 1) 9 (Y z)) c0))) ?_))));clear V J; intro J V;refine Mk 14 V O Tryz.func116 (kL z hz1 u hp _) ?_;clear V O J; intro J w2 V O;refine Ka 5 [(3,u64 ((u:Nat):Int)),(4,.nilIface)] V ?_;clear V J; intro J V
 refine Ab (Aa (wp_seq (Sb [(26,I (decide (((z.size:Nat):Int) > 3)))] V [.slice (some ad1) d.words.length c,Y z] (cc (O.l1 0 0 30 (.slice (some ad1) d.words.length c)) (cc (⟨by omega,by omega⟩:(0:Int)<=1/\1 < ((d.words.length:Nat):Int)) (cc ((((hv.keep O.only)).ldT hz):Ld sA w2 (ad1.add 1) 9 (Y z)) c0))) ?_)));clear V J; intro J V;rcases rU (decide (((z.size:Nat):Int) > 3)) with h1 | h1
 · rw [h1] at V;have h1p:=rV h1;refine cT V (Sa [(2,Z 1)] V ?_);clear V J; intro J V;refine wp_ret (Ad (cv [Z 1] V ?_));have hF:=O.only; clear V O;exact ⟨congrArg (fun k=>sB (Z k)) (cG hz (by omega)).symm,hF⟩
 rw [h1] at V;have h1p:=rX h1;refine cF V (wp_skip (Aa (Sb [(2,Z (((u:Nat):Int) % 256))] V [I true,I true] (cc (⟨by omega,by omega,lX (by omega) (by omega)⟩:(0:Int)<=((u:Nat):Int)/\(0:Int) < 256/\inK .u64 ((u:Nat):Int)) (cc ((Am (by omega) (by omega)):inK .i64 (((u:Nat):Int) % 256)) c0)) ?_)));clear V J; intro J V;refine wp_ret (cv [Z (((u:Nat):Int) % 256)] V ?_);have hF:=O.only; clear V O;exact ⟨congrArg (fun k=>sB (Z k)) (nO hz hz0 hp (by omega)).symm,hF⟩
theorem rE (p:Option Addr) (c:Nat) (d:CmdL) (w:World) (hv:Vw fT w (.slice p d.words.length c) d.words) (z:ByteArray) (hz:d.words[1]? = some z) (hz0 : 0 < z.size) (hz1:z.size<=1000000) (hp:Lib.parseUintB 16 z.data.toList=Vu) (hE:ErrOk w) :
 Calls sA 106 #[.agg #[.slice p d.words.length c,Y d.inp,Y d.out,I d.app]] w fun e w'=>e = .returned (Z (Co d.words))/\Only Ai w w':=by
 refine Ao (args:=[.agg #[.slice p d.words.length c,Y d.inp,Y d.out,I d.app]]) (m:=29) (n:=30) Tryz.func106 rfl (by kernel_rfl) (by kernel_rfl) fun J V=>?_;have O:=Ow.nil sA Ai w;have hlen_:=(List.getElem?_eq_some_iff.1 hz).1;obtain ⟨ad1,rfl⟩:=((hv.keep O.only)).pos (by first | omega | exact sU _);have hnl:decide (((d.words.length:Nat):Int) < 2)=false:=rZ (by omega);refine sr 2 (Mn [.slice (some ad1) d.words.length c,Y d.inp,Y d.out,I d.app] 104 1 V O ?_);clear V O J; intro J w1 b1 V O;refine Ka 1 [(2,Z 0)] V ?_;clear V J; intro J V;refine Ab (Aa (wp_seq (Sb [(8,I (decide (((d.words.length:Nat):Int) < 2)))] V [.slice (some ad1) d.words.length c] (cc (O.l1 0 0 30 (.slice (some ad1) d.words.length c)) c0) ?_)));clear V J; intro J V;rw [(hnl:(decide (((d.words.length:Nat):Int) < 2))=false)] at V;refine cF V (wp_skip (Aa (sr 10 (Kb 4 [(13,Y z)] V [.slice (some ad1) d.words.length c,Y z] (cc (O.l1 0 0 30 (.slice (some ad1) d.words.length c)) (cc (⟨by omega,by omega⟩:(0:Int)<=1/\1 < ((d.words.length:Nat):Int)) (cc ((((hv.keep O.only)).ldT hz):Ld sA w1 (ad1.add 1) 9 (Y z)) c0))) ?_))));clear V J; intro J V;refine Ag (mC (d:=(some 14)) V Tryz.func116 ((dU z hz1 hp _ (hE.keep O.only)).mono ?_));rintro en w2 ⟨N_,rfl,ho⟩;refine ⟨_,rfl,?_⟩;clear V J; intro J V;replace O:=O.st ho; clear ho;refine Ka 5 [(3,u64 0),(4,.iface 173 (pt N_))] V ?_;clear V J; intro J V;refine Ab (Aa (wp_seq (Sa [(26,I true)] V ?_)));clear V J; intro J V
 refine cT V (Sa [(2,Z 1)] V ?_);clear V J; intro J V;refine wp_ret (Ad (cv [Z 1] V ?_));have hF:=O.only; clear V O;exact ⟨congrArg (fun k=>sB (Z k)) (iK hz hz0 hp).symm,hF⟩
theorem rD (p:Option Addr) (c:Nat) (d:CmdL) (w:World) (hv:Vw fT w (.slice p d.words.length c) d.words) (z:ByteArray) (hz:d.words[1]? = some z) (hz0 : 0 < z.size) (hz1:z.size<=1000000) (hp:Lib.parseUintB 16 z.data.toList = .range) (hE:ErrOk w) :
 Calls sA 106 #[.agg #[.slice p d.words.length c,Y d.inp,Y d.out,I d.app]] w fun e w'=>e = .returned (Z (Co d.words))/\Only Ai w w':=by
 refine Ao (args:=[.agg #[.slice p d.words.length c,Y d.inp,Y d.out,I d.app]]) (m:=29) (n:=30) Tryz.func106 rfl (by kernel_rfl) (by kernel_rfl) fun J V=>?_;have O:=Ow.nil sA Ai w;have hlen_:=(List.getElem?_eq_some_iff.1 hz).1;obtain ⟨ad1,rfl⟩:=((hv.keep O.only)).pos (by first | omega | exact sU _);have hnl:decide (((d.words.length:Nat):Int) < 2)=false:=rZ (by omega);refine sr 2 (Mn [.slice (some ad1) d.words.length c,Y d.inp,Y d.out,I d.app] 104 1 V O ?_);clear V O J; intro J w1 b1 V O;refine Ka 1 [(2,Z 0)] V ?_;clear V J; intro J V;refine Ab (Aa (wp_seq (Sb [(8,I (decide (((d.words.length:Nat):Int) < 2)))] V [.slice (some ad1) d.words.length c] (cc (O.l1 0 0 30 (.slice (some ad1) d.words.length c)) c0) ?_)));clear V J; intro J V;rw [(hnl:(decide (((d.words.length:Nat):Int) < 2))=false)] at V;refine cF V (wp_skip (Aa (sr 10 (Kb 4 [(13,Y z)] V [.slice (some ad1) d.words.length c,Y z] (cc (O.l1 0 0 30 (.slice (some ad1) d.words.length c)) (cc (⟨by omega,by omega⟩:(0:Int)<=1/\1 < ((d.words.length:Nat):Int)) (cc ((((hv.keep O.only)).ldT hz):Ld sA w1 (ad1.add 1) 9 (Y z)) c0))) ?_))));clear V J; intro J V;refine Ag (mC (d:=(some 14)) V Tryz.func116 ((V3 z hz1 hp _ (hE.keep O.only)).mono ?_));rintro en w2 ⟨N_,rfl,ho⟩;refine ⟨_,rfl,?_⟩;clear V J; intro J V;replace O:=O.st ho; clear ho;refine Ka 5 [(3,u64 65535),(4,.iface 173 (pt N_))] V ?_;clear V J; intro J V;refine Ab (Aa (wp_seq (Sa [(26,I true)] V ?_)));clear V J; intro J V
 refine cT V (Sa [(2,Z 1)] V ?_);clear V J; intro J V;refine wp_ret (Ad (cv [Z 1] V ?_));have hF:=O.only; clear V O;exact ⟨congrArg (fun k=>sB (Z k)) (X7 hz hz0 hp).symm,hF⟩
theorem iL (p:Option Addr) (c:Nat) (d:CmdL) (w:World) (hv:Vw fT w (.slice p d.words.length c) d.words) (hE:ErrOk w) (hw : ∀ z∈d.words,0 < z.size/\z.size<=1000000):Calls sA 106 #[.agg #[.slice p d.words.length c,Y d.inp,Y d.out,I d.app]] w fun e w'=>e = .returned (Z (Co d.words))/\Only Ai w w':=by
 by_cases h:d.words.length < 2
 · exact rG p c d w hv h
 obtain ⟨z,hz⟩ : ∃ z,d.words[1]? = some z:=⟨_,List.getElem?_eq_getElem (by omega)⟩;obtain ⟨h0,h1⟩:=hw z (List.mem_of_getElem? hz);cases hp:Lib.parseUintB 16 z.data.toList with
 | ok u=>exact rF p c d w hv z hz h0 h1 u hp
 | range=>exact rD p c d w hv z hz h0 h1 hp hE
 | _=>exact rE p c d w hv z hz h0 h1 hp hE
theorem gJ (p:Option Addr) (c:Nat) (d:CmdL) (w:World) :
 Calls sA 108 #[.agg #[.slice p d.words.length c,Y d.inp,Y d.out,I d.app]] w fun e w'=>e = .returned (.bool (Cy d))/\Only Ai w w':=by
 refine Ao (args:=[.agg #[.slice p d.words.length c,Y d.inp,Y d.out,I d.app]]) (m:=6) (n:=7) Tryz.func108 rfl (by kernel_rfl) (by kernel_rfl) fun J V=>?_;have O:=Ow.nil sA Ai w;refine sr 2 (Mn [.slice p d.words.length c,Y d.inp,Y d.out,I d.app] 104 1 V O fun J w1 b1 V O=>Ka 1 [(2,I false)] V fun J V=>Ab (Aa (Sb [(2,I (decide (((d.words.length:Nat):Int) > 1)))] V [.slice p d.words.length c] (cc (O.l1 0 0 30 (.slice p d.words.length c)) c0) fun J V=>wp_ret (cv [I (decide (((d.words.length:Nat):Int) > 1))] V ?_))));have hF:=O.only; clear V O;refine ⟨congrArg (fun b=>sB (.bool b)) ?_,hF⟩;unfold Cy;first | exact (rZ (by omega)).symm | exact (rY (by omega)).symm | exact decide_eq_decide.2 (by omega)
theorem jC {l:List CV} {i:Nat} {y:CV} (h:(l.take i).any (fun y=>Cy y.d)=false) (hx:l[i]? = some y) (hn:Cy y.d=false):(l.take (i+1)).any (fun y=>Cy y.d)=false:=by
 rw [List.take_add_one,hx,List.any_append,h,Bool.false_or];show [y].any _=false;rw [List.any_cons,hn]; rfl
theorem aA {l:List CV} {i:Nat} {y:CV} (hx:l[i]? = some y) (hn:Cy y.d=true):l.any (fun y=>Cy y.d)=true:=List.any_eq_true.2 ⟨y,List.mem_of_getElem? hx,hn⟩
theorem aB {l:List CV} {i:Nat} (h:(l.take i).any (fun y=>Cy y.d)=false) (hi : ¬ i < l.length):l.any (fun y=>Cy y.d)=false:=by rwa [List.take_of_length_le (by omega)] at h
theorem fM (l:List CV):Bz (l.map CV.d)=l.any (fun y=>Cy y.d):=by unfold Bz; rw [List.any_map]; rfl
theorem lT (p:Option Addr) (c:Nat) (l:List CV) (w:World) (hv:Vw fC w (.slice p l.length c) l) (hl:l.length<=1000000) :
 Calls sA 117 #[.slice p l.length c,.func (.func 108) #[] #[]] w fun e w'=>∃ r:Int,e = .returned (Z r)/\decide (r ≥ 0)=l.any (fun y=>Cy y.d)/\Only Ai w w':=by
 refine Ao (args:=[.slice p l.length c,.func (.func 108) #[] #[]]) (m:=17) (n:=19) Tryz.func117 rfl (by kernel_rfl) (by kernel_rfl) fun J V=>?_;have O:=Ow.nil sA Ai w;refine Sa [(4,Z 0)] V ?_;clear V J; intro J V;refine wp_seq (Sa [(7,Z ((l.length:Nat):Int)),(8,Z 0)] V ?_);clear V J; intro J V;refine wp_block (Bc (fun mm J W=>∃ (i:Nat),mm=l.length - i/\Holds 19 [] J [(0,.slice p l.length c),(1,.func (.func 108) #[] #[]),(4,Z 0),(7,Z ((l.length:Nat):Int)),(8,Z ((i:Nat):Int))]/\Ow sA Ai w W []/\i<=l.length/\(l.take i).any (fun y=>Cy y.d)=false/\True) ?_ ?_)
 · exact ⟨_,0,rfl,V.ss,O.to,(Nat.zero_le _),rfl,trivial⟩
 rintro _ J w1 ⟨i,rfl,V,O,hi,ho,-⟩;refine Sa [(9,I (decide (((i:Nat):Int) < ((l.length:Nat):Int))))] V ?_;clear V J; intro J V;refine wp_seq ?_;rcases rU (decide (((i:Nat):Int) < ((l.length:Nat):Int))) with h1 | h1
 · rw [h1] at V;have h1p:=rV h1;obtain ⟨ad1,rfl⟩:=((⟨hv.keep O.only,trivial⟩:_/\True).1).pos (by first | omega | exact sU _);obtain ⟨⟨yp1,yc1,yd1⟩,hx1⟩ : ∃ x,(l)[i]? = some x:=⟨_,Bg _ CV0 (by first | omega | exact sU _)⟩;refine cT V (wp_skip (Aa (wp_seq (wp_block (Sa [(0,.slice (some ad1) l.length c),(5,Z ((i:Nat):Int))] V ?_)))));clear V J; intro J V;refine sr 6 (Kb 5 [(11,.func (.func 108) #[] #[]),(15,.agg #[.slice yp1 yd1.words.length yc1,Y yd1.inp,Y yd1.out,I yd1.app])] V [.agg #[.slice yp1 yd1.words.length yc1,Y yd1.inp,Y yd1.out,I yd1.app]] (cc (⟨by omega,by omega⟩:(0:Int)<=((i:Nat):Int)/\((i:Nat):Int) < ((l.length:Nat):Int)) (cc ((((⟨hv.keep O.only,trivial⟩:_/\True).1).ldn Ey hx1):Ld sA w1 (ad1.add (i*4)) 104 (.agg #[.slice yp1 yd1.words.length yc1,Y yd1.inp,Y yd1.out,I yd1.app])) c0)) ?_);clear V J; intro J V;refine Mk 16 V O Tryz.func108 (gJ yp1 yc1 yd1 _) ?_;clear V O J; intro J w2 V O;refine Ab (Aa ?_);rcases rU (Cy yd1) with h2 | h2
   · rw [h2] at V;refine cT V (Sa [(4,Z ((i:Nat):Int))] V ?_);clear V J; intro J V;refine wp_ret (Ae (Ad (Ad (Ae (Ad (cv [Z ((i:Nat):Int)] V ?_))))));have hF:=O.only; clear V O;first | exact ⟨_,rfl,(rY (by omega)).trans (aA hx1 (by assumption)).symm,hF⟩ | exact ⟨_,rfl,(rZ (by omega)).trans (aB ho (by omega)).symm,hF⟩
   rw [h2] at V;refine cF V (wp_skip (Ac (Aa (Rc [(8,Z (((i:Nat):Int)+1))] V [I true] (cc ((Am (by omega) (by omega)):inK .i64 (((i:Nat):Int)+1)) c0) ?_))));clear V J; intro J V;exact Aa (⟨_,by omega,i+1,rfl,V.ss,O.to,(by omega),(jC ho hx1 (by assumption)),trivial⟩)
 rw [h1] at V;have h1p:=rX h1;refine cF V (wp_exit (Aj (Aj (An (Aa (Sa [(4,Z (-1))] V ?_))))));clear V J; intro J V;refine wp_ret (cv [Z (-1)] V ?_);have hF:=O.only; clear V O;first | exact ⟨_,rfl,(rY (by omega)).trans (aA hx1 (by assumption)).symm,hF⟩ | exact ⟨_,rfl,(rZ (by omega)).trans (aB ho (by omega)).symm,hF⟩
theorem nM (p:Option Addr) (c:Nat) (l:List CV) (w:World) (hv:Vw fC w (.slice p l.length c) l) (hl:l.length<=1000000) :
 Calls sA 107 #[.slice p l.length c,.func (.func 108) #[] #[]] w fun e w'=>e = .returned (.bool (Bz (l.map CV.d)))/\Only Ai w w':=by
 refine Ao (args:=[.slice p l.length c,.func (.func 108) #[] #[]]) (m:=7) (n:=9) Tryz.func107 rfl (by kernel_rfl) (by kernel_rfl) fun J V=>?_;have O:=Ow.nil sA Ai w;refine Sa [(4,I false)] V fun J V=>sr 5 (Ka 2 [(5,.slice p l.length c),(6,.func (.func 108) #[] #[])] V fun J V=>Ag (mC (d:=(some 7)) V Tryz.func117 ((lT p c l _ (hv.keep O.only) hl).mono ?_)));rintro en w1 ⟨r1,rfl,hr1,ho⟩;refine ⟨_,rfl,?_⟩;clear V J; intro J V;replace O:=O.st ho; clear ho;refine Ka 2 [(4,I (decide (r1 ≥ 0)))] V fun J V=>Ab (Aa (wp_ret (cv [I (decide (r1 ≥ 0))] V ?_)));have hF:=O.only; clear V O;exact ⟨congrArg (fun b=>sB (.bool b)) (hr1.trans (fM l).symm),hF⟩
theorem oH {N:Nat} {x:JV} {r:List JV} (h:smL N ((x::r).map JV.d)):smL N (r.map JV.d):=⟨by have:=h.1; simp only [List.map_cons,sE] at this; omega,fun y hy=>h.2 y (by rw [List.map_cons]; exact sP _ hy)⟩
theorem Pq {x:JV} {r:List JV} (h:Aq ((x::r).map JV.d)=true):(1<=x.cmds.length/\x.cmds.length<=4)/\∀ y∈x.cmds,Au y.d=true:=by
 unfold Aq at h;rw [sV,List.all_map,List.all_cons,sV] at h;have h1:=h.1.1;simp only [Function.comp,Bq,JV.d,sG,List.all_map,sV,decide_eq_true_eq,List.all_eq_true] at h1;exact h1
theorem Hr {d:CmdL} (h:Au d=true):(1<=d.words.length/\d.words.length<=4)/\∀ u∈d.words,0 < u.size/\u.size<=60:=by
 unfold Au at h;simp only [sV,decide_eq_true_eq,List.all_eq_true] at h;refine ⟨h.2.1,fun u hu=>?_⟩;have:=h.1 u hu;unfold A3 at this;rw [sV] at this;have:=rV this.2;omega
section
variable {s:StL} {j:JobL} {r:List JobL}
theorem job_a (h:s.jobs=j::r) (h1:Be j.cmds=true) (h2:s.pos=0):B6 s=({s with mode:=7},some (Ap 0 (Co (Pk j.cmds).words) 0)):=by unfold B6; rw [h]; simp only; rw [if_pos ⟨h1,h2⟩]
theorem job_b (h:s.jobs=j::r) (h1 : ¬ (Be j.cmds=true/\s.pos=0)) (h2:s.pos=0/\Bz j.cmds=true):B6 s=({s with jobs:=r,plan:=s.plan++[Ca]},none):=by unfold B6; rw [h]; simp only; rw [if_neg h1,if_pos h2]
theorem job_c (h:s.jobs=j::r) (h1 : ¬ (Be j.cmds=true/\s.pos=0)) (h2 : ¬ (s.pos=0/\Bz j.cmds=true)) (h3:s.pos=(j.cmds.length:Int) - 1):B6 s=({s with mode:=4},some (Ap 1 0 0)):=by unfold B6; rw [h]; simp only; rw [if_neg h1,if_neg h2,if_pos h3]
theorem job_d (h:s.jobs=j::r) (h1 : ¬ (Be j.cmds=true/\s.pos=0)) (h2 : ¬ (s.pos=0/\Bz j.cmds=true)) (h3 : ¬ s.pos=(j.cmds.length:Int) - 1) (h4:s.pos < (j.cmds.length:Int)):B6 s=({s with mode:=3},some (Ap 11 0 0)):=by unfold B6; rw [h]; simp only; rw [if_neg h1,if_neg h2,if_neg h3,if_pos h4]
theorem job_e (h:s.jobs=j::r) (h1 : ¬ (Be j.cmds=true/\s.pos=0)) (h2 : ¬ (s.pos=0/\Bz j.cmds=true)) (h3 : ¬ s.pos=(j.cmds.length:Int) - 1) (h4 : ¬ s.pos < (j.cmds.length:Int)) (h5:j.bg=false/\0 < s.kids.length):B6 s=({s with mode:=5},some (Ap 3 0 0)):=by unfold B6; rw [h]; simp only; rw [if_neg h1,if_neg h2,if_neg h3,if_neg h4,if_pos h5]
theorem job_f (h:s.jobs=j::r) (h1 : ¬ (Be j.cmds=true/\s.pos=0)) (h2 : ¬ (s.pos=0/\Bz j.cmds=true)) (h3 : ¬ s.pos=(j.cmds.length:Int) - 1) (h4 : ¬ s.pos < (j.cmds.length:Int)) (h5 : ¬ (j.bg=false/\0 < s.kids.length)):B6 s=({s with jobs:=r,kids:=[],pos:=0,pv:=-1},none):=by unfold B6; rw [h]; simp only; rw [if_neg h1,if_neg h2,if_neg h3,if_neg h4,if_neg h5]
end
theorem bR {p:Option Addr} {c:Nat} {d:CmdL} {r:List CV} {z:ByteArray} (hz:d.words[0]? = some z):Be ((⟨p,c,d⟩::r:List CV).map CV.d)=(decide ((⟨p,c,d⟩::r:List CV).length=1) && (z.toList == Z1.toList)):=by
 unfold Be;rw [sG];have:Bp (Pk ((⟨p,c,d⟩::r:List CV).map CV.d))=z:=K2 hz;rw [this]
theorem Xa {a:Bool} {n:Int} (h:(a && (n == 0))=true):a=true/\n=0:=by rw [sV,beq_iff_eq] at h; exact h
theorem Te {a:Bool} {n:Int} (h:(a && (n == 0))=false) : ¬ (a=true/\n=0):=fun q=>by rw [q.1,q.2] at h; cases h
theorem V9 {a:Bool} {n:Int} (h:((n == 0) && a)=true):n=0/\a=true:=by rw [sV,beq_iff_eq] at h; exact h
theorem S9 {a:Bool} {n:Int} (h:((n == 0) && a)=false) : ¬ (n=0/\a=true):=fun q=>by rw [q.1,q.2] at h; cases h
theorem of_wt {a:Bool} {n:Nat} (h:((!a) && (decide (((n:Nat):Int) > 0)))=true):a=false/\0 < n:=by rw [sV,Bool.not_eq_true',decide_eq_true_eq] at h; exact ⟨h.1,by omega⟩
theorem qH {a:Bool} {n:Nat} (h:((!a) && (decide (((n:Nat):Int) > 0)))=false) : ¬ (a=false/\0 < n):=fun q=>by rw [q.1,rY (by omega)] at h; cases h
theorem sj_a {mo po:Int} {inp:ByteArray} {aj:Addr} {kj:Nat} {ax:Addr} {xc:Nat} {ay:Addr} {yc:Nat} {yd:CmdL} {rc:List CV} {xb:Bool} {rj:List JV} {rd wr pv:Int} {pn:Option Addr} {kn:Nat} {ln:List Int} {pp:Option Addr} {kp:Nat} {lp:List PV} (h1:Be ((⟨some ay,yc,yd⟩::rc).map CV.d)=true) (h2:po=0):B6 (SV.d (⟨mo,po,inp,some aj,kj,((⟨some ax,xc,(⟨some ay,yc,yd⟩::rc),xb⟩:JV)::rj),rd,wr,pv,pn,kn,ln,pp,kp,lp⟩:SV))=(SV.d (⟨7,po,inp,some aj,kj,((⟨some ax,xc,(⟨some ay,yc,yd⟩::rc),xb⟩:JV)::rj),rd,wr,pv,pn,kn,ln,pp,kp,lp⟩:SV),some (Ap 0 (Co yd.words) 0)):=job_a (s:=SV.d (⟨mo,po,inp,some aj,kj,((⟨some ax,xc,(⟨some ay,yc,yd⟩::rc),xb⟩:JV)::rj),rd,wr,pv,pn,kn,ln,pp,kp,lp⟩:SV)) rfl h1 h2
theorem sj_b {mo po:Int} {inp:ByteArray} {aj:Addr} {kj:Nat} {ax:Addr} {xc:Nat} {ay:Addr} {yc:Nat} {yd:CmdL} {rc:List CV} {xb:Bool} {rj:List JV} {rd wr pv:Int} {pn:Option Addr} {kn:Nat} {ln:List Int} {pp:Option Addr} {kp:Nat} {lp:List PV} (h1 : ¬ (Be ((⟨some ay,yc,yd⟩::rc).map CV.d)=true/\po=0)) (h2:po=0/\Bz ((⟨some ay,yc,yd⟩::rc).map CV.d)=true):B6 (SV.d (⟨mo,po,inp,some aj,kj,((⟨some ax,xc,(⟨some ay,yc,yd⟩::rc),xb⟩:JV)::rj),rd,wr,pv,pn,kn,ln,pp,kp,lp⟩:SV))=({SV.d (⟨mo,po,inp,some aj,kj,((⟨some ax,xc,(⟨some ay,yc,yd⟩::rc),xb⟩:JV)::rj),rd,wr,pv,pn,kn,ln,pp,kp,lp⟩:SV) with jobs:=rj.map JV.d,plan:=(SV.d (⟨mo,po,inp,some aj,kj,((⟨some ax,xc,(⟨some ay,yc,yd⟩::rc),xb⟩:JV)::rj),rd,wr,pv,pn,kn,ln,pp,kp,lp⟩:SV)).plan++[Ca]},none):=job_b (s:=SV.d (⟨mo,po,inp,some aj,kj,((⟨some ax,xc,(⟨some ay,yc,yd⟩::rc),xb⟩:JV)::rj),rd,wr,pv,pn,kn,ln,pp,kp,lp⟩:SV)) rfl h1 h2
theorem sj_c {mo po:Int} {inp:ByteArray} {aj:Addr} {kj:Nat} {ax:Addr} {xc:Nat} {ay:Addr} {yc:Nat} {yd:CmdL} {rc:List CV} {xb:Bool} {rj:List JV} {rd wr pv:Int} {pn:Option Addr} {kn:Nat} {ln:List Int} {pp:Option Addr} {kp:Nat} {lp:List PV} (h1 : ¬ (Be ((⟨some ay,yc,yd⟩::rc).map CV.d)=true/\po=0)) (h2 : ¬ (po=0/\Bz ((⟨some ay,yc,yd⟩::rc).map CV.d)=true)) (h3:po=(((⟨some ay,yc,yd⟩::rc).length:Nat):Int) - 1):B6 (SV.d (⟨mo,po,inp,some aj,kj,((⟨some ax,xc,(⟨some ay,yc,yd⟩::rc),xb⟩:JV)::rj),rd,wr,pv,pn,kn,ln,pp,kp,lp⟩:SV))=(SV.d (⟨4,po,inp,some aj,kj,((⟨some ax,xc,(⟨some ay,yc,yd⟩::rc),xb⟩:JV)::rj),rd,wr,pv,pn,kn,ln,pp,kp,lp⟩:SV),some (Ap 1 0 0)):=job_c (s:=SV.d (⟨mo,po,inp,some aj,kj,((⟨some ax,xc,(⟨some ay,yc,yd⟩::rc),xb⟩:JV)::rj),rd,wr,pv,pn,kn,ln,pp,kp,lp⟩:SV)) rfl h1 h2 (by show po=((((⟨some ay,yc,yd⟩::rc).map CV.d).length:Nat):Int) - 1; rw [sG]; exact h3)
theorem sj_d {mo po:Int} {inp:ByteArray} {aj:Addr} {kj:Nat} {ax:Addr} {xc:Nat} {ay:Addr} {yc:Nat} {yd:CmdL} {rc:List CV} {xb:Bool} {rj:List JV} {rd wr pv:Int} {pn:Option Addr} {kn:Nat} {ln:List Int} {pp:Option Addr} {kp:Nat} {lp:List PV} (h1 : ¬ (Be ((⟨some ay,yc,yd⟩::rc).map CV.d)=true/\po=0)) (h2 : ¬ (po=0/\Bz ((⟨some ay,yc,yd⟩::rc).map CV.d)=true)) (h3 : ¬ po=(((⟨some ay,yc,yd⟩::rc).length:Nat):Int) - 1) (h4:po < (((⟨some ay,yc,yd⟩::rc).length:Nat):Int)):B6 (SV.d (⟨mo,po,inp,some aj,kj,((⟨some ax,xc,(⟨some ay,yc,yd⟩::rc),xb⟩:JV)::rj),rd,wr,pv,pn,kn,ln,pp,kp,lp⟩:SV))=(SV.d (⟨3,po,inp,some aj,kj,((⟨some ax,xc,(⟨some ay,yc,yd⟩::rc),xb⟩:JV)::rj),rd,wr,pv,pn,kn,ln,pp,kp,lp⟩:SV),some (Ap 11 0 0)):=job_d (s:=SV.d (⟨mo,po,inp,some aj,kj,((⟨some ax,xc,(⟨some ay,yc,yd⟩::rc),xb⟩:JV)::rj),rd,wr,pv,pn,kn,ln,pp,kp,lp⟩:SV)) rfl h1 h2 (by show ¬ po=((((⟨some ay,yc,yd⟩::rc).map CV.d).length:Nat):Int) - 1; rw [sG]; exact h3) (by show po < ((((⟨some ay,yc,yd⟩::rc).map CV.d).length:Nat):Int); rw [sG]; exact h4)
theorem sj_e {mo po:Int} {inp:ByteArray} {aj:Addr} {kj:Nat} {ax:Addr} {xc:Nat} {ay:Addr} {yc:Nat} {yd:CmdL} {rc:List CV} {xb:Bool} {rj:List JV} {rd wr pv:Int} {pn:Option Addr} {kn:Nat} {ln:List Int} {pp:Option Addr} {kp:Nat} {lp:List PV} (h1 : ¬ (Be ((⟨some ay,yc,yd⟩::rc).map CV.d)=true/\po=0)) (h2 : ¬ (po=0/\Bz ((⟨some ay,yc,yd⟩::rc).map CV.d)=true)) (h3 : ¬ po=(((⟨some ay,yc,yd⟩::rc).length:Nat):Int) - 1) (h4 : ¬ po < (((⟨some ay,yc,yd⟩::rc).length:Nat):Int)) (h5:xb=false/\0 < ln.length):B6 (SV.d (⟨mo,po,inp,some aj,kj,((⟨some ax,xc,(⟨some ay,yc,yd⟩::rc),xb⟩:JV)::rj),rd,wr,pv,pn,kn,ln,pp,kp,lp⟩:SV))=(SV.d (⟨5,po,inp,some aj,kj,((⟨some ax,xc,(⟨some ay,yc,yd⟩::rc),xb⟩:JV)::rj),rd,wr,pv,pn,kn,ln,pp,kp,lp⟩:SV),some (Ap 3 0 0)):=job_e (s:=SV.d (⟨mo,po,inp,some aj,kj,((⟨some ax,xc,(⟨some ay,yc,yd⟩::rc),xb⟩:JV)::rj),rd,wr,pv,pn,kn,ln,pp,kp,lp⟩:SV)) rfl h1 h2 (by show ¬ po=((((⟨some ay,yc,yd⟩::rc).map CV.d).length:Nat):Int) - 1; rw [sG]; exact h3) (by show ¬ po < ((((⟨some ay,yc,yd⟩::rc).map CV.d).length:Nat):Int); rw [sG]; exact h4) h5
theorem sj_f {mo po:Int} {inp:ByteArray} {aj:Addr} {kj:Nat} {ax:Addr} {xc:Nat} {ay:Addr} {yc:Nat} {yd:CmdL} {rc:List CV} {xb:Bool} {rj:List JV} {rd wr pv:Int} {pn:Option Addr} {kn:Nat} {ln:List Int} {pp:Option Addr} {kp:Nat} {lp:List PV} (h1 : ¬ (Be ((⟨some ay,yc,yd⟩::rc).map CV.d)=true/\po=0)) (h2 : ¬ (po=0/\Bz ((⟨some ay,yc,yd⟩::rc).map CV.d)=true)) (h3 : ¬ po=(((⟨some ay,yc,yd⟩::rc).length:Nat):Int) - 1) (h4 : ¬ po < (((⟨some ay,yc,yd⟩::rc).length:Nat):Int)) (h5 : ¬ (xb=false/\0 < ln.length)):B6 (SV.d (⟨mo,po,inp,some aj,kj,((⟨some ax,xc,(⟨some ay,yc,yd⟩::rc),xb⟩:JV)::rj),rd,wr,pv,pn,kn,ln,pp,kp,lp⟩:SV))=({SV.d (⟨mo,po,inp,some aj,kj,((⟨some ax,xc,(⟨some ay,yc,yd⟩::rc),xb⟩:JV)::rj),rd,wr,pv,pn,kn,ln,pp,kp,lp⟩:SV) with jobs:=rj.map JV.d,kids:=[],pos:=0,pv:=-1},none):=job_f (s:=SV.d (⟨mo,po,inp,some aj,kj,((⟨some ax,xc,(⟨some ay,yc,yd⟩::rc),xb⟩:JV)::rj),rd,wr,pv,pn,kn,ln,pp,kp,lp⟩:SV)) rfl h1 h2 (by show ¬ po=((((⟨some ay,yc,yd⟩::rc).map CV.d).length:Nat):Int) - 1; rw [sG]; exact h3) (by show ¬ po < ((((⟨some ay,yc,yd⟩::rc).map CV.d).length:Nat):Int); rw [sG]; exact h4) h5
theorem dH (pb:Nat) (mo po:Int) (inp:ByteArray) (aj:Addr) (kj:Nat) (ax:Addr) (xc:Nat) (ay:Addr) (yc:Nat) (yd:CmdL) (rc:List CV) (xb:Bool) (rj:List JV) (rd wr pv:Int) (pn:Option Addr) (kn:Nat) (ln:List Int) (pp:Option Addr) (kp:Nat) (lp:List PV) (T:OwL)  (w:World) (hG:Ah T (SV.ok (⟨mo,po,inp,some aj,kj,((⟨some ax,xc,(⟨some ay,yc,yd⟩::rc),xb⟩:JV)::rj),rd,wr,pv,pn,kn,ln,pp,kp,lp⟩:SV))) (h0:Ow sA (inT ((pb,39,cS mo po inp (some aj) (((⟨some ax,xc,(⟨some ay,yc,yd⟩::rc),xb⟩:JV)::rj).length) kj rd wr pv pn ln.length kn pp lp.length kp)::T)) w w ((pb,39,cS mo po inp (some aj) (((⟨some ax,xc,(⟨some ay,yc,yd⟩::rc),xb⟩:JV)::rj).length) kj rd wr pv pn ln.length kn pp lp.length kp)::T)) (hm:SV.sm (⟨mo,po,inp,some aj,kj,((⟨some ax,xc,(⟨some ay,yc,yd⟩::rc),xb⟩:JV)::rj),rd,wr,pv,pn,kn,ln,pp,kp,lp⟩:SV)) (hvl:Aq (((⟨some ax,xc,(⟨some ay,yc,yd⟩::rc),xb⟩:JV)::rj).map JV.d)=true) (hE : ∀ w',Only (inT ((pb,39,cS mo po inp (some aj) (((⟨some ax,xc,(⟨some ay,yc,yd⟩::rc),xb⟩:JV)::rj).length) kj rd wr pv pn ln.length kn pp lp.length kp)::T)) w w'->ErrOk w') (hp0:lp.length=0) :
 Calls sA 90 #[pt pb] w fun e w'=>∃ (v:SV) (c:CallL) (b:Bool) (Tn:OwL),B6 (SV.d (⟨mo,po,inp,some aj,kj,((⟨some ax,xc,(⟨some ay,yc,yd⟩::rc),xb⟩:JV)::rj),rd,wr,pv,pn,kn,ln,pp,kp,lp⟩:SV))=(v.d,if b=true then some c else none)/\c.data=[]/\v.sm/\e = .returned (.tuple #[.agg #[Z c.call,Z c.a0,Z c.a1,Z c.a2,.slice none 0 0],I b])/\Ow sA (inT ((pb,39,cS mo po inp (some aj) (((⟨some ax,xc,(⟨some ay,yc,yd⟩::rc),xb⟩:JV)::rj).length) kj rd wr pv pn ln.length kn pp lp.length kp)::T)) w w' ((pb,39,v.cells)::(T++Tn))/\Ah (T++Tn) v.ok:=by
 refine Ao (args:=[pt pb]) (m:=112) (n:=113) Tryz.func90 rfl (by kernel_rfl) (by kernel_rfl) fun J V=>?_;generalize inT ((pb,39,cS mo po inp (some aj) (((⟨some ax,xc,(⟨some ay,yc,yd⟩::rc),xb⟩:JV)::rj).length) kj rd wr pv pn ln.length kn pp lp.length kp)::T)=M at *;have O:Ow sA M w w ([(pb,39,(cS mo po inp (some aj) (((⟨some ax,xc,(⟨some ay,yc,yd⟩::rc),xb⟩:JV)::rj).length) kj rd wr pv pn ln.length kn pp lp.length kp))]++(T++([]))):=h0.to (by first | rfl | first | rfl | (simp only [TP,apd]));have hm_cj:((⟨some ax,xc,(⟨some ay,yc,yd⟩::rc),xb⟩:JV)::rj).length<=kj:=hm.cj;have hm_jl:((⟨some ax,xc,(⟨some ay,yc,yd⟩::rc),xb⟩:JV)::rj).length<=1000000:=smL.len hm.j;obtain ⟨hxl,hxv⟩:=Pq hvl;have hxl : 1<=(⟨some ay,yc,yd⟩::rc).length/\(⟨some ay,yc,yd⟩::rc).length<=4:=hxl;have hyv:Au yd=true:=hxv ⟨some ay,yc,yd⟩ sK;obtain ⟨hwl,hws⟩:=Hr hyv;obtain ⟨z1,hx1⟩ : ∃ x,(yd.words)[0]? = some x:=⟨_,Bg _ ⟨#[]⟩ (by first | omega | exact sU _)⟩;have hpos_ : 0 < ((⟨some ax,xc,(⟨some ay,yc,yd⟩::rc),xb⟩:JV)::rj).length:=sU _;have hie:=bR (p:=some ay) (c:=yc) (r:=rc) hx1;unfold Z1 at hie
 refine sr 2 (Mn [Z 0,Z 0,Z 0,Z 0,.slice none 0 0] 43 2 V O fun J w1 b1 V O=>Ka 1 [(3,I false)] V fun J V=>Ab (Aa (sr 8 (Kb 6 [(11,.agg #[.slice (some ax) ((⟨some ay,yc,yd⟩::rc).length) xc,I xb])] V [.slice (some aj) (((⟨some ax,xc,(⟨some ay,yc,yd⟩::rc),xb⟩:JV)::rj).length) kj,.agg #[.slice (some ax) ((⟨some ay,yc,yd⟩::rc).length) xc,I xb]] (cc (O.l1 1 3 36 (.slice (some aj) (((⟨some ax,xc,(⟨some ay,yc,yd⟩::rc),xb⟩:JV)::rj).length) kj)) (cc (⟨by omega,by omega⟩:(0:Int)<=0/\0 < ((((⟨some ax,xc,(⟨some ay,yc,yd⟩::rc),xb⟩:JV)::rj).length:Nat):Int)) (cc ((((Ah.at (A:=[_,_]) hG O.m).j.1).ldn Ec (rfl:((⟨some ax,xc,(⟨some ay,yc,yd⟩::rc),xb⟩:JV)::rj)[0]? = some (⟨some ax,xc,(⟨some ay,yc,yd⟩::rc),xb⟩:JV))):Ld sA w1 (aj.add 0) 103 (.agg #[.slice (some ax) ((⟨some ay,yc,yd⟩::rc).length) xc,I xb])) c0))) fun J V=>Mn [.slice none 0 0,I false] 103 4 V O fun J w2 b2 V O=>Ms 0 [.slice (some ax) ((⟨some ay,yc,yd⟩::rc).length) xc,I xb] 0 V O fun w3 O=>Ab (Aa (Sb [(5,Z (((⟨some ay,yc,yd⟩::rc).length:Nat):Int))] V [.slice (some ax) ((⟨some ay,yc,yd⟩::rc).length) xc] (cc (O.l1 0 0 101 (.slice (some ax) ((⟨some ay,yc,yd⟩::rc).length) xc)) c0) fun J V=>wp_seq (wp_block (sJ (fun J W=>Holds 113 [] J [(0,pt pb),(2,pt b1),(3,I false),(4,pt b2),(5,Z (((⟨some ay,yc,yd⟩::rc).length:Nat):Int)),(26,I (Be ((⟨some ay,yc,yd⟩::rc).map CV.d) && (po == 0)))]/\Ow sA M w W ([(b2,103,[.slice (some ax) ((⟨some ay,yc,yd⟩::rc).length) xc,I xb]),(b1,43,[Z 0,Z 0,Z 0,Z 0,.slice none 0 0]),(pb,39,(cS mo po inp (some aj) (((⟨some ax,xc,(⟨some ay,yc,yd⟩::rc),xb⟩:JV)::rj).length) kj rd wr pv pn ln.length kn pp lp.length kp))]++(T++([])))/\True) ?_ ?_))))))))
 · rintro J w4 ⟨V,O,-⟩;rcases rU (Be ((⟨some ay,yc,yd⟩::rc).map CV.d) && (po == 0)) with h1 | h1
   · rw [h1] at V;have hye:=Xa h1
     exact cT V (sr 4 (Ka 3 [(48,pt pb)] V fun J V=>Ms 0 [Z 7] 2 V O fun w5 O=>Ab (Aa (sr 9 (Kb 4 [(52,.agg #[.slice (some ay) yd.words.length yc,Y yd.inp,Y yd.out,I yd.app])] V [.slice (some ax) ((⟨some ay,yc,yd⟩::rc).length) xc,.agg #[.slice (some ay) yd.words.length yc,Y yd.inp,Y yd.out,I yd.app]] (cc (O.l1 0 0 101 (.slice (some ax) ((⟨some ay,yc,yd⟩::rc).length) xc)) (cc (⟨by omega,by omega⟩:(0:Int)<=0/\0 < (((⟨some ay,yc,yd⟩::rc).length:Nat):Int)) (cc ((((show Vw fC _ (.slice (some ax) (⟨some ay,yc,yd⟩::rc).length xc) (⟨some ay,yc,yd⟩::rc)/\∀ y∈(⟨some ay,yc,yd⟩::rc),VC _ y from (Ah.at (A:=[_,_,_]) hG O.m).j.2 _ sK).1).ldn Ey (rfl:((⟨some ay,yc,yd⟩::rc):List CV)[0]? = some ⟨some ay,yc,yd⟩)):Ld sA w5 (ax.add 0) 104 (.agg #[.slice (some ay) yd.words.length yc,Y yd.inp,Y yd.out,I yd.app])) c0))) fun J V=>Mk 53 V O Tryz.func106 (iL (some ay) yc yd _ (show Vw fT _ (.slice (some ay) yd.words.length yc) yd.words from (show Vw fC _ (.slice (some ax) (⟨some ay,yc,yd⟩::rc).length xc) (⟨some ay,yc,yd⟩::rc)/\∀ y∈(⟨some ay,yc,yd⟩::rc),VC _ y from (Ah.at (A:=[_,_,_]) hG O.m).j.2 _ sK).2 _ sK) (hE _ O.only) (fun z hz=>⟨(hws z hz).1,by have:=(hws z hz).2; omega⟩)) fun J w6 V O=>Mv [Z (Co yd.words)] 3 1 54 V O fun J w7 b3 V O=>Mk 55 V O Tryz.func28 (Dj 0 (Co yd.words) ⟨b3,0,none⟩ 1 _ ((O.b 0).vw (off:=0) (xs:=[Co yd.words]) (by kernel_rfl))) fun J w8 V O=>Ms 0 [Z 0,Z (Co yd.words),Z 0,Z 0,.slice none 0 0] 2 V O fun w9 O=>Ka 1 [(3,I true)] V fun J V=>Ab (Aa (wp_ret (Ae (Ad (cR (cs:=[some (⟨b1,0,none⟩,43),none]) (us:=[.agg #[Z 0,Z (Co yd.words),Z 0,Z 0,.slice none 0 0],I true]) V [.agg #[Z 0,Z (Co yd.words),Z 0,Z 0,.slice none 0 0]] ⟨(O.ln 2 0 43 [Z 0,Z (Co yd.words),Z 0,Z 0,.slice none 0 0]),trivial⟩ (⟨(⟨7,po,inp,some aj,kj,((⟨some ax,xc,(⟨some ay,yc,yd⟩::rc),xb⟩:JV)::rj),rd,wr,pv,pn,kn,ln,pp,kp,lp⟩:SV),Ap 0 (Co yd.words) 0,true,([]),sj_a hye.1 hye.2,rfl,⟨hm.i,hm.j,hm.k,hm.p,hm.ck,hm.cj,hm.cp⟩,rfl,(((Ow.subP (A:=[_,_,_,_]) O (.cons _ (.cons _ (.cons _ (.cons_cons _ .slnil)))))).tt),((ok3 (T:=T++([])) (x:=(⟨7,po,inp,some aj,kj,((⟨some ax,xc,(⟨some ay,yc,yd⟩::rc),xb⟩:JV)::rj),rd,wr,pv,pn,kn,ln,pp,kp,lp⟩:SV)) ((hG.mono fun _ h_=>h_.j).l) ((hG.mono fun _ h_=>h_.k).l) ((hG.mono fun _ h_=>h_.p).l)).tt)⟩)))))))))))
   rw [h1] at V;have hne:=Te h1;refine cF V (sJ (fun J W=>Holds 113 [] J [(0,pt pb),(2,pt b1),(3,I false),(4,pt b2),(5,Z (((⟨some ay,yc,yd⟩::rc).length:Nat):Int)),(56,I ((po == 0) && Bz ((⟨some ay,yc,yd⟩::rc).map CV.d)))]/\Ow sA M w W ([(b2,103,[.slice (some ax) ((⟨some ay,yc,yd⟩::rc).length) xc,I xb]),(b1,43,[Z 0,Z 0,Z 0,Z 0,.slice none 0 0]),(pb,39,(cS mo po inp (some aj) (((⟨some ax,xc,(⟨some ay,yc,yd⟩::rc),xb⟩:JV)::rj).length) kj rd wr pv pn ln.length kn pp lp.length kp))]++(T++([])))/\True) ?_ ?_)
   · rintro J w10 ⟨V,O,-⟩;rcases rU ((po == 0) && Bz ((⟨some ay,yc,yd⟩::rc).map CV.d)) with h2 | h2
     · rw [h2] at V;have hyl:=V9 h2;refine cT V (sr 2 (Ka 1 [(67,pt pb)] V fun J V=>?_));replace O:Ow sA M w w10 ([(b2,103,[.slice (some ax) ((⟨some ay,yc,yd⟩::rc).length) xc,I xb]),(b1,43,[Z 0,Z 0,Z 0,Z 0,.slice none 0 0]),(pb,39,(cS mo po inp (some aj) (((⟨some ax,xc,(⟨some ay,yc,yd⟩::rc),xb⟩:JV)::rj).length) kj rd wr pv pn ln.length kn pp lp.length kp))]++(T++([]))):=O;refine Ag (mC (d:=(some 68)) V Tryz.func109 ((On pb mo po inp aj kj (⟨some ax,xc,(⟨some ay,yc,yd⟩::rc),xb⟩:JV) rj rd wr pv pn kn ln pp kp lp _ (Ow.self (A:=[_,_]) (O.tt)) hm_cj).mono ?_));rintro en w11 ⟨rfl,p1,k1,hW,hcap1,hvt1⟩;refine ⟨_,rfl,?_⟩;clear V J; intro J V;replace O:=Ow.pass (A:=[_,_]) O hW; clear hW;refine Ab (Aa (rr 4 (Ka 1 [(69,pt pb)] V fun J V=>Ag (mC (d:=(some 70)) V Tryz.func96 ((F9 _).mono ?_)))));rintro en w12 ⟨p2,c1,T1,rfl,hT1,hW⟩;refine ⟨_,rfl,?_⟩;clear V J; intro J V;replace O:=Ow.join O hW; clear hW;replace O:Ow sA M w _ ([(b2,103,[.slice (some ax) ((⟨some ay,yc,yd⟩::rc).length) xc,I xb]),(b1,43,[Z 0,Z 0,Z 0,Z 0,.slice none 0 0]),(pb,39,(cS mo po inp p1 rj.length k1 rd wr pv pn ln.length kn pp lp.length kp))]++(T++(T1++([])))):=O.to (by first | rfl | (simp only [TP,apd]));refine Mv [Z 10,Z 2,Z 0,Z 0,.slice p2 (([63,10]:List Int).length) c1] 43 1 71 V O fun J w13 b4 V O=>?_
       replace O:Ow sA M w w13 ([(b4,43,[Z 10,Z 2,Z 0,Z 0,.slice p2 (([63,10]:List Int).length) c1]),(b2,103,[.slice (some ax) ((⟨some ay,yc,yd⟩::rc).length) xc,I xb]),(b1,43,[Z 0,Z 0,Z 0,Z 0,.slice none 0 0]),(pb,39,(cS mo po inp p1 rj.length k1 rd wr pv pn ln.length kn pp lp.length kp))]++(T++(T1++([])))):=O;refine Ag (mC (d:=(some 72)) V Tryz.func95 ((Kv pb mo po inp p1 k1 rj rd wr pv pn kn ln pp kp lp ⟨p2,c1,⟨10,2,0,0,[63,10]⟩⟩ ⟨b4,0,none⟩ 1 _ (Ow.self (A:=[_,_,_]) (O.tt)) (Zb (A:=[_,_,_]) (Q:=(fun w_=>Vw fP w_ (.slice pp lp.length kp) lp)) ((hG.mono fun _ h_=>h_.p.1).l) (O.tt:Ow sA M w _ (([(b4,43,[Z 10,Z 2,Z 0,Z 0,.slice p2 (([63,10]:List Int).length) c1]),(b2,103,[.slice (some ax) ((⟨some ay,yc,yd⟩::rc).length) xc,I xb]),(b1,43,[Z 0,Z 0,Z 0,Z 0,.slice none 0 0])]++[(pb,39,cS mo po inp p1 rj.length k1 rd wr pv pn ln.length kn pp lp.length kp)])++((T++(T1++([])))++[])))) (fun w_ k_=>((Tt (A:=[_,_,_]) (O.tt:Ow sA M w _ (([(b4,43,[Z 10,Z 2,Z 0,Z 0,.slice p2 (([63,10]:List Int).length) c1]),(b2,103,[.slice (some ax) ((⟨some ay,yc,yd⟩::rc).length) xc,I xb]),(b1,43,[Z 0,Z 0,Z 0,Z 0,.slice none 0 0])]++[(pb,39,cS mo po inp p1 rj.length k1 rd wr pv pn ln.length kn pp lp.length kp)])++((T++(T1++([])))++[]))) k_).b 0).vw (off:=0) (xs:=([⟨p2,c1,⟨10,2,0,0,[63,10]⟩⟩]:List PV)) (by kernel_rfl)) (by omega)).mono ?_));rintro en w14 ⟨rfl,p3,k2,T2,hT2,hW⟩;refine ⟨_,rfl,?_⟩;clear V J; intro J V;replace O:=Ow.pass2 (A:=[_,_,_]) O hW; clear hW
       replace O:Ow sA M w w14 ([(b4,43,[Z 10,Z 2,Z 0,Z 0,.slice p2 (([63,10]:List Int).length) c1]),(b2,103,[.slice (some ax) ((⟨some ay,yc,yd⟩::rc).length) xc,I xb]),(b1,43,[Z 0,Z 0,Z 0,Z 0,.slice none 0 0]),(pb,39,(cS mo po inp p1 rj.length k1 rd wr pv pn ln.length kn p3 ((lp++([⟨p2,c1,⟨10,2,0,0,[63,10]⟩⟩]:List PV)).length) k2))]++(T++(T1++(T2++([]))))):=O.to (by first | rfl | (simp only [TP,apd]));refine Ab (Ac (Aa (sr 3 (Ka 1 [(112,.agg #[Z 0,Z 0,Z 0,Z 0,.slice none 0 0])] V fun J V=>Ms 0 [Z 0,Z 0,Z 0,Z 0,.slice none 0 0] 2 V O fun w15 O=>Ka 1 [] V fun J V=>Ab (Aa (wp_ret (cR (cs:=[some (⟨b1,0,none⟩,43),none]) (us:=[.agg #[Z 0,Z 0,Z 0,Z 0,.slice none 0 0],I false]) V [.agg #[Z 0,Z 0,Z 0,Z 0,.slice none 0 0]] ⟨(O.ln 2 0 43 [Z 0,Z 0,Z 0,Z 0,.slice none 0 0]),trivial⟩ ?_)))))));have heq_:SV.d (⟨mo,po,inp,p1,k1,rj,rd,wr,pv,pn,kn,ln,p3,k2,lp++([⟨p2,c1,⟨10,2,0,0,[63,10]⟩⟩]:List PV)⟩:SV) = {SV.d (⟨mo,po,inp,some aj,kj,((⟨some ax,xc,(⟨some ay,yc,yd⟩::rc),xb⟩:JV)::rj),rd,wr,pv,pn,kn,ln,pp,kp,lp⟩:SV) with jobs:=rj.map JV.d,plan:=(SV.d (⟨mo,po,inp,some aj,kj,((⟨some ax,xc,(⟨some ay,yc,yd⟩::rc),xb⟩:JV)::rj),rd,wr,pv,pn,kn,ln,pp,kp,lp⟩:SV)).plan++[Ca]}:=by unfold SV.d; simp only [List.map_append]; rfl
       replace O:Ow sA M w w15 ([(b4,43,[Z 10,Z 2,Z 0,Z 0,.slice p2 (([63,10]:List Int).length) c1]),(b2,103,[.slice (some ax) ((⟨some ay,yc,yd⟩::rc).length) xc,I xb]),(b1,43,[Z 0,Z 0,Z 0,Z 0,.slice none 0 0]),(pb,39,(cS mo po inp p1 rj.length k1 rd wr pv pn ln.length kn p3 ((lp++([⟨p2,c1,⟨10,2,0,0,[63,10]⟩⟩]:List PV)).length) k2))]++(T++(T1++(T2++([]))))):=O;exact ⟨(⟨mo,po,inp,p1,k1,rj,rd,wr,pv,pn,kn,ln,p3,k2,lp++([⟨p2,c1,⟨10,2,0,0,[63,10]⟩⟩]:List PV)⟩:SV),Ap 0 0 0,false,(T1++(T2++([]))),(sj_b hne hyl).trans (congrArg (fun z=>(z,none)) heq_.symm),rfl,⟨hm.i,oH hm.j,hm.k,(by show (lp++[_]).length<=_; rw [sD,hp0]; show 0+1<=_; omega),hm.ck,hcap1,hT2.le⟩,rfl,(show Ow sA M w _ ((pb,39,cS mo po inp p1 rj.length k1 rd wr pv pn ln.length kn p3 ((lp++([⟨p2,c1,⟨10,2,0,0,[63,10]⟩⟩]:List PV)).length) k2)::(T++(T1++(T2++([]))))) from ((Ow.subP (A:=[_,_,_,_]) O (.cons _ (.cons _ (.cons _ (.cons_cons _ .slnil)))))).tt),((ok3 (T:=T++(T1++(T2++([])))) (x:=(⟨mo,po,inp,p1,k1,rj,rd,wr,pv,pn,kn,ln,p3,k2,lp++([⟨p2,c1,⟨10,2,0,0,[63,10]⟩⟩]:List PV)⟩:SV)) ((hG.mono fun w_ h_=>hvt1 w_ h_.j).l) ((hG.mono fun _ h_=>h_.k).l) (N1 (T:=T++(T1++(T2++([])))) (hT2.holds.l.r.r) ((hG.mono fun _ h_=>h_.p.2).l) (Hq (x:=⟨p2,c1,⟨10,2,0,0,[63,10]⟩⟩) (hT1.holds.l.r) H9))).tt)⟩
     rw [h2] at V;have hnl:=S9 h2;refine cF V (Sb [(73,I (po == ((((⟨some ay,yc,yd⟩::rc).length:Nat):Int) - 1)))] V [Z po,I true] (cc (O.l1 2 1 3 (Z po)) (cc ((Am (by omega) (by omega)):inK .i64 ((((⟨some ay,yc,yd⟩::rc).length:Nat):Int) - 1)) c0)) fun J V=>?_);rcases rU (po == ((((⟨some ay,yc,yd⟩::rc).length:Nat):Int) - 1)) with h3 | h3
     · rw [h3] at V;have h3p:=eq_of_beq h3;refine cT V (sr 4 (Ka 3 [(83,pt pb)] V fun J V=>Ms 0 [Z 4] 2 V O fun w16 O=>Ab (Aa (sr 3 (Mk 84 V O Tryz.func28 (Ry 1 _) fun J w17 V O=>Ms 0 [Z 1,Z 0,Z 0,Z 0,.slice none 0 0] 1 V O fun w18 O=>Ka 1 [(3,I true)] V fun J V=>Ab (Aa (wp_ret (Ae (Ad (cR (cs:=[some (⟨b1,0,none⟩,43),none]) (us:=[.agg #[Z 1,Z 0,Z 0,Z 0,.slice none 0 0],I true]) V [.agg #[Z 1,Z 0,Z 0,Z 0,.slice none 0 0]] ⟨(O.ln 1 0 43 [Z 1,Z 0,Z 0,Z 0,.slice none 0 0]),trivial⟩ ?_))))))))));replace O:Ow sA M w w18 ([(b2,103,[.slice (some ax) ((⟨some ay,yc,yd⟩::rc).length) xc,I xb]),(b1,43,[Z 1,Z 0,Z 0,Z 0,.slice none 0 0]),(pb,39,(cS 4 po inp (some aj) (((⟨some ax,xc,(⟨some ay,yc,yd⟩::rc),xb⟩:JV)::rj).length) kj rd wr pv pn ln.length kn pp lp.length kp))]++(T++([]))):=O;exact ⟨(⟨4,po,inp,some aj,kj,((⟨some ax,xc,(⟨some ay,yc,yd⟩::rc),xb⟩:JV)::rj),rd,wr,pv,pn,kn,ln,pp,kp,lp⟩:SV),Ap 1 0 0,true,([]),sj_c hne hnl (by omega),rfl,⟨hm.i,hm.j,hm.k,hm.p,hm.ck,hm.cj,hm.cp⟩,rfl,(show Ow sA M w _ ((pb,39,cS 4 po inp (some aj) (((⟨some ax,xc,(⟨some ay,yc,yd⟩::rc),xb⟩:JV)::rj).length) kj rd wr pv pn ln.length kn pp lp.length kp)::(T++([]))) from ((Ow.subP (A:=[_,_,_]) O (.cons _ (.cons _ (.cons_cons _ .slnil))))).tt),((ok3 (T:=T++([])) (x:=(⟨4,po,inp,some aj,kj,((⟨some ax,xc,(⟨some ay,yc,yd⟩::rc),xb⟩:JV)::rj),rd,wr,pv,pn,kn,ln,pp,kp,lp⟩:SV)) ((hG.mono fun _ h_=>h_.j).l) ((hG.mono fun _ h_=>h_.k).l) ((hG.mono fun _ h_=>h_.p).l)).tt)⟩
     rw [h3] at V;have h3p:=ne_of_beq_false h3;refine cF V (Sb [(85,I (decide (po < (((⟨some ay,yc,yd⟩::rc).length:Nat):Int))))] V [Z po] (cc (O.l1 2 1 3 (Z po)) c0) fun J V=>?_);rcases rU (decide (po < (((⟨some ay,yc,yd⟩::rc).length:Nat):Int))) with h4 | h4
     · rw [h4] at V;have h4p:=rV h4;exact cT V (sr 4 (Ka 3 [(94,pt pb)] V fun J V=>Ms 0 [Z 3] 2 V O fun w19 O=>Ab (Aa (sr 3 (Mk 95 V O Tryz.func28 (Ry 11 _) fun J w20 V O=>Ms 0 [Z 11,Z 0,Z 0,Z 0,.slice none 0 0] 1 V O fun w21 O=>Ka 1 [(3,I true)] V fun J V=>Ab (Aa (wp_ret (Ae (Ad (cR (cs:=[some (⟨b1,0,none⟩,43),none]) (us:=[.agg #[Z 11,Z 0,Z 0,Z 0,.slice none 0 0],I true]) V [.agg #[Z 11,Z 0,Z 0,Z 0,.slice none 0 0]] ⟨(O.ln 1 0 43 [Z 11,Z 0,Z 0,Z 0,.slice none 0 0]),trivial⟩ (⟨(⟨3,po,inp,some aj,kj,((⟨some ax,xc,(⟨some ay,yc,yd⟩::rc),xb⟩:JV)::rj),rd,wr,pv,pn,kn,ln,pp,kp,lp⟩:SV),Ap 11 0 0,true,([]),sj_d hne hnl (by omega) (by omega),rfl,⟨hm.i,hm.j,hm.k,hm.p,hm.ck,hm.cj,hm.cp⟩,rfl,(((Ow.subP (A:=[_,_,_]) O (.cons _ (.cons _ (.cons_cons _ .slnil))))).tt),((ok3 (T:=T++([])) (x:=(⟨3,po,inp,some aj,kj,((⟨some ax,xc,(⟨some ay,yc,yd⟩::rc),xb⟩:JV)::rj),rd,wr,pv,pn,kn,ln,pp,kp,lp⟩:SV)) ((hG.mono fun _ h_=>h_.j).l) ((hG.mono fun _ h_=>h_.k).l) ((hG.mono fun _ h_=>h_.p).l)).tt)⟩)))))))))))
     rw [h4] at V;have h4p:=rX h4;refine cF V (sJ (fun J W=>Holds 113 [] J [(0,pt pb),(2,pt b1),(3,I false),(96,I ((!xb) && (decide (((ln.length:Nat):Int) > 0))))]/\Ow sA M w W ([(b2,103,[.slice (some ax) ((⟨some ay,yc,yd⟩::rc).length) xc,I xb]),(b1,43,[Z 0,Z 0,Z 0,Z 0,.slice none 0 0]),(pb,39,(cS mo po inp (some aj) (((⟨some ax,xc,(⟨some ay,yc,yd⟩::rc),xb⟩:JV)::rj).length) kj rd wr pv pn ln.length kn pp lp.length kp))]++(T++([])))/\True) ?_ ?_)
     · rintro J w22 ⟨V,O,-⟩;rcases rU ((!xb) && (decide (((ln.length:Nat):Int) > 0))) with h5 | h5
       · rw [h5] at V;have hyw:=of_wt h5;exact cT V (sr 4 (Ka 3 [(110,pt pb)] V fun J V=>Ms 0 [Z 5] 2 V O fun w23 O=>Ab (Aa (sr 3 (Mk 111 V O Tryz.func28 (Ry 3 _) fun J w24 V O=>Ms 0 [Z 3,Z 0,Z 0,Z 0,.slice none 0 0] 1 V O fun w25 O=>Ka 1 [(3,I true)] V fun J V=>Ab (Aa (wp_ret (Ae (Ad (cR (cs:=[some (⟨b1,0,none⟩,43),none]) (us:=[.agg #[Z 3,Z 0,Z 0,Z 0,.slice none 0 0],I true]) V [.agg #[Z 3,Z 0,Z 0,Z 0,.slice none 0 0]] ⟨(O.ln 1 0 43 [Z 3,Z 0,Z 0,Z 0,.slice none 0 0]),trivial⟩ (⟨(⟨5,po,inp,some aj,kj,((⟨some ax,xc,(⟨some ay,yc,yd⟩::rc),xb⟩:JV)::rj),rd,wr,pv,pn,kn,ln,pp,kp,lp⟩:SV),Ap 3 0 0,true,([]),sj_e hne hnl (by omega) (by omega) hyw,rfl,⟨hm.i,hm.j,hm.k,hm.p,hm.ck,hm.cj,hm.cp⟩,rfl,(show Ow sA M w _ ((pb,39,cS 5 po inp (some aj) (((⟨some ax,xc,(⟨some ay,yc,yd⟩::rc),xb⟩:JV)::rj).length) kj rd wr pv pn ln.length kn pp lp.length kp)::(T++([]))) from ((Ow.subP (A:=[_,_,_]) O (.cons _ (.cons _ (.cons_cons _ .slnil))))).tt),((ok3 (T:=T++([])) (x:=(⟨5,po,inp,some aj,kj,((⟨some ax,xc,(⟨some ay,yc,yd⟩::rc),xb⟩:JV)::rj),rd,wr,pv,pn,kn,ln,pp,kp,lp⟩:SV)) ((hG.mono fun _ h_=>h_.j).l) ((hG.mono fun _ h_=>h_.k).l) ((hG.mono fun _ h_=>h_.p).l)).tt)⟩)))))))))))
       rw [h5] at V;have hnw:=qH h5;refine cF V (sr 2 (Ka 1 [(15,pt pb)] V fun J V=>?_));replace O:Ow sA M w w22 ([(b2,103,[.slice (some ax) ((⟨some ay,yc,yd⟩::rc).length) xc,I xb]),(b1,43,[Z 0,Z 0,Z 0,Z 0,.slice none 0 0]),(pb,39,(cS mo po inp (some aj) (((⟨some ax,xc,(⟨some ay,yc,yd⟩::rc),xb⟩:JV)::rj).length) kj rd wr pv pn ln.length kn pp lp.length kp))]++(T++([]))):=O;refine Ag (mC (d:=(some 16)) V Tryz.func109 ((On pb mo po inp aj kj (⟨some ax,xc,(⟨some ay,yc,yd⟩::rc),xb⟩:JV) rj rd wr pv pn kn ln pp kp lp _ (Ow.self (A:=[_,_]) (O.tt)) hm_cj).mono ?_));rintro en w26 ⟨rfl,p4,k3,hW,hcap2,hvt2⟩;refine ⟨_,rfl,?_⟩;clear V J; intro J V;replace O:=Ow.pass (A:=[_,_]) O hW; clear hW
       exact Ab (Aa (rr 12 (Ka 5 [(18,pt pb),(19,pt pb),(21,pf pb 7)] V fun J V=>Ms 7 [.slice none 0 0] 2 V O fun w27 O=>Ka 2 [(23,pf pb 1)] V fun J V=>Ms 1 [Z 0] 2 V O fun w28 O=>Ka 2 [(25,pf pb 6)] V fun J V=>Ms 6 [Z (-1)] 2 V O fun w29 O=>Ab (Ac (Aa (sr 3 (Ka 1 [(112,.agg #[Z 0,Z 0,Z 0,Z 0,.slice none 0 0])] V fun J V=>Ms 0 [Z 0,Z 0,Z 0,Z 0,.slice none 0 0] 1 V O fun w30 O=>Ka 1 [] V fun J V=>Ab (Aa (wp_ret (cR (cs:=[some (⟨b1,0,none⟩,43),none]) (us:=[.agg #[Z 0,Z 0,Z 0,Z 0,.slice none 0 0],I false]) V [.agg #[Z 0,Z 0,Z 0,Z 0,.slice none 0 0]] ⟨(O.ln 1 0 43 [Z 0,Z 0,Z 0,Z 0,.slice none 0 0]),trivial⟩ (⟨(⟨mo,0,inp,p4,k3,rj,rd,wr,(-1),none,0,([]:List Int),pp,kp,lp⟩:SV),Ap 0 0 0,false,([]),sj_f hne hnl (by omega) (by omega) hnw,rfl,⟨hm.i,oH hm.j,Nat.zero_le _,hm.p,Nat.zero_le _,hcap2,hm.cp⟩,rfl,(((Ow.subP (A:=[_,_,_]) O (.cons _ (.cons _ (.cons_cons _ .slnil))))).tt),((ok3 (T:=T++([])) (x:=(⟨mo,0,inp,p4,k3,rj,rd,wr,(-1),none,0,([]:List Int),pp,kp,lp⟩:SV)) ((hG.mono fun w_ h_=>hvt2 w_ h_.j).l) (fun _ _ _ _=> .inl ⟨rfl,rfl⟩) ((hG.mono fun _ h_=>h_.p).l)).tt)⟩)))))))))))
     refine rr 12 (Kb 4 [(99,I (!xb)),(100,I (!xb))] V [I xb] (cc (O.l1 0 1 4 (I xb)) c0) fun J V=>?_);rcases rU (xb) with h6 | h6
     · rw [h6] at V;exact Ka 8 [(96,I false)] V fun J V=>Ab (Aa (⟨(V.sub (e':=[(0,pt pb),(2,pt b1),(3,I false),(96,I false)]) [0,2,3,96] (by kernel_rfl)).cast (by (rw [show ((!xb) && (decide (((ln.length:Nat):Int) > 0)))=(false) from by first | (rw [hie,rZ (show ¬ (⟨some ay,yc,yd⟩::rc).length=1 by omega)]; rfl) | (rw [hie,rY (show (⟨some ay,yc,yd⟩::rc).length=1 by omega),Bool.true_and]; simp_all; done) | (simp_all; done)]) <;> kernel_rfl),O,trivial⟩))
     rw [h6] at V;exact Kb 8 [(96,I (decide (((ln.length:Nat):Int) > 0)))] V [.slice pn ln.length kn] (cc (O.l1 2 7 33 (.slice pn ln.length kn)) c0) fun J V=>Ab (Aa (⟨(V.sub (e':=[(0,pt pb),(2,pt b1),(3,I false),(96,I (decide (((ln.length:Nat):Int) > 0)))]) [0,2,3,96] (by kernel_rfl)).cast (by (rw [show ((!xb) && (decide (((ln.length:Nat):Int) > 0)))=(decide (((ln.length:Nat):Int) > 0)) from by first | (rw [hie,rZ (show ¬ (⟨some ay,yc,yd⟩::rc).length=1 by omega)]; rfl) | (rw [hie,rY (show (⟨some ay,yc,yd⟩::rc).length=1 by omega),Bool.true_and]; simp_all; done) | (simp_all; done)]) <;> kernel_rfl),O,trivial⟩))
   refine rr 11 (Kb 6 [(61,I (po == 0)),(62,I (po == 0))] V [Z po] (cc (O.l1 2 1 3 (Z po)) c0) fun J V=>?_);rcases rU (po == 0) with h7 | h7
   · rw [h7] at V;have h7p:=eq_of_beq h7;exact Kb 2 [(62,I true),(64,.slice (some ax) ((⟨some ay,yc,yd⟩::rc).length) xc)] V [.slice (some ax) ((⟨some ay,yc,yd⟩::rc).length) xc] (cc (O.l1 0 0 101 (.slice (some ax) ((⟨some ay,yc,yd⟩::rc).length) xc)) c0) fun J V=>Mk 65 V O Tryz.func107 (nM (some ax) xc (⟨some ay,yc,yd⟩::rc) _ (show Vw fC _ (.slice (some ax) (⟨some ay,yc,yd⟩::rc).length xc) (⟨some ay,yc,yd⟩::rc)/\∀ y∈(⟨some ay,yc,yd⟩::rc),VC _ y from (Ah.at (A:=[_,_,_]) hG O.m).j.2 _ sK).1 (by omega)) fun J w31 V O=>Ka 2 [(56,I (Bz ((⟨some ay,yc,yd⟩::rc).map CV.d)))] V fun J V=>Ab (Aa (⟨(V.sub (e':=[(0,pt pb),(2,pt b1),(3,I false),(4,pt b2),(5,Z (((⟨some ay,yc,yd⟩::rc).length:Nat):Int)),(56,I (Bz ((⟨some ay,yc,yd⟩::rc).map CV.d)))]) [0,2,3,4,5,56] (by kernel_rfl)).cast (by (rw [show ((po == 0) && Bz ((⟨some ay,yc,yd⟩::rc).map CV.d))=(Bz ((⟨some ay,yc,yd⟩::rc).map CV.d)) from by first | (rw [hie,rZ (show ¬ (⟨some ay,yc,yd⟩::rc).length=1 by omega)]; rfl) | (rw [hie,rY (show (⟨some ay,yc,yd⟩::rc).length=1 by omega),Bool.true_and]; simp_all; done) | (simp_all; done)]) <;> kernel_rfl),O.tt,trivial⟩))
   rw [h7] at V;have h7p:=ne_of_beq_false h7;exact Ka 5 [(56,I false)] V fun J V=>Ab (Aa (⟨(V.sub (e':=[(0,pt pb),(2,pt b1),(3,I false),(4,pt b2),(5,Z (((⟨some ay,yc,yd⟩::rc).length:Nat):Int)),(56,I false)]) [0,2,3,4,5,56] (by kernel_rfl)).cast (by (rw [show ((po == 0) && Bz ((⟨some ay,yc,yd⟩::rc).map CV.d))=(false) from by first | (rw [hie,rZ (show ¬ (⟨some ay,yc,yd⟩::rc).length=1 by omega)]; rfl) | (rw [hie,rY (show (⟨some ay,yc,yd⟩::rc).length=1 by omega),Bool.true_and]; simp_all; done) | (simp_all; done)]) <;> kernel_rfl),O.tt,trivial⟩))
 refine rr 20 (Ka 3 [(28,I ((((⟨some ay,yc,yd⟩::rc).length:Nat):Int) == 1)),(29,I ((((⟨some ay,yc,yd⟩::rc).length:Nat):Int) == 1))] V fun J V=>?_);rcases rU ((((⟨some ay,yc,yd⟩::rc).length:Nat):Int) == 1) with h8 | h8
 · rw [h8] at V;have h8p:=eq_of_beq h8;refine Kb 10 [(37,I (z1.toList == (⟨#[101,120,105,116]⟩:ByteArray).toList)),(38,I (z1.toList == (⟨#[101,120,105,116]⟩:ByteArray).toList)),(39,I (z1.toList == (⟨#[101,120,105,116]⟩:ByteArray).toList))] V [.slice (some ax) ((⟨some ay,yc,yd⟩::rc).length) xc,.slice (some ay) yd.words.length yc,Y z1] (cc (O.l1 0 0 101 (.slice (some ax) ((⟨some ay,yc,yd⟩::rc).length) xc)) (cc (⟨by omega,by omega⟩:(0:Int)<=0/\0 < (((⟨some ay,yc,yd⟩::rc).length:Nat):Int)) (cc ((((show Vw fC _ (.slice (some ax) (⟨some ay,yc,yd⟩::rc).length xc) (⟨some ay,yc,yd⟩::rc)/\∀ y∈(⟨some ay,yc,yd⟩::rc),VC _ y from (Ah.at (A:=[_,_,_]) hG O.m).j.2 _ sK).1).ld0 Ey (rfl:((⟨some ay,yc,yd⟩::rc):List CV)[0]? = some ⟨some ay,yc,yd⟩) (by rfl)):Ld sA w3 (ax.add 0) 30 (.slice (some ay) yd.words.length yc)) (cc (⟨by omega,by omega⟩:(0:Int)<=0/\0 < ((yd.words.length:Nat):Int)) (cc ((((show Vw fT _ (.slice (some ay) yd.words.length yc) yd.words from (show Vw fC _ (.slice (some ax) (⟨some ay,yc,yd⟩::rc).length xc) (⟨some ay,yc,yd⟩::rc)/\∀ y∈(⟨some ay,yc,yd⟩::rc),VC _ y from (Ah.at (A:=[_,_,_]) hG O.m).j.2 _ sK).2 _ sK)).ldT hx1):Ld sA w3 (ay.add 0) 9 (Y z1)) c0))))) fun J V=>?_;rcases rU (z1.toList == (⟨#[101,120,105,116]⟩:ByteArray).toList) with h9 | h9
   · rw [h9] at V;exact Kb 7 [(26,I (po == 0))] V [Z po] (cc (O.l1 2 1 3 (Z po)) c0) fun J V=>Ab (Aa (⟨(V.sub (e':=[(0,pt pb),(2,pt b1),(3,I false),(4,pt b2),(5,Z (((⟨some ay,yc,yd⟩::rc).length:Nat):Int)),(26,I (po == 0))]) [0,2,3,4,5,26] (by kernel_rfl)).cast (by (rw [show (Be ((⟨some ay,yc,yd⟩::rc).map CV.d) && (po == 0))=(po == 0) from by first | (rw [hie,rZ (show ¬ (⟨some ay,yc,yd⟩::rc).length=1 by omega)]; rfl) | (rw [hie,rY (show (⟨some ay,yc,yd⟩::rc).length=1 by omega),Bool.true_and]; simp_all; done) | (simp_all; done)]) <;> kernel_rfl),O.tt,trivial⟩))
   rw [h9] at V;exact Ka 7 [(26,I false)] V fun J V=>Ab (Aa (⟨(V.sub (e':=[(0,pt pb),(2,pt b1),(3,I false),(4,pt b2),(5,Z (((⟨some ay,yc,yd⟩::rc).length:Nat):Int)),(26,I false)]) [0,2,3,4,5,26] (by kernel_rfl)).cast (by (rw [show (Be ((⟨some ay,yc,yd⟩::rc).map CV.d) && (po == 0))=(false) from by first | (rw [hie,rZ (show ¬ (⟨some ay,yc,yd⟩::rc).length=1 by omega)]; rfl) | (rw [hie,rY (show (⟨some ay,yc,yd⟩::rc).length=1 by omega),Bool.true_and]; simp_all; done) | (simp_all; done)]) <;> kernel_rfl),O.tt,trivial⟩))
 rw [h8] at V;have h8p:=ne_of_beq_false h8;exact Ka 17 [(26,I false)] V fun J V=>Ab (Aa (⟨(V.sub (e':=[(0,pt pb),(2,pt b1),(3,I false),(4,pt b2),(5,Z (((⟨some ay,yc,yd⟩::rc).length:Nat):Int)),(26,I false)]) [0,2,3,4,5,26] (by kernel_rfl)).cast (by (rw [show (Be ((⟨some ay,yc,yd⟩::rc).map CV.d) && (po == 0))=(false) from by first | (rw [hie,rZ (show ¬ (⟨some ay,yc,yd⟩::rc).length=1 by omega)]; rfl) | (rw [hie,rY (show (⟨some ay,yc,yd⟩::rc).length=1 by omega),Bool.true_and]; simp_all; done) | (simp_all; done)]) <;> kernel_rfl),O.tt,trivial⟩))
end Go.Proofs.YtdljjajjonfjbaaGreatDoor
