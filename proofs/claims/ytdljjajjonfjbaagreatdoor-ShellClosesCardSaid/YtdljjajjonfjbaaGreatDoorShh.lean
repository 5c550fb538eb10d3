import Derived.Test.YtdljjajjonfjbaaGreatDoorShc
import Derived.Test.YtdljjajjonfjbaaGreatDoorSn
import Derived.Shelf.Pu.ParseUintPublic10
import Derived.Test.YtdljjajjonfjbaaGreatDoorReaders
set_option linter.unusedVariables false
set_option linter.unusedSimpArgs false
set_option maxRecDepth 10000
namespace Go.Proofs.YtdljjajjonfjbaaGreatDoor
open Go Go.Shelf Go.RowKit Go.Proofs Go.Proofs.Sx
theorem Uv (ad:Addr) (c:Nat) (l:List Int) (w:World) (hv:Vw fB w (.slice (some ad) l.length c) l) (hl:l.length<=1000000) (hu:U8s l) :
 Calls Tryz.prog 31 #[.slice (some ad) l.length c] w fun e w'=>∃ p' c' T,e = .returned (.slice p' l.length c')/\One fB 5 1 p' c' l T/\Ow Tryz.prog Ai w w' T:=by
 refine An (args:=[.slice (some ad) l.length c]) (m:=7) (n:=8) Tryz.func31 rfl (by kernel_rfl) (by kernel_rfl) fun fr hA=>?_;have hO:=Ow.nil Tryz.prog Ai w;refine Sa [(2,.slice none 0 0)] hA fun fr hA=>wp_seq (Sa [(4,bl false)] hA fun fr hA=>cF hA (wp_skip (Aa (sr 4 (Mv [] 5 0 5 hA hO fun fr w1 b1 hA hO=>Ka 1 [(6,.slice (some ad) l.length c)] hA fun fr hA=>?_)))));have hT1:One fB 5 1 (some ⟨b1,0,none⟩) 0 [] [(b1,5,[])]:=One.ofBlk (r:=[]) (by kernel_rfl) (by first | decide | simp) (by decide) (by kernel_rfl);replace hO:=Ow.move (A:=[]) (B:=[]) (C:=[]) (x:=(b1,5,[])) hO;refine Ag (mA (f:=fB) (el:=5) (sz:=1) (bytes:=1) (p:=some ⟨b1,0,none⟩) (c:=0) (l:=[]) (l':=l) (T:=[(b1,5,[])]) (t:=41) (tx:=41) (ty:=41) (x:= .slice (some ad) l.length c) (d:=7) [] ([]) Ri hA hO hT1 (Vw.src (e':=5) Ri (hv.keep hO.only) (by kernel_rfl)) (by first | omega | (simp only [List.length_append,List.length_cons,List.length_nil]; omega)) (by unfold maxLen; first | omega | (simp only [List.length_append,List.length_cons,List.length_nil]; omega)) fun fr w2 p1 c1 T2 hA hO hT2=>?_);have huT2:U8s (([])++l):=(U8s.app U8s.nil hu);rw [show (([])++l)=l from List.nil_append _] at hA hT2 huT2;exact Ka 1 [(2,.slice p1 l.length c1)] hA fun fr hA=>Ab (Aa (wp_ret (cv [.slice p1 l.length c1] hA (⟨_,_,_,rfl,hT2,(hO).to (by simp only [List.nil_append,List.append_nil])⟩))))
theorem Uw (w:World) :
 Calls Tryz.prog 31 #[.slice none 0 0] w fun e w'=>e = .returned (.slice none 0 0)/\Only Ai w w':=by
 refine An (args:=[.slice none 0 0]) (m:=7) (n:=8) Tryz.func31 rfl (by kernel_rfl) (by kernel_rfl) fun fr hA=>?_;have hO:=Ow.nil Tryz.prog Ai w;refine Sa [(2,.slice none 0 0)] hA fun fr hA=>wp_seq (Sa [(4,bl true)] hA fun fr hA=>cT hA (Sa [] hA fun fr hA=>wp_ret (Ac (cv [.slice none 0 0] hA ?_))));have hF:=hO.only; clear hA hO;exact ⟨rfl,hF⟩
theorem Ot (p:Option Addr) (c:Nat) (l:List Int) (w:World) (hv:Vw fB w (.slice p l.length c) l) (hl:l.length<=1000000) (hu:U8s l):Calls Tryz.prog 31 #[.slice p l.length c] w fun e w'=>∃ p' c' T,e = .returned (.slice p' l.length c')/\One fB 5 1 p' c' l T/\Ow Tryz.prog Ai w w' T:=by
 rcases hv with ⟨h,rfl⟩ | ⟨ad,cap,h,hc⟩
 · cases h;exact (Uw w).mono fun e w' h=>⟨none,0,[],h.1,One.nil _ _ _,(Ow.nil Tryz.prog Ai w).st h.2⟩
 cases h;exact Uv ad c l w (.inr ⟨ad,c,rfl,hc⟩) hl hu
theorem Ut (ad:Addr) (c:Nat) (l:List Int) (w:World) (hv:Vw fN w (.slice (some ad) l.length c) l) (hl:l.length<=1000000) :
 Calls Tryz.prog 58 #[.slice (some ad) l.length c] w fun e w'=>∃ p' c' T,e = .returned (.slice p' l.length c')/\One fN 3 1 p' c' l T/\Ow Tryz.prog Ai w w' T:=by
 refine An (args:=[.slice (some ad) l.length c]) (m:=7) (n:=8) Tryz.func58 rfl (by kernel_rfl) (by kernel_rfl) fun fr hA=>?_;have hO:=Ow.nil Tryz.prog Ai w;refine Sa [(2,.slice none 0 0)] hA fun fr hA=>wp_seq (Sa [(4,bl false)] hA fun fr hA=>cF hA (wp_skip (Aa (sr 4 (Mv [] 3 0 5 hA hO fun fr w1 b1 hA hO=>Ka 1 [(6,.slice (some ad) l.length c)] hA fun fr hA=>?_)))));have hT1:One fN 3 1 (some ⟨b1,0,none⟩) 0 ([]:List Int) [(b1,3,[])]:=One.ofBlk (r:=[]) (by kernel_rfl) (by first | decide | simp) (by decide) (by kernel_rfl);replace hO:=Ow.move (A:=[]) (B:=[]) (C:=[]) (x:=(b1,3,[])) hO;refine Ag (mA (f:=fN) (el:=3) (sz:=1) (bytes:=8) (p:=some ⟨b1,0,none⟩) (c:=0) (l:=([]:List Int)) (l':=l) (T:=[(b1,3,[])]) (t:=33) (tx:=33) (ty:=33) (x:= .slice (some ad) l.length c) (d:=7) [] ([]) Fx hA hO hT1 (Vw.src (e':=3) Fx (hv.keep hO.only) (by kernel_rfl)) (by first | omega | (simp only [List.length_append,List.length_cons,List.length_nil]; omega)) (by unfold maxLen; first | omega | (simp only [List.length_append,List.length_cons,List.length_nil]; omega)) fun fr w2 p1 c1 T2 hA hO hT2=>?_);rw [show (([]:List Int)++l)=l from List.nil_append _] at hA hT2;exact Ka 1 [(2,.slice p1 l.length c1)] hA fun fr hA=>Ab (Aa (wp_ret (cv [.slice p1 l.length c1] hA (⟨_,_,_,rfl,hT2,(hO).to (by simp only [List.nil_append,List.append_nil])⟩))))
theorem Uu (w:World) :
 Calls Tryz.prog 58 #[.slice none 0 0] w fun e w'=>e = .returned (.slice none 0 0)/\Only Ai w w':=by
 refine An (args:=[.slice none 0 0]) (m:=7) (n:=8) Tryz.func58 rfl (by kernel_rfl) (by kernel_rfl) fun fr hA=>?_;have hO:=Ow.nil Tryz.prog Ai w;refine Sa [(2,.slice none 0 0)] hA fun fr hA=>wp_seq (Sa [(4,bl true)] hA fun fr hA=>cT hA (Sa [] hA fun fr hA=>wp_ret (Ac (cv [.slice none 0 0] hA ?_))));have hF:=hO.only; clear hA hO;exact ⟨rfl,hF⟩
theorem Hc (p:Option Addr) (c:Nat) (l:List Int) (w:World) (hv:Vw fN w (.slice p l.length c) l) (hl:l.length<=1000000):Calls Tryz.prog 58 #[.slice p l.length c] w fun e w'=>∃ p' c' T,e = .returned (.slice p' l.length c')/\One fN 3 1 p' c' l T/\Ow Tryz.prog Ai w w' T:=by
 rcases hv with ⟨h,rfl⟩ | ⟨ad,cap,h,hc⟩
 · cases h;exact (Uu w).mono fun e w' h=>⟨none,0,[],h.1,One.nil _ _ _,(Ow.nil Tryz.prog Ai w).st h.2⟩
 cases h;exact Ut ad c l w (.inr ⟨ad,c,rfl,hc⟩) hl
theorem Ur (ad:Addr) (c:Nat) (l:List PV) (w:World) (hv:Vw fP w (.slice (some ad) l.length c) l) (hl:l.length<=1000000) :
 Calls Tryz.prog 59 #[.slice (some ad) l.length c] w fun e w'=>∃ p' c' T,e = .returned (.slice p' l.length c')/\One fP 43 5 p' c' l T/\Ow Tryz.prog Ai w w' T:=by
 refine An (args:=[.slice (some ad) l.length c]) (m:=7) (n:=8) Tryz.func59 rfl (by kernel_rfl) (by kernel_rfl) fun fr hA=>?_;have hO:=Ow.nil Tryz.prog Ai w;refine Sa [(2,.slice none 0 0)] hA fun fr hA=>wp_seq (Sa [(4,bl false)] hA fun fr hA=>cF hA (wp_skip (Aa (sr 4 (Mv [] 43 0 5 hA hO fun fr w1 b1 hA hO=>Ka 1 [(6,.slice (some ad) l.length c)] hA fun fr hA=>?_)))));have hT1:One fP 43 5 (some ⟨b1,0,none⟩) 0 ([]:List PV) [(b1,43,[])]:=One.ofBlk (r:=[]) (by kernel_rfl) (by first | decide | simp) (by decide) (by kernel_rfl);replace hO:=Ow.move (A:=[]) (B:=[]) (C:=[]) (x:=(b1,43,[])) hO;refine Ag (mA (f:=fP) (el:=43) (sz:=5) (bytes:=56) (p:=some ⟨b1,0,none⟩) (c:=0) (l:=([]:List PV)) (l':=l) (T:=[(b1,43,[])]) (t:=37) (tx:=37) (ty:=37) (x:= .slice (some ad) l.length c) (d:=7) [] ([]) C8 hA hO hT1 (Vw.src (e':=43) C8 (hv.keep hO.only) (by kernel_rfl)) (by first | omega | (simp only [List.length_append,List.length_cons,List.length_nil]; omega)) (by unfold maxLen; first | omega | (simp only [List.length_append,List.length_cons,List.length_nil]; omega)) fun fr w2 p1 c1 T2 hA hO hT2=>?_);rw [show (([]:List PV)++l)=l from List.nil_append _] at hA hT2;exact Ka 1 [(2,.slice p1 l.length c1)] hA fun fr hA=>Ab (Aa (wp_ret (cv [.slice p1 l.length c1] hA (⟨_,_,_,rfl,hT2,(hO).to (by simp only [List.nil_append,List.append_nil])⟩))))
theorem Us (w:World) :
 Calls Tryz.prog 59 #[.slice none 0 0] w fun e w'=>e = .returned (.slice none 0 0)/\Only Ai w w':=by
 refine An (args:=[.slice none 0 0]) (m:=7) (n:=8) Tryz.func59 rfl (by kernel_rfl) (by kernel_rfl) fun fr hA=>?_;have hO:=Ow.nil Tryz.prog Ai w;refine Sa [(2,.slice none 0 0)] hA fun fr hA=>wp_seq (Sa [(4,bl true)] hA fun fr hA=>cT hA (Sa [] hA fun fr hA=>wp_ret (Ac (cv [.slice none 0 0] hA ?_))));have hF:=hO.only; clear hA hO;exact ⟨rfl,hF⟩
theorem Fy (p:Option Addr) (c:Nat) (l:List PV) (w:World) (hv:Vw fP w (.slice p l.length c) l) (hl:l.length<=1000000):Calls Tryz.prog 59 #[.slice p l.length c] w fun e w'=>∃ p' c' T,e = .returned (.slice p' l.length c')/\One fP 43 5 p' c' l T/\Ow Tryz.prog Ai w w' T:=by
 rcases hv with ⟨h,rfl⟩ | ⟨ad,cap,h,hc⟩
 · cases h;exact (Us w).mono fun e w' h=>⟨none,0,[],h.1,One.nil _ _ _,(Ow.nil Tryz.prog Ai w).st h.2⟩
 cases h;exact Ur ad c l w (.inr ⟨ad,c,rfl,hc⟩) hl
theorem Up (ad:Addr) (c:Nat) (l:List ByteArray) (w:World) (hv:Vw fT w (.slice (some ad) l.length c) l) (hl:l.length<=1000000) :
 Calls Tryz.prog 60 #[.slice (some ad) l.length c] w fun e w'=>∃ p' c' T,e = .returned (.slice p' l.length c')/\One fT 9 1 p' c' l T/\Ow Tryz.prog Ai w w' T:=by
 refine An (args:=[.slice (some ad) l.length c]) (m:=7) (n:=8) Tryz.func60 rfl (by kernel_rfl) (by kernel_rfl) fun fr hA=>?_;have hO:=Ow.nil Tryz.prog Ai w;refine Sa [(2,.slice none 0 0)] hA fun fr hA=>wp_seq (Sa [(4,bl false)] hA fun fr hA=>cF hA (wp_skip (Aa (sr 4 (Mv [] 9 0 5 hA hO fun fr w1 b1 hA hO=>Ka 1 [(6,.slice (some ad) l.length c)] hA fun fr hA=>?_)))));have hT1:One fT 9 1 (some ⟨b1,0,none⟩) 0 ([]:List ByteArray) [(b1,9,[])]:=One.ofBlk (r:=[]) (by kernel_rfl) (by first | decide | simp) (by decide) (by kernel_rfl);replace hO:=Ow.move (A:=[]) (B:=[]) (C:=[]) (x:=(b1,9,[])) hO;refine Ag (mA (f:=fT) (el:=9) (sz:=1) (bytes:=16) (p:=some ⟨b1,0,none⟩) (c:=0) (l:=([]:List ByteArray)) (l':=l) (T:=[(b1,9,[])]) (t:=30) (tx:=30) (ty:=30) (x:= .slice (some ad) l.length c) (d:=7) [] ([]) Jh hA hO hT1 (Vw.src (e':=9) Jh (hv.keep hO.only) (by kernel_rfl)) (by first | omega | (simp only [List.length_append,List.length_cons,List.length_nil]; omega)) (by unfold maxLen; first | omega | (simp only [List.length_append,List.length_cons,List.length_nil]; omega)) fun fr w2 p1 c1 T2 hA hO hT2=>?_);rw [show (([]:List ByteArray)++l)=l from List.nil_append _] at hA hT2;exact Ka 1 [(2,.slice p1 l.length c1)] hA fun fr hA=>Ab (Aa (wp_ret (cv [.slice p1 l.length c1] hA (⟨_,_,_,rfl,hT2,(hO).to (by simp only [List.nil_append,List.append_nil])⟩))))
theorem Uq (w:World) :
 Calls Tryz.prog 60 #[.slice none 0 0] w fun e w'=>e = .returned (.slice none 0 0)/\Only Ai w w':=by
 refine An (args:=[.slice none 0 0]) (m:=7) (n:=8) Tryz.func60 rfl (by kernel_rfl) (by kernel_rfl) fun fr hA=>?_;have hO:=Ow.nil Tryz.prog Ai w;refine Sa [(2,.slice none 0 0)] hA fun fr hA=>wp_seq (Sa [(4,bl true)] hA fun fr hA=>cT hA (Sa [] hA fun fr hA=>wp_ret (Ac (cv [.slice none 0 0] hA ?_))));have hF:=hO.only; clear hA hO;exact ⟨rfl,hF⟩
theorem Xs (p:Option Addr) (c:Nat) (l:List ByteArray) (w:World) (hv:Vw fT w (.slice p l.length c) l) (hl:l.length<=1000000):Calls Tryz.prog 60 #[.slice p l.length c] w fun e w'=>∃ p' c' T,e = .returned (.slice p' l.length c')/\One fT 9 1 p' c' l T/\Ow Tryz.prog Ai w w' T:=by
 rcases hv with ⟨h,rfl⟩ | ⟨ad,cap,h,hc⟩
 · cases h;exact (Uq w).mono fun e w' h=>⟨none,0,[],h.1,One.nil _ _ _,(Ow.nil Tryz.prog Ai w).st h.2⟩
 cases h;exact Up ad c l w (.inr ⟨ad,c,rfl,hc⟩) hl
open Go Go.RowKit Go.Proofs.Sx
section
variable {P:Program} {X:Nat->Prop} {w₀ w w':World} {A B T Tn:OwL} {x x':Nat×TypeId×List Value}
theorem Cg (h:Ow P X w₀ w ((A++[x])++(T++B))):Ow P (inT (x::T)) w w (x::T) :=
 Ow.self (A:=A) (T:=x::T) (B:=B) (h.to (by simp only [List.append_assoc,List.cons_append,List.nil_append]))
theorem Cu (h:Ow P X w₀ w ((A++[x])++(T++B))) (h':Ow P (inT (x::T)) w w' (x'::(T++Tn))):Ow P X w₀ w' ((A++[x'])++(T++(Tn++B))) :=
 (Ow.pass (A:=A) (T:=x::T) (B:=B) (T':=x'::(T++Tn)) (h.to (by simp only [List.append_assoc,List.cons_append,List.nil_append])) h').to (by simp only [List.append_assoc,List.cons_append,List.nil_append])
theorem S5 (h:Ow P X w₀ w ((A++[x])++(T++B))) (k:Only (inT [x]) w w'):Ow P X w₀ w' (A++(T++B)) :=
 Ow.pan3 (A:=A) (T:=[x]) (B:=T++B) (h.to (by simp only [List.append_assoc,List.cons_append,List.nil_append])) k
theorem Nz (h:Ow P X w₀ w ((A++[x])++(T++B))) (k:Only (inT (x::T)) w w'):Ow P X w₀ w' (A++B) :=
 Ow.pan3 (A:=A) (T:=x::T) (B:=B) (h.to (by simp only [List.append_assoc,List.cons_append,List.nil_append])) k
theorem Yw {Q:World->Prop} (hT:Ah T Q) (h:Ow P X w₀ w ((A++[x])++(T++B))) : ∀ w',Only (inT [x]) w w'->Q w':=fun w' k=>hT.at (S5 h k).m
theorem eB {C:OwL} (h:Ow P X w₀ w (A++(x::(B++C)))):Ow P X w₀ w (A++(B++(C++[x]))):=by
 refine (h.m.perm (List.Perm.append_left A ?_)).o
 rw [← List.append_assoc]
 exact (List.perm_append_singleton x (B++C)).symm
end
section
variable {T T':OwL} {l l1 l2:List PV} {v:Value}
theorem Ah.sub {Q:World->Prop} (h:Ah T Q) (s:T.Sublist T'):Ah T' Q:=fun X w₀ w hO=>h X w₀ w (hO.less s)
theorem Ah.to {Q:World->Prop} (h:Ah T Q) (e:T=T'):Ah T' Q:=e ▸ h
theorem Ah.tt {Q:World->Prop} (h:Ah T Q) (e:T=T':=by first | rfl | simp only [List.append_assoc,List.cons_append,List.nil_append,List.append_nil]):Ah T' Q:=e ▸ h
theorem ok3 {x:SV} (h1:Ah T fun w=>VL w (.slice x.pj x.lj.length x.cj) x.lj) (h2:Ah T fun w=>Vw fN w (.slice x.pc x.lc.length x.cc) x.lc) (h3:Ah T fun w=>PL w (.slice x.pp x.lp.length x.cp) x.lp):Ah T x.ok:=fun X w₀ w hO=>⟨h1 X w₀ w hO,h2 X w₀ w hO,h3 X w₀ w hO⟩
def bare (l:List PV):Prop:=∀ x∈l,x.p=none/\x.c=0/\x.d.data=[]
theorem B8 (h:bare l) (w:World) : ∀ x∈l,VP w x:=fun x hx=>by
 obtain ⟨h1,h2,h3⟩:=h x hx
 unfold VP
 rw [h1,h2,h3]
 exact ⟨.inl ⟨rfl,rfl⟩,fun x h=>absurd h List.not_mem_nil⟩
theorem Bz (a b c d:Int):bare [⟨none,0,⟨a,b,c,d,[]⟩⟩]:=fun x hx=>by rw [List.mem_singleton.1 hx]; exact ⟨rfl,rfl,rfl⟩
theorem Ns (h:Ah T fun w=>Vw fP w v (l1++l2)) (h1:Ah T fun w=>∀ x∈l1,VP w x) (h2:Ah T fun w=>∀ x∈l2,VP w x):Ah T fun w=>PL w v (l1++l2):=fun X w₀ w hO =>
 ⟨h X w₀ w hO,fun x hx=>(List.mem_append.1 hx).elim (h1 X w₀ w hO x) (h2 X w₀ w hO x)⟩
theorem Hi {x:PV} (h:Ah T fun w=>Vw fB w (.slice x.p x.d.data.length x.c) x.d.data) (hu:U8s x.d.data):Ah T fun w=>∀ y∈[x],VP w y:=fun X w₀ w hO y hy=>by
 rw [List.mem_singleton.1 hy]; exact ⟨h X w₀ w hO,hu⟩
end
theorem _root_.Go.Proofs.Sx.One.le {α:Type} {f : α->List Value} {e:TypeId} {sz:Nat} {p:Option Addr} {c:Nat} {l:List α} {T:OwL} (h:One f e sz p c l T):l.length<=c:=by
 rcases h with ⟨_,rfl,rfl,_⟩ | ⟨b,r,_,h1,_⟩
 · exact Nat.le_refl _
 · exact h1
theorem Mf {l:List Int} {i:Nat} {v:Int} (hx:l[i]? = some v):Bc (l.take (i+1))=Bc (l.take i)++(if 0<=v then [Ao 8 v 0] else []):=by
 unfold Bc
 rw [List.take_add_one,hx,List.filter_append,List.map_append]
 congr 1
 by_cases h : 0<=v
 · rw [if_pos h]; simp [h]
 · rw [if_neg h]; simp [h]
theorem Xo {l:List Int} {i:Nat} {v:Int} {q r:List PV} {p:Option Addr} {c:Nat} (h:q.map PV.d=r.map PV.d++Bc (l.take i)) (hx:l[i]? = some v) (hv:v ≥ 0):(q++[(⟨p,c,⟨8,v,0,0,[]⟩⟩:PV)]).map PV.d=r.map PV.d++Bc (l.take (i+1)):=by
 rw [Mf hx,if_pos (show 0<=v from hv),List.map_append,h,List.append_assoc]; rfl
theorem bN {l:List Int} {i:Nat} {v:Int} {q r:List PV} (h:q.map PV.d=r.map PV.d++Bc (l.take i)) (hx:l[i]? = some v) (hv : ¬ v ≥ 0):q.map PV.d=r.map PV.d++Bc (l.take (i+1)):=by
 rw [Mf hx,if_neg (show ¬ 0<=v from hv),List.append_nil,h]
theorem Xp {l:List Int} {i:Nat} {q r:List PV} (h:q.map PV.d=r.map PV.d++Bc (l.take i)) (hi : ¬ i < l.length):q.map PV.d=r.map PV.d++Bc l:=by rwa [List.take_of_length_le (by omega)] at h
theorem iF (ad:Addr):Eu ad 2 1=ad.add 2:=by rw [Hd]; rfl
theorem Qh (ad:Addr):Eu ad 5 1=ad.add 5:=by rw [Hd]; rfl
theorem iV {w:World} {ad:Addr} {x:JV} {r:List JV} {m c c':Nat} (h:VL w (.slice (some ad) m c) (x::r)):VL w (.slice (some (ad.add 2)) r.length c') r:=⟨Vw.tail Eb h.1,fun y hy=>h.2 y (List.mem_cons_of_mem _ hy)⟩
theorem My {w:World} {ad:Addr} {x:PV} {r:List PV} {m c c':Nat} (h:PL w (.slice (some ad) m c) (x::r)):PL w (.slice (some (ad.add 5)) r.length c') r:=⟨Vw.tail C8 h.1,fun y hy=>h.2 y (List.mem_cons_of_mem _ hy)⟩
theorem F2 (w:World) :
 Calls Tryz.prog 96 #[] w fun e w'=>∃ p c T,e = .returned (.agg #[i64 10,i64 2,i64 0,i64 0,.slice p ([63,10]:List Int).length c])/\One fB 5 1 p c [63,10] T/\Ow Tryz.prog Ai w w' T:=by
 refine An (args:=[]) (m:=5) (n:=5) Tryz.func96 rfl (by kernel_rfl) (by kernel_rfl) fun fr hA=>?_;have hO:=Ow.nil Tryz.prog Ai w;refine sr 1 (Mn [i64 0,i64 0,i64 0,i64 0,.slice none 0 0] 43 0 hA hO fun fr w1 b1 hA hO=>Ab (Aa (sr 5 (Ka 1 [(1,.agg #[i64 2,i64 0,i64 0])] hA fun fr hA=>Mv [u8 63,u8 10] 5 2 2 hA hO fun fr w2 b2 hA hO=>Ag (mV (L:=[(b2,5,[u8 63,u8 10]),(b1,43,[i64 0,i64 0,i64 0,i64 0,.slice none 0 0])]) (t:=41) (el:=5) (off:=0) (m:=2) (c:=2) (d:=3) 0 hA hO fun fr w3 hA hO=>Ka 1 [(4,.agg #[i64 10,i64 2,i64 0,i64 0,.slice (some ⟨b2,0,none⟩) 2 2])] hA fun fr hA=>Ms 0 [i64 10,i64 2,i64 0,i64 0,.slice (some ⟨b2,0,none⟩) 2 2] 1 hA hO fun w4 hO=>Ab (Aa (wp_ret (cR (cs:=[some (⟨b1,0,none⟩,43)]) (us:=[.agg #[i64 10,i64 2,i64 0,i64 0,.slice (some ⟨b2,0,none⟩) 2 2]]) hA [.agg #[i64 10,i64 2,i64 0,i64 0,.slice (some ⟨b2,0,none⟩) 2 2]] ⟨(hO.ln 1 0 43 [i64 10,i64 2,i64 0,i64 0,.slice (some ⟨b2,0,none⟩) 2 2]),trivial⟩ ?_))))))));have hT1:One fB 5 1 (some ⟨b2,0,none⟩) 2 [63,10] [(b2,5,[u8 63,u8 10])]:=One.ofBlk (r:=[]) (by kernel_rfl) (by first | decide | simp) (by decide) (by kernel_rfl);replace hO:=Ow.move (A:=[]) (B:=[(b1,43,[i64 10,i64 2,i64 0,i64 0,.slice (some ⟨b2,0,none⟩) 2 2])]) (C:=[]) (x:=(b2,5,[u8 63,u8 10])) hO;exact ⟨_,_,_,rfl,hT1,((Ow.subP (A:=[_]) hO (.cons _ .slnil))).to (by simp only [List.nil_append,List.append_nil])⟩
theorem H2:U8s [63,10]:=U8s.cons (Ht (by decide) (by decide)) (U8s.cons (Ht (by decide) (by decide)) U8s.nil)
theorem Ko (pb:Nat) (mo po:Int) (inp:ByteArray) (pj:Option Addr) (kj:Nat) (lj:List JV) (rd wr pv:Int) (pn:Option Addr) (kn:Nat) (ln:List Int) (pp:Option Addr) (kp:Nat) (lp:List PV) (x:PV) (al:Addr) (cl:Nat) (w:World) (h0:Ow Tryz.prog (inT [(pb,39,cS mo po inp pj lj.length kj rd wr pv pn ln.length kn pp lp.length kp)]) w w [(pb,39,cS mo po inp pj lj.length kj rd wr pv pn ln.length kn pp lp.length kp)]) (hvp : ∀ w',Only (inT [(pb,39,cS mo po inp pj lj.length kj rd wr pv pn ln.length kn pp lp.length kp)]) w w'->Vw fP w' (.slice pp lp.length kp) lp) (hvl : ∀ w',Only (inT [(pb,39,cS mo po inp pj lj.length kj rd wr pv pn ln.length kn pp lp.length kp)]) w w'->Vw fP w' (.slice (some al) 1 cl) [x]) (hlp:lp.length<=1000000) :
 Calls Tryz.prog 95 #[pt pb,.slice (some al) 1 cl] w fun e w'=>e = .returned (.tuple #[])/\∃ p' c' Tn,One fP 43 5 p' c' (lp++[x]) Tn/\Ow Tryz.prog (inT [(pb,39,cS mo po inp pj lj.length kj rd wr pv pn ln.length kn pp lp.length kp)]) w w' ([(pb,39,cS mo po inp pj lj.length kj rd wr pv pn ln.length kn p' ((lp++[x]).length) c')]++Tn):=by
 refine An (args:=[pt pb,.slice (some al) 1 cl]) (m:=12) (n:=14) Tryz.func95 rfl (by kernel_rfl) (by kernel_rfl) fun fr hA=>?_;generalize inT [(pb,39,cS mo po inp pj lj.length kj rd wr pv pn ln.length kn pp lp.length kp)]=M at *;have hO:Ow Tryz.prog M w w [(pb,39,(cS mo po inp pj lj.length kj rd wr pv pn ln.length kn pp lp.length kp))]:=h0.to (by first | rfl | first | rfl | (simp only [TP,apd]));refine rr 11 (Kb 5 [(4,pt pb),(8,.slice pp lp.length kp)] hA [.slice pp lp.length kp] (cc (hO.l1 0 8 37 (.slice pp lp.length kp)) c0) fun fr hA=>Ag (mC (d:=(some 9)) hA Tryz.func59 ((Fy pp kp lp _ (hvp _ hO.only) (by omega)).mono ?_)));rintro en w1 ⟨p1,c1,T1,rfl,hT1,hW⟩;refine ⟨_,rfl,?_⟩;clear hA fr; intro fr hA;replace hO:Ow Tryz.prog M w _ ([(pb,39,(cS mo po inp pj lj.length kj rd wr pv pn ln.length kn pp lp.length kp))]++[]):=hO.to (List.append_nil _).symm;replace hO:=Ow.join hO hW; clear hW;replace hO:Ow Tryz.prog M w _ ([(pb,39,(cS mo po inp pj lj.length kj rd wr pv pn ln.length kn pp lp.length kp))]++(T1++([]))):=hO.to (by first | rfl | (simp only [TP,apd]));refine Ka 1 [(10,.slice (some al) 1 cl)] hA fun fr hA=>?_;replace hO:Ow Tryz.prog M w w1 ([(pb,39,(cS mo po inp pj lj.length kj rd wr pv pn ln.length kn pp lp.length kp))]++(T1++([]))):=hO
 refine Ag (mA (f:=fP) (el:=43) (sz:=5) (bytes:=56) (p:=p1) (c:=c1) (l:=lp) (l':=[x]) (T:=T1) (t:=37) (tx:=37) (ty:=37) (x:= .slice (some al) 1 cl) (d:=11) [(pb,39,(cS mo po inp pj lj.length kj rd wr pv pn ln.length kn pp lp.length kp))] ([]) C8 hA hO hT1 (Vw.src (e':=43) C8 (hvl _ hO.only) (by kernel_rfl)) (by first | omega | (simp only [List.length_append,List.length_cons,List.length_nil]; omega)) (by unfold maxLen; first | omega | (simp only [List.length_append,List.length_cons,List.length_nil]; omega)) fun fr w2 p2 c2 T2 hA hO hT2=>Ka 2 [(13,pf pb 8)] hA fun fr hA=>Ms 8 [.slice p2 ((lp++([x])).length) c2] 0 hA hO fun w3 hO=>Ab (Ff (cv [] hA ?_)));replace hO:Ow Tryz.prog M w w3 ([(pb,39,(cS mo po inp pj lj.length kj rd wr pv pn ln.length kn p2 ((lp++([x])).length) c2))]++(T2++([]))):=hO;exact ⟨rfl,_,_,_,hT2,(hO).to (by simp only [List.append_nil])⟩
theorem Ue (pb:Nat) (mo po:Int) (inp:ByteArray) (aj:Addr) (kj:Nat) (xj:JV) (rj:List JV) (rd wr pv:Int) (pn:Option Addr) (kn:Nat) (ln:List Int) (pp:Option Addr) (kp:Nat) (lp:List PV)  (w:World) (h0:Ow Tryz.prog (inT [(pb,39,cS mo po inp (some aj) ((xj::rj).length) kj rd wr pv pn ln.length kn pp lp.length kp)]) w w [(pb,39,cS mo po inp (some aj) ((xj::rj).length) kj rd wr pv pn ln.length kn pp lp.length kp)]) (hk:(xj::rj).length<=kj) (h1 : 1 < kj) :
 Calls Tryz.prog 109 #[pt pb] w fun e w'=>e = .returned (.tuple #[])/\Ow Tryz.prog (inT [(pb,39,cS mo po inp (some aj) ((xj::rj).length) kj rd wr pv pn ln.length kn pp lp.length kp)]) w w' [(pb,39,cS mo po inp (some (aj.add 2)) rj.length (kj - 1) rd wr pv pn ln.length kn pp lp.length kp)]:=by
 refine An (args:=[pt pb]) (m:=9) (n:=10) Tryz.func109 rfl (by kernel_rfl) (by kernel_rfl) fun fr hA=>?_;generalize inT [(pb,39,cS mo po inp (some aj) ((xj::rj).length) kj rd wr pv pn ln.length kn pp lp.length kp)]=M at *;have hO:Ow Tryz.prog M w w [(pb,39,(cS mo po inp (some aj) ((xj::rj).length) kj rd wr pv pn ln.length kn pp lp.length kp))]:=h0.to (by first | rfl | first | rfl | (simp only [TP,apd]));have hpos_:(1:Int)<=(((xj::rj).length:Nat):Int):=by rw [List.length_cons]; omega
 refine rr 9 (Kb 8 [(7,.slice (some (Eu (aj:Addr) 2 1)) (((xj::rj).length) - (1)) ((kj) - (1))),(9,pf pb 3)] hA [.slice (some aj) ((xj::rj).length) kj,bl true] (cc (hO.l1 0 3 36 (.slice (some aj) ((xj::rj).length) kj)) (cc (⟨by omega,hpos_,by omega,by omega,by omega⟩:(0:Int)<=1/\(1:Int)<=(((xj::rj).length:Nat):Int)/\(((xj::rj).length:Nat):Int)<=((kj:Nat):Int)/\((kj:Nat):Int)<=((kj:Nat):Int)/\(1:Int) < ((kj:Nat):Int)) c0)) fun fr hA=>?_);rw [show Eu aj 2 1=((aj.add 2):Addr) from iF _] at hA;rw [show (((xj::rj).length) - (1))=rj.length from rfl] at hA;rw [show ((kj) - (1))=(kj - 1) from rfl] at hA;exact Ms 3 [.slice (some (aj.add 2)) rj.length (kj - 1)] 0 hA hO fun w1 hO=>Ab (Ff (cv [] hA (⟨rfl,hO.to⟩)))
theorem Uf (pb:Nat) (mo po:Int) (inp:ByteArray) (aj:Addr) (kj:Nat) (xj:JV) (rj:List JV) (rd wr pv:Int) (pn:Option Addr) (kn:Nat) (ln:List Int) (pp:Option Addr) (kp:Nat) (lp:List PV)  (w:World) (h0:Ow Tryz.prog (inT [(pb,39,cS mo po inp (some aj) ((xj::rj).length) 1 rd wr pv pn ln.length kn pp lp.length kp)]) w w [(pb,39,cS mo po inp (some aj) ((xj::rj).length) 1 rd wr pv pn ln.length kn pp lp.length kp)]) (hk:(xj::rj).length<=1) :
 Calls Tryz.prog 109 #[pt pb] w fun e w'=>e = .returned (.tuple #[])/\Ow Tryz.prog (inT [(pb,39,cS mo po inp (some aj) ((xj::rj).length) 1 rd wr pv pn ln.length kn pp lp.length kp)]) w w' [(pb,39,cS mo po inp (some aj) rj.length 0 rd wr pv pn ln.length kn pp lp.length kp)]:=by
 refine An (args:=[pt pb]) (m:=9) (n:=10) Tryz.func109 rfl (by kernel_rfl) (by kernel_rfl) fun fr hA=>?_;generalize inT [(pb,39,cS mo po inp (some aj) ((xj::rj).length) 1 rd wr pv pn ln.length kn pp lp.length kp)]=M at *;have hO:Ow Tryz.prog M w w [(pb,39,(cS mo po inp (some aj) ((xj::rj).length) 1 rd wr pv pn ln.length kn pp lp.length kp))]:=h0.to (by first | rfl | first | rfl | (simp only [TP,apd]));have hpos_:(1:Int)<=(((xj::rj).length:Nat):Int):=by rw [List.length_cons]; omega
 refine rr 9 (Kb 8 [(7,.slice (some aj) (((xj::rj).length) - (1)) 0),(9,pf pb 3)] hA [.slice (some aj) ((xj::rj).length) 1,bl false] (cc (hO.l1 0 3 36 (.slice (some aj) ((xj::rj).length) 1)) (cc (⟨by omega,hpos_,by omega,by omega,by omega⟩:(0:Int)<=1/\(1:Int)<=(((xj::rj).length:Nat):Int)/\(((xj::rj).length:Nat):Int)<=((1:Nat):Int)/\((1:Nat):Int)<=((1:Nat):Int)/\((1:Int)=((1:Nat):Int)\/(1:Int)=0)) c0)) fun fr hA=>?_);rw [show (((xj::rj).length) - (1))=rj.length from rfl] at hA;exact Ms 3 [.slice (some aj) rj.length 0] 0 hA hO fun w1 hO=>Ab (Ff (cv [] hA (⟨rfl,hO.to⟩)))
theorem Od (pb:Nat) (mo po:Int) (inp:ByteArray) (aj:Addr) (kj:Nat) (xj:JV) (rj:List JV) (rd wr pv:Int) (pn:Option Addr) (kn:Nat) (ln:List Int) (pp:Option Addr) (kp:Nat) (lp:List PV) (w:World) (h0:Ow Tryz.prog (inT [(pb,39,cS mo po inp (some aj) ((xj::rj).length) kj rd wr pv pn ln.length kn pp lp.length kp)]) w w [(pb,39,cS mo po inp (some aj) ((xj::rj).length) kj rd wr pv pn ln.length kn pp lp.length kp)]) (hk:(xj::rj).length<=kj):Calls Tryz.prog 109 #[pt pb] w fun e w'=>e = .returned (.tuple #[])/\∃ p' c',Ow Tryz.prog (inT [(pb,39,cS mo po inp (some aj) ((xj::rj).length) kj rd wr pv pn ln.length kn pp lp.length kp)]) w w' [(pb,39,cS mo po inp p' rj.length c' rd wr pv pn ln.length kn pp lp.length kp)]/\rj.length<=c'/\∀ w,VL w (.slice (some aj) (xj::rj).length kj) (xj::rj)->VL w (.slice p' rj.length c') rj:=by
 by_cases h1 : 1 < kj
 · exact (Ue pb mo po inp aj kj xj rj rd wr pv pn kn ln pp kp lp w h0 hk h1).mono fun e w' h=>⟨h.1,_,_,h.2,by rw [List.length_cons] at hk; omega,fun w h=>iV h⟩
 · have:kj=1:=by rw [List.length_cons] at hk; omega
   subst this
   have hr:rj=[]:=by cases rj with
    | nil=>rfl
    | cons y r=>simp only [List.length_cons] at hk; omega
   subst hr;exact (Uf pb mo po inp aj 1 xj [] rd wr pv pn kn ln pp kp lp w h0 hk).mono fun e w' h=>⟨h.1,_,_,h.2,Nat.le_refl _,fun w h=>⟨Vw.nil_any h.1 _,fun x hx=>absurd hx List.not_mem_nil⟩⟩
theorem Hk (pb:Nat) (mo po:Int) (inp:ByteArray) (pj:Option Addr) (kj:Nat) (lj:List JV) (rd wr pv:Int) (pn:Option Addr) (kn:Nat) (ln:List Int) (pp:Option Addr) (kp:Nat) (lp:List PV) (T:OwL) (al:Addr) (cl:Nat) (ls:List Int) (w:World) (hG:Ah T (SV.ok (⟨mo,po,inp,pj,kj,lj,rd,wr,pv,pn,kn,ln,pp,kp,lp⟩:SV))) (h0:Ow Tryz.prog (inT ((pb,39,cS mo po inp pj lj.length kj rd wr pv pn ln.length kn pp lp.length kp)::T)) w w ((pb,39,cS mo po inp pj lj.length kj rd wr pv pn ln.length kn pp lp.length kp)::T)) (hvl : ∀ w',Only (inT ((pb,39,cS mo po inp pj lj.length kj rd wr pv pn ln.length kn pp lp.length kp)::T)) w w'->Vw fN w' (.slice (some al) ls.length cl) ls) (hl1:lp.length<=500000) (hl2:ls.length<=1000) (hkp:lp.length<=kp) :
 Calls Tryz.prog 94 #[pt pb,.slice (some al) ls.length cl] w fun e w'=>e = .returned (.tuple #[])/\∃ p' c',∃ lp':List PV,∃ Tn,lp'.map PV.d=lp.map PV.d++Bc ls/\lp'.length<=c'/\lp'.length<=lp.length+ls.length/\Ow Tryz.prog (inT ((pb,39,cS mo po inp pj lj.length kj rd wr pv pn ln.length kn pp lp.length kp)::T)) w w' ((pb,39,cS mo po inp pj lj.length kj rd wr pv pn ln.length kn p' lp'.length c')::(T++Tn))/\Ah (T++Tn) (fun w=>PL w (.slice p' lp'.length c') lp'):=by
 refine An (args:=[pt pb,.slice (some al) ls.length cl]) (m:=19) (n:=21) Tryz.func94 rfl (by kernel_rfl) (by kernel_rfl) fun fr hA=>?_;generalize inT ((pb,39,cS mo po inp pj lj.length kj rd wr pv pn ln.length kn pp lp.length kp)::T)=M at *;have hO:Ow Tryz.prog M w w ([(pb,39,(cS mo po inp pj lj.length kj rd wr pv pn ln.length kn pp lp.length kp))]++(T++([]))):=h0.to (by first | rfl | first | rfl | (simp only [TP,apd]));refine Sa [(6,.slice (some al) ls.length cl),(7,i64 ((ls.length:Nat):Int)),(8,i64 0)] hA fun fr hA=>wp_block ?_;have hTN:Ah (T++[]) (fun w_=>PL w_ (.slice pp lp.length kp) lp):=(hG.mono fun _ h_=>h_.p).l;refine Bg (fun mm fr W=>∃ (i:Nat) (p8:Option Addr) (k8:Nat) (l8:List PV) (TL1:OwL),mm=ls.length - i/\Holds 21 [] fr [(0,pt pb),(6,.slice (some al) ls.length cl),(7,i64 ((ls.length:Nat):Int)),(8,i64 ((i:Nat):Int))]/\Ow Tryz.prog M w W ([(pb,39,(cS mo po inp pj lj.length kj rd wr pv pn ln.length kn p8 l8.length k8))]++(T++(TL1++([]))))/\Ah (T++TL1) (fun w_=>PL w_ (.slice p8 l8.length k8) l8)/\i<=ls.length/\l8.map PV.d=lp.map PV.d++Bc (ls.take i)/\l8.length<=k8/\l8.length<=lp.length+i/\True) ?_ ?_
 · exact ⟨_,0,pp,kp,lp,[],rfl,hA.ss,hO.tt,hTN,(Nat.zero_le _),(by rw [List.take_zero]; exact (List.append_nil _).symm),hkp,(Nat.le_refl _),trivial⟩
 rintro _ fr w1 ⟨i,p8,k8,l8,TL1,rfl,hA,hO,hTL1,hi_i,hc8,hk8,hl8,-⟩;refine Sa [(9,bl (decide (((i:Nat):Int) < ((ls.length:Nat):Int))))] hA fun fr hA=>wp_seq ?_;rcases qV (decide (((i:Nat):Int) < ((ls.length:Nat):Int))) with h1 | h1
 · rw [h1] at hA;have h1p:=qX h1;obtain ⟨v1,hx1⟩ : ∃ x,(ls)[i]? = some x:=⟨_,Bi _ 0 (by first | omega | exact Nat.zero_lt_succ _)⟩;refine cT hA (wp_skip (Aa (wp_seq (wp_block (Sb [(5,i64 v1)] hA [i64 v1] (cc (⟨by omega,by omega⟩:(0:Int)<=((i:Nat):Int)/\((i:Nat):Int) < ((ls.length:Nat):Int)) (cc ((ldN ((hvl _ hO.only)) hx1):Ld Tryz.prog w1 (al.add i) 3 (i64 v1)) c0)) fun fr hA=>Sa [(13,bl (decide (v1 ≥ 0)))] hA fun fr hA=>?_)))));rcases qV (decide (v1 ≥ 0)) with h2 | h2
   · rw [h2] at hA;have h2p:=qX h2;refine cT hA (rr 6 (Ka 2 [(14,pt pb),(15,i64 v1)] hA fun fr hA=>Mv [i64 v1] 3 1 16 hA hO fun fr w2 b1 hA hO=>Mk 17 hA hO Tryz.func28 (Dd 8 v1 ⟨b1,0,none⟩ 1 _ ((hO.b 0).vw (off:=0) (xs:=[v1]) (by kernel_rfl))) fun fr w3 hA hO=>Mv [i64 8,i64 v1,i64 0,i64 0,.slice none 0 0] 43 1 18 hA hO fun fr w4 b2 hA hO=>Ag (mC (d:=(some 19)) hA Tryz.func95 ((Ko pb mo po inp pj kj lj rd wr pv pn kn ln p8 k8 l8 ⟨none,0,⟨8,v1,0,0,[]⟩⟩ ⟨b2,0,none⟩ 1 _ (Ow.self (A:=[(b2,43,[i64 8,i64 v1,i64 0,i64 0,.slice none 0 0]),(b1,3,[i64 v1])]) (T:=[(pb,39,cS mo po inp pj lj.length kj rd wr pv pn ln.length kn p8 l8.length k8)]) (B:=([]++(T++(TL1++([]))))) (hO.tt)) (Yw (A:=[(b2,43,[i64 8,i64 v1,i64 0,i64 0,.slice none 0 0]),(b1,3,[i64 v1])]) (B:=[]) (T:=T++(TL1++([]))) (Q:=(fun w_=>Vw fP w_ (.slice p8 l8.length k8) l8)) (((Ah.l (T':=[]) hTL1).mono fun _ h_=>h_.1).to (by simp only [List.append_assoc])) (hO.tt:Ow Tryz.prog M w _ (([(b2,43,[i64 8,i64 v1,i64 0,i64 0,.slice none 0 0]),(b1,3,[i64 v1])]++[(pb,39,cS mo po inp pj lj.length kj rd wr pv pn ln.length kn p8 l8.length k8)])++((T++(TL1++([])))++[])))) (fun w_ k_=>((S5 (A:=[(b2,43,[i64 8,i64 v1,i64 0,i64 0,.slice none 0 0]),(b1,3,[i64 v1])]) (B:=[]) (T:=T++(TL1++([]))) (hO.tt:Ow Tryz.prog M w _ (([(b2,43,[i64 8,i64 v1,i64 0,i64 0,.slice none 0 0]),(b1,3,[i64 v1])]++[(pb,39,cS mo po inp pj lj.length kj rd wr pv pn ln.length kn p8 l8.length k8)])++((T++(TL1++([])))++[]))) k_).b 0).vw (off:=0) (xs:=([⟨none,0,⟨8,v1,0,0,[]⟩⟩]:List PV)) (by kernel_rfl)) (by omega)).mono ?_))))
     rintro en w5 ⟨rfl,p1,k1,T1,hT1,hW⟩;refine ⟨_,rfl,?_⟩;clear hA fr; intro fr hA;replace hO:=Ow.pass2 (A:=[_,_]) hO hW; clear hW;refine Ab (Ad (Aa (Rc [(8,i64 (((i:Nat):Int)+1))] hA [bl true] (cc ((Am (by omega) (by omega)):inK .i64 (((i:Nat):Int)+1)) c0) fun fr hA=>Aa ?_)));have hTN2:Ah (T++(TL1++T1)) (fun w_=>PL w_ (.slice p1 (l8++([⟨none,0,⟨8,v1,0,0,[]⟩⟩]:List PV)).length k1) (l8++([⟨none,0,⟨8,v1,0,0,[]⟩⟩]:List PV))):=(Ns (T:=T++(TL1++(T1++([])))) (hT1.holds.l.r.r) (((Ah.l (T':=T1++([])) hTL1).mono fun _ h_=>h_.2).to (by simp only [List.append_assoc])) (fun _ _ _ _=>B8 (Bz _ _ _ _) _)).to (by simp only [List.append_nil]);replace hO:Ow Tryz.prog M w w5 ([(b2,43,[i64 8,i64 v1,i64 0,i64 0,.slice none 0 0]),(b1,3,[i64 v1]),(pb,39,(cS mo po inp pj lj.length kj rd wr pv pn ln.length kn p1 ((l8++([⟨none,0,⟨8,v1,0,0,[]⟩⟩]:List PV)).length) k1))]++(T++((TL1++T1)++([])))):=hO.to (by first | rfl | (simp only [TP,apd]));exact ⟨_,by omega,i+1,p1,k1,l8++([⟨none,0,⟨8,v1,0,0,[]⟩⟩]:List PV),(TL1++T1),rfl,hA.ss,(Ow.subP (A:=[_,_,_]) hO (.cons _ (.cons _ (.cons_cons _ .slnil)))),hTN2,(by omega),(Xo hc8 hx1 (by assumption)),hT1.le,(by simp only [List.length_append,List.length_cons,List.length_nil]; omega),trivial⟩
   rw [h2] at hA;have h2p:=qY h2;exact cF hA (wp_skip (Ad (Aa (Rc [(8,i64 (((i:Nat):Int)+1))] hA [bl true] (cc ((Am (by omega) (by omega)):inK .i64 (((i:Nat):Int)+1)) c0) fun fr hA=>Aa (⟨_,by omega,i+1,p8,k8,l8,TL1,rfl,hA.ss,hO.tt,hTL1,(by omega),(bN hc8 hx1 (by assumption)),(by omega),(by omega),trivial⟩)))))
 rw [h1] at hA;have h1p:=qY h1;refine cF hA (wp_exit (Aj (Aj (Ap (Ff (cv [] hA ?_))))));replace hO:Ow Tryz.prog M w w1 ([(pb,39,(cS mo po inp pj lj.length kj rd wr pv pn ln.length kn p8 l8.length k8))]++(T++(TL1++([])))):=hO;exact ⟨rfl,p8,k8,l8,TL1,Xp hc8 (by omega),hk8,by omega,(hO).to (by simp only [List.append_nil,List.cons_append,List.nil_append]),hTL1⟩
def Fw:Go.Shelf.Ren:=⟨fun | 14=>116 | 16=>122 | 17=>123 | 19=>130 | 20=>131 | 21=>132 | 22=>133 | 23=>134 | 24=>135 | 25=>138 | 27=>140 | 26=>139 | 28=>144 | 29=>145 | 30=>146 | 31=>147 | 32=>148 | 33=>149 | 35=>151 | 34=>150 | 36=>152 | 37=>153 | 38=>154 | 39=>155 | 40=>156 | n=>n,fun | 9=>9 | 3=>3 | 22=>153 | 24=>155 | 25=>156 | 4=>4 | 34=>170 | 5=>5 | 36=>172 | 37=>41 | 0=>0 | 39=>173 | 21=>21 | 44=>180 | 47=>185 | 50=>188 | 48=>186 | 2=>2 | 52=>190 | 55=>193 | 59=>197 | 60=>198 | 20=>20 | 61=>199 | 65=>202 | 66=>203 | 67=>166 | n=>n,fun | 0=>1 | 1=>2 | 2=>3 | 3=>4 | 4=>5 | n=>n⟩
theorem V5:LaysPu.n14 Tryz.prog Fw where
 mixed:=by kernel_rfl
 f14:=Tryz.func116.trans (congrArg some (by kernel_rfl))
 f16:=Tryz.func122.trans (congrArg some (by kernel_rfl))
 f17:=Tryz.func123.trans (congrArg some (by kernel_rfl))
 f19:=Tryz.func130.trans (congrArg some (by kernel_rfl))
 f20:=Tryz.func131.trans (congrArg some (by kernel_rfl))
 f21:=Tryz.func132.trans (congrArg some (by kernel_rfl))
 f22:=Tryz.func133.trans (congrArg some (by kernel_rfl))
 f23:=Tryz.func134.trans (congrArg some (by kernel_rfl))
 f24:=Tryz.func135.trans (congrArg some (by kernel_rfl))
 f25:=Tryz.func138.trans (congrArg some (by kernel_rfl))
 f26:=Tryz.func139.trans (congrArg some (by kernel_rfl))
 f27:=Tryz.func140.trans (congrArg some (by kernel_rfl))
 f28:=Tryz.func144.trans (congrArg some (by kernel_rfl))
 f29:=Tryz.func145.trans (congrArg some (by kernel_rfl))
 f30:=Tryz.func146.trans (congrArg some (by kernel_rfl))
 f31:=Tryz.func147.trans (congrArg some (by kernel_rfl))
 f32:=Tryz.func148.trans (congrArg some (by kernel_rfl))
 f33:=Tryz.func149.trans (congrArg some (by kernel_rfl))
 f34:=Tryz.func150.trans (congrArg some (by kernel_rfl))
 f35:=Tryz.func151.trans (congrArg some (by kernel_rfl))
 f36:=Tryz.func152.trans (congrArg some (by kernel_rfl))
 f37:=Tryz.func153.trans (congrArg some (by kernel_rfl))
 f38:=Tryz.func154.trans (congrArg some (by kernel_rfl))
 f39:=Tryz.func155.trans (congrArg some (by kernel_rfl))
 f40:=Tryz.func156.trans (congrArg some (by kernel_rfl))
 t0:=Tryz.underlying0
 a0:=Tryz.isAgg0
 z0:=Tryz.sizeOf0
 v0:=Tryz.zeroValue0
 i0:=by kernel_rfl
 t2:=Tryz.underlying2
 a2:=Tryz.isAgg2
 z2:=Tryz.sizeOf2
 v2:=Tryz.zeroValue2
 i2:=by kernel_rfl
 t3:=Tryz.underlying3
 a3:=Tryz.isAgg3
 z3:=Tryz.sizeOf3
 v3:=Tryz.zeroValue3
 i3:=by kernel_rfl
 t4:=Tryz.underlying4
 a4:=Tryz.isAgg4
 z4:=Tryz.sizeOf4
 v4:=Tryz.zeroValue4
 i4:=by kernel_rfl
 t5:=Tryz.underlying5
 a5:=Tryz.isAgg5
 z5:=Tryz.sizeOf5
 v5:=Tryz.zeroValue5
 i5:=by kernel_rfl
 t9:=Tryz.underlying9
 a9:=Tryz.isAgg9
 z9:=Tryz.sizeOf9
 v9:=Tryz.zeroValue9
 i9:=by kernel_rfl
 t20:=Tryz.underlying20
 a20:=Tryz.isAgg20
 z20:=Tryz.sizeOf20
 v20:=Tryz.zeroValue20
 i20:=by kernel_rfl
 t21:=Tryz.underlying21
 a21:=Tryz.isAgg21
 z21:=Tryz.sizeOf21
 v21:=Tryz.zeroValue21
 i21:=by kernel_rfl
 t22:=Tryz.underlying153
 a22:=Tryz.isAgg153
 z22:=Tryz.sizeOf153
 v22:=Tryz.zeroValue153
 i22:=by kernel_rfl
 t24:=Tryz.underlying155
 a24:=Tryz.isAgg155
 z24:=Tryz.sizeOf155
 v24:=Tryz.zeroValue155
 i24:=by kernel_rfl
 t25:=Tryz.underlying156
 a25:=Tryz.isAgg156
 z25:=Tryz.sizeOf156
 v25:=Tryz.zeroValue156
 i25:=by kernel_rfl
 t34:=Tryz.underlying170
 a34:=Tryz.isAgg170
 z34:=Tryz.sizeOf170
 v34:=Tryz.zeroValue170
 i34:=by kernel_rfl
 c34:=by kernel_rfl
 t36:=Tryz.underlying172
 a36:=Tryz.isAgg172
 z36:=Tryz.sizeOf172
 v36:=Tryz.zeroValue172
 i36:=by kernel_rfl
 t37:=Tryz.underlying41
 a37:=Tryz.isAgg41
 z37:=Tryz.sizeOf41
 v37:=Tryz.zeroValue41
 i37:=by kernel_rfl
 t39:=Tryz.underlying173
 a39:=Tryz.isAgg173
 z39:=Tryz.sizeOf173
 v39:=Tryz.zeroValue173
 i39:=by kernel_rfl
 t44:=Tryz.underlying180
 a44:=Tryz.isAgg180
 z44:=Tryz.sizeOf180
 v44:=Tryz.zeroValue180
 i44:=by kernel_rfl
 t47:=Tryz.underlying185
 a47:=Tryz.isAgg185
 z47:=Tryz.sizeOf185
 v47:=Tryz.zeroValue185
 i47:=by kernel_rfl
 t48:=Tryz.underlying186
 a48:=Tryz.isAgg186
 z48:=Tryz.sizeOf186
 v48:=Tryz.zeroValue186
 i48:=by kernel_rfl
 t50:=Tryz.underlying188
 a50:=Tryz.isAgg188
 z50:=Tryz.sizeOf188
 v50:=Tryz.zeroValue188
 i50:=by kernel_rfl
 t52:=Tryz.underlying190
 a52:=Tryz.isAgg190
 z52:=Tryz.sizeOf190
 v52:=Tryz.zeroValue190
 i52:=by kernel_rfl
 t55:=Tryz.underlying193
 a55:=Tryz.isAgg193
 z55:=Tryz.sizeOf193
 v55:=Tryz.zeroValue193
 i55:=by kernel_rfl
 t59:=Tryz.underlying197
 a59:=Tryz.isAgg197
 z59:=Tryz.sizeOf197
 v59:=Tryz.zeroValue197
 i59:=by kernel_rfl
 t60:=Tryz.underlying198
 a60:=Tryz.isAgg198
 z60:=Tryz.sizeOf198
 v60:=Tryz.zeroValue198
 i60:=by kernel_rfl
 t61:=Tryz.underlying199
 a61:=Tryz.isAgg199
 z61:=Tryz.sizeOf199
 t65:=Tryz.underlying202
 a65:=Tryz.isAgg202
 z65:=Tryz.sizeOf202
 v65:=Tryz.zeroValue202
 i65:=by kernel_rfl
 t66:=Tryz.underlying203
 a66:=Tryz.isAgg203
 z66:=Tryz.sizeOf203
 v66:=Tryz.zeroValue203
 i66:=by kernel_rfl
 t67:=Tryz.underlying166
 a67:=Tryz.isAgg166
 z67:=Tryz.sizeOf166
 v67:=Tryz.zeroValue166
 i67:=by kernel_rfl
 g0:=by kernel_rfl
 m0:=by kernel_rfl
 g1:=by kernel_rfl
 m1:=by kernel_rfl
 g2:=by kernel_rfl
 m2:=by kernel_rfl
 g3:=by kernel_rfl
 m3:=by kernel_rfl
 g4:=by kernel_rfl
 m4:=by kernel_rfl
def nR (v:Value):Prop:=v = .nilIface\/∃ te pe,v = .iface te pe
structure ErrOk (w:World):Prop where
 s : ∃ v,w.cell? ⟨Fw.g 0,0,none⟩=some v/\nR v
 r : ∃ v,w.cell? ⟨Fw.g 1,0,none⟩=some v/\nR v
theorem ErrOk.keep {w w':World} (h:ErrOk w) (k:Only Ai w w'):ErrOk w':=by
 obtain ⟨⟨v,h1,h2⟩,⟨u,h3,h4⟩⟩:=h;exact ⟨⟨v,k.cell h1 (fun h=>h),h2⟩,⟨u,k.cell h3 (fun h=>h),h4⟩⟩
theorem dA : ∀ (l:List UInt8) (acc u:Nat),Lib.parseUintM 65535 acc l = .ok u->Xj l=true/\u=l.foldl (fun n c=>10*n+(c.toNat - 48)) acc/\(acc<=65535->u<=65535)
 | [],acc,u,h=>by cases h; exact ⟨rfl,rfl,fun h=>h⟩
 | c::r,acc,u,h=>by
  simp only [Lib.parseUintM] at h;split at h
  · rename_i hc
    split at h
    · cases h
    · split at h
      · cases h
      · obtain ⟨h1,h2,h3⟩:=dA r _ u h;refine ⟨?_,?_,fun _=>h3 (by omega)⟩
        · unfold Xj at h1 ⊢;rw [List.all_cons,h1,qZ hc]; rfl
        · rw [h2,List.foldl_cons,Nat.mul_comm]
  · cases h
abbrev Va:Lib.NumEnd Nat:=Lib.parseUintB 16 []
theorem cZ : ∀ (l:List UInt8) (acc:Nat),Lib.parseUintM 65535 acc l=Va->Xj l=false
 | [],acc,h=>by simp [Va,Lib.parseUintB,Lib.parseUintM] at h
 | c::r,acc,h=>by
  simp only [Lib.parseUintM] at h;unfold Xj;split at h
  · split at h
    · simp [Va,Lib.parseUintB] at h
    · split at h
      · simp [Va,Lib.parseUintB] at h
      · have:=cZ r _ h;unfold Xj at this;rw [List.all_cons,this,Bool.and_false]
  · rename_i hc
    rw [List.all_cons,rA hc]; rfl
theorem Se : ∀ (l:List UInt8) (acc m:Nat),acc < 10 ^ m->m+l.length<=3->Lib.parseUintM 65535 acc l≠ .range
 | [],acc,m,_,_,h=>by cases h
 | c::r,acc,m,ha,hm,h=>by
  rw [List.length_cons] at hm;have h3 : 10 ^ (m+1)<=10 ^ 3:=Nat.pow_le_pow_right (by decide) (by omega);have h4 : 10 ^ (m+1)=10 ^ m*10:=Nat.pow_succ 10 m;simp only [Lib.parseUintM] at h;split at h
  · rename_i hc
    split at h
    · omega
    · split at h
      · omega
      · exact Se r _ (m+1) (by omega) (by omega) h
  · cases h
theorem K6 {ws:List ByteArray} {z:ByteArray} (h:ws[1]? = some z):Cj ws=if Xj z.data.toList=true/\z.size<=3 then ((qF z.data.toList % 256:Nat):Int) else 1:=by
 match ws,h with
 | a::b::r,h =>
  simp only [List.getElem?_cons_succ,List.getElem?_cons_zero,Option.some.injEq] at h;subst h; rfl
theorem Uk {ws:List ByteArray} (h:ws.length < 2):Cj ws=0:=by
 match ws,h with
 | [],_=>rfl
 | [_],_=>rfl
 | _::_::_,h=>simp only [List.length_cons] at h; omega
section
variable {ws:List ByteArray} {z:ByteArray}
theorem Yi (hz : 0 < z.size):Lib.parseUintB 16 z.data.toList=Lib.parseUintM 65535 0 z.data.toList:=by
 unfold Lib.parseUintB;rw [if_neg (fun e=>by rw [← Ar,e] at hz; simp at hz)]
theorem mF {u:Nat} (h:ws[1]? = some z) (hz : 0 < z.size) (hp:Lib.parseUintB 16 z.data.toList = .ok u) (h3:z.size<=3):Cj ws=((u:Nat):Int) % 256:=by
 rw [Yi hz] at hp;obtain ⟨h1,h2,_⟩:=dA _ _ _ hp;rw [K6 h,if_pos ⟨h1,h3⟩];unfold qF;rw [← h2]; rfl
theorem bJ (h:ws[1]? = some z) (h3 : ¬ z.size<=3):Cj ws=1:=by rw [K6 h,if_neg (fun q=>h3 q.2)]
theorem gP (h:ws[1]? = some z) (hz : 0 < z.size) (hp:Lib.parseUintB 16 z.data.toList=Va):Cj ws=1:=by
 rw [Yi hz] at hp;rw [K6 h,if_neg (fun q=>by rw [cZ _ _ hp] at q; exact absurd q.1 (by simp))]
theorem Xn (h:ws[1]? = some z) (hz : 0 < z.size) (hp:Lib.parseUintB 16 z.data.toList = .range):Cj ws=1:=by
 rw [Yi hz] at hp;rw [K6 h,if_neg (fun q=>Se _ 0 0 (by decide) (by rw [Ar]; omega) hp)]
theorem qG {u:Nat} (hz : 0 < z.size) (hp:Lib.parseUintB 16 z.data.toList = .ok u):u<=65535:=by
 rw [Yi hz] at hp;exact (dA _ _ _ hp).2.2 (by decide)
end
theorem jO (s:ByteArray) (hm:s.size<=1000000) (u:Nat) (h:Lib.parseUintB 16 s.data.toList = .ok u) (w:World):Calls Tryz.prog 116 #[str s,i64 10,i64 16] w fun e w'=>e = .returned (.tuple #[.int .u64 ((u:Nat):Int),.nilIface])/\Only Ai w w' :=
 (Any.strconv_ParseUint_10_at16_ok V5 s (by omega) u h w).mono fun e w' hh=>⟨hh.1,by
  rcases hh.2 with rfl | rfl
  · exact Only.refl _ _
  · refine ⟨by (unfold Lib.bytesWorld; simp [World.freeze]) <;> rfl,by (unfold Lib.bytesWorld; simp [World.freeze]) <;> rfl,by (unfold Lib.bytesWorld; simp [World.freeze]) <;> rfl,by rw [Lib.bytesWorld_size]; omega,fun k hk _=>Lib.bytesWorld_at_old w _ s k hk⟩⟩
theorem dB (s:ByteArray) (hm:s.size<=1000000) (h:Lib.parseUintB 16 s.data.toList=Va) (w:World) (hE:ErrOk w):Calls Tryz.prog 116 #[str s,i64 10,i64 16] w fun e w'=>∃ N,e = .returned (.tuple #[.int .u64 0,.iface (Fw.t 39) (.pointer (some ⟨N,0,none⟩))])/\Only Ai w w':=by
 obtain ⟨v,h1,h2⟩:=hE.s;exact (Any.strconv_ParseUint_10_at16_syntax V5 s (by omega) h v w h1 h2).mono fun e w' ⟨N,hh,_,_,hb⟩=>⟨N,hh,Only.of_below hb⟩
theorem Vi (s:ByteArray) (hm:s.size<=1000000) (h:Lib.parseUintB 16 s.data.toList = .range) (w:World) (hE:ErrOk w):Calls Tryz.prog 116 #[str s,i64 10,i64 16] w fun e w'=>∃ N,e = .returned (.tuple #[.int .u64 65535,.iface (Fw.t 39) (.pointer (some ⟨N,0,none⟩))])/\Only Ai w w':=by
 obtain ⟨v,h1,h2⟩:=hE.r;exact (Any.strconv_ParseUint_10_at16_range V5 s (by omega) h v w h1 h2).mono fun e w' ⟨N,hh,_,_,hb⟩=>⟨N,hh,Only.of_below hb⟩
theorem qL (p:Option Addr) (c:Nat) (d:CmdL) (w:World) (hv:Vw fT w (.slice p d.words.length c) d.words) (hs:d.words.length < 2) :
 Calls Tryz.prog 106 #[.agg #[.slice p d.words.length c,str d.inp,str d.out,bl d.app]] w fun e w'=>e = .returned (i64 (Cj d.words))/\Only Ai w w':=by
 refine An (args:=[.agg #[.slice p d.words.length c,str d.inp,str d.out,bl d.app]]) (m:=29) (n:=30) Tryz.func106 rfl (by kernel_rfl) (by kernel_rfl) fun fr hA=>?_;have hO:=Ow.nil Tryz.prog Ai w;have hnl:decide (((d.words.length:Nat):Int) < 2)=true:=qZ (by omega);refine sr 2 (Mn [.slice p d.words.length c,str d.inp,str d.out,bl d.app] 104 1 hA hO fun fr w1 b1 hA hO=>Ka 1 [(2,i64 0)] hA fun fr hA=>Ab (Aa (wp_seq (Sb [(8,bl (decide (((d.words.length:Nat):Int) < 2)))] hA [.slice p d.words.length c] (cc (hO.l1 0 0 30 (.slice p d.words.length c)) c0) fun fr hA=>?_))));rw [(hnl:(decide (((d.words.length:Nat):Int) < 2))=true)] at hA;refine cT hA (Sa [] hA fun fr hA=>wp_ret (Ac (cv [i64 0] hA ?_)));have hF:=hO.only; clear hA hO;exact ⟨congrArg (fun k=>Ending.returned (i64 k)) (Uk hs).symm,hF⟩
theorem qK (p:Option Addr) (c:Nat) (d:CmdL) (w:World) (hv:Vw fT w (.slice p d.words.length c) d.words) (z:ByteArray) (hz:d.words[1]? = some z) (hz0 : 0 < z.size) (hz1:z.size<=1000000) (u:Nat) (hp:Lib.parseUintB 16 z.data.toList = .ok u) :
 Calls Tryz.prog 106 #[.agg #[.slice p d.words.length c,str d.inp,str d.out,bl d.app]] w fun e w'=>e = .returned (i64 (Cj d.words))/\Only Ai w w':=by
 refine An (args:=[.agg #[.slice p d.words.length c,str d.inp,str d.out,bl d.app]]) (m:=29) (n:=30) Tryz.func106 rfl (by kernel_rfl) (by kernel_rfl) fun fr hA=>?_;have hO:=Ow.nil Tryz.prog Ai w;have hlen_:=(List.getElem?_eq_some_iff.1 hz).1;obtain ⟨ad1,rfl⟩:=((hv.keep hO.only)).pos (by first | omega | exact Nat.zero_lt_succ _);have hnl:decide (((d.words.length:Nat):Int) < 2)=false:=rA (by omega);have hu_:=qG hz0 hp;refine sr 2 (Mn [.slice (some ad1) d.words.length c,str d.inp,str d.out,bl d.app] 104 1 hA hO fun fr w1 b1 hA hO=>Ka 1 [(2,i64 0)] hA fun fr hA=>Ab (Aa (wp_seq (Sb [(8,bl (decide (((d.words.length:Nat):Int) < 2)))] hA [.slice (some ad1) d.words.length c] (cc (hO.l1 0 0 30 (.slice (some ad1) d.words.length c)) c0) fun fr hA=>?_))));rw [(hnl:(decide (((d.words.length:Nat):Int) < 2))=false)] at hA
 refine cF hA (wp_skip (Aa (sr 10 (Kb 4 [(13,str z)] hA [.slice (some ad1) d.words.length c,str z] (cc (hO.l1 0 0 30 (.slice (some ad1) d.words.length c)) (cc (⟨by omega,by omega⟩:(0:Int)<=1/\1 < ((d.words.length:Nat):Int)) (cc ((((hv.keep hO.only)).ldT hz):Ld Tryz.prog w1 (ad1.add 1) 9 (str z)) c0))) fun fr hA=>Mk 14 hA hO Tryz.func116 (jO z hz1 u hp _) fun fr w2 hA hO=>Ka 5 [(3,u64 ((u:Nat):Int)),(4,.nilIface)] hA fun fr hA=>Ab (Aa (wp_seq (Sb [(26,bl (decide (((z.size:Nat):Int) > 3)))] hA [.slice (some ad1) d.words.length c,str z] (cc (hO.l1 0 0 30 (.slice (some ad1) d.words.length c)) (cc (⟨by omega,by omega⟩:(0:Int)<=1/\1 < ((d.words.length:Nat):Int)) (cc ((((hv.keep hO.only)).ldT hz):Ld Tryz.prog w2 (ad1.add 1) 9 (str z)) c0))) fun fr hA=>?_)))))));rcases qV (decide (((z.size:Nat):Int) > 3)) with h1 | h1
 · rw [h1] at hA;have h1p:=qX h1;refine cT hA (Sa [(2,i64 1)] hA fun fr hA=>wp_ret (Ac (cv [i64 1] hA ?_)));have hF:=hO.only; clear hA hO;exact ⟨congrArg (fun k=>Ending.returned (i64 k)) (bJ hz (by omega)).symm,hF⟩
 rw [h1] at hA;have h1p:=qY h1;refine cF hA (wp_skip (Aa (Sb [(2,i64 (((u:Nat):Int) % 256))] hA [bl true,bl true] (cc (⟨by omega,by omega,lC (by omega) (by omega)⟩:(0:Int)<=((u:Nat):Int)/\(0:Int) < 256/\inK .u64 ((u:Nat):Int)) (cc ((Am (by omega) (by omega)):inK .i64 (((u:Nat):Int) % 256)) c0)) fun fr hA=>wp_ret (cv [i64 (((u:Nat):Int) % 256)] hA ?_))));have hF:=hO.only; clear hA hO;exact ⟨congrArg (fun k=>Ending.returned (i64 k)) (mF hz hz0 hp (by omega)).symm,hF⟩
theorem qJ (p:Option Addr) (c:Nat) (d:CmdL) (w:World) (hv:Vw fT w (.slice p d.words.length c) d.words) (z:ByteArray) (hz:d.words[1]? = some z) (hz0 : 0 < z.size) (hz1:z.size<=1000000) (hp:Lib.parseUintB 16 z.data.toList=Va) (hE:ErrOk w) :
 Calls Tryz.prog 106 #[.agg #[.slice p d.words.length c,str d.inp,str d.out,bl d.app]] w fun e w'=>e = .returned (i64 (Cj d.words))/\Only Ai w w':=by
 refine An (args:=[.agg #[.slice p d.words.length c,str d.inp,str d.out,bl d.app]]) (m:=29) (n:=30) Tryz.func106 rfl (by kernel_rfl) (by kernel_rfl) fun fr hA=>?_;have hO:=Ow.nil Tryz.prog Ai w;have hlen_:=(List.getElem?_eq_some_iff.1 hz).1;obtain ⟨ad1,rfl⟩:=((hv.keep hO.only)).pos (by first | omega | exact Nat.zero_lt_succ _);have hnl:decide (((d.words.length:Nat):Int) < 2)=false:=rA (by omega);refine sr 2 (Mn [.slice (some ad1) d.words.length c,str d.inp,str d.out,bl d.app] 104 1 hA hO fun fr w1 b1 hA hO=>Ka 1 [(2,i64 0)] hA fun fr hA=>Ab (Aa (wp_seq (Sb [(8,bl (decide (((d.words.length:Nat):Int) < 2)))] hA [.slice (some ad1) d.words.length c] (cc (hO.l1 0 0 30 (.slice (some ad1) d.words.length c)) c0) fun fr hA=>?_))));rw [(hnl:(decide (((d.words.length:Nat):Int) < 2))=false)] at hA;refine cF hA (wp_skip (Aa (sr 10 (Kb 4 [(13,str z)] hA [.slice (some ad1) d.words.length c,str z] (cc (hO.l1 0 0 30 (.slice (some ad1) d.words.length c)) (cc (⟨by omega,by omega⟩:(0:Int)<=1/\1 < ((d.words.length:Nat):Int)) (cc ((((hv.keep hO.only)).ldT hz):Ld Tryz.prog w1 (ad1.add 1) 9 (str z)) c0))) fun fr hA=>Ag (mC (d:=(some 14)) hA Tryz.func116 ((dB z hz1 hp _ (hE.keep hO.only)).mono ?_))))));rintro en w2 ⟨N_,rfl,ho⟩;refine ⟨_,rfl,?_⟩;clear hA fr; intro fr hA;replace hO:=hO.st ho; clear ho;refine Ka 5 [(3,u64 0),(4,.iface 173 (pt N_))] hA fun fr hA=>Ab (Aa (wp_seq (Sa [(26,bl true)] hA fun fr hA=>cT hA (Sa [(2,i64 1)] hA fun fr hA=>wp_ret (Ac (cv [i64 1] hA ?_))))));have hF:=hO.only; clear hA hO
 exact ⟨congrArg (fun k=>Ending.returned (i64 k)) (gP hz hz0 hp).symm,hF⟩
theorem qH (p:Option Addr) (c:Nat) (d:CmdL) (w:World) (hv:Vw fT w (.slice p d.words.length c) d.words) (z:ByteArray) (hz:d.words[1]? = some z) (hz0 : 0 < z.size) (hz1:z.size<=1000000) (hp:Lib.parseUintB 16 z.data.toList = .range) (hE:ErrOk w) :
 Calls Tryz.prog 106 #[.agg #[.slice p d.words.length c,str d.inp,str d.out,bl d.app]] w fun e w'=>e = .returned (i64 (Cj d.words))/\Only Ai w w':=by
 refine An (args:=[.agg #[.slice p d.words.length c,str d.inp,str d.out,bl d.app]]) (m:=29) (n:=30) Tryz.func106 rfl (by kernel_rfl) (by kernel_rfl) fun fr hA=>?_;have hO:=Ow.nil Tryz.prog Ai w;have hlen_:=(List.getElem?_eq_some_iff.1 hz).1;obtain ⟨ad1,rfl⟩:=((hv.keep hO.only)).pos (by first | omega | exact Nat.zero_lt_succ _);have hnl:decide (((d.words.length:Nat):Int) < 2)=false:=rA (by omega);refine sr 2 (Mn [.slice (some ad1) d.words.length c,str d.inp,str d.out,bl d.app] 104 1 hA hO fun fr w1 b1 hA hO=>Ka 1 [(2,i64 0)] hA fun fr hA=>Ab (Aa (wp_seq (Sb [(8,bl (decide (((d.words.length:Nat):Int) < 2)))] hA [.slice (some ad1) d.words.length c] (cc (hO.l1 0 0 30 (.slice (some ad1) d.words.length c)) c0) fun fr hA=>?_))));rw [(hnl:(decide (((d.words.length:Nat):Int) < 2))=false)] at hA;refine cF hA (wp_skip (Aa (sr 10 (Kb 4 [(13,str z)] hA [.slice (some ad1) d.words.length c,str z] (cc (hO.l1 0 0 30 (.slice (some ad1) d.words.length c)) (cc (⟨by omega,by omega⟩:(0:Int)<=1/\1 < ((d.words.length:Nat):Int)) (cc ((((hv.keep hO.only)).ldT hz):Ld Tryz.prog w1 (ad1.add 1) 9 (str z)) c0))) fun fr hA=>Ag (mC (d:=(some 14)) hA Tryz.func116 ((Vi z hz1 hp _ (hE.keep hO.only)).mono ?_))))));rintro en w2 ⟨N_,rfl,ho⟩;refine ⟨_,rfl,?_⟩;clear hA fr; intro fr hA;replace hO:=hO.st ho; clear ho;refine Ka 5 [(3,u64 65535),(4,.iface 173 (pt N_))] hA fun fr hA=>Ab (Aa (wp_seq (Sa [(26,bl true)] hA fun fr hA=>cT hA (Sa [(2,i64 1)] hA fun fr hA=>wp_ret (Ac (cv [i64 1] hA ?_))))));have hF:=hO.only; clear hA hO
 exact ⟨congrArg (fun k=>Ending.returned (i64 k)) (Xn hz hz0 hp).symm,hF⟩
theorem gQ (p:Option Addr) (c:Nat) (d:CmdL) (w:World) (hv:Vw fT w (.slice p d.words.length c) d.words) (hE:ErrOk w) (hw : ∀ z∈d.words,0 < z.size/\z.size<=1000000):Calls Tryz.prog 106 #[.agg #[.slice p d.words.length c,str d.inp,str d.out,bl d.app]] w fun e w'=>e = .returned (i64 (Cj d.words))/\Only Ai w w':=by
 by_cases h:d.words.length < 2
 · exact qL p c d w hv h
 obtain ⟨z,hz⟩ : ∃ z,d.words[1]? = some z:=⟨_,List.getElem?_eq_getElem (by omega)⟩;obtain ⟨h0,h1⟩:=hw z (List.mem_of_getElem? hz);cases hp:Lib.parseUintB 16 z.data.toList with
 | ok u=>exact qK p c d w hv z hz h0 h1 u hp
 | range=>exact qH p c d w hv z hz h0 h1 hp hE
 | _=>exact qJ p c d w hv z hz h0 h1 hp hE
theorem fG (p:Option Addr) (c:Nat) (d:CmdL) (w:World) :
 Calls Tryz.prog 108 #[.agg #[.slice p d.words.length c,str d.inp,str d.out,bl d.app]] w fun e w'=>e = .returned (.bool (F4 d))/\Only Ai w w':=by
 refine An (args:=[.agg #[.slice p d.words.length c,str d.inp,str d.out,bl d.app]]) (m:=6) (n:=7) Tryz.func108 rfl (by kernel_rfl) (by kernel_rfl) fun fr hA=>?_;have hO:=Ow.nil Tryz.prog Ai w;refine sr 2 (Mn [.slice p d.words.length c,str d.inp,str d.out,bl d.app] 104 1 hA hO fun fr w1 b1 hA hO=>Ka 1 [(2,bl false)] hA fun fr hA=>Ab (Aa (Sb [(2,bl (decide (((d.words.length:Nat):Int) > 1)))] hA [.slice p d.words.length c] (cc (hO.l1 0 0 30 (.slice p d.words.length c)) c0) fun fr hA=>wp_ret (cv [bl (decide (((d.words.length:Nat):Int) > 1))] hA ?_))));have hF:=hO.only; clear hA hO;refine ⟨congrArg (fun b=>Ending.returned (.bool b)) ?_,hF⟩;unfold F4;first | exact (rA (by omega)).symm | exact (qZ (by omega)).symm | exact decide_eq_decide.2 (by omega)
theorem iH {l:List CV} {i:Nat} {y:CV} (h:(l.take i).any (fun y=>F4 y.d)=false) (hx:l[i]? = some y) (hn:F4 y.d=false):(l.take (i+1)).any (fun y=>F4 y.d)=false:=by
 rw [List.take_add_one,hx,List.any_append,h,Bool.false_or];show [y].any _=false;rw [List.any_cons,hn]; rfl
theorem Zv {l:List CV} {i:Nat} {y:CV} (hx:l[i]? = some y) (hn:F4 y.d=true):l.any (fun y=>F4 y.d)=true:=List.any_eq_true.2 ⟨y,List.mem_of_getElem? hx,hn⟩
theorem Zw {l:List CV} {i:Nat} (h:(l.take i).any (fun y=>F4 y.d)=false) (hi : ¬ i < l.length):l.any (fun y=>F4 y.d)=false:=by rwa [List.take_of_length_le (by omega)] at h
theorem eH (l:List CV):Ch (l.map CV.d)=l.any (fun y=>F4 y.d):=by unfold Ch; rw [List.any_map]; rfl
theorem kZ (p:Option Addr) (c:Nat) (l:List CV) (w:World) (hv:Vw fC w (.slice p l.length c) l) (hl:l.length<=1000000) :
 Calls Tryz.prog 117 #[.slice p l.length c,.func (.func 108) #[] #[]] w fun e w'=>∃ r:Int,e = .returned (i64 r)/\decide (r ≥ 0)=l.any (fun y=>F4 y.d)/\Only Ai w w':=by
 refine An (args:=[.slice p l.length c,.func (.func 108) #[] #[]]) (m:=17) (n:=19) Tryz.func117 rfl (by kernel_rfl) (by kernel_rfl) fun fr hA=>?_;have hO:=Ow.nil Tryz.prog Ai w;refine Sa [(4,i64 0)] hA fun fr hA=>wp_seq (Sa [(7,i64 ((l.length:Nat):Int)),(8,i64 0)] hA fun fr hA=>wp_block (Bg (fun mm fr W=>∃ (i:Nat),mm=l.length - i/\Holds 19 [] fr [(0,.slice p l.length c),(1,.func (.func 108) #[] #[]),(4,i64 0),(7,i64 ((l.length:Nat):Int)),(8,i64 ((i:Nat):Int))]/\Ow Tryz.prog Ai w W []/\i<=l.length/\(l.take i).any (fun y=>F4 y.d)=false/\True) ?_ ?_))
 · exact ⟨_,0,rfl,hA.ss,hO.to,(Nat.zero_le _),rfl,trivial⟩
 rintro _ fr w1 ⟨i,rfl,hA,hO,hi,ho,-⟩;refine Sa [(9,bl (decide (((i:Nat):Int) < ((l.length:Nat):Int))))] hA fun fr hA=>wp_seq ?_;rcases qV (decide (((i:Nat):Int) < ((l.length:Nat):Int))) with h1 | h1
 · rw [h1] at hA;have h1p:=qX h1;obtain ⟨ad1,rfl⟩:=((⟨hv.keep hO.only,trivial⟩:_/\True).1).pos (by first | omega | exact Nat.zero_lt_succ _);obtain ⟨⟨yp1,yc1,yd1⟩,hx1⟩ : ∃ x,(l)[i]? = some x:=⟨_,Bi _ CV0 (by first | omega | exact Nat.zero_lt_succ _)⟩;refine cT hA (wp_skip (Aa (wp_seq (wp_block (Sa [(0,.slice (some ad1) l.length c),(5,i64 ((i:Nat):Int))] hA fun fr hA=>sr 6 (Kb 5 [(11,.func (.func 108) #[] #[]),(15,.agg #[.slice yp1 yd1.words.length yc1,str yd1.inp,str yd1.out,bl yd1.app])] hA [.agg #[.slice yp1 yd1.words.length yc1,str yd1.inp,str yd1.out,bl yd1.app]] (cc (⟨by omega,by omega⟩:(0:Int)<=((i:Nat):Int)/\((i:Nat):Int) < ((l.length:Nat):Int)) (cc ((((⟨hv.keep hO.only,trivial⟩:_/\True).1).ldn Fj hx1):Ld Tryz.prog w1 (ad1.add (i*4)) 104 (.agg #[.slice yp1 yd1.words.length yc1,str yd1.inp,str yd1.out,bl yd1.app])) c0)) fun fr hA=>Mk 16 hA hO Tryz.func108 (fG yp1 yc1 yd1 _) fun fr w2 hA hO=>Ab (Aa ?_)))))));rcases qV (F4 yd1) with h2 | h2
   · rw [h2] at hA;refine cT hA (Sa [(4,i64 ((i:Nat):Int))] hA fun fr hA=>wp_ret (Ae (Ac (Ac (Ae (Ac (cv [i64 ((i:Nat):Int)] hA ?_)))))));have hF:=hO.only; clear hA hO;first | exact ⟨_,rfl,(qZ (by omega)).trans (Zv hx1 (by assumption)).symm,hF⟩ | exact ⟨_,rfl,(rA (by omega)).trans (Zw ho (by omega)).symm,hF⟩
   rw [h2] at hA;exact cF hA (wp_skip (Ad (Aa (Rc [(8,i64 (((i:Nat):Int)+1))] hA [bl true] (cc ((Am (by omega) (by omega)):inK .i64 (((i:Nat):Int)+1)) c0) fun fr hA=>Aa (⟨_,by omega,i+1,rfl,hA.ss,hO.to,(by omega),(iH ho hx1 (by assumption)),trivial⟩)))))
 rw [h1] at hA;have h1p:=qY h1;refine cF hA (wp_exit (Aj (Aj (Ap (Aa (Sa [(4,i64 (-1))] hA fun fr hA=>wp_ret (cv [i64 (-1)] hA ?_)))))));have hF:=hO.only; clear hA hO;first | exact ⟨_,rfl,(qZ (by omega)).trans (Zv hx1 (by assumption)).symm,hF⟩ | exact ⟨_,rfl,(rA (by omega)).trans (Zw ho (by omega)).symm,hF⟩
theorem lZ (p:Option Addr) (c:Nat) (l:List CV) (w:World) (hv:Vw fC w (.slice p l.length c) l) (hl:l.length<=1000000) :
 Calls Tryz.prog 107 #[.slice p l.length c,.func (.func 108) #[] #[]] w fun e w'=>e = .returned (.bool (Ch (l.map CV.d)))/\Only Ai w w':=by
 refine An (args:=[.slice p l.length c,.func (.func 108) #[] #[]]) (m:=7) (n:=9) Tryz.func107 rfl (by kernel_rfl) (by kernel_rfl) fun fr hA=>?_;have hO:=Ow.nil Tryz.prog Ai w;refine Sa [(4,bl false)] hA fun fr hA=>sr 5 (Ka 2 [(5,.slice p l.length c),(6,.func (.func 108) #[] #[])] hA fun fr hA=>Ag (mC (d:=(some 7)) hA Tryz.func117 ((kZ p c l _ (hv.keep hO.only) hl).mono ?_)));rintro en w1 ⟨r1,rfl,hr1,ho⟩;refine ⟨_,rfl,?_⟩;clear hA fr; intro fr hA;replace hO:=hO.st ho; clear ho;refine Ka 2 [(4,bl (decide (r1 ≥ 0)))] hA fun fr hA=>Ab (Aa (wp_ret (cv [bl (decide (r1 ≥ 0))] hA ?_)));have hF:=hO.only; clear hA hO;exact ⟨congrArg (fun b=>Ending.returned (.bool b)) (hr1.trans (eH l).symm),hF⟩
theorem nH {N:Nat} {x:JV} {r:List JV} (h:smL N ((x::r).map JV.d)):smL N (r.map JV.d):=⟨by have:=h.1; simp only [List.map_cons,List.length_cons] at this; omega,fun y hy=>h.2 y (by rw [List.map_cons]; exact List.mem_cons_of_mem _ hy)⟩
theorem Ph {x:JV} {r:List JV} (h:Aq ((x::r).map JV.d)=true):(1<=x.cmds.length/\x.cmds.length<=4)/\∀ y∈x.cmds,Av y.d=true:=by
 unfold Aq at h;rw [Bool.and_eq_true,List.all_map,List.all_cons,Bool.and_eq_true] at h;have h1:=h.1.1;simp only [Function.comp,Bm,JV.d,List.length_map,List.all_map,Bool.and_eq_true,decide_eq_true_eq,List.all_eq_true] at h1;exact h1
theorem Hj {d:CmdL} (h:Av d=true):(1<=d.words.length/\d.words.length<=4)/\∀ u∈d.words,0 < u.size/\u.size<=60:=by
 unfold Av at h;simp only [Bool.and_eq_true,decide_eq_true_eq,List.all_eq_true] at h;refine ⟨h.2.1,fun u hu=>?_⟩;have:=h.1 u hu;unfold A0 at this;rw [Bool.and_eq_true] at this;have:=qX this.2;omega
section
variable {s:StL} {j:JobL} {r:List JobL}
theorem job_a (h:s.jobs=j::r) (h1:Bx j.cmds=true) (h2:s.pos=0):B0 s=({s with mode:=7},some (Ao 0 (Cj (Rk j.cmds).words) 0)):=by unfold B0; rw [h]; simp only; rw [if_pos ⟨h1,h2⟩]
theorem job_b (h:s.jobs=j::r) (h1 : ¬ (Bx j.cmds=true/\s.pos=0)) (h2:s.pos=0/\Ch j.cmds=true):B0 s=({s with jobs:=r,plan:=s.plan++[B4]},none):=by unfold B0; rw [h]; simp only; rw [if_neg h1,if_pos h2]
theorem job_c (h:s.jobs=j::r) (h1 : ¬ (Bx j.cmds=true/\s.pos=0)) (h2 : ¬ (s.pos=0/\Ch j.cmds=true)) (h3:s.pos=(j.cmds.length:Int) - 1):B0 s=({s with mode:=4},some (Ao 1 0 0)):=by unfold B0; rw [h]; simp only; rw [if_neg h1,if_neg h2,if_pos h3]
theorem job_d (h:s.jobs=j::r) (h1 : ¬ (Bx j.cmds=true/\s.pos=0)) (h2 : ¬ (s.pos=0/\Ch j.cmds=true)) (h3 : ¬ s.pos=(j.cmds.length:Int) - 1) (h4:s.pos < (j.cmds.length:Int)):B0 s=({s with mode:=3},some (Ao 11 0 0)):=by unfold B0; rw [h]; simp only; rw [if_neg h1,if_neg h2,if_neg h3,if_pos h4]
theorem job_e (h:s.jobs=j::r) (h1 : ¬ (Bx j.cmds=true/\s.pos=0)) (h2 : ¬ (s.pos=0/\Ch j.cmds=true)) (h3 : ¬ s.pos=(j.cmds.length:Int) - 1) (h4 : ¬ s.pos < (j.cmds.length:Int)) (h5:j.bg=false/\0 < s.kids.length):B0 s=({s with mode:=5},some (Ao 3 0 0)):=by unfold B0; rw [h]; simp only; rw [if_neg h1,if_neg h2,if_neg h3,if_neg h4,if_pos h5]
theorem job_f (h:s.jobs=j::r) (h1 : ¬ (Bx j.cmds=true/\s.pos=0)) (h2 : ¬ (s.pos=0/\Ch j.cmds=true)) (h3 : ¬ s.pos=(j.cmds.length:Int) - 1) (h4 : ¬ s.pos < (j.cmds.length:Int)) (h5 : ¬ (j.bg=false/\0 < s.kids.length)):B0 s=({s with jobs:=r,kids:=[],pos:=0,pv:=-1},none):=by unfold B0; rw [h]; simp only; rw [if_neg h1,if_neg h2,if_neg h3,if_neg h4,if_neg h5]
end
theorem aV {p:Option Addr} {c:Nat} {d:CmdL} {r:List CV} {z:ByteArray} (hz:d.words[0]? = some z):Bx ((⟨p,c,d⟩::r:List CV).map CV.d)=(decide ((⟨p,c,d⟩::r:List CV).length=1) && (z.toList == gE.toList)):=by
 unfold Bx;rw [List.length_map];have:Dy (Rk ((⟨p,c,d⟩::r:List CV).map CV.d))=z:=P7 hz;rw [this]
theorem Vq {a:Bool} {n:Int} (h:(a && (n == 0))=true):a=true/\n=0:=by rw [Bool.and_eq_true,beq_iff_eq] at h; exact h
theorem Sv {a:Bool} {n:Int} (h:(a && (n == 0))=false) : ¬ (a=true/\n=0):=fun q=>by rw [q.1,q.2] at h; cases h
theorem Vp {a:Bool} {n:Int} (h:((n == 0) && a)=true):n=0/\a=true:=by rw [Bool.and_eq_true,beq_iff_eq] at h; exact h
theorem Su {a:Bool} {n:Int} (h:((n == 0) && a)=false) : ¬ (n=0/\a=true):=fun q=>by rw [q.1,q.2] at h; cases h
theorem of_wt {a:Bool} {n:Nat} (h:((!a) && (decide (((n:Nat):Int) > 0)))=true):a=false/\0 < n:=by rw [Bool.and_eq_true,Bool.not_eq_true',decide_eq_true_eq] at h; exact ⟨h.1,by omega⟩
theorem pL {a:Bool} {n:Nat} (h:((!a) && (decide (((n:Nat):Int) > 0)))=false) : ¬ (a=false/\0 < n):=fun q=>by rw [q.1,qZ (by omega)] at h; cases h
theorem sj_a {mo po:Int} {inp:ByteArray} {aj:Addr} {kj:Nat} {ax:Addr} {xc:Nat} {ay:Addr} {yc:Nat} {yd:CmdL} {rc:List CV} {xb:Bool} {rj:List JV} {rd wr pv:Int} {pn:Option Addr} {kn:Nat} {ln:List Int} {pp:Option Addr} {kp:Nat} {lp:List PV} (h1:Bx ((⟨some ay,yc,yd⟩::rc).map CV.d)=true) (h2:po=0):B0 (SV.d (⟨mo,po,inp,some aj,kj,((⟨some ax,xc,(⟨some ay,yc,yd⟩::rc),xb⟩:JV)::rj),rd,wr,pv,pn,kn,ln,pp,kp,lp⟩:SV))=(SV.d (⟨7,po,inp,some aj,kj,((⟨some ax,xc,(⟨some ay,yc,yd⟩::rc),xb⟩:JV)::rj),rd,wr,pv,pn,kn,ln,pp,kp,lp⟩:SV),some (Ao 0 (Cj yd.words) 0)):=job_a (s:=SV.d (⟨mo,po,inp,some aj,kj,((⟨some ax,xc,(⟨some ay,yc,yd⟩::rc),xb⟩:JV)::rj),rd,wr,pv,pn,kn,ln,pp,kp,lp⟩:SV)) rfl h1 h2
theorem sj_b {mo po:Int} {inp:ByteArray} {aj:Addr} {kj:Nat} {ax:Addr} {xc:Nat} {ay:Addr} {yc:Nat} {yd:CmdL} {rc:List CV} {xb:Bool} {rj:List JV} {rd wr pv:Int} {pn:Option Addr} {kn:Nat} {ln:List Int} {pp:Option Addr} {kp:Nat} {lp:List PV} (h1 : ¬ (Bx ((⟨some ay,yc,yd⟩::rc).map CV.d)=true/\po=0)) (h2:po=0/\Ch ((⟨some ay,yc,yd⟩::rc).map CV.d)=true):B0 (SV.d (⟨mo,po,inp,some aj,kj,((⟨some ax,xc,(⟨some ay,yc,yd⟩::rc),xb⟩:JV)::rj),rd,wr,pv,pn,kn,ln,pp,kp,lp⟩:SV))=({SV.d (⟨mo,po,inp,some aj,kj,((⟨some ax,xc,(⟨some ay,yc,yd⟩::rc),xb⟩:JV)::rj),rd,wr,pv,pn,kn,ln,pp,kp,lp⟩:SV) with jobs:=rj.map JV.d,plan:=(SV.d (⟨mo,po,inp,some aj,kj,((⟨some ax,xc,(⟨some ay,yc,yd⟩::rc),xb⟩:JV)::rj),rd,wr,pv,pn,kn,ln,pp,kp,lp⟩:SV)).plan++[B4]},none):=job_b (s:=SV.d (⟨mo,po,inp,some aj,kj,((⟨some ax,xc,(⟨some ay,yc,yd⟩::rc),xb⟩:JV)::rj),rd,wr,pv,pn,kn,ln,pp,kp,lp⟩:SV)) rfl h1 h2
theorem sj_c {mo po:Int} {inp:ByteArray} {aj:Addr} {kj:Nat} {ax:Addr} {xc:Nat} {ay:Addr} {yc:Nat} {yd:CmdL} {rc:List CV} {xb:Bool} {rj:List JV} {rd wr pv:Int} {pn:Option Addr} {kn:Nat} {ln:List Int} {pp:Option Addr} {kp:Nat} {lp:List PV} (h1 : ¬ (Bx ((⟨some ay,yc,yd⟩::rc).map CV.d)=true/\po=0)) (h2 : ¬ (po=0/\Ch ((⟨some ay,yc,yd⟩::rc).map CV.d)=true)) (h3:po=(((⟨some ay,yc,yd⟩::rc).length:Nat):Int) - 1):B0 (SV.d (⟨mo,po,inp,some aj,kj,((⟨some ax,xc,(⟨some ay,yc,yd⟩::rc),xb⟩:JV)::rj),rd,wr,pv,pn,kn,ln,pp,kp,lp⟩:SV))=(SV.d (⟨4,po,inp,some aj,kj,((⟨some ax,xc,(⟨some ay,yc,yd⟩::rc),xb⟩:JV)::rj),rd,wr,pv,pn,kn,ln,pp,kp,lp⟩:SV),some (Ao 1 0 0)):=job_c (s:=SV.d (⟨mo,po,inp,some aj,kj,((⟨some ax,xc,(⟨some ay,yc,yd⟩::rc),xb⟩:JV)::rj),rd,wr,pv,pn,kn,ln,pp,kp,lp⟩:SV)) rfl h1 h2 (by show po=((((⟨some ay,yc,yd⟩::rc).map CV.d).length:Nat):Int) - 1; rw [List.length_map]; exact h3)
theorem sj_d {mo po:Int} {inp:ByteArray} {aj:Addr} {kj:Nat} {ax:Addr} {xc:Nat} {ay:Addr} {yc:Nat} {yd:CmdL} {rc:List CV} {xb:Bool} {rj:List JV} {rd wr pv:Int} {pn:Option Addr} {kn:Nat} {ln:List Int} {pp:Option Addr} {kp:Nat} {lp:List PV} (h1 : ¬ (Bx ((⟨some ay,yc,yd⟩::rc).map CV.d)=true/\po=0)) (h2 : ¬ (po=0/\Ch ((⟨some ay,yc,yd⟩::rc).map CV.d)=true)) (h3 : ¬ po=(((⟨some ay,yc,yd⟩::rc).length:Nat):Int) - 1) (h4:po < (((⟨some ay,yc,yd⟩::rc).length:Nat):Int)):B0 (SV.d (⟨mo,po,inp,some aj,kj,((⟨some ax,xc,(⟨some ay,yc,yd⟩::rc),xb⟩:JV)::rj),rd,wr,pv,pn,kn,ln,pp,kp,lp⟩:SV))=(SV.d (⟨3,po,inp,some aj,kj,((⟨some ax,xc,(⟨some ay,yc,yd⟩::rc),xb⟩:JV)::rj),rd,wr,pv,pn,kn,ln,pp,kp,lp⟩:SV),some (Ao 11 0 0)):=job_d (s:=SV.d (⟨mo,po,inp,some aj,kj,((⟨some ax,xc,(⟨some ay,yc,yd⟩::rc),xb⟩:JV)::rj),rd,wr,pv,pn,kn,ln,pp,kp,lp⟩:SV)) rfl h1 h2 (by show ¬ po=((((⟨some ay,yc,yd⟩::rc).map CV.d).length:Nat):Int) - 1; rw [List.length_map]; exact h3) (by show po < ((((⟨some ay,yc,yd⟩::rc).map CV.d).length:Nat):Int); rw [List.length_map]; exact h4)
theorem sj_e {mo po:Int} {inp:ByteArray} {aj:Addr} {kj:Nat} {ax:Addr} {xc:Nat} {ay:Addr} {yc:Nat} {yd:CmdL} {rc:List CV} {xb:Bool} {rj:List JV} {rd wr pv:Int} {pn:Option Addr} {kn:Nat} {ln:List Int} {pp:Option Addr} {kp:Nat} {lp:List PV} (h1 : ¬ (Bx ((⟨some ay,yc,yd⟩::rc).map CV.d)=true/\po=0)) (h2 : ¬ (po=0/\Ch ((⟨some ay,yc,yd⟩::rc).map CV.d)=true)) (h3 : ¬ po=(((⟨some ay,yc,yd⟩::rc).length:Nat):Int) - 1) (h4 : ¬ po < (((⟨some ay,yc,yd⟩::rc).length:Nat):Int)) (h5:xb=false/\0 < ln.length):B0 (SV.d (⟨mo,po,inp,some aj,kj,((⟨some ax,xc,(⟨some ay,yc,yd⟩::rc),xb⟩:JV)::rj),rd,wr,pv,pn,kn,ln,pp,kp,lp⟩:SV))=(SV.d (⟨5,po,inp,some aj,kj,((⟨some ax,xc,(⟨some ay,yc,yd⟩::rc),xb⟩:JV)::rj),rd,wr,pv,pn,kn,ln,pp,kp,lp⟩:SV),some (Ao 3 0 0)):=job_e (s:=SV.d (⟨mo,po,inp,some aj,kj,((⟨some ax,xc,(⟨some ay,yc,yd⟩::rc),xb⟩:JV)::rj),rd,wr,pv,pn,kn,ln,pp,kp,lp⟩:SV)) rfl h1 h2 (by show ¬ po=((((⟨some ay,yc,yd⟩::rc).map CV.d).length:Nat):Int) - 1; rw [List.length_map]; exact h3) (by show ¬ po < ((((⟨some ay,yc,yd⟩::rc).map CV.d).length:Nat):Int); rw [List.length_map]; exact h4) h5
theorem sj_f {mo po:Int} {inp:ByteArray} {aj:Addr} {kj:Nat} {ax:Addr} {xc:Nat} {ay:Addr} {yc:Nat} {yd:CmdL} {rc:List CV} {xb:Bool} {rj:List JV} {rd wr pv:Int} {pn:Option Addr} {kn:Nat} {ln:List Int} {pp:Option Addr} {kp:Nat} {lp:List PV} (h1 : ¬ (Bx ((⟨some ay,yc,yd⟩::rc).map CV.d)=true/\po=0)) (h2 : ¬ (po=0/\Ch ((⟨some ay,yc,yd⟩::rc).map CV.d)=true)) (h3 : ¬ po=(((⟨some ay,yc,yd⟩::rc).length:Nat):Int) - 1) (h4 : ¬ po < (((⟨some ay,yc,yd⟩::rc).length:Nat):Int)) (h5 : ¬ (xb=false/\0 < ln.length)):B0 (SV.d (⟨mo,po,inp,some aj,kj,((⟨some ax,xc,(⟨some ay,yc,yd⟩::rc),xb⟩:JV)::rj),rd,wr,pv,pn,kn,ln,pp,kp,lp⟩:SV))=({SV.d (⟨mo,po,inp,some aj,kj,((⟨some ax,xc,(⟨some ay,yc,yd⟩::rc),xb⟩:JV)::rj),rd,wr,pv,pn,kn,ln,pp,kp,lp⟩:SV) with jobs:=rj.map JV.d,kids:=[],pos:=0,pv:=-1},none):=job_f (s:=SV.d (⟨mo,po,inp,some aj,kj,((⟨some ax,xc,(⟨some ay,yc,yd⟩::rc),xb⟩:JV)::rj),rd,wr,pv,pn,kn,ln,pp,kp,lp⟩:SV)) rfl h1 h2 (by show ¬ po=((((⟨some ay,yc,yd⟩::rc).map CV.d).length:Nat):Int) - 1; rw [List.length_map]; exact h3) (by show ¬ po < ((((⟨some ay,yc,yd⟩::rc).map CV.d).length:Nat):Int); rw [List.length_map]; exact h4) h5
theorem cL (pb:Nat) (mo po:Int) (inp:ByteArray) (aj:Addr) (kj:Nat) (ax:Addr) (xc:Nat) (ay:Addr) (yc:Nat) (yd:CmdL) (rc:List CV) (xb:Bool) (rj:List JV) (rd wr pv:Int) (pn:Option Addr) (kn:Nat) (ln:List Int) (pp:Option Addr) (kp:Nat) (lp:List PV) (T:OwL)  (w:World) (hG:Ah T (SV.ok (⟨mo,po,inp,some aj,kj,((⟨some ax,xc,(⟨some ay,yc,yd⟩::rc),xb⟩:JV)::rj),rd,wr,pv,pn,kn,ln,pp,kp,lp⟩:SV))) (h0:Ow Tryz.prog (inT ((pb,39,cS mo po inp (some aj) (((⟨some ax,xc,(⟨some ay,yc,yd⟩::rc),xb⟩:JV)::rj).length) kj rd wr pv pn ln.length kn pp lp.length kp)::T)) w w ((pb,39,cS mo po inp (some aj) (((⟨some ax,xc,(⟨some ay,yc,yd⟩::rc),xb⟩:JV)::rj).length) kj rd wr pv pn ln.length kn pp lp.length kp)::T)) (hm:SV.sm (⟨mo,po,inp,some aj,kj,((⟨some ax,xc,(⟨some ay,yc,yd⟩::rc),xb⟩:JV)::rj),rd,wr,pv,pn,kn,ln,pp,kp,lp⟩:SV)) (hvl:Aq (((⟨some ax,xc,(⟨some ay,yc,yd⟩::rc),xb⟩:JV)::rj).map JV.d)=true) (hE : ∀ w',Only (inT ((pb,39,cS mo po inp (some aj) (((⟨some ax,xc,(⟨some ay,yc,yd⟩::rc),xb⟩:JV)::rj).length) kj rd wr pv pn ln.length kn pp lp.length kp)::T)) w w'->ErrOk w') (hp0:lp.length=0) :
 Calls Tryz.prog 90 #[pt pb] w fun e w'=>∃ (v:SV) (c:CallL) (b:Bool) (Tn:OwL),B0 (SV.d (⟨mo,po,inp,some aj,kj,((⟨some ax,xc,(⟨some ay,yc,yd⟩::rc),xb⟩:JV)::rj),rd,wr,pv,pn,kn,ln,pp,kp,lp⟩:SV))=(v.d,if b=true then some c else none)/\c.data=[]/\v.sm/\e = .returned (.tuple #[.agg #[i64 c.call,i64 c.a0,i64 c.a1,i64 c.a2,.slice none 0 0],bl b])/\Ow Tryz.prog (inT ((pb,39,cS mo po inp (some aj) (((⟨some ax,xc,(⟨some ay,yc,yd⟩::rc),xb⟩:JV)::rj).length) kj rd wr pv pn ln.length kn pp lp.length kp)::T)) w w' ((pb,39,v.cells)::(T++Tn))/\Ah (T++Tn) v.ok:=by
 refine An (args:=[pt pb]) (m:=112) (n:=113) Tryz.func90 rfl (by kernel_rfl) (by kernel_rfl) fun fr hA=>?_;generalize inT ((pb,39,cS mo po inp (some aj) (((⟨some ax,xc,(⟨some ay,yc,yd⟩::rc),xb⟩:JV)::rj).length) kj rd wr pv pn ln.length kn pp lp.length kp)::T)=M at *;have hO:Ow Tryz.prog M w w ([(pb,39,(cS mo po inp (some aj) (((⟨some ax,xc,(⟨some ay,yc,yd⟩::rc),xb⟩:JV)::rj).length) kj rd wr pv pn ln.length kn pp lp.length kp))]++(T++([]))):=h0.to (by first | rfl | first | rfl | (simp only [TP,apd]));have hm_cj:((⟨some ax,xc,(⟨some ay,yc,yd⟩::rc),xb⟩:JV)::rj).length<=kj:=hm.cj;have hm_jl:((⟨some ax,xc,(⟨some ay,yc,yd⟩::rc),xb⟩:JV)::rj).length<=1000000:=smL.len hm.j;obtain ⟨hxl,hxv⟩:=Ph hvl;have hxl : 1<=(⟨some ay,yc,yd⟩::rc).length/\(⟨some ay,yc,yd⟩::rc).length<=4:=hxl;have hyv:Av yd=true:=hxv ⟨some ay,yc,yd⟩ List.mem_cons_self;obtain ⟨hwl,hws⟩:=Hj hyv;obtain ⟨z1,hx1⟩ : ∃ x,(yd.words)[0]? = some x:=⟨_,Bi _ ⟨#[]⟩ (by first | omega | exact Nat.zero_lt_succ _)⟩;have hpos_ : 0 < ((⟨some ax,xc,(⟨some ay,yc,yd⟩::rc),xb⟩:JV)::rj).length:=Nat.zero_lt_succ _;have hie:=aV (p:=some ay) (c:=yc) (r:=rc) hx1;unfold gE at hie
 refine sr 2 (Mn [i64 0,i64 0,i64 0,i64 0,.slice none 0 0] 43 2 hA hO fun fr w1 b1 hA hO=>Ka 1 [(3,bl false)] hA fun fr hA=>Ab (Aa (sr 8 (Kb 6 [(11,.agg #[.slice (some ax) ((⟨some ay,yc,yd⟩::rc).length) xc,bl xb])] hA [.slice (some aj) (((⟨some ax,xc,(⟨some ay,yc,yd⟩::rc),xb⟩:JV)::rj).length) kj,.agg #[.slice (some ax) ((⟨some ay,yc,yd⟩::rc).length) xc,bl xb]] (cc (hO.l1 1 3 36 (.slice (some aj) (((⟨some ax,xc,(⟨some ay,yc,yd⟩::rc),xb⟩:JV)::rj).length) kj)) (cc (⟨by omega,by omega⟩:(0:Int)<=0/\0 < ((((⟨some ax,xc,(⟨some ay,yc,yd⟩::rc),xb⟩:JV)::rj).length:Nat):Int)) (cc ((((Ah.at (A:=[_,_]) hG hO.m).j.1).ldn Eb (rfl:((⟨some ax,xc,(⟨some ay,yc,yd⟩::rc),xb⟩:JV)::rj)[0]? = some (⟨some ax,xc,(⟨some ay,yc,yd⟩::rc),xb⟩:JV))):Ld Tryz.prog w1 (aj.add 0) 103 (.agg #[.slice (some ax) ((⟨some ay,yc,yd⟩::rc).length) xc,bl xb])) c0))) fun fr hA=>Mn [.slice none 0 0,bl false] 103 4 hA hO fun fr w2 b2 hA hO=>Ms 0 [.slice (some ax) ((⟨some ay,yc,yd⟩::rc).length) xc,bl xb] 0 hA hO fun w3 hO=>Ab (Aa (Sb [(5,i64 (((⟨some ay,yc,yd⟩::rc).length:Nat):Int))] hA [.slice (some ax) ((⟨some ay,yc,yd⟩::rc).length) xc] (cc (hO.l1 0 0 101 (.slice (some ax) ((⟨some ay,yc,yd⟩::rc).length) xc)) c0) fun fr hA=>wp_seq (wp_block (sJ (fun fr W=>Holds 113 [] fr [(0,pt pb),(2,pt b1),(3,bl false),(4,pt b2),(5,i64 (((⟨some ay,yc,yd⟩::rc).length:Nat):Int)),(26,bl (Bx ((⟨some ay,yc,yd⟩::rc).map CV.d) && (po == 0)))]/\Ow Tryz.prog M w W ([(b2,103,[.slice (some ax) ((⟨some ay,yc,yd⟩::rc).length) xc,bl xb]),(b1,43,[i64 0,i64 0,i64 0,i64 0,.slice none 0 0]),(pb,39,(cS mo po inp (some aj) (((⟨some ax,xc,(⟨some ay,yc,yd⟩::rc),xb⟩:JV)::rj).length) kj rd wr pv pn ln.length kn pp lp.length kp))]++(T++([])))/\True) ?_ ?_))))))))
 · rintro fr w4 ⟨hA,hO,-⟩;rcases qV (Bx ((⟨some ay,yc,yd⟩::rc).map CV.d) && (po == 0)) with h1 | h1
   · rw [h1] at hA;have hye:=Vq h1
     exact cT hA (sr 4 (Ka 3 [(48,pt pb)] hA fun fr hA=>Ms 0 [i64 7] 2 hA hO fun w5 hO=>Ab (Aa (sr 9 (Kb 4 [(52,.agg #[.slice (some ay) yd.words.length yc,str yd.inp,str yd.out,bl yd.app])] hA [.slice (some ax) ((⟨some ay,yc,yd⟩::rc).length) xc,.agg #[.slice (some ay) yd.words.length yc,str yd.inp,str yd.out,bl yd.app]] (cc (hO.l1 0 0 101 (.slice (some ax) ((⟨some ay,yc,yd⟩::rc).length) xc)) (cc (⟨by omega,by omega⟩:(0:Int)<=0/\0 < (((⟨some ay,yc,yd⟩::rc).length:Nat):Int)) (cc ((((show Vw fC _ (.slice (some ax) (⟨some ay,yc,yd⟩::rc).length xc) (⟨some ay,yc,yd⟩::rc)/\∀ y∈(⟨some ay,yc,yd⟩::rc),VC _ y from (Ah.at (A:=[_,_,_]) hG hO.m).j.2 _ List.mem_cons_self).1).ldn Fj (rfl:((⟨some ay,yc,yd⟩::rc):List CV)[0]? = some ⟨some ay,yc,yd⟩)):Ld Tryz.prog w5 (ax.add 0) 104 (.agg #[.slice (some ay) yd.words.length yc,str yd.inp,str yd.out,bl yd.app])) c0))) fun fr hA=>Mk 53 hA hO Tryz.func106 (gQ (some ay) yc yd _ (show Vw fT _ (.slice (some ay) yd.words.length yc) yd.words from (show Vw fC _ (.slice (some ax) (⟨some ay,yc,yd⟩::rc).length xc) (⟨some ay,yc,yd⟩::rc)/\∀ y∈(⟨some ay,yc,yd⟩::rc),VC _ y from (Ah.at (A:=[_,_,_]) hG hO.m).j.2 _ List.mem_cons_self).2 _ List.mem_cons_self) (hE _ hO.only) (fun z hz=>⟨(hws z hz).1,by have:=(hws z hz).2; omega⟩)) fun fr w6 hA hO=>Mv [i64 (Cj yd.words)] 3 1 54 hA hO fun fr w7 b3 hA hO=>Mk 55 hA hO Tryz.func28 (Dd 0 (Cj yd.words) ⟨b3,0,none⟩ 1 _ ((hO.b 0).vw (off:=0) (xs:=[Cj yd.words]) (by kernel_rfl))) fun fr w8 hA hO=>Ms 0 [i64 0,i64 (Cj yd.words),i64 0,i64 0,.slice none 0 0] 2 hA hO fun w9 hO=>Ka 1 [(3,bl true)] hA fun fr hA=>Ab (Aa (wp_ret (Ae (Ac (cR (cs:=[some (⟨b1,0,none⟩,43),none]) (us:=[.agg #[i64 0,i64 (Cj yd.words),i64 0,i64 0,.slice none 0 0],bl true]) hA [.agg #[i64 0,i64 (Cj yd.words),i64 0,i64 0,.slice none 0 0]] ⟨(hO.ln 2 0 43 [i64 0,i64 (Cj yd.words),i64 0,i64 0,.slice none 0 0]),trivial⟩ (⟨(⟨7,po,inp,some aj,kj,((⟨some ax,xc,(⟨some ay,yc,yd⟩::rc),xb⟩:JV)::rj),rd,wr,pv,pn,kn,ln,pp,kp,lp⟩:SV),Ao 0 (Cj yd.words) 0,true,([]),sj_a hye.1 hye.2,rfl,⟨hm.i,hm.j,hm.k,hm.p,hm.ck,hm.cj,hm.cp⟩,rfl,(((Ow.subP (A:=[_,_,_,_]) hO (.cons _ (.cons _ (.cons _ (.cons_cons _ .slnil)))))).tt),((ok3 (T:=T++([])) (x:=(⟨7,po,inp,some aj,kj,((⟨some ax,xc,(⟨some ay,yc,yd⟩::rc),xb⟩:JV)::rj),rd,wr,pv,pn,kn,ln,pp,kp,lp⟩:SV)) ((hG.mono fun _ h_=>h_.j).l) ((hG.mono fun _ h_=>h_.k).l) ((hG.mono fun _ h_=>h_.p).l)).tt)⟩)))))))))))
   rw [h1] at hA;have hne:=Sv h1;refine cF hA (sJ (fun fr W=>Holds 113 [] fr [(0,pt pb),(2,pt b1),(3,bl false),(4,pt b2),(5,i64 (((⟨some ay,yc,yd⟩::rc).length:Nat):Int)),(56,bl ((po == 0) && Ch ((⟨some ay,yc,yd⟩::rc).map CV.d)))]/\Ow Tryz.prog M w W ([(b2,103,[.slice (some ax) ((⟨some ay,yc,yd⟩::rc).length) xc,bl xb]),(b1,43,[i64 0,i64 0,i64 0,i64 0,.slice none 0 0]),(pb,39,(cS mo po inp (some aj) (((⟨some ax,xc,(⟨some ay,yc,yd⟩::rc),xb⟩:JV)::rj).length) kj rd wr pv pn ln.length kn pp lp.length kp))]++(T++([])))/\True) ?_ ?_)
   · rintro fr w10 ⟨hA,hO,-⟩;rcases qV ((po == 0) && Ch ((⟨some ay,yc,yd⟩::rc).map CV.d)) with h2 | h2
     · rw [h2] at hA;have hyl:=Vp h2;refine cT hA (sr 2 (Ka 1 [(67,pt pb)] hA fun fr hA=>?_));replace hO:Ow Tryz.prog M w w10 ([(b2,103,[.slice (some ax) ((⟨some ay,yc,yd⟩::rc).length) xc,bl xb]),(b1,43,[i64 0,i64 0,i64 0,i64 0,.slice none 0 0]),(pb,39,(cS mo po inp (some aj) (((⟨some ax,xc,(⟨some ay,yc,yd⟩::rc),xb⟩:JV)::rj).length) kj rd wr pv pn ln.length kn pp lp.length kp))]++(T++([]))):=hO;refine Ag (mC (d:=(some 68)) hA Tryz.func109 ((Od pb mo po inp aj kj (⟨some ax,xc,(⟨some ay,yc,yd⟩::rc),xb⟩:JV) rj rd wr pv pn kn ln pp kp lp _ (Ow.self (A:=[_,_]) (hO.tt)) hm_cj).mono ?_));rintro en w11 ⟨rfl,p1,k1,hW,hcap1,hvt1⟩;refine ⟨_,rfl,?_⟩;clear hA fr; intro fr hA;replace hO:=Ow.pass (A:=[_,_]) hO hW; clear hW;refine Ab (Aa (rr 4 (Ka 1 [(69,pt pb)] hA fun fr hA=>Ag (mC (d:=(some 70)) hA Tryz.func96 ((F2 _).mono ?_)))));rintro en w12 ⟨p2,c1,T1,rfl,hT1,hW⟩;refine ⟨_,rfl,?_⟩;clear hA fr; intro fr hA;replace hO:=Ow.join hO hW; clear hW;replace hO:Ow Tryz.prog M w _ ([(b2,103,[.slice (some ax) ((⟨some ay,yc,yd⟩::rc).length) xc,bl xb]),(b1,43,[i64 0,i64 0,i64 0,i64 0,.slice none 0 0]),(pb,39,(cS mo po inp p1 rj.length k1 rd wr pv pn ln.length kn pp lp.length kp))]++(T++(T1++([])))):=hO.to (by first | rfl | (simp only [TP,apd]));refine Mv [i64 10,i64 2,i64 0,i64 0,.slice p2 (([63,10]:List Int).length) c1] 43 1 71 hA hO fun fr w13 b4 hA hO=>?_
       replace hO:Ow Tryz.prog M w w13 ([(b4,43,[i64 10,i64 2,i64 0,i64 0,.slice p2 (([63,10]:List Int).length) c1]),(b2,103,[.slice (some ax) ((⟨some ay,yc,yd⟩::rc).length) xc,bl xb]),(b1,43,[i64 0,i64 0,i64 0,i64 0,.slice none 0 0]),(pb,39,(cS mo po inp p1 rj.length k1 rd wr pv pn ln.length kn pp lp.length kp))]++(T++(T1++([])))):=hO;refine Ag (mC (d:=(some 72)) hA Tryz.func95 ((Ko pb mo po inp p1 k1 rj rd wr pv pn kn ln pp kp lp ⟨p2,c1,⟨10,2,0,0,[63,10]⟩⟩ ⟨b4,0,none⟩ 1 _ (Ow.self (A:=[_,_,_]) (hO.tt)) (Yw (A:=[_,_,_]) (Q:=(fun w_=>Vw fP w_ (.slice pp lp.length kp) lp)) ((hG.mono fun _ h_=>h_.p.1).l) (hO.tt:Ow Tryz.prog M w _ (([(b4,43,[i64 10,i64 2,i64 0,i64 0,.slice p2 (([63,10]:List Int).length) c1]),(b2,103,[.slice (some ax) ((⟨some ay,yc,yd⟩::rc).length) xc,bl xb]),(b1,43,[i64 0,i64 0,i64 0,i64 0,.slice none 0 0])]++[(pb,39,cS mo po inp p1 rj.length k1 rd wr pv pn ln.length kn pp lp.length kp)])++((T++(T1++([])))++[])))) (fun w_ k_=>((S5 (A:=[_,_,_]) (hO.tt:Ow Tryz.prog M w _ (([(b4,43,[i64 10,i64 2,i64 0,i64 0,.slice p2 (([63,10]:List Int).length) c1]),(b2,103,[.slice (some ax) ((⟨some ay,yc,yd⟩::rc).length) xc,bl xb]),(b1,43,[i64 0,i64 0,i64 0,i64 0,.slice none 0 0])]++[(pb,39,cS mo po inp p1 rj.length k1 rd wr pv pn ln.length kn pp lp.length kp)])++((T++(T1++([])))++[]))) k_).b 0).vw (off:=0) (xs:=([⟨p2,c1,⟨10,2,0,0,[63,10]⟩⟩]:List PV)) (by kernel_rfl)) (by omega)).mono ?_));rintro en w14 ⟨rfl,p3,k2,T2,hT2,hW⟩;refine ⟨_,rfl,?_⟩;clear hA fr; intro fr hA;replace hO:=Ow.pass2 (A:=[_,_,_]) hO hW; clear hW
       replace hO:Ow Tryz.prog M w w14 ([(b4,43,[i64 10,i64 2,i64 0,i64 0,.slice p2 (([63,10]:List Int).length) c1]),(b2,103,[.slice (some ax) ((⟨some ay,yc,yd⟩::rc).length) xc,bl xb]),(b1,43,[i64 0,i64 0,i64 0,i64 0,.slice none 0 0]),(pb,39,(cS mo po inp p1 rj.length k1 rd wr pv pn ln.length kn p3 ((lp++([⟨p2,c1,⟨10,2,0,0,[63,10]⟩⟩]:List PV)).length) k2))]++(T++(T1++(T2++([]))))):=hO.to (by first | rfl | (simp only [TP,apd]));refine Ab (Ad (Aa (sr 3 (Ka 1 [(112,.agg #[i64 0,i64 0,i64 0,i64 0,.slice none 0 0])] hA fun fr hA=>Ms 0 [i64 0,i64 0,i64 0,i64 0,.slice none 0 0] 2 hA hO fun w15 hO=>Ka 1 [] hA fun fr hA=>Ab (Aa (wp_ret (cR (cs:=[some (⟨b1,0,none⟩,43),none]) (us:=[.agg #[i64 0,i64 0,i64 0,i64 0,.slice none 0 0],bl false]) hA [.agg #[i64 0,i64 0,i64 0,i64 0,.slice none 0 0]] ⟨(hO.ln 2 0 43 [i64 0,i64 0,i64 0,i64 0,.slice none 0 0]),trivial⟩ ?_)))))));have heq_:SV.d (⟨mo,po,inp,p1,k1,rj,rd,wr,pv,pn,kn,ln,p3,k2,lp++([⟨p2,c1,⟨10,2,0,0,[63,10]⟩⟩]:List PV)⟩:SV) = {SV.d (⟨mo,po,inp,some aj,kj,((⟨some ax,xc,(⟨some ay,yc,yd⟩::rc),xb⟩:JV)::rj),rd,wr,pv,pn,kn,ln,pp,kp,lp⟩:SV) with jobs:=rj.map JV.d,plan:=(SV.d (⟨mo,po,inp,some aj,kj,((⟨some ax,xc,(⟨some ay,yc,yd⟩::rc),xb⟩:JV)::rj),rd,wr,pv,pn,kn,ln,pp,kp,lp⟩:SV)).plan++[B4]}:=by unfold SV.d; simp only [List.map_append]; rfl
       replace hO:Ow Tryz.prog M w w15 ([(b4,43,[i64 10,i64 2,i64 0,i64 0,.slice p2 (([63,10]:List Int).length) c1]),(b2,103,[.slice (some ax) ((⟨some ay,yc,yd⟩::rc).length) xc,bl xb]),(b1,43,[i64 0,i64 0,i64 0,i64 0,.slice none 0 0]),(pb,39,(cS mo po inp p1 rj.length k1 rd wr pv pn ln.length kn p3 ((lp++([⟨p2,c1,⟨10,2,0,0,[63,10]⟩⟩]:List PV)).length) k2))]++(T++(T1++(T2++([]))))):=hO;exact ⟨(⟨mo,po,inp,p1,k1,rj,rd,wr,pv,pn,kn,ln,p3,k2,lp++([⟨p2,c1,⟨10,2,0,0,[63,10]⟩⟩]:List PV)⟩:SV),Ao 0 0 0,false,(T1++(T2++([]))),(sj_b hne hyl).trans (congrArg (fun z=>(z,none)) heq_.symm),rfl,⟨hm.i,nH hm.j,hm.k,(by show (lp++[_]).length<=_; rw [List.length_append,hp0]; show 0+1<=_; omega),hm.ck,hcap1,hT2.le⟩,rfl,(show Ow Tryz.prog M w _ ((pb,39,cS mo po inp p1 rj.length k1 rd wr pv pn ln.length kn p3 ((lp++([⟨p2,c1,⟨10,2,0,0,[63,10]⟩⟩]:List PV)).length) k2)::(T++(T1++(T2++([]))))) from ((Ow.subP (A:=[_,_,_,_]) hO (.cons _ (.cons _ (.cons _ (.cons_cons _ .slnil)))))).tt),((ok3 (T:=T++(T1++(T2++([])))) (x:=(⟨mo,po,inp,p1,k1,rj,rd,wr,pv,pn,kn,ln,p3,k2,lp++([⟨p2,c1,⟨10,2,0,0,[63,10]⟩⟩]:List PV)⟩:SV)) ((hG.mono fun w_ h_=>hvt1 w_ h_.j).l) ((hG.mono fun _ h_=>h_.k).l) (Ns (T:=T++(T1++(T2++([])))) (hT2.holds.l.r.r) ((hG.mono fun _ h_=>h_.p.2).l) (Hi (x:=⟨p2,c1,⟨10,2,0,0,[63,10]⟩⟩) (hT1.holds.l.r) H2))).tt)⟩
     rw [h2] at hA;have hnl:=Su h2;refine cF hA (Sb [(73,bl (po == ((((⟨some ay,yc,yd⟩::rc).length:Nat):Int) - 1)))] hA [i64 po,bl true] (cc (hO.l1 2 1 3 (i64 po)) (cc ((Am (by omega) (by omega)):inK .i64 ((((⟨some ay,yc,yd⟩::rc).length:Nat):Int) - 1)) c0)) fun fr hA=>?_);rcases qV (po == ((((⟨some ay,yc,yd⟩::rc).length:Nat):Int) - 1)) with h3 | h3
     · rw [h3] at hA;have h3p:=eq_of_beq h3;refine cT hA (sr 4 (Ka 3 [(83,pt pb)] hA fun fr hA=>Ms 0 [i64 4] 2 hA hO fun w16 hO=>Ab (Aa (sr 3 (Mk 84 hA hO Tryz.func28 (Rm 1 _) fun fr w17 hA hO=>Ms 0 [i64 1,i64 0,i64 0,i64 0,.slice none 0 0] 1 hA hO fun w18 hO=>Ka 1 [(3,bl true)] hA fun fr hA=>Ab (Aa (wp_ret (Ae (Ac (cR (cs:=[some (⟨b1,0,none⟩,43),none]) (us:=[.agg #[i64 1,i64 0,i64 0,i64 0,.slice none 0 0],bl true]) hA [.agg #[i64 1,i64 0,i64 0,i64 0,.slice none 0 0]] ⟨(hO.ln 1 0 43 [i64 1,i64 0,i64 0,i64 0,.slice none 0 0]),trivial⟩ ?_))))))))));replace hO:Ow Tryz.prog M w w18 ([(b2,103,[.slice (some ax) ((⟨some ay,yc,yd⟩::rc).length) xc,bl xb]),(b1,43,[i64 1,i64 0,i64 0,i64 0,.slice none 0 0]),(pb,39,(cS 4 po inp (some aj) (((⟨some ax,xc,(⟨some ay,yc,yd⟩::rc),xb⟩:JV)::rj).length) kj rd wr pv pn ln.length kn pp lp.length kp))]++(T++([]))):=hO;exact ⟨(⟨4,po,inp,some aj,kj,((⟨some ax,xc,(⟨some ay,yc,yd⟩::rc),xb⟩:JV)::rj),rd,wr,pv,pn,kn,ln,pp,kp,lp⟩:SV),Ao 1 0 0,true,([]),sj_c hne hnl (by omega),rfl,⟨hm.i,hm.j,hm.k,hm.p,hm.ck,hm.cj,hm.cp⟩,rfl,(show Ow Tryz.prog M w _ ((pb,39,cS 4 po inp (some aj) (((⟨some ax,xc,(⟨some ay,yc,yd⟩::rc),xb⟩:JV)::rj).length) kj rd wr pv pn ln.length kn pp lp.length kp)::(T++([]))) from ((Ow.subP (A:=[_,_,_]) hO (.cons _ (.cons _ (.cons_cons _ .slnil))))).tt),((ok3 (T:=T++([])) (x:=(⟨4,po,inp,some aj,kj,((⟨some ax,xc,(⟨some ay,yc,yd⟩::rc),xb⟩:JV)::rj),rd,wr,pv,pn,kn,ln,pp,kp,lp⟩:SV)) ((hG.mono fun _ h_=>h_.j).l) ((hG.mono fun _ h_=>h_.k).l) ((hG.mono fun _ h_=>h_.p).l)).tt)⟩
     rw [h3] at hA;have h3p:=ne_of_beq_false h3;refine cF hA (Sb [(85,bl (decide (po < (((⟨some ay,yc,yd⟩::rc).length:Nat):Int))))] hA [i64 po] (cc (hO.l1 2 1 3 (i64 po)) c0) fun fr hA=>?_);rcases qV (decide (po < (((⟨some ay,yc,yd⟩::rc).length:Nat):Int))) with h4 | h4
     · rw [h4] at hA;have h4p:=qX h4;exact cT hA (sr 4 (Ka 3 [(94,pt pb)] hA fun fr hA=>Ms 0 [i64 3] 2 hA hO fun w19 hO=>Ab (Aa (sr 3 (Mk 95 hA hO Tryz.func28 (Rm 11 _) fun fr w20 hA hO=>Ms 0 [i64 11,i64 0,i64 0,i64 0,.slice none 0 0] 1 hA hO fun w21 hO=>Ka 1 [(3,bl true)] hA fun fr hA=>Ab (Aa (wp_ret (Ae (Ac (cR (cs:=[some (⟨b1,0,none⟩,43),none]) (us:=[.agg #[i64 11,i64 0,i64 0,i64 0,.slice none 0 0],bl true]) hA [.agg #[i64 11,i64 0,i64 0,i64 0,.slice none 0 0]] ⟨(hO.ln 1 0 43 [i64 11,i64 0,i64 0,i64 0,.slice none 0 0]),trivial⟩ (⟨(⟨3,po,inp,some aj,kj,((⟨some ax,xc,(⟨some ay,yc,yd⟩::rc),xb⟩:JV)::rj),rd,wr,pv,pn,kn,ln,pp,kp,lp⟩:SV),Ao 11 0 0,true,([]),sj_d hne hnl (by omega) (by omega),rfl,⟨hm.i,hm.j,hm.k,hm.p,hm.ck,hm.cj,hm.cp⟩,rfl,(((Ow.subP (A:=[_,_,_]) hO (.cons _ (.cons _ (.cons_cons _ .slnil))))).tt),((ok3 (T:=T++([])) (x:=(⟨3,po,inp,some aj,kj,((⟨some ax,xc,(⟨some ay,yc,yd⟩::rc),xb⟩:JV)::rj),rd,wr,pv,pn,kn,ln,pp,kp,lp⟩:SV)) ((hG.mono fun _ h_=>h_.j).l) ((hG.mono fun _ h_=>h_.k).l) ((hG.mono fun _ h_=>h_.p).l)).tt)⟩)))))))))))
     rw [h4] at hA;have h4p:=qY h4;refine cF hA (sJ (fun fr W=>Holds 113 [] fr [(0,pt pb),(2,pt b1),(3,bl false),(96,bl ((!xb) && (decide (((ln.length:Nat):Int) > 0))))]/\Ow Tryz.prog M w W ([(b2,103,[.slice (some ax) ((⟨some ay,yc,yd⟩::rc).length) xc,bl xb]),(b1,43,[i64 0,i64 0,i64 0,i64 0,.slice none 0 0]),(pb,39,(cS mo po inp (some aj) (((⟨some ax,xc,(⟨some ay,yc,yd⟩::rc),xb⟩:JV)::rj).length) kj rd wr pv pn ln.length kn pp lp.length kp))]++(T++([])))/\True) ?_ ?_)
     · rintro fr w22 ⟨hA,hO,-⟩;rcases qV ((!xb) && (decide (((ln.length:Nat):Int) > 0))) with h5 | h5
       · rw [h5] at hA;have hyw:=of_wt h5;exact cT hA (sr 4 (Ka 3 [(110,pt pb)] hA fun fr hA=>Ms 0 [i64 5] 2 hA hO fun w23 hO=>Ab (Aa (sr 3 (Mk 111 hA hO Tryz.func28 (Rm 3 _) fun fr w24 hA hO=>Ms 0 [i64 3,i64 0,i64 0,i64 0,.slice none 0 0] 1 hA hO fun w25 hO=>Ka 1 [(3,bl true)] hA fun fr hA=>Ab (Aa (wp_ret (Ae (Ac (cR (cs:=[some (⟨b1,0,none⟩,43),none]) (us:=[.agg #[i64 3,i64 0,i64 0,i64 0,.slice none 0 0],bl true]) hA [.agg #[i64 3,i64 0,i64 0,i64 0,.slice none 0 0]] ⟨(hO.ln 1 0 43 [i64 3,i64 0,i64 0,i64 0,.slice none 0 0]),trivial⟩ (⟨(⟨5,po,inp,some aj,kj,((⟨some ax,xc,(⟨some ay,yc,yd⟩::rc),xb⟩:JV)::rj),rd,wr,pv,pn,kn,ln,pp,kp,lp⟩:SV),Ao 3 0 0,true,([]),sj_e hne hnl (by omega) (by omega) hyw,rfl,⟨hm.i,hm.j,hm.k,hm.p,hm.ck,hm.cj,hm.cp⟩,rfl,(show Ow Tryz.prog M w _ ((pb,39,cS 5 po inp (some aj) (((⟨some ax,xc,(⟨some ay,yc,yd⟩::rc),xb⟩:JV)::rj).length) kj rd wr pv pn ln.length kn pp lp.length kp)::(T++([]))) from ((Ow.subP (A:=[_,_,_]) hO (.cons _ (.cons _ (.cons_cons _ .slnil))))).tt),((ok3 (T:=T++([])) (x:=(⟨5,po,inp,some aj,kj,((⟨some ax,xc,(⟨some ay,yc,yd⟩::rc),xb⟩:JV)::rj),rd,wr,pv,pn,kn,ln,pp,kp,lp⟩:SV)) ((hG.mono fun _ h_=>h_.j).l) ((hG.mono fun _ h_=>h_.k).l) ((hG.mono fun _ h_=>h_.p).l)).tt)⟩)))))))))))
       rw [h5] at hA;have hnw:=pL h5;refine cF hA (sr 2 (Ka 1 [(15,pt pb)] hA fun fr hA=>?_));replace hO:Ow Tryz.prog M w w22 ([(b2,103,[.slice (some ax) ((⟨some ay,yc,yd⟩::rc).length) xc,bl xb]),(b1,43,[i64 0,i64 0,i64 0,i64 0,.slice none 0 0]),(pb,39,(cS mo po inp (some aj) (((⟨some ax,xc,(⟨some ay,yc,yd⟩::rc),xb⟩:JV)::rj).length) kj rd wr pv pn ln.length kn pp lp.length kp))]++(T++([]))):=hO;refine Ag (mC (d:=(some 16)) hA Tryz.func109 ((Od pb mo po inp aj kj (⟨some ax,xc,(⟨some ay,yc,yd⟩::rc),xb⟩:JV) rj rd wr pv pn kn ln pp kp lp _ (Ow.self (A:=[_,_]) (hO.tt)) hm_cj).mono ?_));rintro en w26 ⟨rfl,p4,k3,hW,hcap2,hvt2⟩;refine ⟨_,rfl,?_⟩;clear hA fr; intro fr hA;replace hO:=Ow.pass (A:=[_,_]) hO hW; clear hW
       exact Ab (Aa (rr 12 (Ka 5 [(18,pt pb),(19,pt pb),(21,pf pb 7)] hA fun fr hA=>Ms 7 [.slice none 0 0] 2 hA hO fun w27 hO=>Ka 2 [(23,pf pb 1)] hA fun fr hA=>Ms 1 [i64 0] 2 hA hO fun w28 hO=>Ka 2 [(25,pf pb 6)] hA fun fr hA=>Ms 6 [i64 (-1)] 2 hA hO fun w29 hO=>Ab (Ad (Aa (sr 3 (Ka 1 [(112,.agg #[i64 0,i64 0,i64 0,i64 0,.slice none 0 0])] hA fun fr hA=>Ms 0 [i64 0,i64 0,i64 0,i64 0,.slice none 0 0] 1 hA hO fun w30 hO=>Ka 1 [] hA fun fr hA=>Ab (Aa (wp_ret (cR (cs:=[some (⟨b1,0,none⟩,43),none]) (us:=[.agg #[i64 0,i64 0,i64 0,i64 0,.slice none 0 0],bl false]) hA [.agg #[i64 0,i64 0,i64 0,i64 0,.slice none 0 0]] ⟨(hO.ln 1 0 43 [i64 0,i64 0,i64 0,i64 0,.slice none 0 0]),trivial⟩ (⟨(⟨mo,0,inp,p4,k3,rj,rd,wr,(-1),none,0,([]:List Int),pp,kp,lp⟩:SV),Ao 0 0 0,false,([]),sj_f hne hnl (by omega) (by omega) hnw,rfl,⟨hm.i,nH hm.j,Nat.zero_le _,hm.p,Nat.zero_le _,hcap2,hm.cp⟩,rfl,(((Ow.subP (A:=[_,_,_]) hO (.cons _ (.cons _ (.cons_cons _ .slnil))))).tt),((ok3 (T:=T++([])) (x:=(⟨mo,0,inp,p4,k3,rj,rd,wr,(-1),none,0,([]:List Int),pp,kp,lp⟩:SV)) ((hG.mono fun w_ h_=>hvt2 w_ h_.j).l) (fun _ _ _ _=> .inl ⟨rfl,rfl⟩) ((hG.mono fun _ h_=>h_.p).l)).tt)⟩)))))))))))
     refine rr 12 (Kb 4 [(99,bl (!xb)),(100,bl (!xb))] hA [bl xb] (cc (hO.l1 0 1 4 (bl xb)) c0) fun fr hA=>?_);rcases qV (xb) with h6 | h6
     · rw [h6] at hA;exact Ka 8 [(96,bl false)] hA fun fr hA=>Ab (Aa (⟨(hA.sub (e':=[(0,pt pb),(2,pt b1),(3,bl false),(96,bl false)]) [0,2,3,96] (by kernel_rfl)).cast (by (rw [show ((!xb) && (decide (((ln.length:Nat):Int) > 0)))=(false) from by first | (rw [hie,rA (show ¬ (⟨some ay,yc,yd⟩::rc).length=1 by omega)]; rfl) | (rw [hie,qZ (show (⟨some ay,yc,yd⟩::rc).length=1 by omega),Bool.true_and]; simp_all; done) | (simp_all; done)]) <;> kernel_rfl),hO,trivial⟩))
     rw [h6] at hA;exact Kb 8 [(96,bl (decide (((ln.length:Nat):Int) > 0)))] hA [.slice pn ln.length kn] (cc (hO.l1 2 7 33 (.slice pn ln.length kn)) c0) fun fr hA=>Ab (Aa (⟨(hA.sub (e':=[(0,pt pb),(2,pt b1),(3,bl false),(96,bl (decide (((ln.length:Nat):Int) > 0)))]) [0,2,3,96] (by kernel_rfl)).cast (by (rw [show ((!xb) && (decide (((ln.length:Nat):Int) > 0)))=(decide (((ln.length:Nat):Int) > 0)) from by first | (rw [hie,rA (show ¬ (⟨some ay,yc,yd⟩::rc).length=1 by omega)]; rfl) | (rw [hie,qZ (show (⟨some ay,yc,yd⟩::rc).length=1 by omega),Bool.true_and]; simp_all; done) | (simp_all; done)]) <;> kernel_rfl),hO,trivial⟩))
   refine rr 11 (Kb 6 [(61,bl (po == 0)),(62,bl (po == 0))] hA [i64 po] (cc (hO.l1 2 1 3 (i64 po)) c0) fun fr hA=>?_);rcases qV (po == 0) with h7 | h7
   · rw [h7] at hA;have h7p:=eq_of_beq h7;exact Kb 2 [(62,bl true),(64,.slice (some ax) ((⟨some ay,yc,yd⟩::rc).length) xc)] hA [.slice (some ax) ((⟨some ay,yc,yd⟩::rc).length) xc] (cc (hO.l1 0 0 101 (.slice (some ax) ((⟨some ay,yc,yd⟩::rc).length) xc)) c0) fun fr hA=>Mk 65 hA hO Tryz.func107 (lZ (some ax) xc (⟨some ay,yc,yd⟩::rc) _ (show Vw fC _ (.slice (some ax) (⟨some ay,yc,yd⟩::rc).length xc) (⟨some ay,yc,yd⟩::rc)/\∀ y∈(⟨some ay,yc,yd⟩::rc),VC _ y from (Ah.at (A:=[_,_,_]) hG hO.m).j.2 _ List.mem_cons_self).1 (by omega)) fun fr w31 hA hO=>Ka 2 [(56,bl (Ch ((⟨some ay,yc,yd⟩::rc).map CV.d)))] hA fun fr hA=>Ab (Aa (⟨(hA.sub (e':=[(0,pt pb),(2,pt b1),(3,bl false),(4,pt b2),(5,i64 (((⟨some ay,yc,yd⟩::rc).length:Nat):Int)),(56,bl (Ch ((⟨some ay,yc,yd⟩::rc).map CV.d)))]) [0,2,3,4,5,56] (by kernel_rfl)).cast (by (rw [show ((po == 0) && Ch ((⟨some ay,yc,yd⟩::rc).map CV.d))=(Ch ((⟨some ay,yc,yd⟩::rc).map CV.d)) from by first | (rw [hie,rA (show ¬ (⟨some ay,yc,yd⟩::rc).length=1 by omega)]; rfl) | (rw [hie,qZ (show (⟨some ay,yc,yd⟩::rc).length=1 by omega),Bool.true_and]; simp_all; done) | (simp_all; done)]) <;> kernel_rfl),hO.tt,trivial⟩))
   rw [h7] at hA;have h7p:=ne_of_beq_false h7;exact Ka 5 [(56,bl false)] hA fun fr hA=>Ab (Aa (⟨(hA.sub (e':=[(0,pt pb),(2,pt b1),(3,bl false),(4,pt b2),(5,i64 (((⟨some ay,yc,yd⟩::rc).length:Nat):Int)),(56,bl false)]) [0,2,3,4,5,56] (by kernel_rfl)).cast (by (rw [show ((po == 0) && Ch ((⟨some ay,yc,yd⟩::rc).map CV.d))=(false) from by first | (rw [hie,rA (show ¬ (⟨some ay,yc,yd⟩::rc).length=1 by omega)]; rfl) | (rw [hie,qZ (show (⟨some ay,yc,yd⟩::rc).length=1 by omega),Bool.true_and]; simp_all; done) | (simp_all; done)]) <;> kernel_rfl),hO.tt,trivial⟩))
 refine rr 20 (Ka 3 [(28,bl ((((⟨some ay,yc,yd⟩::rc).length:Nat):Int) == 1)),(29,bl ((((⟨some ay,yc,yd⟩::rc).length:Nat):Int) == 1))] hA fun fr hA=>?_);rcases qV ((((⟨some ay,yc,yd⟩::rc).length:Nat):Int) == 1) with h8 | h8
 · rw [h8] at hA;have h8p:=eq_of_beq h8;refine Kb 10 [(37,bl (z1.toList == (⟨#[101,120,105,116]⟩:ByteArray).toList)),(38,bl (z1.toList == (⟨#[101,120,105,116]⟩:ByteArray).toList)),(39,bl (z1.toList == (⟨#[101,120,105,116]⟩:ByteArray).toList))] hA [.slice (some ax) ((⟨some ay,yc,yd⟩::rc).length) xc,.slice (some ay) yd.words.length yc,str z1] (cc (hO.l1 0 0 101 (.slice (some ax) ((⟨some ay,yc,yd⟩::rc).length) xc)) (cc (⟨by omega,by omega⟩:(0:Int)<=0/\0 < (((⟨some ay,yc,yd⟩::rc).length:Nat):Int)) (cc ((((show Vw fC _ (.slice (some ax) (⟨some ay,yc,yd⟩::rc).length xc) (⟨some ay,yc,yd⟩::rc)/\∀ y∈(⟨some ay,yc,yd⟩::rc),VC _ y from (Ah.at (A:=[_,_,_]) hG hO.m).j.2 _ List.mem_cons_self).1).ld0 Fj (rfl:((⟨some ay,yc,yd⟩::rc):List CV)[0]? = some ⟨some ay,yc,yd⟩) (by rfl)):Ld Tryz.prog w3 (ax.add 0) 30 (.slice (some ay) yd.words.length yc)) (cc (⟨by omega,by omega⟩:(0:Int)<=0/\0 < ((yd.words.length:Nat):Int)) (cc ((((show Vw fT _ (.slice (some ay) yd.words.length yc) yd.words from (show Vw fC _ (.slice (some ax) (⟨some ay,yc,yd⟩::rc).length xc) (⟨some ay,yc,yd⟩::rc)/\∀ y∈(⟨some ay,yc,yd⟩::rc),VC _ y from (Ah.at (A:=[_,_,_]) hG hO.m).j.2 _ List.mem_cons_self).2 _ List.mem_cons_self)).ldT hx1):Ld Tryz.prog w3 (ay.add 0) 9 (str z1)) c0))))) fun fr hA=>?_;rcases qV (z1.toList == (⟨#[101,120,105,116]⟩:ByteArray).toList) with h9 | h9
   · rw [h9] at hA;exact Kb 7 [(26,bl (po == 0))] hA [i64 po] (cc (hO.l1 2 1 3 (i64 po)) c0) fun fr hA=>Ab (Aa (⟨(hA.sub (e':=[(0,pt pb),(2,pt b1),(3,bl false),(4,pt b2),(5,i64 (((⟨some ay,yc,yd⟩::rc).length:Nat):Int)),(26,bl (po == 0))]) [0,2,3,4,5,26] (by kernel_rfl)).cast (by (rw [show (Bx ((⟨some ay,yc,yd⟩::rc).map CV.d) && (po == 0))=(po == 0) from by first | (rw [hie,rA (show ¬ (⟨some ay,yc,yd⟩::rc).length=1 by omega)]; rfl) | (rw [hie,qZ (show (⟨some ay,yc,yd⟩::rc).length=1 by omega),Bool.true_and]; simp_all; done) | (simp_all; done)]) <;> kernel_rfl),hO.tt,trivial⟩))
   rw [h9] at hA;exact Ka 7 [(26,bl false)] hA fun fr hA=>Ab (Aa (⟨(hA.sub (e':=[(0,pt pb),(2,pt b1),(3,bl false),(4,pt b2),(5,i64 (((⟨some ay,yc,yd⟩::rc).length:Nat):Int)),(26,bl false)]) [0,2,3,4,5,26] (by kernel_rfl)).cast (by (rw [show (Bx ((⟨some ay,yc,yd⟩::rc).map CV.d) && (po == 0))=(false) from by first | (rw [hie,rA (show ¬ (⟨some ay,yc,yd⟩::rc).length=1 by omega)]; rfl) | (rw [hie,qZ (show (⟨some ay,yc,yd⟩::rc).length=1 by omega),Bool.true_and]; simp_all; done) | (simp_all; done)]) <;> kernel_rfl),hO.tt,trivial⟩))
 rw [h8] at hA;have h8p:=ne_of_beq_false h8;exact Ka 17 [(26,bl false)] hA fun fr hA=>Ab (Aa (⟨(hA.sub (e':=[(0,pt pb),(2,pt b1),(3,bl false),(4,pt b2),(5,i64 (((⟨some ay,yc,yd⟩::rc).length:Nat):Int)),(26,bl false)]) [0,2,3,4,5,26] (by kernel_rfl)).cast (by (rw [show (Bx ((⟨some ay,yc,yd⟩::rc).map CV.d) && (po == 0))=(false) from by first | (rw [hie,rA (show ¬ (⟨some ay,yc,yd⟩::rc).length=1 by omega)]; rfl) | (rw [hie,qZ (show (⟨some ay,yc,yd⟩::rc).length=1 by omega),Bool.true_and]; simp_all; done) | (simp_all; done)]) <;> kernel_rfl),hO.tt,trivial⟩))
end Go.Proofs.YtdljjajjonfjbaaGreatDoor
