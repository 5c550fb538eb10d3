import Derived.Test.YtdljjajjonfjbaaDoorSha
import Derived.Test.YtdljjajjonfjbaaDoorSn
set_option linter.unusedVariables false
set_option linter.unusedSimpArgs false
set_option maxRecDepth 10000
namespace Go.Proofs.YtdljjajjonfjbaaDoor
open Go Go.Shelf Go.RowKit Go.Proofs Go.Proofs.Sx
def PV0:PV:=⟨none,0,callL 0 0 0⟩
theorem ldN {P:Program} {w:World} {ad:Addr} {m c:Nat} {l:List Int} (h:Vw fN w (.slice (some ad) m c) l) {i:Nat} {x:Int} (hx:l[i]? = some x) {t:TypeId} (ht:oneT P t=true:=by kernel_rfl):Ld P w (ad.add i) t (.int .i64 x):=by
 have:=h.cell encN (k:=0) hx (v:= .int .i64 x) rfl
 rw [Nat.mul_one,Nat.add_zero] at this
 exact ld_cell ht this
theorem ct_step {l:List Int} {i:Nat} {x v:Int} (h:(l.take i).contains x=false) (hx:l[i]? = some v) (hn:(x == v)=false):(l.take (i+1)).contains x=false:=by
 rw [List.take_add_one,hx,List.contains_append,h,Bool.false_or]
 show [v].contains x=false
 rw [List.contains_cons,hn]; rfl
theorem ct_yes {l:List Int} {i:Nat} {x v:Int} (hx:l[i]? = some v) (hn:(x == v)=true):l.contains x=true:=by
 rw [List.contains_iff_exists_mem_beq]
 exact ⟨v,List.mem_of_getElem? hx,hn⟩
theorem ct_end {l:List Int} {i:Nat} {x:Int} (h:(l.take i).contains x=false) (hi : ¬ i < l.length):l.contains x=false:=by rwa [List.take_of_length_le (by omega)] at h
theorem _root_.Go.Proofs.Sx.Vw.take {α:Type} {f : α->List Value} {w:World} {p:Option Addr} {m c i c':Nat} {l:List α} (h:Vw f w (.slice p m c) l) (hm:m=l.length) (hi:i<=l.length) (hp:p=none->c'=0):Vw f w (.slice p i c') (l.take i):=by
 rcases h with ⟨h,rfl⟩ | ⟨ad,cap,h,hc⟩
 · cases h
   have:i=0:=by simpa using hi
   subst this
   rw [hp rfl]; exact .inl ⟨rfl,rfl⟩
 cases h
 refine .inr ⟨ad,c',?_,fun j u hj=>hc j u ?_⟩
 · rw [List.length_take,Nat.min_eq_left hi]
 have e:l.flatMap f=(l.take i).flatMap f++(l.drop i).flatMap f:=by rw [← List.flatMap_append,List.take_append_drop]
 rw [e,List.getElem?_append_left (List.getElem?_eq_some_iff.1 hj).1]; exact hj
theorem _root_.Go.Proofs.Sx.Vw.nilcap {α:Type} {f : α->List Value} {w:World} {p:Option Addr} {m c:Nat} {l:List α} (h:Vw f w (.slice p m c) l):p=none->c=0:=by
 rcases h with ⟨h,_⟩ | ⟨ad,cap,h,_⟩
 · cases h; exact fun _=>rfl
 cases h; exact fun h=>by cases h
theorem _root_.Go.Proofs.Sx.Vw.len {α:Type} {f : α->List Value} {w:World} {p:Option Addr} {m c:Nat} {l:List α} (h:Vw f w (.slice p m c) l):m=l.length:=by
 rcases h with ⟨h,rfl⟩ | ⟨ad,cap,h,_⟩
 · cases h; rfl
 cases h; rfl
theorem idx_any (p:Option Addr) (c:Nat) (l:List Int) (x:Int) (w:World) (hv:Vw fN w (.slice p l.length c) l) (hm:l.length<=1000000) :
    Calls Tryd.prog 49 #[.slice p l.length c,i64 x] w fun e w'=>∃ r:Int,e = .returned (i64 r)/\decide (r ≥ 0)=l.contains x/\Only none' w w':=by
 refine c_enter (args:=[.slice p l.length c,i64 x]) (m:=17) (n:=19) Tryd.func49 rfl (by kernel_rfl) (by kernel_rfl) fun fr hA=>?_
 have hO:=Ow.nil Tryd.prog none' w
 refine Sa [(4,i64 0)] hA fun fr hA=>?_
 refine wp_seq ?_
 refine Sa [(7,i64 ((l.length:Nat):Int)),(8,i64 0)] hA fun fr hA=>?_
 refine wp_block ?_
 refine c_loop (fun mm fr W=>∃ (i:Nat),mm=l.length - i/\Holds 19 [] fr [(0,.slice p l.length c),(1,i64 x),(4,i64 0),(7,i64 ((l.length:Nat):Int)),(8,i64 ((i:Nat):Int))]/\Ow Tryd.prog none' w W []/\i<=l.length/\(l.take i).contains x=false/\True) ?_ ?_
 · exact ⟨_,0,rfl,hA.ss,hO.to,(Nat.zero_le _),rfl,trivial⟩
 rintro _ fr w1 ⟨i,rfl,hA,hO,hi,ho,-⟩
 refine Sa [(9,bl (decide (((i:Nat):Int) < ((l.length:Nat):Int))))] hA fun fr hA=>?_
 refine wp_seq ?_
 rcases Bool.eq_false_or_eq_true (decide (((i:Nat):Int) < ((l.length:Nat):Int))) with h1 | h1
 · rw [h1] at hA
   have h1p:=of_decide_eq_true h1
   obtain ⟨ad1,rfl⟩:=((hv.keep hO.only)).pos (by first | omega | exact Nat.zero_lt_succ _)
   obtain ⟨v1,hx1⟩ : ∃ x,(l)[i]? = some x:=⟨_,getD_at _ 0 (by first | omega | exact Nat.zero_lt_succ _)⟩
   refine cT hA ?_
   refine wp_skip ?_
   refine then_normal ?_
   refine wp_seq ?_
   refine wp_block ?_
   refine Sa [(0,.slice (some ad1) l.length c),(5,i64 ((i:Nat):Int))] hA fun fr hA=>?_
   refine Sb [(16,bl (x == v1))] hA [i64 v1] (cc (⟨by omega,by omega⟩:(0:Int)<=((i:Nat):Int)/\((i:Nat):Int) < ((l.length:Nat):Int)) (cc ((ldN ((hv.keep hO.only)) hx1):Ld Tryd.prog w1 (ad1.add i) 3 (i64 v1)) c0)) fun fr hA=>?_
   rcases Bool.eq_false_or_eq_true (x == v1) with h2 | h2
   · rw [h2] at hA
     have h2p:=eq_of_beq h2
     refine cT hA ?_
     refine Sa [(4,i64 ((i:Nat):Int))] hA fun fr hA=>?_
     refine wp_ret ?_
     refine inBlock_ret ?_
     refine then_ret ?_
     refine then_ret ?_
     refine inBlock_ret ?_
     refine then_ret ?_
     refine cv [i64 ((i:Nat):Int)] hA ?_
     have hF:=hO.only; clear hA hO
     first | exact ⟨_,rfl,(decide_eq_true (by omega)).trans (ct_yes hx1 (by assumption)).symm,hF⟩ | exact ⟨_,rfl,(decide_eq_false (by omega)).trans (ct_end ho (by omega)).symm,hF⟩
   rw [h2] at hA
   have h2p:=ne_of_beq_false h2
   refine cF hA ?_
   refine wp_skip ?_
   refine inBlock_normal ?_
   refine then_normal ?_
   refine Rc [(8,i64 (((i:Nat):Int)+1))] hA [bl true] (cc ((inK_i64 (by omega) (by omega)):inK .i64 (((i:Nat):Int)+1)) c0) fun fr hA=>?_
   refine then_normal ?_
   exact ⟨_,by omega,i+1,rfl,hA.ss,hO.to,(by omega),(ct_step ho hx1 (by assumption)),trivial⟩
 rw [h1] at hA
 have h1p:=of_decide_eq_false h1
 refine cF hA ?_
 refine wp_exit ?_
 refine then_exit ?_
 refine then_exit ?_
 refine inBlock_exit ?_
 refine then_normal ?_
 refine Sa [(4,i64 (-1))] hA fun fr hA=>?_
 refine wp_ret ?_
 refine cv [i64 (-1)] hA ?_
 have hF:=hO.only; clear hA hO
 first | exact ⟨_,rfl,(decide_eq_true (by omega)).trans (ct_yes hx1 (by assumption)).symm,hF⟩ | exact ⟨_,rfl,(decide_eq_false (by omega)).trans (ct_end ho (by omega)).symm,hF⟩
theorem contains_any0 (p:Option Addr) (c:Nat) (l:List Int) (x:Int) (w:World) (hv:Vw fN w (.slice p l.length c) l) (hm:l.length<=1000000) :
    Calls Tryd.prog 36 #[.slice p l.length c,i64 x] w fun e w'=>e = .returned (.bool (l.contains x))/\Only none' w w':=by
 refine c_enter (args:=[.slice p l.length c,i64 x]) (m:=7) (n:=9) Tryd.func36 rfl (by kernel_rfl) (by kernel_rfl) fun fr hA=>?_
 have hO:=Ow.nil Tryd.prog none' w
 refine Sa [(4,bl false)] hA fun fr hA=>?_
 refine sr 5 ?_
 refine Ka 2 [(5,.slice p l.length c),(6,i64 x)] hA fun fr hA=>?_
 refine wpOps_cons' (mC (d:=(some 7)) hA Tryd.func49 ((idx_any p c l x _ (hv.keep hO.only) hm).mono ?_))
 rintro en w1 ⟨r1,rfl,hr1,ho⟩
 refine ⟨_,rfl,?_⟩
 clear hA fr; intro fr hA
 replace hO:=hO.st ho; clear ho
 refine Ka 2 [(4,bl (decide (r1 ≥ 0)))] hA fun fr hA=>?_
 refine end_ops ?_
 refine then_normal ?_
 refine wp_ret ?_
 refine cv [bl (decide (r1 ≥ 0))] hA ?_
 have hF:=hO.only; clear hA hO
 exact ⟨congrArg (fun b=>Ending.returned (.bool b)) hr1,hF⟩
theorem contains_any (p:Option Addr) (m c:Nat) (l:List Int) (x:Int) (w:World) (hv:Vw fN w (.slice p m c) l) (hm:l.length<=1000000):Calls Tryd.prog 36 #[.slice p m c,i64 x] w fun e w'=>e = .returned (.bool (l.contains x))/\Only none' w w':=by
 have:=hv.len
 subst this
 exact contains_any0 p c l x w hv hm
theorem nCmd_nil {l:List JV} (h:((l.length:Nat):Int)=0):nCmd (l.map JV.d)=0:=by
 cases l with
 | nil=>rfl
 | cons x r=>simp only [List.length_cons] at h; omega
theorem nCmd_at {l:List JV} {xp:Option Addr} {xc:Nat} {xl:List CV} {xb:Bool} (h:l[0]? = some ⟨xp,xc,xl,xb⟩):nCmd (l.map JV.d)=xl.length:=by
  cases l with
  | nil=>simp at h
  | cons x r =>
    simp only [List.getElem?_cons_zero,Option.some.injEq] at h
    subst h
    show (xl.map CV.d).length=_
    rw [List.length_map]
theorem commands_any (mo po:Int) (inp:ByteArray) (pj:Option Addr) (kj:Nat) (lj:List JV) (rd wr pv:Int) (pn:Option Addr) (kn:Nat) (ln:List Int) (pp:Option Addr) (kp:Nat) (lp:List PV) (w:World) (hs:SV.ok (⟨mo,po,inp,pj,kj,lj,rd,wr,pv,pn,kn,ln,pp,kp,lp⟩:SV) w) :
    Calls Tryd.prog 18 #[.agg #[i64 mo,i64 po,str inp,.slice pj lj.length kj,i64 rd,i64 wr,i64 pv,.slice pn ln.length kn,.slice pp lp.length kp]] w fun e w'=>e = .returned (i64 ((nCmd (lj.map JV.d):Nat):Int))/\Only none' w w':=by
 refine c_enter (args:=[.agg #[i64 mo,i64 po,str inp,.slice pj lj.length kj,i64 rd,i64 wr,i64 pv,.slice pn ln.length kn,.slice pp lp.length kp]]) (m:=12) (n:=13) Tryd.func18 rfl (by kernel_rfl) (by kernel_rfl) fun fr hA=>?_
 have hO:=Ow.nil Tryd.prog none' w
 have hv_j:VL w (.slice pj lj.length kj) lj:=hs.j
 have hv_k:Vw fN w (.slice pn ln.length kn) ln:=hs.k
 have hv_p:PL w (.slice pp lp.length kp) lp:=hs.p
 refine sr 2 ?_
 refine Mn [i64 mo,i64 po,str inp,.slice pj lj.length kj,i64 rd,i64 wr,i64 pv,.slice pn ln.length kn,.slice pp lp.length kp] 31 1 hA hO fun fr w1 b1 hA hO=>?_
 refine Ka 1 [(2,i64 0)] hA fun fr hA=>?_
 refine end_ops ?_
 refine then_normal ?_
 refine wp_seq ?_
 refine Sb [(6,bl (((lj.length:Nat):Int) == 0))] hA [.slice pj lj.length kj] (cc (hO.l1 0 3 27 (.slice pj lj.length kj)) c0) fun fr hA=>?_
 rcases Bool.eq_false_or_eq_true (((lj.length:Nat):Int) == 0) with h1 | h1
 · rw [h1] at hA
   have h1p:=eq_of_beq h1
   refine cT hA ?_
   refine Sa [] hA fun fr hA=>?_
   refine wp_ret ?_
   refine then_ret ?_
   refine cv [i64 0] hA ?_
   have hF:=hO.only; clear hA hO
   exact ⟨congrArg (fun k:Nat=>Ending.returned (i64 ((k:Nat):Int))) (nCmd_nil (by assumption)).symm,hF⟩
 rw [h1] at hA
 have h1p:=ne_of_beq_false h1
 obtain ⟨ad1,rfl⟩:=((hv_j.keep hO.only).1).pos (by first | omega | exact Nat.zero_lt_succ _)
 obtain ⟨⟨xp1,xc1,xl1,xb1⟩,hx1⟩ : ∃ x,(lj)[0]? = some x:=⟨_,getD_at _ JV0 (by first | omega | exact Nat.zero_lt_succ _)⟩
 refine cF hA ?_
 refine wp_skip ?_
 refine then_normal ?_
 refine Sb [(2,i64 ((xl1.length:Nat):Int))] hA [.slice (some ad1) lj.length kj,.slice xp1 xl1.length xc1] (cc (hO.l1 0 3 27 (.slice (some ad1) lj.length kj)) (cc (⟨by omega,by omega⟩:(0:Int)<=0/\0 < ((lj.length:Nat):Int)) (cc ((((hv_j.keep hO.only).1).ld0 encJ hx1 (by rfl)):Ld Tryd.prog w1 (ad1.add 0) 62 (.slice xp1 xl1.length xc1)) c0))) fun fr hA=>?_
 refine wp_ret ?_
 refine cv [i64 ((xl1.length:Nat):Int)] hA ?_
 have hF:=hO.only; clear hA hO
 exact ⟨congrArg (fun k:Nat=>Ending.returned (i64 ((k:Nat):Int))) (nCmd_at hx1).symm,hF⟩
end Go.Proofs.YtdljjajjonfjbaaDoor
