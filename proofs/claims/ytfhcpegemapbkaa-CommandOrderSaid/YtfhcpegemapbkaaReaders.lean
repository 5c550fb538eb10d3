/- The layer command: the readers. -/
import Derived.Test.YtfhcpegemapbkaaParsf
set_option linter.unusedVariables false
set_option linter.unusedSimpArgs false
set_option maxRecDepth 10000
namespace Go.Proofs.Ytfhcpegemapbkaa
open Go Go.Shelf Go.RowKit Go.Proofs Go.Proofs.Sx

/-! ### Validity -/
def optB (s : ByteArray) : Bool := decide (s.size = 0) || isWordB s
def validC (d : CmdL) : Bool := d.words.all isWordB && (decide (1 ≤ d.words.length ∧ d.words.length ≤ 4) && (optB d.inp && (optB d.out && (!d.app || !decide (d.out.size = 0)))))
def validJ (x : JobL) : Bool := decide (1 ≤ x.cmds.length ∧ x.cmds.length ≤ 4) && x.cmds.all validC
def validL (l : List JobL) : Bool := l.all validJ && decide (l.length ≤ 8)
/-- Lists and strings of no great size. -/
def smC (N : Nat) (d : CmdL) : Prop := (∀ u ∈ d.words, u.size ≤ N) ∧ d.inp.size ≤ N ∧ d.out.size ≤ N ∧ d.words.length ≤ N
def smJ (N : Nat) (x : JobL) : Prop := x.cmds.length ≤ N ∧ ∀ c ∈ x.cmds, smC N c
def smL (N : Nat) (l : List JobL) : Prop := l.length ≤ N ∧ ∀ x ∈ l, smJ N x
section
variable {N : Nat}
theorem smL.at {l : List JV} {i : Nat} {x : JV} (h : smL N (l.map JV.d)) (hx : l[i]? = some x) : smJ N x.d := h.2 _ (List.mem_map.2 ⟨x, List.mem_of_getElem? hx, rfl⟩)
theorem smL.len {l : List JV} (h : smL N (l.map JV.d)) : l.length ≤ N := by have := h.1; rwa [List.length_map] at this
theorem smJ.len {x : JV} (h : smJ N x.d) : x.cmds.length ≤ N := by have := h.1; unfold JV.d at this; rwa [List.length_map] at this
theorem smJ.at {x : JV} {k : Nat} {c : CV} (h : smJ N x.d) (hx : x.cmds[k]? = some c) : smC N c.d := h.2 _ (List.mem_map.2 ⟨c, List.mem_of_getElem? hx, rfl⟩)
theorem smC.at {d : CmdL} {j : Nat} {z : ByteArray} (h : smC N d) (hz : d.words[j]? = some z) : z.size ≤ N := h.1 _ (List.mem_of_getElem? hz)
end
theorem validC_words {d : CmdL} {j : Nat} {z : ByteArray} (hz : d.words[j]? = some z) (h : isWordB z = false) : validC d = false := by unfold validC; rw [all_no hz h]; rfl
theorem validJ_all {x : JobL} : validJ x = (decide (1 ≤ x.cmds.length ∧ x.cmds.length ≤ 4) && x.cmds.all validC) := rfl
theorem optB_w {s : ByteArray} (h : ¬ s.size = 0) : optB s = isWordB s := by unfold optB; rw [decide_eq_false h]; rfl
theorem optB_e {s : ByteArray} (h : s.size = 0) : optB s = true := by unfold optB; rw [decide_eq_true h]; rfl
section
variable {xp : Option Addr} {xc : Nat} {xl : List CV} {xb : Bool}
theorem validJ_yes (h1 : 1 ≤ xl.length ∧ xl.length ≤ 4) (h : xl.all (fun y => validC y.d) = true) : validJ (JV.d ⟨xp, xc, xl, xb⟩) = true := by
 unfold validJ JV.d
 simp only [List.length_map, List.all_map]
 rw [decide_eq_true h1, Bool.true_and]; exact h
theorem validJ_bad (h : ¬ (1 ≤ xl.length ∧ xl.length ≤ 4)) : validJ (JV.d ⟨xp, xc, xl, xb⟩) = false := by
 unfold validJ JV.d
 simp only [List.length_map]
 rw [decide_eq_false h]; rfl
theorem validJ_no {k : Nat} {y : CV} (hy : xl[k]? = some y) (h : validC y.d = false) : validJ (JV.d ⟨xp, xc, xl, xb⟩) = false := by
 unfold validJ JV.d
 simp only [List.all_map]
 rw [all_no (p := validC ∘ CV.d) hy h, Bool.and_false]
theorem validL_yes {l : List JV} (h : l.all (fun x => validJ x.d) = true) : validL (l.map JV.d) = decide (l.length ≤ 8) := by
 unfold validL
 rw [List.all_map, List.length_map, show l.all (validJ ∘ JV.d) = true from h, Bool.true_and]
theorem validL_no {l : List JV} {i : Nat} {x : JV} (hx : l[i]? = some x) (h : validJ x.d = false) : validL (l.map JV.d) = false := by
 unfold validL
 rw [List.all_map, all_no (p := validJ ∘ JV.d) hx h]; rfl
end
theorem lenC {l : List CV} : (l.map CV.d).length = l.length := List.length_map _
theorem lenJ {l : List JV} : (l.map JV.d).length = l.length := List.length_map _

theorem valid_any (p : Option Addr) (c : Nat) (d : CmdL) (w : World) (hv : Vw fT w (.slice p d.words.length c) d.words) (hsm : smC 1000000 d) :
    Calls Try.prog 30 #[.agg #[.slice p d.words.length c, str d.inp, str d.out, bl d.app]] w fun e w' => e = .returned (.bool (validC d)) ∧ Only none' w w' := by
 refine c_enter (args := [.agg #[.slice p d.words.length c, str d.inp, str d.out, bl d.app]]) (m := 55) (n := 56) Try.func30 rfl (by kernel_rfl) (by kernel_rfl) fun fr hA => ?_
 have hO := Ow.nil Try.prog none' w
 obtain ⟨smw_, smi_, smo_, sml_⟩ := id hsm
 refine sR (l := [0, 1]) ?_
 refine wpOps_cons' (mN (l := [.slice p d.words.length c, str d.inp, str d.out, bl d.app]) (t := 54) (v := pt) (d := 1) hA hO ?_)
 clear hA hO fr; intro fr w1 b1 hA hO
 replace hA := hA.sb (e' := [(1, pt b1)])
 refine ck (l := [1]) (r := []) (e' := [(1, pt b1), (2, bl false)]) hA [] c0 ?_
 clear hA fr; intro fr hA
 refine end_ops ?_
 refine then_normal ?_
 refine wp_seq ?_
 refine sC (e' := [(1, pt b1), (2, bl false), (7, .slice p d.words.length c), (8, i64 ((d.words.length : Nat) : Int)), (9, i64 0)]) 4 hA [.slice p d.words.length c] (cc (hO.l1 0 0 47 (.slice p d.words.length c)) c0) ?_
 clear hA fr; intro fr hA
 refine wp_block ?_
 refine c_loop (fun mm fr W => ∃ (i : Nat), mm = d.words.length - i ∧ Holds 56 [] fr [(1, pt b1), (2, bl false), (7, .slice p d.words.length c), (8, i64 ((d.words.length : Nat) : Int)), (9, i64 ((i : Nat) : Int))] ∧ Ow Try.prog none' w W [(b1, 54, [.slice p d.words.length c, str d.inp, str d.out, bl d.app])] ∧ i ≤ d.words.length ∧ (d.words.take i).all isWordB = true ∧ True) ?_ ?_
 · exact ⟨_, 0, rfl, (hA.sub (e' := [(1, pt b1), (2, bl false), (7, .slice p d.words.length c), (8, i64 ((d.words.length : Nat) : Int)), (9, i64 0)]) [1, 2, 7, 8, 9] (by kernel_rfl)).cast (by kernel_rfl), hO.to, (Nat.zero_le _), rfl, trivial⟩
 rintro _ fr w2 ⟨i, rfl, hA, hO, hi, ho, -⟩
 refine sC (e' := [(1, pt b1), (2, bl false), (7, .slice p d.words.length c), (8, i64 ((d.words.length : Nat) : Int)), (9, i64 ((i : Nat) : Int)), (10, bl (decide (((i : Nat) : Int) < ((d.words.length : Nat) : Int))))]) 1 hA [] c0 ?_
 clear hA fr; intro fr hA
 refine wp_seq ?_
 rcases Bool.eq_false_or_eq_true (decide (((i : Nat) : Int) < ((d.words.length : Nat) : Int))) with h1 | h1
 · rw [h1] at hA
   have h1p := of_decide_eq_true h1
   obtain ⟨ad1, rfl⟩ := (hv).pos (by omega)
   obtain ⟨z1, hz1⟩ : ∃ x, d.words[i]? = some x := ⟨_, getD_at _ ⟨#[]⟩ (by omega)⟩
   refine cT hA ?_
   refine wp_skip ?_
   refine then_normal ?_
   refine wp_seq ?_
   refine wp_block ?_
   refine sC (e' := [(1, pt b1), (2, bl false), (4, str z1), (7, .slice (some ad1) d.words.length c), (8, i64 ((d.words.length : Nat) : Int)), (9, i64 ((i : Nat) : Int))]) 3 hA [str z1] (cc (⟨by omega, by omega⟩ : (0 : Int) ≤ ((i : Nat) : Int) ∧ ((i : Nat) : Int) < ((d.words.length : Nat) : Int)) (cc (((hv.keep hO.only).ldT hz1) : Ld Try.prog w2 (ad1.add i) 9 (str z1)) c0)) ?_
   clear hA fr; intro fr hA
   refine sR (l := [0, 1, 2]) ?_
   refine ck (l := [0]) (r := [1, 2]) (e' := [(1, pt b1), (2, bl false), (7, .slice (some ad1) d.words.length c), (8, i64 ((d.words.length : Nat) : Int)), (9, i64 ((i : Nat) : Int)), (13, str z1)]) hA [] c0 ?_
   clear hA fr; intro fr hA
   refine wpOps_cons' (mK (f := 21) (args := [str z1]) (d := (some 14)) (v := bl (isWordB z1)) hA hO Try.func21 (isword_any z1 _ (by first | omega | exact hsm.at (by assumption))) ?_)
   clear hA hO fr; intro fr w3 hA hO
   replace hA := hA.sb (e' := [(1, pt b1), (2, bl false), (7, .slice (some ad1) d.words.length c), (8, i64 ((d.words.length : Nat) : Int)), (9, i64 ((i : Nat) : Int)), (14, bl (isWordB z1))])
   refine ck (l := [2]) (r := []) (e' := [(1, pt b1), (2, bl false), (7, .slice (some ad1) d.words.length c), (8, i64 ((d.words.length : Nat) : Int)), (9, i64 ((i : Nat) : Int)), (15, bl (!(isWordB z1)))]) hA [] c0 ?_
   clear hA fr; intro fr hA
   refine end_ops ?_
   refine then_normal ?_
   rcases Bool.eq_false_or_eq_true (isWordB z1) with h2 | h2
   · rw [h2] at hA
     refine cF hA ?_
     refine wp_skip ?_
     refine inBlock_normal ?_
     refine then_normal ?_
     refine rC (e' := [(1, pt b1), (2, bl false), (7, .slice (some ad1) d.words.length c), (8, i64 ((d.words.length : Nat) : Int)), (9, i64 (((i : Nat) : Int) + 1))]) 2 hA [bl true] (cc ((inK_i64 (by omega) (by omega)) : inK .i64 (((i : Nat) : Int) + 1)) c0) ?_
     clear hA fr; intro fr hA
     refine then_normal ?_
     exact ⟨_, by omega, i + 1, rfl, (hA.sub (e' := [(1, pt b1), (2, bl false), (7, .slice (some ad1) d.words.length c), (8, i64 ((d.words.length : Nat) : Int)), (9, i64 (((i : Nat) : Int) + 1))]) [1, 2, 7, 8, 9] (by kernel_rfl)).cast (by kernel_rfl), hO.to, (by omega), (all_step ho (by assumption) (by assumption)), trivial⟩
   rw [h2] at hA
   refine cT hA ?_
   refine sC (e' := [(1, pt b1), (2, bl false), (7, .slice (some ad1) d.words.length c), (8, i64 ((d.words.length : Nat) : Int)), (9, i64 ((i : Nat) : Int))]) 1 hA [] c0 ?_
   clear hA fr; intro fr hA
   refine wp_ret ?_
   refine inBlock_ret ?_
   refine then_ret ?_
   refine then_ret ?_
   refine inBlock_ret ?_
   refine then_ret ?_
   refine cR (cs := [none]) (us := [bl false]) hA [] trivial ?_
   have hF := hO.only; clear hA hO
   exact ⟨congrArg (fun b => Ending.returned (.bool b)) (validC_words (by assumption) (by assumption)).symm, hF⟩
 rw [h1] at hA
 have h1p := of_decide_eq_false h1
 refine cF hA ?_
 refine wp_exit ?_
 refine then_exit ?_
 refine then_exit ?_
 refine inBlock_exit ?_
 refine then_normal ?_
 refine sC (e' := [(1, pt b1), (2, bl false), (5, i64 ((d.words.length : Nat) : Int))]) 4 hA [.slice p d.words.length c] (cc (hO.l1 0 0 47 (.slice p d.words.length c)) c0) ?_
 clear hA fr; intro fr hA
 refine sR (l := (rg 0 37)) ?_
 refine ck (l := [0, 1, 2]) (r := (rg 3 34)) (e' := [(1, pt b1), (2, bl false), (5, i64 ((d.words.length : Nat) : Int)), (21, bl (decide (((d.words.length : Nat) : Int) ≥ 1))), (22, bl (decide (((d.words.length : Nat) : Int) ≥ 1)))]) hA [] c0 ?_
 clear hA fr; intro fr hA
 rcases Bool.eq_false_or_eq_true (decide (((d.words.length : Nat) : Int) ≥ 1)) with h3 | h3
 · rw [h3] at hA
   have h3p := of_decide_eq_true h3
   refine ck (l := [3, 4, 5, 6]) (r := (rg 7 30)) (e' := [(1, pt b1), (2, bl false), (24, bl (decide (((d.words.length : Nat) : Int) ≤ 4))), (25, bl (decide (((d.words.length : Nat) : Int) ≤ 4))), (26, bl (decide (((d.words.length : Nat) : Int) ≤ 4)))]) hA [] c0 ?_
   clear hA fr; intro fr hA
   rcases Bool.eq_false_or_eq_true (decide (((d.words.length : Nat) : Int) ≤ 4)) with h4 | h4
   · rw [h4] at hA
     have h4p := of_decide_eq_true h4
     refine ck (l := [7, 8, 9, 10]) (r := (rg 11 26)) (e' := [(1, pt b1), (2, bl false), (26, bl true), (29, bl (d.inp.toList == (⟨#[]⟩ : ByteArray).toList)), (30, bl (d.inp.toList == (⟨#[]⟩ : ByteArray).toList))]) hA [str d.inp] (cc (hO.l1 0 1 9 (str d.inp)) c0) ?_
     clear hA fr; intro fr hA
     replace hA := hA.bool (f := fun z_ => [(1, pt b1), (2, bl false), (26, bl true), (29, .bool z_), (30, .bool z_)]) (str_empty d.inp : (d.inp.toList == (⟨#[]⟩ : ByteArray).toList) = (decide (d.inp.size = 0)))
     rcases Bool.eq_false_or_eq_true (decide (d.inp.size = 0)) with h5 | h5
     · rw [h5] at hA
       have h5p := of_decide_eq_true h5
       refine ck (l := (rg 11 10)) (r := (rg 21 16)) (e' := [(1, pt b1), (2, bl false), (36, bl true), (39, bl (d.out.toList == (⟨#[]⟩ : ByteArray).toList)), (40, bl (d.out.toList == (⟨#[]⟩ : ByteArray).toList))]) hA [str d.out] (cc (hO.l1 0 2 9 (str d.out)) c0) ?_
       clear hA fr; intro fr hA
       replace hA := hA.bool (f := fun z_ => [(1, pt b1), (2, bl false), (36, bl true), (39, .bool z_), (40, .bool z_)]) (str_empty d.out : (d.out.toList == (⟨#[]⟩ : ByteArray).toList) = (decide (d.out.size = 0)))
       rcases Bool.eq_false_or_eq_true (decide (d.out.size = 0)) with h6 | h6
       · rw [h6] at hA
         have h6p := of_decide_eq_true h6
         refine ck (l := (rg 21 10)) (r := (rg 31 6)) (e' := [(1, pt b1), (2, bl false), (46, bl true), (49, bl (!d.app)), (50, bl (!d.app))]) hA [bl d.app] (cc (hO.l1 0 3 4 (bl d.app)) c0) ?_
         clear hA fr; intro fr hA
         rcases Bool.eq_false_or_eq_true (d.app) with h7 | h7
         · rw [h7] at hA
           refine ck (l := (rg 31 6)) (r := []) (e' := [(2, bl (!(d.out.toList == (⟨#[]⟩ : ByteArray).toList)))]) hA [str d.out] (cc (hO.l1 0 2 9 (str d.out)) c0) ?_
           clear hA fr; intro fr hA
           replace hA := hA.bool (f := fun z_ => [(2, .bool !z_)]) (str_empty d.out : (d.out.toList == (⟨#[]⟩ : ByteArray).toList) = (decide (d.out.size = 0)))
           refine end_ops ?_
           refine then_normal ?_
           refine wp_ret ?_
           refine cR (cs := [none]) (us := [bl (!(decide (d.out.size = 0)))]) hA [] trivial ?_
           have hF := hO.only; clear hA hO
           have hall := all_end ho (by omega)
           refine ⟨congrArg (fun b => Ending.returned (.bool b)) ?_, hF⟩
           unfold validC
           rw [hall]
           first | rw [decide_eq_true (show 1 ≤ d.words.length ∧ d.words.length ≤ 4 by omega)] | (rw [decide_eq_false (show ¬ (1 ≤ d.words.length ∧ d.words.length ≤ 4) by omega)])
           try simp_all [optB]
         rw [h7] at hA
         refine ck (l := (rg 31 6)) (r := []) (e' := [(2, bl true)]) hA [] c0 ?_
         clear hA fr; intro fr hA
         refine end_ops ?_
         refine then_normal ?_
         refine wp_ret ?_
         refine cR (cs := [none]) (us := [bl true]) hA [] trivial ?_
         have hF := hO.only; clear hA hO
         have hall := all_end ho (by omega)
         refine ⟨congrArg (fun b => Ending.returned (.bool b)) ?_, hF⟩
         unfold validC
         rw [hall]
         first | rw [decide_eq_true (show 1 ≤ d.words.length ∧ d.words.length ≤ 4 by omega)] | (rw [decide_eq_false (show ¬ (1 ≤ d.words.length ∧ d.words.length ≤ 4) by omega)])
         try simp_all [optB]
       rw [h6] at hA
       have h6p := of_decide_eq_false h6
       refine ck (l := [21, 22]) (r := (rg 23 14)) (e' := [(1, pt b1), (2, bl false), (36, bl true), (40, bl false), (42, str d.out)]) hA [str d.out] (cc (hO.l1 0 2 9 (str d.out)) c0) ?_
       clear hA fr; intro fr hA
       refine wpOps_cons' (mK (f := 21) (args := [str d.out]) (d := (some 43)) (v := bl (isWordB d.out)) hA hO Try.func21 (isword_any d.out _ (by first | omega | exact hsm.at (by assumption))) ?_)
       clear hA hO fr; intro fr w4 hA hO
       replace hA := hA.sb (e' := [(1, pt b1), (2, bl false), (36, bl true), (40, bl false), (43, bl (isWordB d.out))])
       refine ck (l := [24, 25, 26]) (r := (rg 27 10)) (e' := [(1, pt b1), (2, bl false), (43, bl (isWordB d.out)), (44, bl (isWordB d.out)), (45, bl (isWordB d.out)), (46, bl (isWordB d.out))]) hA [] c0 ?_
       clear hA fr; intro fr hA
       rcases Bool.eq_false_or_eq_true (isWordB d.out) with h8 | h8
       · rw [h8] at hA
         refine ck (l := [27, 28, 29, 30]) (r := (rg 31 6)) (e' := [(1, pt b1), (2, bl false), (46, bl true), (49, bl (!d.app)), (50, bl (!d.app))]) hA [bl d.app] (cc (hO.l1 0 3 4 (bl d.app)) c0) ?_
         clear hA fr; intro fr hA
         rcases Bool.eq_false_or_eq_true (d.app) with h9 | h9
         · rw [h9] at hA
           refine ck (l := (rg 31 6)) (r := []) (e' := [(2, bl (!(d.out.toList == (⟨#[]⟩ : ByteArray).toList)))]) hA [str d.out] (cc (hO.l1 0 2 9 (str d.out)) c0) ?_
           clear hA fr; intro fr hA
           replace hA := hA.bool (f := fun z_ => [(2, .bool !z_)]) (str_empty d.out : (d.out.toList == (⟨#[]⟩ : ByteArray).toList) = (decide (d.out.size = 0)))
           refine end_ops ?_
           refine then_normal ?_
           refine wp_ret ?_
           refine cR (cs := [none]) (us := [bl (!(decide (d.out.size = 0)))]) hA [] trivial ?_
           have hF := hO.only; clear hA hO
           have hall := all_end ho (by omega)
           refine ⟨congrArg (fun b => Ending.returned (.bool b)) ?_, hF⟩
           unfold validC
           rw [hall]
           first | rw [decide_eq_true (show 1 ≤ d.words.length ∧ d.words.length ≤ 4 by omega)] | (rw [decide_eq_false (show ¬ (1 ≤ d.words.length ∧ d.words.length ≤ 4) by omega)])
           try simp_all [optB]
         rw [h9] at hA
         refine ck (l := (rg 31 6)) (r := []) (e' := [(2, bl true)]) hA [] c0 ?_
         clear hA fr; intro fr hA
         refine end_ops ?_
         refine then_normal ?_
         refine wp_ret ?_
         refine cR (cs := [none]) (us := [bl true]) hA [] trivial ?_
         have hF := hO.only; clear hA hO
         have hall := all_end ho (by omega)
         refine ⟨congrArg (fun b => Ending.returned (.bool b)) ?_, hF⟩
         unfold validC
         rw [hall]
         first | rw [decide_eq_true (show 1 ≤ d.words.length ∧ d.words.length ≤ 4 by omega)] | (rw [decide_eq_false (show ¬ (1 ≤ d.words.length ∧ d.words.length ≤ 4) by omega)])
         try simp_all [optB]
       rw [h8] at hA
       refine ck (l := (rg 27 10)) (r := []) (e' := [(2, bl false)]) hA [] c0 ?_
       clear hA fr; intro fr hA
       refine end_ops ?_
       refine then_normal ?_
       refine wp_ret ?_
       refine cR (cs := [none]) (us := [bl false]) hA [] trivial ?_
       have hF := hO.only; clear hA hO
       have hall := all_end ho (by omega)
       refine ⟨congrArg (fun b => Ending.returned (.bool b)) ?_, hF⟩
       unfold validC
       rw [hall]
       first | rw [decide_eq_true (show 1 ≤ d.words.length ∧ d.words.length ≤ 4 by omega)] | (rw [decide_eq_false (show ¬ (1 ≤ d.words.length ∧ d.words.length ≤ 4) by omega)])
       try simp_all [optB]
     rw [h5] at hA
     have h5p := of_decide_eq_false h5
     refine ck (l := [11, 12]) (r := (rg 13 24)) (e' := [(1, pt b1), (2, bl false), (26, bl true), (30, bl false), (32, str d.inp)]) hA [str d.inp] (cc (hO.l1 0 1 9 (str d.inp)) c0) ?_
     clear hA fr; intro fr hA
     refine wpOps_cons' (mK (f := 21) (args := [str d.inp]) (d := (some 33)) (v := bl (isWordB d.inp)) hA hO Try.func21 (isword_any d.inp _ (by first | omega | exact hsm.at (by assumption))) ?_)
     clear hA hO fr; intro fr w5 hA hO
     replace hA := hA.sb (e' := [(1, pt b1), (2, bl false), (26, bl true), (30, bl false), (33, bl (isWordB d.inp))])
     refine ck (l := [14, 15, 16]) (r := (rg 17 20)) (e' := [(1, pt b1), (2, bl false), (33, bl (isWordB d.inp)), (34, bl (isWordB d.inp)), (35, bl (isWordB d.inp)), (36, bl (isWordB d.inp))]) hA [] c0 ?_
     clear hA fr; intro fr hA
     rcases Bool.eq_false_or_eq_true (isWordB d.inp) with h10 | h10
     · rw [h10] at hA
       refine ck (l := [17, 18, 19, 20]) (r := (rg 21 16)) (e' := [(1, pt b1), (2, bl false), (36, bl true), (39, bl (d.out.toList == (⟨#[]⟩ : ByteArray).toList)), (40, bl (d.out.toList == (⟨#[]⟩ : ByteArray).toList))]) hA [str d.out] (cc (hO.l1 0 2 9 (str d.out)) c0) ?_
       clear hA fr; intro fr hA
       replace hA := hA.bool (f := fun z_ => [(1, pt b1), (2, bl false), (36, bl true), (39, .bool z_), (40, .bool z_)]) (str_empty d.out : (d.out.toList == (⟨#[]⟩ : ByteArray).toList) = (decide (d.out.size = 0)))
       rcases Bool.eq_false_or_eq_true (decide (d.out.size = 0)) with h11 | h11
       · rw [h11] at hA
         have h11p := of_decide_eq_true h11
         refine ck (l := (rg 21 10)) (r := (rg 31 6)) (e' := [(1, pt b1), (2, bl false), (46, bl true), (49, bl (!d.app)), (50, bl (!d.app))]) hA [bl d.app] (cc (hO.l1 0 3 4 (bl d.app)) c0) ?_
         clear hA fr; intro fr hA
         rcases Bool.eq_false_or_eq_true (d.app) with h12 | h12
         · rw [h12] at hA
           refine ck (l := (rg 31 6)) (r := []) (e' := [(2, bl (!(d.out.toList == (⟨#[]⟩ : ByteArray).toList)))]) hA [str d.out] (cc (hO.l1 0 2 9 (str d.out)) c0) ?_
           clear hA fr; intro fr hA
           replace hA := hA.bool (f := fun z_ => [(2, .bool !z_)]) (str_empty d.out : (d.out.toList == (⟨#[]⟩ : ByteArray).toList) = (decide (d.out.size = 0)))
           refine end_ops ?_
           refine then_normal ?_
           refine wp_ret ?_
           refine cR (cs := [none]) (us := [bl (!(decide (d.out.size = 0)))]) hA [] trivial ?_
           have hF := hO.only; clear hA hO
           have hall := all_end ho (by omega)
           refine ⟨congrArg (fun b => Ending.returned (.bool b)) ?_, hF⟩
           unfold validC
           rw [hall]
           first | rw [decide_eq_true (show 1 ≤ d.words.length ∧ d.words.length ≤ 4 by omega)] | (rw [decide_eq_false (show ¬ (1 ≤ d.words.length ∧ d.words.length ≤ 4) by omega)])
           try simp_all [optB]
         rw [h12] at hA
         refine ck (l := (rg 31 6)) (r := []) (e' := [(2, bl true)]) hA [] c0 ?_
         clear hA fr; intro fr hA
         refine end_ops ?_
         refine then_normal ?_
         refine wp_ret ?_
         refine cR (cs := [none]) (us := [bl true]) hA [] trivial ?_
         have hF := hO.only; clear hA hO
         have hall := all_end ho (by omega)
         refine ⟨congrArg (fun b => Ending.returned (.bool b)) ?_, hF⟩
         unfold validC
         rw [hall]
         first | rw [decide_eq_true (show 1 ≤ d.words.length ∧ d.words.length ≤ 4 by omega)] | (rw [decide_eq_false (show ¬ (1 ≤ d.words.length ∧ d.words.length ≤ 4) by omega)])
         try simp_all [optB]
       rw [h11] at hA
       have h11p := of_decide_eq_false h11
       refine ck (l := [21, 22]) (r := (rg 23 14)) (e' := [(1, pt b1), (2, bl false), (36, bl true), (40, bl false), (42, str d.out)]) hA [str d.out] (cc (hO.l1 0 2 9 (str d.out)) c0) ?_
       clear hA fr; intro fr hA
       refine wpOps_cons' (mK (f := 21) (args := [str d.out]) (d := (some 43)) (v := bl (isWordB d.out)) hA hO Try.func21 (isword_any d.out _ (by first | omega | exact hsm.at (by assumption))) ?_)
       clear hA hO fr; intro fr w6 hA hO
       replace hA := hA.sb (e' := [(1, pt b1), (2, bl false), (36, bl true), (40, bl false), (43, bl (isWordB d.out))])
       refine ck (l := [24, 25, 26]) (r := (rg 27 10)) (e' := [(1, pt b1), (2, bl false), (43, bl (isWordB d.out)), (44, bl (isWordB d.out)), (45, bl (isWordB d.out)), (46, bl (isWordB d.out))]) hA [] c0 ?_
       clear hA fr; intro fr hA
       rcases Bool.eq_false_or_eq_true (isWordB d.out) with h13 | h13
       · rw [h13] at hA
         refine ck (l := [27, 28, 29, 30]) (r := (rg 31 6)) (e' := [(1, pt b1), (2, bl false), (46, bl true), (49, bl (!d.app)), (50, bl (!d.app))]) hA [bl d.app] (cc (hO.l1 0 3 4 (bl d.app)) c0) ?_
         clear hA fr; intro fr hA
         rcases Bool.eq_false_or_eq_true (d.app) with h14 | h14
         · rw [h14] at hA
           refine ck (l := (rg 31 6)) (r := []) (e' := [(2, bl (!(d.out.toList == (⟨#[]⟩ : ByteArray).toList)))]) hA [str d.out] (cc (hO.l1 0 2 9 (str d.out)) c0) ?_
           clear hA fr; intro fr hA
           replace hA := hA.bool (f := fun z_ => [(2, .bool !z_)]) (str_empty d.out : (d.out.toList == (⟨#[]⟩ : ByteArray).toList) = (decide (d.out.size = 0)))
           refine end_ops ?_
           refine then_normal ?_
           refine wp_ret ?_
           refine cR (cs := [none]) (us := [bl (!(decide (d.out.size = 0)))]) hA [] trivial ?_
           have hF := hO.only; clear hA hO
           have hall := all_end ho (by omega)
           refine ⟨congrArg (fun b => Ending.returned (.bool b)) ?_, hF⟩
           unfold validC
           rw [hall]
           first | rw [decide_eq_true (show 1 ≤ d.words.length ∧ d.words.length ≤ 4 by omega)] | (rw [decide_eq_false (show ¬ (1 ≤ d.words.length ∧ d.words.length ≤ 4) by omega)])
           try simp_all [optB]
         rw [h14] at hA
         refine ck (l := (rg 31 6)) (r := []) (e' := [(2, bl true)]) hA [] c0 ?_
         clear hA fr; intro fr hA
         refine end_ops ?_
         refine then_normal ?_
         refine wp_ret ?_
         refine cR (cs := [none]) (us := [bl true]) hA [] trivial ?_
         have hF := hO.only; clear hA hO
         have hall := all_end ho (by omega)
         refine ⟨congrArg (fun b => Ending.returned (.bool b)) ?_, hF⟩
         unfold validC
         rw [hall]
         first | rw [decide_eq_true (show 1 ≤ d.words.length ∧ d.words.length ≤ 4 by omega)] | (rw [decide_eq_false (show ¬ (1 ≤ d.words.length ∧ d.words.length ≤ 4) by omega)])
         try simp_all [optB]
       rw [h13] at hA
       refine ck (l := (rg 27 10)) (r := []) (e' := [(2, bl false)]) hA [] c0 ?_
       clear hA fr; intro fr hA
       refine end_ops ?_
       refine then_normal ?_
       refine wp_ret ?_
       refine cR (cs := [none]) (us := [bl false]) hA [] trivial ?_
       have hF := hO.only; clear hA hO
       have hall := all_end ho (by omega)
       refine ⟨congrArg (fun b => Ending.returned (.bool b)) ?_, hF⟩
       unfold validC
       rw [hall]
       first | rw [decide_eq_true (show 1 ≤ d.words.length ∧ d.words.length ≤ 4 by omega)] | (rw [decide_eq_false (show ¬ (1 ≤ d.words.length ∧ d.words.length ≤ 4) by omega)])
       try simp_all [optB]
     rw [h10] at hA
     refine ck (l := (rg 17 20)) (r := []) (e' := [(2, bl false)]) hA [] c0 ?_
     clear hA fr; intro fr hA
     refine end_ops ?_
     refine then_normal ?_
     refine wp_ret ?_
     refine cR (cs := [none]) (us := [bl false]) hA [] trivial ?_
     have hF := hO.only; clear hA hO
     have hall := all_end ho (by omega)
     refine ⟨congrArg (fun b => Ending.returned (.bool b)) ?_, hF⟩
     unfold validC
     rw [hall]
     first | rw [decide_eq_true (show 1 ≤ d.words.length ∧ d.words.length ≤ 4 by omega)] | (rw [decide_eq_false (show ¬ (1 ≤ d.words.length ∧ d.words.length ≤ 4) by omega)])
     try simp_all [optB]
   rw [h4] at hA
   have h4p := of_decide_eq_false h4
   refine ck (l := (rg 7 30)) (r := []) (e' := [(2, bl false)]) hA [] c0 ?_
   clear hA fr; intro fr hA
   refine end_ops ?_
   refine then_normal ?_
   refine wp_ret ?_
   refine cR (cs := [none]) (us := [bl false]) hA [] trivial ?_
   have hF := hO.only; clear hA hO
   have hall := all_end ho (by omega)
   refine ⟨congrArg (fun b => Ending.returned (.bool b)) ?_, hF⟩
   unfold validC
   rw [hall]
   first | rw [decide_eq_true (show 1 ≤ d.words.length ∧ d.words.length ≤ 4 by omega)] | (rw [decide_eq_false (show ¬ (1 ≤ d.words.length ∧ d.words.length ≤ 4) by omega)])
   try simp_all [optB]
 rw [h3] at hA
 have h3p := of_decide_eq_false h3
 refine ck (l := (rg 3 34)) (r := []) (e' := [(2, bl false)]) hA [] c0 ?_
 clear hA fr; intro fr hA
 refine end_ops ?_
 refine then_normal ?_
 refine wp_ret ?_
 refine cR (cs := [none]) (us := [bl false]) hA [] trivial ?_
 have hF := hO.only; clear hA hO
 have hall := all_end ho (by omega)
 refine ⟨congrArg (fun b => Ending.returned (.bool b)) ?_, hF⟩
 unfold validC
 rw [hall]
 first | rw [decide_eq_true (show 1 ≤ d.words.length ∧ d.words.length ≤ 4 by omega)] | (rw [decide_eq_false (show ¬ (1 ≤ d.words.length ∧ d.words.length ≤ 4) by omega)])
 try simp_all [optB]

theorem Valid_any (p : Option Addr) (c : Nat) (l : List JV) (w : World) (hv : VL w (.slice p l.length c) l) (hsm : smL 1000000 (l.map JV.d)) :
    Calls Try.prog 14 #[.slice p l.length c] w fun e w' => e = .returned (.bool (validL (l.map JV.d))) ∧ Only none' w w' := by
 refine c_enter (args := [.slice p l.length c]) (m := 37) (n := 38) Try.func14 rfl (by kernel_rfl) (by kernel_rfl) fun fr hA => ?_
 have hO := Ow.nil Try.prog none' w
 have hsl := hsm.len
 refine sC (e' := [(0, .slice p l.length c), (2, bl false)]) 1 hA [] c0 ?_
 clear hA fr; intro fr hA
 refine wp_seq ?_
 refine sC (e' := [(0, .slice p l.length c), (2, bl false), (8, .slice p l.length c), (9, i64 ((l.length : Nat) : Int)), (10, i64 0)]) 3 hA [] c0 ?_
 clear hA fr; intro fr hA
 refine wp_block ?_
 refine c_loop (fun mm fr W => ∃ (i : Nat), mm = l.length - i ∧ Holds 38 [] fr [(0, .slice p l.length c), (2, bl false), (8, .slice p l.length c), (9, i64 ((l.length : Nat) : Int)), (10, i64 ((i : Nat) : Int))] ∧ Ow Try.prog none' w W [] ∧ i ≤ l.length ∧ (l.take i).all (fun x => validJ x.d) = true ∧ True) ?_ ?_
 · exact ⟨_, 0, rfl, (hA.sub (e' := [(0, .slice p l.length c), (2, bl false), (8, .slice p l.length c), (9, i64 ((l.length : Nat) : Int)), (10, i64 0)]) [0, 2, 8, 9, 10] (by kernel_rfl)).cast (by kernel_rfl), hO.to, (Nat.zero_le _), rfl, trivial⟩
 rintro _ fr w1 ⟨i, rfl, hA, hO, hi, ho, -⟩
 refine sC (e' := [(0, .slice p l.length c), (2, bl false), (8, .slice p l.length c), (9, i64 ((l.length : Nat) : Int)), (10, i64 ((i : Nat) : Int)), (11, bl (decide (((i : Nat) : Int) < ((l.length : Nat) : Int))))]) 1 hA [] c0 ?_
 clear hA fr; intro fr hA
 refine wp_seq ?_
 rcases Bool.eq_false_or_eq_true (decide (((i : Nat) : Int) < ((l.length : Nat) : Int))) with h1 | h1
 · rw [h1] at hA
   have h1p := of_decide_eq_true h1
   obtain ⟨ad1, rfl⟩ := (hv.1).pos (by omega)
   obtain ⟨⟨xp1, xc1, xl1, xb1⟩, hx1⟩ : ∃ x, l[i]? = some x := ⟨_, getD_at _ JV0 (by omega)⟩
   have hvx1 : Vw fC _ (.slice xp1 xl1.length xc1) xl1 ∧ ∀ y ∈ xl1, VC _ y := hv.2 _ (List.mem_of_getElem? hx1)
   have hsj1 : smJ _ (JV.d ⟨xp1, xc1, xl1, xb1⟩) := hsm.at hx1
   have hsjl1 : xl1.length ≤ _ := smJ.len (x := ⟨xp1, xc1, xl1, xb1⟩) hsj1
   refine cT hA ?_
   refine wp_skip ?_
   refine then_normal ?_
   refine wp_seq ?_
   refine wp_block ?_
   refine sR (l := [0, 1, 2, 3]) ?_
   refine ck (l := [0, 1]) (r := [2, 3]) (e' := [(0, .slice (some ad1) l.length c), (2, bl false), (8, .slice (some ad1) l.length c), (9, i64 ((l.length : Nat) : Int)), (10, i64 ((i : Nat) : Int)), (13, .agg #[.slice xp1 xl1.length xc1, bl xb1])]) hA [.agg #[.slice xp1 xl1.length xc1, bl xb1]] (cc (⟨by omega, by omega⟩ : (0 : Int) ≤ ((i : Nat) : Int) ∧ ((i : Nat) : Int) < ((l.length : Nat) : Int)) (cc (((hv.1.keep hO.only).ldn encJ hx1) : Ld Try.prog w1 (ad1.add (i * 2)) 53 (.agg #[.slice xp1 xl1.length xc1, bl xb1])) c0)) ?_
   clear hA fr; intro fr hA
   refine wpOps_cons' (mN (l := [.slice none 0 0, bl false]) (t := 53) (v := pt) (d := 4) hA hO ?_)
   clear hA hO fr; intro fr w2 b1 hA hO
   replace hA := hA.sb (e' := [(0, .slice (some ad1) l.length c), (2, bl false), (4, pt b1), (8, .slice (some ad1) l.length c), (9, i64 ((l.length : Nat) : Int)), (10, i64 ((i : Nat) : Int)), (13, .agg #[.slice xp1 xl1.length xc1, bl xb1])])
   refine wpOps_cons' (mS (off := 0) (vc := [.slice xp1 xl1.length xc1, bl xb1]) 0 hA hO ?_)
   clear hO; intro w3 hO
   replace hA := hA.sb (e' := [(0, .slice (some ad1) l.length c), (2, bl false), (4, pt b1), (8, .slice (some ad1) l.length c), (9, i64 ((l.length : Nat) : Int)), (10, i64 ((i : Nat) : Int))])
   refine end_ops ?_
   refine then_normal ?_
   refine wp_seq ?_
   refine sC (e' := [(0, .slice (some ad1) l.length c), (2, bl false), (4, pt b1), (5, i64 ((xl1.length : Nat) : Int)), (8, .slice (some ad1) l.length c), (9, i64 ((l.length : Nat) : Int)), (10, i64 ((i : Nat) : Int))]) 4 hA [.slice xp1 xl1.length xc1] (cc (hO.l1 0 0 51 (.slice xp1 xl1.length xc1)) c0) ?_
   clear hA fr; intro fr hA
   refine sR (l := (rg 0 6)) ?_
   refine ck (l := [0, 1, 2]) (r := [3, 4, 5]) (e' := [(0, .slice (some ad1) l.length c), (2, bl false), (4, pt b1), (5, i64 ((xl1.length : Nat) : Int)), (8, .slice (some ad1) l.length c), (9, i64 ((l.length : Nat) : Int)), (10, i64 ((i : Nat) : Int)), (18, bl (decide (((xl1.length : Nat) : Int) < 1))), (19, bl (decide (((xl1.length : Nat) : Int) < 1)))]) hA [] c0 ?_
   clear hA fr; intro fr hA
   rcases Bool.eq_false_or_eq_true (decide (((xl1.length : Nat) : Int) < 1)) with h2 | h2
   · rw [h2] at hA
     have h2p := of_decide_eq_true h2
     refine ck (l := [3, 4, 5]) (r := []) (e' := [(0, .slice (some ad1) l.length c), (2, bl false), (4, pt b1), (8, .slice (some ad1) l.length c), (9, i64 ((l.length : Nat) : Int)), (10, i64 ((i : Nat) : Int)), (22, bl true)]) hA [] c0 ?_
     clear hA fr; intro fr hA
     refine end_ops ?_
     refine then_normal ?_
     refine cT hA ?_
     refine sC (e' := [(0, .slice (some ad1) l.length c), (2, bl false), (8, .slice (some ad1) l.length c), (9, i64 ((l.length : Nat) : Int)), (10, i64 ((i : Nat) : Int))]) 1 hA [] c0 ?_
     clear hA fr; intro fr hA
     refine wp_ret ?_
     refine then_ret ?_
     refine inBlock_ret ?_
     refine then_ret ?_
     refine then_ret ?_
     refine inBlock_ret ?_
     refine then_ret ?_
     refine cR (cs := [none]) (us := [bl false]) hA [] trivial ?_
     have hF := hO.only; clear hA hO
     refine ⟨congrArg (fun b => Ending.returned (.bool b)) ?_, hF⟩
     first | (rw [validL_yes (all_end ho (by omega))]; exact decide_eq_decide.2 (by omega)) | exact (validL_no hx1 (validJ_bad (by omega))).symm | exact (validL_no hx1 (validJ_no hy1 (by assumption))).symm
   rw [h2] at hA
   have h2p := of_decide_eq_false h2
   refine ck (l := [3, 4, 5]) (r := []) (e' := [(0, .slice (some ad1) l.length c), (2, bl false), (4, pt b1), (8, .slice (some ad1) l.length c), (9, i64 ((l.length : Nat) : Int)), (10, i64 ((i : Nat) : Int)), (22, bl (decide (((xl1.length : Nat) : Int) > 4)))]) hA [] c0 ?_
   clear hA fr; intro fr hA
   refine end_ops ?_
   refine then_normal ?_
   rcases Bool.eq_false_or_eq_true (decide (((xl1.length : Nat) : Int) > 4)) with h3 | h3
   · rw [h3] at hA
     have h3p := of_decide_eq_true h3
     refine cT hA ?_
     refine sC (e' := [(0, .slice (some ad1) l.length c), (2, bl false), (8, .slice (some ad1) l.length c), (9, i64 ((l.length : Nat) : Int)), (10, i64 ((i : Nat) : Int))]) 1 hA [] c0 ?_
     clear hA fr; intro fr hA
     refine wp_ret ?_
     refine then_ret ?_
     refine inBlock_ret ?_
     refine then_ret ?_
     refine then_ret ?_
     refine inBlock_ret ?_
     refine then_ret ?_
     refine cR (cs := [none]) (us := [bl false]) hA [] trivial ?_
     have hF := hO.only; clear hA hO
     refine ⟨congrArg (fun b => Ending.returned (.bool b)) ?_, hF⟩
     first | (rw [validL_yes (all_end ho (by omega))]; exact decide_eq_decide.2 (by omega)) | exact (validL_no hx1 (validJ_bad (by omega))).symm | exact (validL_no hx1 (validJ_no hy1 (by assumption))).symm
   rw [h3] at hA
   have h3p := of_decide_eq_false h3
   refine cF hA ?_
   refine wp_skip ?_
   refine then_normal ?_
   refine sC (e' := [(0, .slice (some ad1) l.length c), (2, bl false), (8, .slice (some ad1) l.length c), (9, i64 ((l.length : Nat) : Int)), (10, i64 ((i : Nat) : Int)), (24, .slice xp1 xl1.length xc1), (25, i64 ((xl1.length : Nat) : Int)), (26, i64 0)]) 4 hA [.slice xp1 xl1.length xc1] (cc (hO.l1 0 0 51 (.slice xp1 xl1.length xc1)) c0) ?_
   clear hA fr; intro fr hA
   refine wp_block ?_
   refine c_loop (fun mm fr W => ∃ (k : Nat), mm = xl1.length - k ∧ Holds 38 [] fr [(0, .slice (some ad1) l.length c), (2, bl false), (8, .slice (some ad1) l.length c), (9, i64 ((l.length : Nat) : Int)), (10, i64 ((i : Nat) : Int)), (24, .slice xp1 xl1.length xc1), (25, i64 ((xl1.length : Nat) : Int)), (26, i64 ((k : Nat) : Int))] ∧ Ow Try.prog none' w W [(b1, 53, [.slice xp1 xl1.length xc1, bl xb1])] ∧ k ≤ xl1.length ∧ (xl1.take k).all (fun y => validC y.d) = true ∧ True) ?_ ?_
   · exact ⟨_, 0, rfl, (hA.sub (e' := [(0, .slice (some ad1) l.length c), (2, bl false), (8, .slice (some ad1) l.length c), (9, i64 ((l.length : Nat) : Int)), (10, i64 ((i : Nat) : Int)), (24, .slice xp1 xl1.length xc1), (25, i64 ((xl1.length : Nat) : Int)), (26, i64 0)]) [0, 2, 8, 9, 10, 24, 25, 26] (by kernel_rfl)).cast (by kernel_rfl), hO.to, (Nat.zero_le _), rfl, trivial⟩
   rintro _ fr w4 ⟨k, rfl, hA, hO, hk, hok, -⟩
   refine sC (e' := [(0, .slice (some ad1) l.length c), (2, bl false), (8, .slice (some ad1) l.length c), (9, i64 ((l.length : Nat) : Int)), (10, i64 ((i : Nat) : Int)), (24, .slice xp1 xl1.length xc1), (25, i64 ((xl1.length : Nat) : Int)), (26, i64 ((k : Nat) : Int)), (27, bl (decide (((k : Nat) : Int) < ((xl1.length : Nat) : Int))))]) 1 hA [] c0 ?_
   clear hA fr; intro fr hA
   refine wp_seq ?_
   rcases Bool.eq_false_or_eq_true (decide (((k : Nat) : Int) < ((xl1.length : Nat) : Int))) with h4 | h4
   · rw [h4] at hA
     have h4p := of_decide_eq_true h4
     obtain ⟨ad2, rfl⟩ := (hvx1.1).pos (by omega)
     obtain ⟨⟨yp1, yc1, yd1⟩, hy1⟩ : ∃ x, xl1[k]? = some x := ⟨_, getD_at _ CV0 (by omega)⟩
     have hvy1 : Vw fT _ (.slice yp1 yd1.words.length yc1) yd1.words := hvx1.2 _ (List.mem_of_getElem? hy1)
     have hsc1 : smC _ yd1 := smJ.at (x := ⟨_, _, xl1, _⟩) hsj1 hy1
     obtain ⟨-, smi1, smo1, sml1⟩ := id hsc1
     refine cT hA ?_
     refine wp_skip ?_
     refine then_normal ?_
     refine wp_seq ?_
     refine wp_block ?_
     refine sR (l := [0, 1, 2, 3]) ?_
     refine ck (l := [0, 1]) (r := [2, 3]) (e' := [(0, .slice (some ad1) l.length c), (2, bl false), (8, .slice (some ad1) l.length c), (9, i64 ((l.length : Nat) : Int)), (10, i64 ((i : Nat) : Int)), (24, .slice (some ad2) xl1.length xc1), (25, i64 ((xl1.length : Nat) : Int)), (26, i64 ((k : Nat) : Int)), (29, .agg #[.slice yp1 yd1.words.length yc1, str yd1.inp, str yd1.out, bl yd1.app])]) hA [.agg #[.slice yp1 yd1.words.length yc1, str yd1.inp, str yd1.out, bl yd1.app]] (cc (⟨by omega, by omega⟩ : (0 : Int) ≤ ((k : Nat) : Int) ∧ ((k : Nat) : Int) < ((xl1.length : Nat) : Int)) (cc (((hvx1.1.keep hO.only).ldn encC hy1) : Ld Try.prog w4 (ad2.add (k * 4)) 54 (.agg #[.slice yp1 yd1.words.length yc1, str yd1.inp, str yd1.out, bl yd1.app])) c0)) ?_
     clear hA fr; intro fr hA
     refine wpOps_cons' (mN (l := [.slice none 0 0, str (⟨#[]⟩), str (⟨#[]⟩), bl false]) (t := 54) (v := pt) (d := 7) hA hO ?_)
     clear hA hO fr; intro fr w5 b2 hA hO
     replace hA := hA.sb (e' := [(0, .slice (some ad1) l.length c), (2, bl false), (7, pt b2), (8, .slice (some ad1) l.length c), (9, i64 ((l.length : Nat) : Int)), (10, i64 ((i : Nat) : Int)), (24, .slice (some ad2) xl1.length xc1), (25, i64 ((xl1.length : Nat) : Int)), (26, i64 ((k : Nat) : Int)), (29, .agg #[.slice yp1 yd1.words.length yc1, str yd1.inp, str yd1.out, bl yd1.app])])
     refine wpOps_cons' (mS (off := 0) (vc := [.slice yp1 yd1.words.length yc1, str yd1.inp, str yd1.out, bl yd1.app]) 0 hA hO ?_)
     clear hO; intro w6 hO
     replace hA := hA.sb (e' := [(0, .slice (some ad1) l.length c), (2, bl false), (7, pt b2), (8, .slice (some ad1) l.length c), (9, i64 ((l.length : Nat) : Int)), (10, i64 ((i : Nat) : Int)), (24, .slice (some ad2) xl1.length xc1), (25, i64 ((xl1.length : Nat) : Int)), (26, i64 ((k : Nat) : Int))])
     refine end_ops ?_
     refine then_normal ?_
     refine sR (l := [0, 1, 2]) ?_
     refine ck (l := [0]) (r := [1, 2]) (e' := [(0, .slice (some ad1) l.length c), (2, bl false), (8, .slice (some ad1) l.length c), (9, i64 ((l.length : Nat) : Int)), (10, i64 ((i : Nat) : Int)), (24, .slice (some ad2) xl1.length xc1), (25, i64 ((xl1.length : Nat) : Int)), (26, i64 ((k : Nat) : Int)), (30, .agg #[.slice yp1 yd1.words.length yc1, str yd1.inp, str yd1.out, bl yd1.app])]) hA [.agg #[.slice yp1 yd1.words.length yc1, str yd1.inp, str yd1.out, bl yd1.app]] (cc (hO.ln 0 0 54 [.slice yp1 yd1.words.length yc1, str yd1.inp, str yd1.out, bl yd1.app]) c0) ?_
     clear hA fr; intro fr hA
     refine wpOps_cons' (mK (f := 30) (args := [.agg #[.slice yp1 yd1.words.length yc1, str yd1.inp, str yd1.out, bl yd1.app]]) (d := (some 31)) (v := bl (validC yd1)) hA hO Try.func30 (valid_any yp1 yc1 yd1 _ (hvy1.keep hO.only) hsc1) ?_)
     clear hA hO fr; intro fr w7 hA hO
     replace hA := hA.sb (e' := [(0, .slice (some ad1) l.length c), (2, bl false), (8, .slice (some ad1) l.length c), (9, i64 ((l.length : Nat) : Int)), (10, i64 ((i : Nat) : Int)), (24, .slice (some ad2) xl1.length xc1), (25, i64 ((xl1.length : Nat) : Int)), (26, i64 ((k : Nat) : Int)), (31, bl (validC yd1))])
     refine ck (l := [2]) (r := []) (e' := [(0, .slice (some ad1) l.length c), (2, bl false), (8, .slice (some ad1) l.length c), (9, i64 ((l.length : Nat) : Int)), (10, i64 ((i : Nat) : Int)), (24, .slice (some ad2) xl1.length xc1), (25, i64 ((xl1.length : Nat) : Int)), (26, i64 ((k : Nat) : Int)), (32, bl (!(validC yd1)))]) hA [] c0 ?_
     clear hA fr; intro fr hA
     refine end_ops ?_
     refine then_normal ?_
     rcases Bool.eq_false_or_eq_true (validC yd1) with h5 | h5
     · rw [h5] at hA
       refine cF hA ?_
       refine wp_skip ?_
       refine inBlock_normal ?_
       refine then_normal ?_
       refine rC (e' := [(0, .slice (some ad1) l.length c), (2, bl false), (8, .slice (some ad1) l.length c), (9, i64 ((l.length : Nat) : Int)), (10, i64 ((i : Nat) : Int)), (24, .slice (some ad2) xl1.length xc1), (25, i64 ((xl1.length : Nat) : Int)), (26, i64 (((k : Nat) : Int) + 1))]) 2 hA [bl true] (cc ((inK_i64 (by omega) (by omega)) : inK .i64 (((k : Nat) : Int) + 1)) c0) ?_
       clear hA fr; intro fr hA
       refine then_normal ?_
       exact ⟨_, by omega, k + 1, rfl, (hA.sub (e' := [(0, .slice (some ad1) l.length c), (2, bl false), (8, .slice (some ad1) l.length c), (9, i64 ((l.length : Nat) : Int)), (10, i64 ((i : Nat) : Int)), (24, .slice (some ad2) xl1.length xc1), (25, i64 ((xl1.length : Nat) : Int)), (26, i64 (((k : Nat) : Int) + 1))]) [0, 2, 8, 9, 10, 24, 25, 26] (by kernel_rfl)).cast (by kernel_rfl), (hO.sub [1]), (by omega), (all_step hok (by assumption) (by assumption)), trivial⟩
     rw [h5] at hA
     refine cT hA ?_
     refine sC (e' := [(0, .slice (some ad1) l.length c), (2, bl false), (8, .slice (some ad1) l.length c), (9, i64 ((l.length : Nat) : Int)), (10, i64 ((i : Nat) : Int)), (24, .slice (some ad2) xl1.length xc1), (25, i64 ((xl1.length : Nat) : Int)), (26, i64 ((k : Nat) : Int))]) 1 hA [] c0 ?_
     clear hA fr; intro fr hA
     refine wp_ret ?_
     refine inBlock_ret ?_
     refine then_ret ?_
     refine then_ret ?_
     refine inBlock_ret ?_
     refine inBlock_ret ?_
     refine then_ret ?_
     refine then_ret ?_
     refine inBlock_ret ?_
     refine then_ret ?_
     refine cR (cs := [none]) (us := [bl false]) hA [] trivial ?_
     have hF := hO.only; clear hA hO
     refine ⟨congrArg (fun b => Ending.returned (.bool b)) ?_, hF⟩
     first | (rw [validL_yes (all_end ho (by omega))]; exact decide_eq_decide.2 (by omega)) | exact (validL_no hx1 (validJ_bad (by omega))).symm | exact (validL_no hx1 (validJ_no hy1 (by assumption))).symm
   rw [h4] at hA
   have h4p := of_decide_eq_false h4
   refine cF hA ?_
   refine wp_exit ?_
   refine then_exit ?_
   refine then_exit ?_
   refine inBlock_exit ?_
   refine inBlock_normal ?_
   refine then_normal ?_
   refine rC (e' := [(0, .slice (some ad1) l.length c), (2, bl false), (8, .slice (some ad1) l.length c), (9, i64 ((l.length : Nat) : Int)), (10, i64 (((i : Nat) : Int) + 1))]) 2 hA [bl true] (cc ((inK_i64 (by omega) (by omega)) : inK .i64 (((i : Nat) : Int) + 1)) c0) ?_
   clear hA fr; intro fr hA
   refine then_normal ?_
   exact ⟨_, by omega, i + 1, rfl, (hA.sub (e' := [(0, .slice (some ad1) l.length c), (2, bl false), (8, .slice (some ad1) l.length c), (9, i64 ((l.length : Nat) : Int)), (10, i64 (((i : Nat) : Int) + 1))]) [0, 2, 8, 9, 10] (by kernel_rfl)).cast (by kernel_rfl), (hO.sub []), (by omega), (all_step ho hx1 (validJ_yes (by omega) (all_end hok (by omega)))), trivial⟩
 rw [h1] at hA
 have h1p := of_decide_eq_false h1
 refine cF hA ?_
 refine wp_exit ?_
 refine then_exit ?_
 refine then_exit ?_
 refine inBlock_exit ?_
 refine then_normal ?_
 refine sC (e' := [(2, bl (decide (((l.length : Nat) : Int) ≤ 8)))]) 4 hA [] c0 ?_
 clear hA fr; intro fr hA
 refine wp_ret ?_
 refine cR (cs := [none]) (us := [bl (decide (((l.length : Nat) : Int) ≤ 8))]) hA [] trivial ?_
 have hF := hO.only; clear hA hO
 refine ⟨congrArg (fun b => Ending.returned (.bool b)) ?_, hF⟩
 first | (rw [validL_yes (all_end ho (by omega))]; exact decide_eq_decide.2 (by omega)) | exact (validL_no hx1 (validJ_bad (by omega))).symm | exact (validL_no hx1 (validJ_no hy1 (by assumption))).symm

theorem optional_any (s : ByteArray) (w : World) (hs : s.size ≤ 1000000) :
    Calls Try.prog 34 #[str s] w fun e w' => e = .returned (.bool (optB s)) ∧ Only none' w w' := by
 refine c_enter (args := [str s]) (m := 8) (n := 9) Try.func34 rfl (by kernel_rfl) (by kernel_rfl) fun fr hA => ?_
 have hO := Ow.nil Try.prog none' w
 refine sC (e' := [(0, str s), (2, bl false)]) 1 hA [] c0 ?_
 clear hA fr; intro fr hA
 refine sR (l := (rg 0 7)) ?_
 refine ck (l := [0, 1, 2]) (r := [3, 4, 5, 6]) (e' := [(0, str s), (2, bl false), (4, bl (s.toList == (⟨#[]⟩ : ByteArray).toList)), (5, bl (s.toList == (⟨#[]⟩ : ByteArray).toList))]) hA [] c0 ?_
 clear hA fr; intro fr hA
 replace hA := hA.bool (f := fun z_ => [(0, str s), (2, bl false), (4, .bool z_), (5, .bool z_)]) (str_empty s : (s.toList == (⟨#[]⟩ : ByteArray).toList) = (decide (s.size = 0)))
 rcases Bool.eq_false_or_eq_true (decide (s.size = 0)) with h1 | h1
 · rw [h1] at hA
   have h1p := of_decide_eq_true h1
   refine ck (l := [3, 4, 5, 6]) (r := []) (e' := [(2, bl true)]) hA [] c0 ?_
   clear hA fr; intro fr hA
   refine end_ops ?_
   refine then_normal ?_
   refine wp_ret ?_
   refine cR (cs := [none]) (us := [bl true]) hA [] trivial ?_
   have hF := hO.only; clear hA hO
   exact ⟨congrArg (fun b => Ending.returned (.bool b)) (by first | exact (optB_e (by assumption)).symm | exact (optB_w (by assumption)).symm), hF⟩
 rw [h1] at hA
 have h1p := of_decide_eq_false h1
 refine ck (l := [3]) (r := [4, 5, 6]) (e' := [(2, bl false), (5, bl false), (6, str s)]) hA [] c0 ?_
 clear hA fr; intro fr hA
 refine wpOps_cons' (mK (f := 22) (args := [str s]) (d := (some 7)) (v := bl (isWordB s)) hA hO Try.func22 (risword_any s _ (by first | omega | exact hsm.at (by assumption))) ?_)
 clear hA hO fr; intro fr w1 hA hO
 replace hA := hA.sb (e' := [(2, bl false), (5, bl false), (7, bl (isWordB s))])
 refine ck (l := [5, 6]) (r := []) (e' := [(2, bl (isWordB s))]) hA [] c0 ?_
 clear hA fr; intro fr hA
 refine end_ops ?_
 refine then_normal ?_
 refine wp_ret ?_
 refine cR (cs := [none]) (us := [bl (isWordB s)]) hA [] trivial ?_
 have hF := hO.only; clear hA hO
 exact ⟨congrArg (fun b => Ending.returned (.bool b)) (by first | exact (optB_e (by assumption)).symm | exact (optB_w (by assumption)).symm), hF⟩

end Go.Proofs.Ytfhcpegemapbkaa
