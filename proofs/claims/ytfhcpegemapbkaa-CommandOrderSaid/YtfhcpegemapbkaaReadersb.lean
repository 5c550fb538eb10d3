/- The layer command: the reference: Valid, Few, Equal. -/
import Derived.Test.YtfhcpegemapbkaaReaders
set_option linter.unusedVariables false
set_option linter.unusedSimpArgs false
set_option maxRecDepth 10000
namespace Go.Proofs.Ytfhcpegemapbkaa
open Go Go.Shelf Go.RowKit Go.Proofs Go.Proofs.Sx

section
variable {d : CmdL}
theorem validC_len (h : ¬ (1 ≤ d.words.length ∧ d.words.length ≤ 4)) : validC d = false := by unfold validC; rw [decide_eq_false h, Bool.false_and, Bool.and_false]
theorem validC_inp (h : optB d.inp = false) : validC d = false := by unfold validC; rw [h]; simp
theorem validC_out (h : optB d.out = false) : validC d = false := by unfold validC; rw [h]; simp
theorem validC_app (h : d.app = true) (h2 : d.out.size = 0) : validC d = false := by unfold validC; rw [h, h2]; simp
theorem validC_yes (h1 : 1 ≤ d.words.length ∧ d.words.length ≤ 4) (hi : optB d.inp = true) (ho : optB d.out = true) (ha : d.app = true → ¬ d.out.size = 0) (hw : d.words.all isWordB = true) : validC d = true := by
 unfold validC
 rw [hw, decide_eq_true h1, hi, ho]
 cases hap : d.app with
 | false => rfl
 | true => rw [decide_eq_false (ha hap)]; rfl
/-! ### Few -/
def fewC (d : CmdL) : Bool := decide (d.words.length ≤ 8) && (decide (d.inp.size + d.out.size ≤ 300) && d.words.all (fun u => decide (u.size ≤ 100)))
def fewJ (x : JobL) : Bool := decide (x.cmds.length ≤ 8) && x.cmds.all fewC
def fewL (l : List JobL) : Bool := l.all fewJ && decide (l.length ≤ 12)
theorem fewC_no (h : ¬ (d.words.length ≤ 8 ∧ d.inp.size + d.out.size ≤ 300)) : fewC d = false := by
 unfold fewC
 by_cases h1 : d.words.length ≤ 8
 · rw [decide_eq_false (show ¬ (d.inp.size + d.out.size ≤ 300) from fun h2 => h ⟨h1, h2⟩)]; simp
 rw [decide_eq_false h1]; rfl
theorem fewC_word {j : Nat} {z : ByteArray} (hz : d.words[j]? = some z) (h : ¬ z.size ≤ 100) : fewC d = false := by unfold fewC; rw [all_no hz (decide_eq_false h)]; simp
theorem fewC_yes (h : d.words.length ≤ 8 ∧ d.inp.size + d.out.size ≤ 300) (hw : d.words.all (fun u => decide (u.size ≤ 100)) = true) : fewC d = true := by unfold fewC; rw [hw, decide_eq_true h.1, decide_eq_true h.2]; rfl
variable {xp : Option Addr} {xc : Nat} {xl : List CV} {xb : Bool}
theorem fewJ_yes (h1 : xl.length ≤ 8) (h : xl.all (fun y => fewC y.d) = true) : fewJ (JV.d ⟨xp, xc, xl, xb⟩) = true := by
 unfold fewJ JV.d
 simp only [List.length_map, List.all_map]
 rw [decide_eq_true h1, Bool.true_and]; exact h
theorem fewJ_bad (h : ¬ xl.length ≤ 8) : fewJ (JV.d ⟨xp, xc, xl, xb⟩) = false := by
 unfold fewJ JV.d
 simp only [List.length_map]
 rw [decide_eq_false h]; rfl
theorem fewJ_no {k : Nat} {y : CV} (hy : xl[k]? = some y) (h : fewC y.d = false) : fewJ (JV.d ⟨xp, xc, xl, xb⟩) = false := by
 unfold fewJ JV.d
 simp only [List.all_map]
 rw [all_no (p := fewC ∘ CV.d) hy h, Bool.and_false]
theorem fewL_yes {l : List JV} (h : l.all (fun x => fewJ x.d) = true) : fewL (l.map JV.d) = decide (l.length ≤ 12) := by
 unfold fewL
 rw [List.all_map, List.length_map, show l.all (fewJ ∘ JV.d) = true from h, Bool.true_and]
theorem fewL_no {l : List JV} {i : Nat} {x : JV} (hx : l[i]? = some x) (h : fewJ x.d = false) : fewL (l.map JV.d) = false := by
 unfold fewL
 rw [List.all_map, all_no (p := fewJ ∘ JV.d) hx h]; rfl
end
theorem fewL_small {l : List JobL} (h : fewL l = true) : smL 1000000 l := by
 unfold fewL at h
 rw [Bool.and_eq_true, List.all_eq_true] at h
 refine ⟨by have := of_decide_eq_true h.2; omega, fun x hx => ?_⟩
 have h1 := h.1 x hx
 unfold fewJ at h1
 rw [Bool.and_eq_true, List.all_eq_true] at h1
 refine ⟨by have := of_decide_eq_true h1.1; omega, fun c hc => ?_⟩
 have h2 := h1.2 c hc
 unfold fewC at h2
 rw [Bool.and_eq_true, Bool.and_eq_true, List.all_eq_true] at h2
 have a := of_decide_eq_true h2.1
 have b := of_decide_eq_true h2.2.1
 refine ⟨fun u hu => ?_, by omega, by omega, by omega⟩
 have := of_decide_eq_true (h2.2.2 u hu)
 omega
/-! ### Equality -/
def strE (u v : ByteArray) : Bool := u.toList == v.toList
theorem strE_iff (u v : ByteArray) : strE u v = true ↔ u = v := by
 unfold strE
 exact ⟨fun h => toList_inj' (eq_of_beq h), fun h => by rw [h]; exact beq_self_eq_true _⟩
def eqA {α : Type} (f : α → α → Bool) : List α → List α → Bool
  | [], [] => true
  | x :: r, y :: s => f x y && eqA f r s
  | _, _ => false
def eqC (c d : CmdL) : Bool := strE c.inp d.inp && (strE c.out d.out && ((c.app == d.app) && eqA strE c.words d.words))
def eqJ (x y : JobL) : Bool := (x.bg == y.bg) && eqA eqC x.cmds y.cmds
def eqL (a b : List JobL) : Bool := eqA eqJ a b
section
variable {α β : Type} {f : α → α → Bool}
theorem eqA_len : ∀ {a b : List α}, a.length ≠ b.length → eqA f a b = false
  | [], [], h => absurd rfl h
  | [], _ :: _, _ => rfl
  | _ :: _, [], _ => rfl
  | x :: r, y :: s, h => by simp only [eqA]; rw [eqA_len (a := r) (b := s) (by simpa using h), Bool.and_false]
theorem eqA_no {i : Nat} {x y : α} (h : f x y = false) : ∀ {i : Nat} {a b : List α}, a[i]? = some x → b[i]? = some y → eqA f a b = false
  | i, [], _, hx, _ => by simp at hx
  | i, _ :: _, [], _, hy => by simp at hy
  | 0, x' :: r, y' :: s, hx, hy => by simp at hx hy; subst hx; subst hy; simp only [eqA]; rw [h, Bool.false_and]
  | i + 1, x' :: r, y' :: s, hx, hy => by
    simp only [List.getElem?_cons_succ] at hx hy
    simp only [eqA]; rw [eqA_no (i := i) h hx hy, Bool.and_false]
theorem eqA_step {x y : α} (h : f x y = true) : ∀ {i : Nat} {a b : List α}, a[i]? = some x → b[i]? = some y → eqA f (a.take i) (b.take i) = true → eqA f (a.take (i + 1)) (b.take (i + 1)) = true
  | i, [], _, hx, _, _ => by simp at hx
  | i, _ :: _, [], _, hy, _ => by simp at hy
  | 0, x' :: r, y' :: s, hx, hy, _ => by simp at hx hy; subst hx; subst hy; simp [eqA, h]
  | i + 1, x' :: r, y' :: s, hx, hy, ho => by
    simp only [List.getElem?_cons_succ] at hx hy
    simp only [List.take_succ_cons, eqA, Bool.and_eq_true] at ho ⊢
    exact ⟨ho.1, eqA_step h hx hy ho.2⟩
theorem eqA_end {a b : List α} {i : Nat} (ho : eqA f (a.take i) (b.take i) = true) (hi : ¬ i < a.length) (hl : a.length = b.length) : eqA f a b = true := by
 rwa [List.take_of_length_le (by omega), List.take_of_length_le (by omega)] at ho
theorem eqA_map {g : β → β → Bool} {m : α → β} : ∀ (a b : List α), eqA g (a.map m) (b.map m) = eqA (fun x y => g (m x) (m y)) a b
  | [], [] => rfl
  | [], _ :: _ => rfl
  | _ :: _, [] => rfl
  | x :: r, y :: s => by simp only [List.map_cons, eqA]; rw [eqA_map r s]
theorem eqA_iff (hf : ∀ x y, f x y = true ↔ x = y) : ∀ (a b : List α), eqA f a b = true ↔ a = b
  | [], [] => by simp [eqA]
  | [], _ :: _ => by simp [eqA]
  | _ :: _, [] => by simp [eqA]
  | x :: r, y :: s => by simp only [eqA, Bool.and_eq_true, hf, eqA_iff hf r s, List.cons.injEq]
end
theorem eqC_iff (c d : CmdL) : eqC c d = true ↔ c = d := by
 obtain ⟨a1, a2, a3, a4⟩ := c
 obtain ⟨b1, b2, b3, b4⟩ := d
 simp only [eqC, Bool.and_eq_true, strE_iff, eqA_iff strE_iff, beq_iff_eq, CmdL.mk.injEq]
 constructor
 · rintro ⟨h1, h2, h3, h4⟩; exact ⟨h4, h1, h2, h3⟩
 rintro ⟨h4, h1, h2, h3⟩; exact ⟨h1, h2, h3, h4⟩
theorem eqJ_iff (x y : JobL) : eqJ x y = true ↔ x = y := by
 obtain ⟨a1, a2⟩ := x
 obtain ⟨b1, b2⟩ := y
 simp only [eqJ, Bool.and_eq_true, eqA_iff eqC_iff, beq_iff_eq, JobL.mk.injEq]
 constructor
 · rintro ⟨h1, h2⟩; exact ⟨h2, h1⟩
 rintro ⟨h1, h2⟩; exact ⟨h2, h1⟩
theorem eqL_iff (a b : List JobL) : eqL a b = true ↔ a = b := eqA_iff eqJ_iff a b
section
variable {c d : CmdL}
theorem eqC_inp (h : (c.inp.toList == d.inp.toList) = false) : eqC c d = false := by unfold eqC strE; rw [h]; rfl
theorem eqC_out (h : (c.out.toList == d.out.toList) = false) : eqC c d = false := by unfold eqC; rw [show strE c.out d.out = false from h]; simp
theorem eqC_app (h : (c.app == d.app) = false) : eqC c d = false := by unfold eqC; rw [h]; simp
theorem eqC_len (h : c.words.length ≠ d.words.length) : eqC c d = false := by unfold eqC; rw [eqA_len h]; simp
theorem eqC_word {j : Nat} {u v : ByteArray} (hu : c.words[j]? = some u) (hv : d.words[j]? = some v) (h : (u.toList == v.toList) = false) : eqC c d = false := by unfold eqC; rw [eqA_no (i := j) (f := strE) h hu hv]; simp
theorem eqC_yes (h1 : (c.inp.toList == d.inp.toList) = true) (h2 : (c.out.toList == d.out.toList) = true) (h3 : (c.app == d.app) = true) (h4 : eqA strE c.words d.words = true) : eqC c d = true := by unfold eqC strE; rw [h1, h2, h3, show eqA (fun u v => u.toList == v.toList) c.words d.words = true from h4]; rfl
variable {xp yp : Option Addr} {xc yc : Nat} {xl yl : List CV} {xb yb : Bool}
theorem eqJ_bg (h : (xb == yb) = false) : eqJ (JV.d ⟨xp, xc, xl, xb⟩) (JV.d ⟨yp, yc, yl, yb⟩) = false := by unfold eqJ; rw [show ((JV.d ⟨xp, xc, xl, xb⟩).bg == (JV.d ⟨yp, yc, yl, yb⟩).bg) = false from h]; rfl
theorem eqJ_len (h : xl.length ≠ yl.length) : eqJ (JV.d ⟨xp, xc, xl, xb⟩) (JV.d ⟨yp, yc, yl, yb⟩) = false := by
 unfold eqJ
 rw [eqA_len (by show (xl.map CV.d).length ≠ (yl.map CV.d).length; simpa using h), Bool.and_false]
theorem eqJ_no {k : Nat} {x y : CV} (hx : xl[k]? = some x) (hy : yl[k]? = some y) (h : eqC x.d y.d = false) : eqJ (JV.d ⟨xp, xc, xl, xb⟩) (JV.d ⟨yp, yc, yl, yb⟩) = false := by
 unfold eqJ JV.d
 simp only [eqA_map]
 rw [eqA_no (i := k) (f := fun x y => eqC x.d y.d) h hx hy, Bool.and_false]
theorem eqJ_yes (h : (xb == yb) = true) (h2 : eqA (fun x y => eqC x.d y.d) xl yl = true) : eqJ (JV.d ⟨xp, xc, xl, xb⟩) (JV.d ⟨yp, yc, yl, yb⟩) = true := by
 unfold eqJ JV.d
 simp only [eqA_map]
 rw [h2, h]; rfl
theorem eqL_len {a b : List JV} (h : a.length ≠ b.length) : eqL (a.map JV.d) (b.map JV.d) = false := eqA_len (by simpa using h)
theorem eqL_no {a b : List JV} {i : Nat} {x y : JV} (hx : a[i]? = some x) (hy : b[i]? = some y) (h : eqJ x.d y.d = false) : eqL (a.map JV.d) (b.map JV.d) = false := by
 unfold eqL
 rw [eqA_map]
 exact eqA_no (i := i) (f := fun x y => eqJ x.d y.d) h hx hy
theorem eqL_yes {a b : List JV} (h : eqA (fun x y => eqJ x.d y.d) a b = true) : eqL (a.map JV.d) (b.map JV.d) = true := by
 unfold eqL
 rw [eqA_map]; exact h
end

theorem RValid_any (p : Option Addr) (c : Nat) (l : List JV) (w : World) (hv : VL w (.slice p l.length c) l) (hsm : smL 1000000 (l.map JV.d)) :
    Calls Try.prog 19 #[.slice p l.length c] w fun e w' => e = .returned (.bool (validL (l.map JV.d))) ∧ Only none' w w' := by
 refine c_enter (args := [.slice p l.length c]) (m := 86) (n := 87) Try.func19 rfl (by kernel_rfl) (by kernel_rfl) fun fr hA => ?_
 have hO := Ow.nil Try.prog none' w
 have hsl := hsm.len
 refine sC (e' := [(0, .slice p l.length c), (2, bl false)]) 1 hA [] c0 ?_
 clear hA fr; intro fr hA
 refine wp_seq ?_
 refine sC (e' := [(0, .slice p l.length c), (2, bl false), (3, i64 0)]) 1 hA [] c0 ?_
 clear hA fr; intro fr hA
 refine wp_block ?_
 refine c_loop (fun mm fr W => ∃ (i : Nat), mm = l.length - i ∧ Holds 87 [] fr [(0, .slice p l.length c), (2, bl false), (3, i64 ((i : Nat) : Int))] ∧ Ow Try.prog none' w W [] ∧ i ≤ l.length ∧ (l.take i).all (fun x => validJ x.d) = true ∧ True) ?_ ?_
 · exact ⟨_, 0, rfl, (hA.sub (e' := [(0, .slice p l.length c), (2, bl false), (3, i64 0)]) [0, 2, 3] (by kernel_rfl)).cast (by kernel_rfl), hO.to, (Nat.zero_le _), rfl, trivial⟩
 rintro _ fr w1 ⟨i, rfl, hA, hO, hi_i, ho, -⟩
 refine wp_seq ?_
 refine sC (e' := [(0, .slice p l.length c), (2, bl false), (3, i64 ((i : Nat) : Int)), (11, bl (decide (((i : Nat) : Int) < ((l.length : Nat) : Int))))]) 4 hA [] c0 ?_
 clear hA fr; intro fr hA
 rcases Bool.eq_false_or_eq_true (decide (((i : Nat) : Int) < ((l.length : Nat) : Int))) with h1 | h1
 · rw [h1] at hA
   have h1p := of_decide_eq_true h1
   obtain ⟨ad1, rfl⟩ := (hv.1).pos (by omega)
   obtain ⟨⟨xp1, xc1, xl1, xb1⟩, hx1⟩ : ∃ x, l[i]? = some x := ⟨_, getD_at _ JV0 (by omega)⟩
   have hvx1 : Vw fC _ (.slice xp1 xl1.length xc1) xl1 ∧ ∀ y ∈ xl1, VC _ y := hv.2 _ (List.mem_of_getElem? hx1)
   have hsj1 : smJ _ (JV.d ⟨xp1, xc1, xl1, xb1⟩) := hsm.at hx1
   have hsjl1 : xl1.length ≤ _ := smJ.len (x := ⟨xp1, xc1, xl1, xb1⟩) hsj1
   refine cT hA ?_
   refine wp_skip ?_
   refine then_normal ?_
   refine wp_seq ?_
   refine wp_block ?_
   refine sC (e' := [(0, .slice (some ad1) l.length c), (2, bl false), (3, i64 ((i : Nat) : Int)), (4, i64 ((xl1.length : Nat) : Int))]) 7 hA [.slice xp1 xl1.length xc1] (cc (⟨by omega, by omega⟩ : (0 : Int) ≤ ((i : Nat) : Int) ∧ ((i : Nat) : Int) < ((l.length : Nat) : Int)) (cc (((hv.1.keep hO.only).ld0 encJ hx1 (by rfl)) : Ld Try.prog w1 (ad1.add (i * 2)) 43 (.slice xp1 xl1.length xc1)) c0)) ?_
   clear hA fr; intro fr hA
   refine wp_seq ?_
   refine sR (l := (rg 0 6)) ?_
   refine ck (l := [0, 1, 2]) (r := [3, 4, 5]) (e' := [(0, .slice (some ad1) l.length c), (2, bl false), (3, i64 ((i : Nat) : Int)), (4, i64 ((xl1.length : Nat) : Int)), (21, bl (decide (((xl1.length : Nat) : Int) < 1))), (22, bl (decide (((xl1.length : Nat) : Int) < 1)))]) hA [] c0 ?_
   clear hA fr; intro fr hA
   rcases Bool.eq_false_or_eq_true (decide (((xl1.length : Nat) : Int) < 1)) with h2 | h2
   · rw [h2] at hA
     have h2p := of_decide_eq_true h2
     refine ck (l := [3, 4, 5]) (r := []) (e' := [(0, .slice (some ad1) l.length c), (2, bl false), (3, i64 ((i : Nat) : Int)), (4, i64 ((xl1.length : Nat) : Int)), (25, bl true)]) hA [] c0 ?_
     clear hA fr; intro fr hA
     refine end_ops ?_
     refine then_normal ?_
     refine cT hA ?_
     refine sC (e' := [(0, .slice (some ad1) l.length c), (2, bl false), (3, i64 ((i : Nat) : Int))]) 1 hA [] c0 ?_
     clear hA fr; intro fr hA
     refine wp_ret ?_
     refine then_ret ?_
     refine inBlock_ret ?_
     refine then_ret ?_
     refine then_ret ?_
     refine inBlock_ret ?_
     refine then_ret ?_
     refine cR (cs := [none]) (us := [bl false]) hA [] trivial ?_
     have hF := hO.only; clear hA hO
     refine ⟨congrArg (fun b => Ending.returned (.bool b)) ?_, hF⟩
     first | (rw [validL_yes (all_end ho (by omega))]; exact decide_eq_decide.2 (by omega)) | exact (validL_no hx1 (validJ_bad (by omega))).symm | (refine (validL_no hx1 (validJ_no hy1 ?_)).symm; show validC yd1 = false; first | exact validC_words (by assumption) (by assumption) | exact validC_len (by omega) | exact validC_inp (by assumption) | exact validC_out (by assumption) | exact validC_app (by assumption) (by assumption))
   rw [h2] at hA
   have h2p := of_decide_eq_false h2
   refine ck (l := [3, 4, 5]) (r := []) (e' := [(0, .slice (some ad1) l.length c), (2, bl false), (3, i64 ((i : Nat) : Int)), (4, i64 ((xl1.length : Nat) : Int)), (25, bl (decide (((xl1.length : Nat) : Int) > 4)))]) hA [] c0 ?_
   clear hA fr; intro fr hA
   refine end_ops ?_
   refine then_normal ?_
   rcases Bool.eq_false_or_eq_true (decide (((xl1.length : Nat) : Int) > 4)) with h3 | h3
   · rw [h3] at hA
     have h3p := of_decide_eq_true h3
     refine cT hA ?_
     refine sC (e' := [(0, .slice (some ad1) l.length c), (2, bl false), (3, i64 ((i : Nat) : Int))]) 1 hA [] c0 ?_
     clear hA fr; intro fr hA
     refine wp_ret ?_
     refine then_ret ?_
     refine inBlock_ret ?_
     refine then_ret ?_
     refine then_ret ?_
     refine inBlock_ret ?_
     refine then_ret ?_
     refine cR (cs := [none]) (us := [bl false]) hA [] trivial ?_
     have hF := hO.only; clear hA hO
     refine ⟨congrArg (fun b => Ending.returned (.bool b)) ?_, hF⟩
     first | (rw [validL_yes (all_end ho (by omega))]; exact decide_eq_decide.2 (by omega)) | exact (validL_no hx1 (validJ_bad (by omega))).symm | (refine (validL_no hx1 (validJ_no hy1 ?_)).symm; show validC yd1 = false; first | exact validC_words (by assumption) (by assumption) | exact validC_len (by omega) | exact validC_inp (by assumption) | exact validC_out (by assumption) | exact validC_app (by assumption) (by assumption))
   rw [h3] at hA
   have h3p := of_decide_eq_false h3
   refine cF hA ?_
   refine wp_skip ?_
   refine then_normal ?_
   refine sC (e' := [(0, .slice (some ad1) l.length c), (2, bl false), (3, i64 ((i : Nat) : Int)), (4, i64 ((xl1.length : Nat) : Int)), (5, i64 0)]) 1 hA [] c0 ?_
   clear hA fr; intro fr hA
   refine wp_block ?_
   refine c_loop (fun mm fr W => ∃ (k : Nat), mm = xl1.length - k ∧ Holds 87 [] fr [(0, .slice (some ad1) l.length c), (2, bl false), (3, i64 ((i : Nat) : Int)), (4, i64 ((xl1.length : Nat) : Int)), (5, i64 ((k : Nat) : Int))] ∧ Ow Try.prog none' w W [] ∧ k ≤ xl1.length ∧ (xl1.take k).all (fun y => validC y.d) = true ∧ True) ?_ ?_
   · exact ⟨_, 0, rfl, (hA.sub (e' := [(0, .slice (some ad1) l.length c), (2, bl false), (3, i64 ((i : Nat) : Int)), (4, i64 ((xl1.length : Nat) : Int)), (5, i64 0)]) [0, 2, 3, 4, 5] (by kernel_rfl)).cast (by kernel_rfl), hO.to, (Nat.zero_le _), rfl, trivial⟩
   rintro _ fr w2 ⟨k, rfl, hA, hO, hi_k, hok, -⟩
   refine wp_seq ?_
   refine sC (e' := [(0, .slice (some ad1) l.length c), (2, bl false), (3, i64 ((i : Nat) : Int)), (4, i64 ((xl1.length : Nat) : Int)), (5, i64 ((k : Nat) : Int)), (28, bl (decide (((k : Nat) : Int) < ((xl1.length : Nat) : Int))))]) 3 hA [] c0 ?_
   clear hA fr; intro fr hA
   rcases Bool.eq_false_or_eq_true (decide (((k : Nat) : Int) < ((xl1.length : Nat) : Int))) with h4 | h4
   · rw [h4] at hA
     have h4p := of_decide_eq_true h4
     obtain ⟨ad2, rfl⟩ := (hvx1.1).pos (by omega)
     obtain ⟨⟨yp1, yc1, yd1⟩, hy1⟩ : ∃ x, xl1[k]? = some x := ⟨_, getD_at _ CV0 (by omega)⟩
     have hvy1 : Vw fT _ (.slice yp1 yd1.words.length yc1) yd1.words := hvx1.2 _ (List.mem_of_getElem? hy1)
     have hsc1 : smC _ yd1 := smJ.at (x := ⟨_, _, xl1, _⟩) hsj1 hy1
     obtain ⟨-, smi1, smo1, sml1⟩ := id hsc1
     refine cT hA ?_
     refine wp_skip ?_
     refine then_normal ?_
     refine wp_seq ?_
     refine wp_block ?_
     refine sR (l := (rg 0 10)) ?_
     refine ck (l := (rg 0 8)) (r := [8, 9]) (e' := [(0, .slice (some ad1) l.length c), (2, bl false), (3, i64 ((i : Nat) : Int)), (4, i64 ((xl1.length : Nat) : Int)), (5, i64 ((k : Nat) : Int)), (38, .agg #[.slice yp1 yd1.words.length yc1, str yd1.inp, str yd1.out, bl yd1.app])]) hA [.slice (some ad2) xl1.length xc1, .agg #[.slice yp1 yd1.words.length yc1, str yd1.inp, str yd1.out, bl yd1.app]] (cc (⟨by omega, by omega⟩ : (0 : Int) ≤ ((i : Nat) : Int) ∧ ((i : Nat) : Int) < ((l.length : Nat) : Int)) (cc (((hv.1.keep hO.only).ld0 encJ hx1 (by rfl)) : Ld Try.prog w2 (ad1.add (i * 2)) 43 (.slice (some ad2) xl1.length xc1)) (cc (⟨by omega, by omega⟩ : (0 : Int) ≤ ((k : Nat) : Int) ∧ ((k : Nat) : Int) < ((xl1.length : Nat) : Int)) (cc (((hvx1.1.keep hO.only).ldn encC hy1) : Ld Try.prog w2 (ad2.add (k * 4)) 49 (.agg #[.slice yp1 yd1.words.length yc1, str yd1.inp, str yd1.out, bl yd1.app])) c0)))) ?_
     clear hA fr; intro fr hA
     refine wpOps_cons' (mN (l := [.slice none 0 0, str (⟨#[]⟩), str (⟨#[]⟩), bl false]) (t := 49) (v := pt) (d := 6) hA hO ?_)
     clear hA hO fr; intro fr w3 b1 hA hO
     replace hA := hA.sb (e' := [(0, .slice (some ad1) l.length c), (2, bl false), (3, i64 ((i : Nat) : Int)), (4, i64 ((xl1.length : Nat) : Int)), (5, i64 ((k : Nat) : Int)), (6, pt b1), (38, .agg #[.slice yp1 yd1.words.length yc1, str yd1.inp, str yd1.out, bl yd1.app])])
     refine wpOps_cons' (mS (off := 0) (vc := [.slice yp1 yd1.words.length yc1, str yd1.inp, str yd1.out, bl yd1.app]) 0 hA hO ?_)
     clear hO; intro w4 hO
     replace hA := hA.sb (e' := [(0, .slice (some ad1) l.length c), (2, bl false), (3, i64 ((i : Nat) : Int)), (4, i64 ((xl1.length : Nat) : Int)), (5, i64 ((k : Nat) : Int)), (6, pt b1)])
     refine end_ops ?_
     refine then_normal ?_
     refine wp_seq ?_
     refine sR (l := (rg 0 31)) ?_
     refine ck (l := (rg 0 5)) (r := (rg 5 26)) (e' := [(0, .slice (some ad1) l.length c), (2, bl false), (3, i64 ((i : Nat) : Int)), (4, i64 ((xl1.length : Nat) : Int)), (5, i64 ((k : Nat) : Int)), (6, pt b1), (42, bl (decide (((yd1.words.length : Nat) : Int) < 1))), (43, bl (decide (((yd1.words.length : Nat) : Int) < 1)))]) hA [.slice yp1 yd1.words.length yc1] (cc (hO.l1 0 0 47 (.slice yp1 yd1.words.length yc1)) c0) ?_
     clear hA fr; intro fr hA
     rcases Bool.eq_false_or_eq_true (decide (((yd1.words.length : Nat) : Int) < 1)) with h5 | h5
     · rw [h5] at hA
       have h5p := of_decide_eq_true h5
       refine ck (l := (rg 5 26)) (r := []) (e' := [(0, .slice (some ad1) l.length c), (2, bl false), (3, i64 ((i : Nat) : Int)), (4, i64 ((xl1.length : Nat) : Int)), (5, i64 ((k : Nat) : Int)), (6, pt b1), (69, bl true)]) hA [] c0 ?_
       clear hA fr; intro fr hA
       refine end_ops ?_
       refine then_normal ?_
       refine cT hA ?_
       refine sC (e' := [(0, .slice (some ad1) l.length c), (2, bl false), (3, i64 ((i : Nat) : Int)), (4, i64 ((xl1.length : Nat) : Int)), (5, i64 ((k : Nat) : Int))]) 1 hA [] c0 ?_
       clear hA fr; intro fr hA
       refine wp_ret ?_
       refine then_ret ?_
       refine inBlock_ret ?_
       refine then_ret ?_
       refine then_ret ?_
       refine inBlock_ret ?_
       refine inBlock_ret ?_
       refine then_ret ?_
       refine then_ret ?_
       refine inBlock_ret ?_
       refine then_ret ?_
       refine cR (cs := [none]) (us := [bl false]) hA [] trivial ?_
       have hF := hO.only; clear hA hO
       refine ⟨congrArg (fun b => Ending.returned (.bool b)) ?_, hF⟩
       first | (rw [validL_yes (all_end ho (by omega))]; exact decide_eq_decide.2 (by omega)) | exact (validL_no hx1 (validJ_bad (by omega))).symm | (refine (validL_no hx1 (validJ_no hy1 ?_)).symm; show validC yd1 = false; first | exact validC_words (by assumption) (by assumption) | exact validC_len (by omega) | exact validC_inp (by assumption) | exact validC_out (by assumption) | exact validC_app (by assumption) (by assumption))
     rw [h5] at hA
     have h5p := of_decide_eq_false h5
     refine ck (l := (rg 5 6)) (r := (rg 11 20)) (e' := [(0, .slice (some ad1) l.length c), (2, bl false), (3, i64 ((i : Nat) : Int)), (4, i64 ((xl1.length : Nat) : Int)), (5, i64 ((k : Nat) : Int)), (6, pt b1), (47, bl (decide (((yd1.words.length : Nat) : Int) > 4))), (48, bl (decide (((yd1.words.length : Nat) : Int) > 4))), (49, bl (decide (((yd1.words.length : Nat) : Int) > 4)))]) hA [.slice yp1 yd1.words.length yc1] (cc (hO.l1 0 0 47 (.slice yp1 yd1.words.length yc1)) c0) ?_
     clear hA fr; intro fr hA
     rcases Bool.eq_false_or_eq_true (decide (((yd1.words.length : Nat) : Int) > 4)) with h6 | h6
     · rw [h6] at hA
       have h6p := of_decide_eq_true h6
       refine ck (l := (rg 11 20)) (r := []) (e' := [(0, .slice (some ad1) l.length c), (2, bl false), (3, i64 ((i : Nat) : Int)), (4, i64 ((xl1.length : Nat) : Int)), (5, i64 ((k : Nat) : Int)), (6, pt b1), (69, bl true)]) hA [] c0 ?_
       clear hA fr; intro fr hA
       refine end_ops ?_
       refine then_normal ?_
       refine cT hA ?_
       refine sC (e' := [(0, .slice (some ad1) l.length c), (2, bl false), (3, i64 ((i : Nat) : Int)), (4, i64 ((xl1.length : Nat) : Int)), (5, i64 ((k : Nat) : Int))]) 1 hA [] c0 ?_
       clear hA fr; intro fr hA
       refine wp_ret ?_
       refine then_ret ?_
       refine inBlock_ret ?_
       refine then_ret ?_
       refine then_ret ?_
       refine inBlock_ret ?_
       refine inBlock_ret ?_
       refine then_ret ?_
       refine then_ret ?_
       refine inBlock_ret ?_
       refine then_ret ?_
       refine cR (cs := [none]) (us := [bl false]) hA [] trivial ?_
       have hF := hO.only; clear hA hO
       refine ⟨congrArg (fun b => Ending.returned (.bool b)) ?_, hF⟩
       first | (rw [validL_yes (all_end ho (by omega))]; exact decide_eq_decide.2 (by omega)) | exact (validL_no hx1 (validJ_bad (by omega))).symm | (refine (validL_no hx1 (validJ_no hy1 ?_)).symm; show validC yd1 = false; first | exact validC_words (by assumption) (by assumption) | exact validC_len (by omega) | exact validC_inp (by assumption) | exact validC_out (by assumption) | exact validC_app (by assumption) (by assumption))
     rw [h6] at hA
     have h6p := of_decide_eq_false h6
     refine ck (l := [11, 12]) (r := (rg 13 18)) (e' := [(0, .slice (some ad1) l.length c), (2, bl false), (3, i64 ((i : Nat) : Int)), (4, i64 ((xl1.length : Nat) : Int)), (5, i64 ((k : Nat) : Int)), (6, pt b1), (49, bl false), (51, str yd1.inp)]) hA [str yd1.inp] (cc (hO.l1 0 1 9 (str yd1.inp)) c0) ?_
     clear hA fr; intro fr hA
     refine wpOps_cons' (mK (f := 34) (args := [str yd1.inp]) (d := (some 52)) (v := bl (optB yd1.inp)) hA hO Try.func34 (optional_any yd1.inp _ (by omega)) ?_)
     clear hA hO fr; intro fr w5 hA hO
     replace hA := hA.sb (e' := [(0, .slice (some ad1) l.length c), (2, bl false), (3, i64 ((i : Nat) : Int)), (4, i64 ((xl1.length : Nat) : Int)), (5, i64 ((k : Nat) : Int)), (6, pt b1), (49, bl false), (52, bl (optB yd1.inp))])
     refine ck (l := [14, 15, 16]) (r := (rg 17 14)) (e' := [(0, .slice (some ad1) l.length c), (2, bl false), (3, i64 ((i : Nat) : Int)), (4, i64 ((xl1.length : Nat) : Int)), (5, i64 ((k : Nat) : Int)), (6, pt b1), (53, bl (!(optB yd1.inp))), (54, bl (!(optB yd1.inp))), (55, bl (!(optB yd1.inp)))]) hA [] c0 ?_
     clear hA fr; intro fr hA
     rcases Bool.eq_false_or_eq_true (optB yd1.inp) with h7 | h7
     · rw [h7] at hA
       refine ck (l := [17, 18]) (r := (rg 19 12)) (e' := [(0, .slice (some ad1) l.length c), (2, bl false), (3, i64 ((i : Nat) : Int)), (4, i64 ((xl1.length : Nat) : Int)), (5, i64 ((k : Nat) : Int)), (6, pt b1), (55, bl false), (57, str yd1.out)]) hA [str yd1.out] (cc (hO.l1 0 2 9 (str yd1.out)) c0) ?_
       clear hA fr; intro fr hA
       refine wpOps_cons' (mK (f := 34) (args := [str yd1.out]) (d := (some 58)) (v := bl (optB yd1.out)) hA hO Try.func34 (optional_any yd1.out _ (by omega)) ?_)
       clear hA hO fr; intro fr w6 hA hO
       replace hA := hA.sb (e' := [(0, .slice (some ad1) l.length c), (2, bl false), (3, i64 ((i : Nat) : Int)), (4, i64 ((xl1.length : Nat) : Int)), (5, i64 ((k : Nat) : Int)), (6, pt b1), (55, bl false), (58, bl (optB yd1.out))])
       refine ck (l := [20, 21, 22]) (r := (rg 23 8)) (e' := [(0, .slice (some ad1) l.length c), (2, bl false), (3, i64 ((i : Nat) : Int)), (4, i64 ((xl1.length : Nat) : Int)), (5, i64 ((k : Nat) : Int)), (6, pt b1), (59, bl (!(optB yd1.out))), (60, bl (!(optB yd1.out))), (61, bl (!(optB yd1.out)))]) hA [] c0 ?_
       clear hA fr; intro fr hA
       rcases Bool.eq_false_or_eq_true (optB yd1.out) with h8 | h8
       · rw [h8] at hA
         refine ck (l := [23, 24, 25]) (r := (rg 26 5)) (e' := [(0, .slice (some ad1) l.length c), (2, bl false), (3, i64 ((i : Nat) : Int)), (4, i64 ((xl1.length : Nat) : Int)), (5, i64 ((k : Nat) : Int)), (6, pt b1), (61, bl false), (63, bl yd1.app), (64, bl yd1.app)]) hA [bl yd1.app] (cc (hO.l1 0 3 4 (bl yd1.app)) c0) ?_
         clear hA fr; intro fr hA
         rcases Bool.eq_false_or_eq_true (yd1.app) with h9 | h9
         · rw [h9] at hA
           refine ck (l := (rg 26 5)) (r := []) (e' := [(0, .slice (some ad1) l.length c), (2, bl false), (3, i64 ((i : Nat) : Int)), (4, i64 ((xl1.length : Nat) : Int)), (5, i64 ((k : Nat) : Int)), (6, pt b1), (69, bl (yd1.out.toList == (⟨#[]⟩ : ByteArray).toList))]) hA [str yd1.out] (cc (hO.l1 0 2 9 (str yd1.out)) c0) ?_
           clear hA fr; intro fr hA
           replace hA := hA.bool (f := fun z_ => [(0, .slice (some ad1) l.length c), (2, bl false), (3, i64 ((i : Nat) : Int)), (4, i64 ((xl1.length : Nat) : Int)), (5, i64 ((k : Nat) : Int)), (6, pt b1), (69, .bool z_)]) (str_empty yd1.out : (yd1.out.toList == (⟨#[]⟩ : ByteArray).toList) = (decide (yd1.out.size = 0)))
           refine end_ops ?_
           refine then_normal ?_
           rcases Bool.eq_false_or_eq_true (decide (yd1.out.size = 0)) with h10 | h10
           · rw [h10] at hA
             have h10p := of_decide_eq_true h10
             refine cT hA ?_
             refine sC (e' := [(0, .slice (some ad1) l.length c), (2, bl false), (3, i64 ((i : Nat) : Int)), (4, i64 ((xl1.length : Nat) : Int)), (5, i64 ((k : Nat) : Int))]) 1 hA [] c0 ?_
             clear hA fr; intro fr hA
             refine wp_ret ?_
             refine then_ret ?_
             refine inBlock_ret ?_
             refine then_ret ?_
             refine then_ret ?_
             refine inBlock_ret ?_
             refine inBlock_ret ?_
             refine then_ret ?_
             refine then_ret ?_
             refine inBlock_ret ?_
             refine then_ret ?_
             refine cR (cs := [none]) (us := [bl false]) hA [] trivial ?_
             have hF := hO.only; clear hA hO
             refine ⟨congrArg (fun b => Ending.returned (.bool b)) ?_, hF⟩
             first | (rw [validL_yes (all_end ho (by omega))]; exact decide_eq_decide.2 (by omega)) | exact (validL_no hx1 (validJ_bad (by omega))).symm | (refine (validL_no hx1 (validJ_no hy1 ?_)).symm; show validC yd1 = false; first | exact validC_words (by assumption) (by assumption) | exact validC_len (by omega) | exact validC_inp (by assumption) | exact validC_out (by assumption) | exact validC_app (by assumption) (by assumption))
           rw [h10] at hA
           have h10p := of_decide_eq_false h10
           refine cF hA ?_
           refine wp_skip ?_
           refine then_normal ?_
           refine sC (e' := [(0, .slice (some ad1) l.length c), (2, bl false), (3, i64 ((i : Nat) : Int)), (4, i64 ((xl1.length : Nat) : Int)), (5, i64 ((k : Nat) : Int)), (6, pt b1), (7, i64 0)]) 1 hA [] c0 ?_
           clear hA fr; intro fr hA
           refine wp_block ?_
           refine c_loop (fun mm fr W => ∃ (j : Nat), mm = yd1.words.length - j ∧ Holds 87 [] fr [(0, .slice (some ad1) l.length c), (2, bl false), (3, i64 ((i : Nat) : Int)), (4, i64 ((xl1.length : Nat) : Int)), (5, i64 ((k : Nat) : Int)), (6, pt b1), (7, i64 ((j : Nat) : Int))] ∧ Ow Try.prog none' w W [(b1, 49, [.slice yp1 yd1.words.length yc1, str yd1.inp, str yd1.out, bl yd1.app])] ∧ j ≤ yd1.words.length ∧ (yd1.words.take j).all isWordB = true ∧ True) ?_ ?_
           · exact ⟨_, 0, rfl, (hA.sub (e' := [(0, .slice (some ad1) l.length c), (2, bl false), (3, i64 ((i : Nat) : Int)), (4, i64 ((xl1.length : Nat) : Int)), (5, i64 ((k : Nat) : Int)), (6, pt b1), (7, i64 0)]) [0, 2, 3, 4, 5, 6, 7] (by kernel_rfl)).cast (by kernel_rfl), hO.to, (Nat.zero_le _), rfl, trivial⟩
           rintro _ fr w7 ⟨j, rfl, hA, hO, hi_j, hoj, -⟩
           refine wp_seq ?_
           refine sC (e' := [(0, .slice (some ad1) l.length c), (2, bl false), (3, i64 ((i : Nat) : Int)), (4, i64 ((xl1.length : Nat) : Int)), (5, i64 ((k : Nat) : Int)), (6, pt b1), (7, i64 ((j : Nat) : Int)), (74, bl (decide (((j : Nat) : Int) < ((yd1.words.length : Nat) : Int))))]) 5 hA [.slice yp1 yd1.words.length yc1] (cc (hO.l1 0 0 47 (.slice yp1 yd1.words.length yc1)) c0) ?_
           clear hA fr; intro fr hA
           rcases Bool.eq_false_or_eq_true (decide (((j : Nat) : Int) < ((yd1.words.length : Nat) : Int))) with h11 | h11
           · rw [h11] at hA
             have h11p := of_decide_eq_true h11
             obtain ⟨ad3, rfl⟩ := (hvy1).pos (by omega)
             obtain ⟨z1, hz1⟩ : ∃ x, yd1.words[j]? = some x := ⟨_, getD_at _ ⟨#[]⟩ (by omega)⟩
             have hszz1 := smC.at hsc1 hz1
             refine cT hA ?_
             refine wp_skip ?_
             refine then_normal ?_
             refine wp_seq ?_
             refine wp_block ?_
             refine sR (l := (rg 0 7)) ?_
             refine ck (l := (rg 0 5)) (r := [5, 6]) (e' := [(0, .slice (some ad1) l.length c), (2, bl false), (3, i64 ((i : Nat) : Int)), (4, i64 ((xl1.length : Nat) : Int)), (5, i64 ((k : Nat) : Int)), (6, pt b1), (7, i64 ((j : Nat) : Int)), (81, str z1)]) hA [.slice (some ad3) yd1.words.length yc1, str z1] (cc (hO.l1 0 0 47 (.slice (some ad3) yd1.words.length yc1)) (cc (⟨by omega, by omega⟩ : (0 : Int) ≤ ((j : Nat) : Int) ∧ ((j : Nat) : Int) < ((yd1.words.length : Nat) : Int)) (cc (((hvy1.keep hO.only).ldT hz1) : Ld Try.prog w7 (ad3.add j) 9 (str z1)) c0))) ?_
             clear hA fr; intro fr hA
             refine wpOps_cons' (mK (f := 22) (args := [str z1]) (d := (some 82)) (v := bl (isWordB z1)) hA hO Try.func22 (risword_any z1 _ (by first | omega | exact hsm.at (by assumption))) ?_)
             clear hA hO fr; intro fr w8 hA hO
             replace hA := hA.sb (e' := [(0, .slice (some ad1) l.length c), (2, bl false), (3, i64 ((i : Nat) : Int)), (4, i64 ((xl1.length : Nat) : Int)), (5, i64 ((k : Nat) : Int)), (6, pt b1), (7, i64 ((j : Nat) : Int)), (82, bl (isWordB z1))])
             refine ck (l := [6]) (r := []) (e' := [(0, .slice (some ad1) l.length c), (2, bl false), (3, i64 ((i : Nat) : Int)), (4, i64 ((xl1.length : Nat) : Int)), (5, i64 ((k : Nat) : Int)), (6, pt b1), (7, i64 ((j : Nat) : Int)), (83, bl (!(isWordB z1)))]) hA [] c0 ?_
             clear hA fr; intro fr hA
             refine end_ops ?_
             refine then_normal ?_
             rcases Bool.eq_false_or_eq_true (isWordB z1) with h12 | h12
             · rw [h12] at hA
               refine cF hA ?_
               refine wp_skip ?_
               refine inBlock_normal ?_
               refine then_normal ?_
               refine rC (e' := [(0, .slice (some ad1) l.length c), (2, bl false), (3, i64 ((i : Nat) : Int)), (4, i64 ((xl1.length : Nat) : Int)), (5, i64 ((k : Nat) : Int)), (6, pt b1), (7, i64 (((j : Nat) : Int) + 1))]) 3 hA [bl true] (cc ((inK_i64 (by omega) (by omega)) : inK .i64 (((j : Nat) : Int) + 1)) c0) ?_
               clear hA fr; intro fr hA
               refine then_normal ?_
               exact ⟨_, by omega, j + 1, rfl, (hA.sub (e' := [(0, .slice (some ad1) l.length c), (2, bl false), (3, i64 ((i : Nat) : Int)), (4, i64 ((xl1.length : Nat) : Int)), (5, i64 ((k : Nat) : Int)), (6, pt b1), (7, i64 (((j : Nat) : Int) + 1))]) [0, 2, 3, 4, 5, 6, 7] (by kernel_rfl)).cast (by kernel_rfl), hO.to, (by omega), (all_step hoj (by assumption) (by assumption)), trivial⟩
             rw [h12] at hA
             refine cT hA ?_
             refine sC (e' := [(0, .slice (some ad1) l.length c), (2, bl false), (3, i64 ((i : Nat) : Int)), (4, i64 ((xl1.length : Nat) : Int)), (5, i64 ((k : Nat) : Int)), (6, pt b1), (7, i64 ((j : Nat) : Int))]) 1 hA [] c0 ?_
             clear hA fr; intro fr hA
             refine wp_ret ?_
             refine inBlock_ret ?_
             refine then_ret ?_
             refine then_ret ?_
             refine inBlock_ret ?_
             refine inBlock_ret ?_
             refine then_ret ?_
             refine then_ret ?_
             refine inBlock_ret ?_
             refine inBlock_ret ?_
             refine then_ret ?_
             refine then_ret ?_
             refine inBlock_ret ?_
             refine then_ret ?_
             refine cR (cs := [none]) (us := [bl false]) hA [] trivial ?_
             have hF := hO.only; clear hA hO
             refine ⟨congrArg (fun b => Ending.returned (.bool b)) ?_, hF⟩
             first | (rw [validL_yes (all_end ho (by omega))]; exact decide_eq_decide.2 (by omega)) | exact (validL_no hx1 (validJ_bad (by omega))).symm | (refine (validL_no hx1 (validJ_no hy1 ?_)).symm; show validC yd1 = false; first | exact validC_words (by assumption) (by assumption) | exact validC_len (by omega) | exact validC_inp (by assumption) | exact validC_out (by assumption) | exact validC_app (by assumption) (by assumption))
           rw [h11] at hA
           have h11p := of_decide_eq_false h11
           refine cF hA ?_
           refine wp_exit ?_
           refine then_exit ?_
           refine then_exit ?_
           refine inBlock_exit ?_
           refine inBlock_normal ?_
           refine then_normal ?_
           refine rC (e' := [(0, .slice (some ad1) l.length c), (2, bl false), (3, i64 ((i : Nat) : Int)), (4, i64 ((xl1.length : Nat) : Int)), (5, i64 (((k : Nat) : Int) + 1))]) 3 hA [bl true] (cc ((inK_i64 (by omega) (by omega)) : inK .i64 (((k : Nat) : Int) + 1)) c0) ?_
           clear hA fr; intro fr hA
           refine then_normal ?_
           exact ⟨_, by omega, k + 1, rfl, (hA.sub (e' := [(0, .slice (some ad1) l.length c), (2, bl false), (3, i64 ((i : Nat) : Int)), (4, i64 ((xl1.length : Nat) : Int)), (5, i64 (((k : Nat) : Int) + 1))]) [0, 2, 3, 4, 5] (by kernel_rfl)).cast (by kernel_rfl), (hO.sub []), (by omega), (all_step hok hy1 (show validC yd1 = true from validC_yes (by omega) (by assumption) (by assumption) (by first | (intro _; assumption) | (intro q; simp_all; done)) (all_end hoj (by omega)))), trivial⟩
         rw [h9] at hA
         refine ck (l := (rg 26 5)) (r := []) (e' := [(0, .slice (some ad1) l.length c), (2, bl false), (3, i64 ((i : Nat) : Int)), (4, i64 ((xl1.length : Nat) : Int)), (5, i64 ((k : Nat) : Int)), (6, pt b1), (69, bl false)]) hA [] c0 ?_
         clear hA fr; intro fr hA
         refine end_ops ?_
         refine then_normal ?_
         refine cF hA ?_
         refine wp_skip ?_
         refine then_normal ?_
         refine sC (e' := [(0, .slice (some ad1) l.length c), (2, bl false), (3, i64 ((i : Nat) : Int)), (4, i64 ((xl1.length : Nat) : Int)), (5, i64 ((k : Nat) : Int)), (6, pt b1), (7, i64 0)]) 1 hA [] c0 ?_
         clear hA fr; intro fr hA
         refine wp_block ?_
         refine c_loop (fun mm fr W => ∃ (j : Nat), mm = yd1.words.length - j ∧ Holds 87 [] fr [(0, .slice (some ad1) l.length c), (2, bl false), (3, i64 ((i : Nat) : Int)), (4, i64 ((xl1.length : Nat) : Int)), (5, i64 ((k : Nat) : Int)), (6, pt b1), (7, i64 ((j : Nat) : Int))] ∧ Ow Try.prog none' w W [(b1, 49, [.slice yp1 yd1.words.length yc1, str yd1.inp, str yd1.out, bl yd1.app])] ∧ j ≤ yd1.words.length ∧ (yd1.words.take j).all isWordB = true ∧ True) ?_ ?_
         · exact ⟨_, 0, rfl, (hA.sub (e' := [(0, .slice (some ad1) l.length c), (2, bl false), (3, i64 ((i : Nat) : Int)), (4, i64 ((xl1.length : Nat) : Int)), (5, i64 ((k : Nat) : Int)), (6, pt b1), (7, i64 0)]) [0, 2, 3, 4, 5, 6, 7] (by kernel_rfl)).cast (by kernel_rfl), hO.to, (Nat.zero_le _), rfl, trivial⟩
         rintro _ fr w9 ⟨j, rfl, hA, hO, hi_j, hoj, -⟩
         refine wp_seq ?_
         refine sC (e' := [(0, .slice (some ad1) l.length c), (2, bl false), (3, i64 ((i : Nat) : Int)), (4, i64 ((xl1.length : Nat) : Int)), (5, i64 ((k : Nat) : Int)), (6, pt b1), (7, i64 ((j : Nat) : Int)), (74, bl (decide (((j : Nat) : Int) < ((yd1.words.length : Nat) : Int))))]) 5 hA [.slice yp1 yd1.words.length yc1] (cc (hO.l1 0 0 47 (.slice yp1 yd1.words.length yc1)) c0) ?_
         clear hA fr; intro fr hA
         rcases Bool.eq_false_or_eq_true (decide (((j : Nat) : Int) < ((yd1.words.length : Nat) : Int))) with h13 | h13
         · rw [h13] at hA
           have h13p := of_decide_eq_true h13
           obtain ⟨ad4, rfl⟩ := (hvy1).pos (by omega)
           obtain ⟨z2, hz2⟩ : ∃ x, yd1.words[j]? = some x := ⟨_, getD_at _ ⟨#[]⟩ (by omega)⟩
           have hszz2 := smC.at hsc1 hz2
           refine cT hA ?_
           refine wp_skip ?_
           refine then_normal ?_
           refine wp_seq ?_
           refine wp_block ?_
           refine sR (l := (rg 0 7)) ?_
           refine ck (l := (rg 0 5)) (r := [5, 6]) (e' := [(0, .slice (some ad1) l.length c), (2, bl false), (3, i64 ((i : Nat) : Int)), (4, i64 ((xl1.length : Nat) : Int)), (5, i64 ((k : Nat) : Int)), (6, pt b1), (7, i64 ((j : Nat) : Int)), (81, str z2)]) hA [.slice (some ad4) yd1.words.length yc1, str z2] (cc (hO.l1 0 0 47 (.slice (some ad4) yd1.words.length yc1)) (cc (⟨by omega, by omega⟩ : (0 : Int) ≤ ((j : Nat) : Int) ∧ ((j : Nat) : Int) < ((yd1.words.length : Nat) : Int)) (cc (((hvy1.keep hO.only).ldT hz2) : Ld Try.prog w9 (ad4.add j) 9 (str z2)) c0))) ?_
           clear hA fr; intro fr hA
           refine wpOps_cons' (mK (f := 22) (args := [str z2]) (d := (some 82)) (v := bl (isWordB z2)) hA hO Try.func22 (risword_any z2 _ (by first | omega | exact hsm.at (by assumption))) ?_)
           clear hA hO fr; intro fr w10 hA hO
           replace hA := hA.sb (e' := [(0, .slice (some ad1) l.length c), (2, bl false), (3, i64 ((i : Nat) : Int)), (4, i64 ((xl1.length : Nat) : Int)), (5, i64 ((k : Nat) : Int)), (6, pt b1), (7, i64 ((j : Nat) : Int)), (82, bl (isWordB z2))])
           refine ck (l := [6]) (r := []) (e' := [(0, .slice (some ad1) l.length c), (2, bl false), (3, i64 ((i : Nat) : Int)), (4, i64 ((xl1.length : Nat) : Int)), (5, i64 ((k : Nat) : Int)), (6, pt b1), (7, i64 ((j : Nat) : Int)), (83, bl (!(isWordB z2)))]) hA [] c0 ?_
           clear hA fr; intro fr hA
           refine end_ops ?_
           refine then_normal ?_
           rcases Bool.eq_false_or_eq_true (isWordB z2) with h14 | h14
           · rw [h14] at hA
             refine cF hA ?_
             refine wp_skip ?_
             refine inBlock_normal ?_
             refine then_normal ?_
             refine rC (e' := [(0, .slice (some ad1) l.length c), (2, bl false), (3, i64 ((i : Nat) : Int)), (4, i64 ((xl1.length : Nat) : Int)), (5, i64 ((k : Nat) : Int)), (6, pt b1), (7, i64 (((j : Nat) : Int) + 1))]) 3 hA [bl true] (cc ((inK_i64 (by omega) (by omega)) : inK .i64 (((j : Nat) : Int) + 1)) c0) ?_
             clear hA fr; intro fr hA
             refine then_normal ?_
             exact ⟨_, by omega, j + 1, rfl, (hA.sub (e' := [(0, .slice (some ad1) l.length c), (2, bl false), (3, i64 ((i : Nat) : Int)), (4, i64 ((xl1.length : Nat) : Int)), (5, i64 ((k : Nat) : Int)), (6, pt b1), (7, i64 (((j : Nat) : Int) + 1))]) [0, 2, 3, 4, 5, 6, 7] (by kernel_rfl)).cast (by kernel_rfl), hO.to, (by omega), (all_step hoj (by assumption) (by assumption)), trivial⟩
           rw [h14] at hA
           refine cT hA ?_
           refine sC (e' := [(0, .slice (some ad1) l.length c), (2, bl false), (3, i64 ((i : Nat) : Int)), (4, i64 ((xl1.length : Nat) : Int)), (5, i64 ((k : Nat) : Int)), (6, pt b1), (7, i64 ((j : Nat) : Int))]) 1 hA [] c0 ?_
           clear hA fr; intro fr hA
           refine wp_ret ?_
           refine inBlock_ret ?_
           refine then_ret ?_
           refine then_ret ?_
           refine inBlock_ret ?_
           refine inBlock_ret ?_
           refine then_ret ?_
           refine then_ret ?_
           refine inBlock_ret ?_
           refine inBlock_ret ?_
           refine then_ret ?_
           refine then_ret ?_
           refine inBlock_ret ?_
           refine then_ret ?_
           refine cR (cs := [none]) (us := [bl false]) hA [] trivial ?_
           have hF := hO.only; clear hA hO
           refine ⟨congrArg (fun b => Ending.returned (.bool b)) ?_, hF⟩
           first | (rw [validL_yes (all_end ho (by omega))]; exact decide_eq_decide.2 (by omega)) | exact (validL_no hx1 (validJ_bad (by omega))).symm | (refine (validL_no hx1 (validJ_no hy1 ?_)).symm; show validC yd1 = false; first | exact validC_words (by assumption) (by assumption) | exact validC_len (by omega) | exact validC_inp (by assumption) | exact validC_out (by assumption) | exact validC_app (by assumption) (by assumption))
         rw [h13] at hA
         have h13p := of_decide_eq_false h13
         refine cF hA ?_
         refine wp_exit ?_
         refine then_exit ?_
         refine then_exit ?_
         refine inBlock_exit ?_
         refine inBlock_normal ?_
         refine then_normal ?_
         refine rC (e' := [(0, .slice (some ad1) l.length c), (2, bl false), (3, i64 ((i : Nat) : Int)), (4, i64 ((xl1.length : Nat) : Int)), (5, i64 (((k : Nat) : Int) + 1))]) 3 hA [bl true] (cc ((inK_i64 (by omega) (by omega)) : inK .i64 (((k : Nat) : Int) + 1)) c0) ?_
         clear hA fr; intro fr hA
         refine then_normal ?_
         exact ⟨_, by omega, k + 1, rfl, (hA.sub (e' := [(0, .slice (some ad1) l.length c), (2, bl false), (3, i64 ((i : Nat) : Int)), (4, i64 ((xl1.length : Nat) : Int)), (5, i64 (((k : Nat) : Int) + 1))]) [0, 2, 3, 4, 5] (by kernel_rfl)).cast (by kernel_rfl), (hO.sub []), (by omega), (all_step hok hy1 (show validC yd1 = true from validC_yes (by omega) (by assumption) (by assumption) (by first | (intro _; assumption) | (intro q; simp_all; done)) (all_end hoj (by omega)))), trivial⟩
       rw [h8] at hA
       refine ck (l := (rg 23 8)) (r := []) (e' := [(0, .slice (some ad1) l.length c), (2, bl false), (3, i64 ((i : Nat) : Int)), (4, i64 ((xl1.length : Nat) : Int)), (5, i64 ((k : Nat) : Int)), (6, pt b1), (69, bl true)]) hA [] c0 ?_
       clear hA fr; intro fr hA
       refine end_ops ?_
       refine then_normal ?_
       refine cT hA ?_
       refine sC (e' := [(0, .slice (some ad1) l.length c), (2, bl false), (3, i64 ((i : Nat) : Int)), (4, i64 ((xl1.length : Nat) : Int)), (5, i64 ((k : Nat) : Int))]) 1 hA [] c0 ?_
       clear hA fr; intro fr hA
       refine wp_ret ?_
       refine then_ret ?_
       refine inBlock_ret ?_
       refine then_ret ?_
       refine then_ret ?_
       refine inBlock_ret ?_
       refine inBlock_ret ?_
       refine then_ret ?_
       refine then_ret ?_
       refine inBlock_ret ?_
       refine then_ret ?_
       refine cR (cs := [none]) (us := [bl false]) hA [] trivial ?_
       have hF := hO.only; clear hA hO
       refine ⟨congrArg (fun b => Ending.returned (.bool b)) ?_, hF⟩
       first | (rw [validL_yes (all_end ho (by omega))]; exact decide_eq_decide.2 (by omega)) | exact (validL_no hx1 (validJ_bad (by omega))).symm | (refine (validL_no hx1 (validJ_no hy1 ?_)).symm; show validC yd1 = false; first | exact validC_words (by assumption) (by assumption) | exact validC_len (by omega) | exact validC_inp (by assumption) | exact validC_out (by assumption) | exact validC_app (by assumption) (by assumption))
     rw [h7] at hA
     refine ck (l := (rg 17 14)) (r := []) (e' := [(0, .slice (some ad1) l.length c), (2, bl false), (3, i64 ((i : Nat) : Int)), (4, i64 ((xl1.length : Nat) : Int)), (5, i64 ((k : Nat) : Int)), (6, pt b1), (69, bl true)]) hA [] c0 ?_
     clear hA fr; intro fr hA
     refine end_ops ?_
     refine then_normal ?_
     refine cT hA ?_
     refine sC (e' := [(0, .slice (some ad1) l.length c), (2, bl false), (3, i64 ((i : Nat) : Int)), (4, i64 ((xl1.length : Nat) : Int)), (5, i64 ((k : Nat) : Int))]) 1 hA [] c0 ?_
     clear hA fr; intro fr hA
     refine wp_ret ?_
     refine then_ret ?_
     refine inBlock_ret ?_
     refine then_ret ?_
     refine then_ret ?_
     refine inBlock_ret ?_
     refine inBlock_ret ?_
     refine then_ret ?_
     refine then_ret ?_
     refine inBlock_ret ?_
     refine then_ret ?_
     refine cR (cs := [none]) (us := [bl false]) hA [] trivial ?_
     have hF := hO.only; clear hA hO
     refine ⟨congrArg (fun b => Ending.returned (.bool b)) ?_, hF⟩
     first | (rw [validL_yes (all_end ho (by omega))]; exact decide_eq_decide.2 (by omega)) | exact (validL_no hx1 (validJ_bad (by omega))).symm | (refine (validL_no hx1 (validJ_no hy1 ?_)).symm; show validC yd1 = false; first | exact validC_words (by assumption) (by assumption) | exact validC_len (by omega) | exact validC_inp (by assumption) | exact validC_out (by assumption) | exact validC_app (by assumption) (by assumption))
   rw [h4] at hA
   have h4p := of_decide_eq_false h4
   refine cF hA ?_
   refine wp_exit ?_
   refine then_exit ?_
   refine then_exit ?_
   refine inBlock_exit ?_
   refine inBlock_normal ?_
   refine then_normal ?_
   refine rC (e' := [(0, .slice (some ad1) l.length c), (2, bl false), (3, i64 (((i : Nat) : Int) + 1))]) 3 hA [bl true] (cc ((inK_i64 (by omega) (by omega)) : inK .i64 (((i : Nat) : Int) + 1)) c0) ?_
   clear hA fr; intro fr hA
   refine then_normal ?_
   exact ⟨_, by omega, i + 1, rfl, (hA.sub (e' := [(0, .slice (some ad1) l.length c), (2, bl false), (3, i64 (((i : Nat) : Int) + 1))]) [0, 2, 3] (by kernel_rfl)).cast (by kernel_rfl), hO.to, (by omega), (all_step ho hx1 (validJ_yes (by omega) (all_end hok (by omega)))), trivial⟩
 rw [h1] at hA
 have h1p := of_decide_eq_false h1
 refine cF hA ?_
 refine wp_exit ?_
 refine then_exit ?_
 refine then_exit ?_
 refine inBlock_exit ?_
 refine then_normal ?_
 refine sC (e' := [(2, bl (decide (((l.length : Nat) : Int) ≤ 8)))]) 4 hA [] c0 ?_
 clear hA fr; intro fr hA
 refine wp_ret ?_
 refine cR (cs := [none]) (us := [bl (decide (((l.length : Nat) : Int) ≤ 8))]) hA [] trivial ?_
 have hF := hO.only; clear hA hO
 refine ⟨congrArg (fun b => Ending.returned (.bool b)) ?_, hF⟩
 first | (rw [validL_yes (all_end ho (by omega))]; exact decide_eq_decide.2 (by omega)) | exact (validL_no hx1 (validJ_bad (by omega))).symm | (refine (validL_no hx1 (validJ_no hy1 ?_)).symm; show validC yd1 = false; first | exact validC_words (by assumption) (by assumption) | exact validC_len (by omega) | exact validC_inp (by assumption) | exact validC_out (by assumption) | exact validC_app (by assumption) (by assumption))

theorem Few_any (p : Option Addr) (c : Nat) (l : List JV) (w : World) (hv : VL w (.slice p l.length c) l) (hsm : smL 1000000000000000000 (l.map JV.d)) :
    Calls Try.prog 15 #[.slice p l.length c] w fun e w' => e = .returned (.bool (fewL (l.map JV.d))) ∧ Only none' w w' := by
 refine c_enter (args := [.slice p l.length c]) (m := 68) (n := 69) Try.func15 rfl (by kernel_rfl) (by kernel_rfl) fun fr hA => ?_
 have hO := Ow.nil Try.prog none' w
 have hsl := hsm.len
 refine sC (e' := [(0, .slice p l.length c), (2, bl false)]) 1 hA [] c0 ?_
 clear hA fr; intro fr hA
 refine wp_seq ?_
 refine sC (e' := [(0, .slice p l.length c), (2, bl false), (3, i64 0)]) 1 hA [] c0 ?_
 clear hA fr; intro fr hA
 refine wp_block ?_
 refine c_loop (fun mm fr W => ∃ (i : Nat), mm = l.length - i ∧ Holds 69 [] fr [(0, .slice p l.length c), (2, bl false), (3, i64 ((i : Nat) : Int))] ∧ Ow Try.prog none' w W [] ∧ i ≤ l.length ∧ (l.take i).all (fun x => fewJ x.d) = true ∧ True) ?_ ?_
 · exact ⟨_, 0, rfl, (hA.sub (e' := [(0, .slice p l.length c), (2, bl false), (3, i64 0)]) [0, 2, 3] (by kernel_rfl)).cast (by kernel_rfl), hO.to, (Nat.zero_le _), rfl, trivial⟩
 rintro _ fr w1 ⟨i, rfl, hA, hO, hi_i, ho, -⟩
 refine wp_seq ?_
 refine sC (e' := [(0, .slice p l.length c), (2, bl false), (3, i64 ((i : Nat) : Int)), (10, bl (decide (((i : Nat) : Int) < ((l.length : Nat) : Int))))]) 4 hA [] c0 ?_
 clear hA fr; intro fr hA
 rcases Bool.eq_false_or_eq_true (decide (((i : Nat) : Int) < ((l.length : Nat) : Int))) with h1 | h1
 · rw [h1] at hA
   have h1p := of_decide_eq_true h1
   obtain ⟨ad1, rfl⟩ := (hv.1).pos (by omega)
   obtain ⟨⟨xp1, xc1, xl1, xb1⟩, hx1⟩ : ∃ x, l[i]? = some x := ⟨_, getD_at _ JV0 (by omega)⟩
   have hvx1 : Vw fC _ (.slice xp1 xl1.length xc1) xl1 ∧ ∀ y ∈ xl1, VC _ y := hv.2 _ (List.mem_of_getElem? hx1)
   have hsj1 : smJ _ (JV.d ⟨xp1, xc1, xl1, xb1⟩) := hsm.at hx1
   have hsjl1 : xl1.length ≤ _ := smJ.len (x := ⟨xp1, xc1, xl1, xb1⟩) hsj1
   refine cT hA ?_
   refine wp_skip ?_
   refine then_normal ?_
   refine wp_seq ?_
   refine wp_block ?_
   refine wp_seq ?_
   refine sC (e' := [(0, .slice (some ad1) l.length c), (2, bl false), (3, i64 ((i : Nat) : Int)), (19, bl (decide (((xl1.length : Nat) : Int) > 8)))]) 7 hA [.slice xp1 xl1.length xc1] (cc (⟨by omega, by omega⟩ : (0 : Int) ≤ ((i : Nat) : Int) ∧ ((i : Nat) : Int) < ((l.length : Nat) : Int)) (cc (((hv.1.keep hO.only).ld0 encJ hx1 (by rfl)) : Ld Try.prog w1 (ad1.add (i * 2)) 43 (.slice xp1 xl1.length xc1)) c0)) ?_
   clear hA fr; intro fr hA
   rcases Bool.eq_false_or_eq_true (decide (((xl1.length : Nat) : Int) > 8)) with h2 | h2
   · rw [h2] at hA
     have h2p := of_decide_eq_true h2
     refine cT hA ?_
     refine sC (e' := [(0, .slice (some ad1) l.length c), (2, bl false), (3, i64 ((i : Nat) : Int))]) 1 hA [] c0 ?_
     clear hA fr; intro fr hA
     refine wp_ret ?_
     refine then_ret ?_
     refine inBlock_ret ?_
     refine then_ret ?_
     refine then_ret ?_
     refine inBlock_ret ?_
     refine then_ret ?_
     refine cR (cs := [none]) (us := [bl false]) hA [] trivial ?_
     have hF := hO.only; clear hA hO
     refine ⟨congrArg (fun b => Ending.returned (.bool b)) ?_, hF⟩
     first | (rw [fewL_yes (all_end ho (by omega))]; exact decide_eq_decide.2 (by omega)) | exact (fewL_no hx1 (fewJ_bad (by omega))).symm | (refine (fewL_no hx1 (fewJ_no hy1 ?_)).symm; show fewC yd1 = false; first | exact fewC_word (by assumption) (by omega) | exact fewC_no (by omega))
   rw [h2] at hA
   have h2p := of_decide_eq_false h2
   refine cF hA ?_
   refine wp_skip ?_
   refine then_normal ?_
   refine sC (e' := [(0, .slice (some ad1) l.length c), (2, bl false), (3, i64 ((i : Nat) : Int)), (4, i64 0)]) 1 hA [] c0 ?_
   clear hA fr; intro fr hA
   refine wp_block ?_
   refine c_loop (fun mm fr W => ∃ (k : Nat), mm = xl1.length - k ∧ Holds 69 [] fr [(0, .slice (some ad1) l.length c), (2, bl false), (3, i64 ((i : Nat) : Int)), (4, i64 ((k : Nat) : Int))] ∧ Ow Try.prog none' w W [] ∧ k ≤ xl1.length ∧ (xl1.take k).all (fun y => fewC y.d) = true ∧ True) ?_ ?_
   · exact ⟨_, 0, rfl, (hA.sub (e' := [(0, .slice (some ad1) l.length c), (2, bl false), (3, i64 ((i : Nat) : Int)), (4, i64 0)]) [0, 2, 3, 4] (by kernel_rfl)).cast (by kernel_rfl), hO.to, (Nat.zero_le _), rfl, trivial⟩
   rintro _ fr w2 ⟨k, rfl, hA, hO, hi_k, hok, -⟩
   refine wp_seq ?_
   refine sC (e' := [(0, .slice (some ad1) l.length c), (2, bl false), (3, i64 ((i : Nat) : Int)), (4, i64 ((k : Nat) : Int)), (27, bl (decide (((k : Nat) : Int) < ((xl1.length : Nat) : Int))))]) 8 hA [.slice xp1 xl1.length xc1] (cc (⟨by omega, by omega⟩ : (0 : Int) ≤ ((i : Nat) : Int) ∧ ((i : Nat) : Int) < ((l.length : Nat) : Int)) (cc (((hv.1.keep hO.only).ld0 encJ hx1 (by rfl)) : Ld Try.prog w2 (ad1.add (i * 2)) 43 (.slice xp1 xl1.length xc1)) c0)) ?_
   clear hA fr; intro fr hA
   rcases Bool.eq_false_or_eq_true (decide (((k : Nat) : Int) < ((xl1.length : Nat) : Int))) with h3 | h3
   · rw [h3] at hA
     have h3p := of_decide_eq_true h3
     obtain ⟨ad2, rfl⟩ := (hvx1.1).pos (by omega)
     obtain ⟨⟨yp1, yc1, yd1⟩, hy1⟩ : ∃ x, xl1[k]? = some x := ⟨_, getD_at _ CV0 (by omega)⟩
     have hvy1 : Vw fT _ (.slice yp1 yd1.words.length yc1) yd1.words := hvx1.2 _ (List.mem_of_getElem? hy1)
     have hsc1 : smC _ yd1 := smJ.at (x := ⟨_, _, xl1, _⟩) hsj1 hy1
     obtain ⟨-, smi1, smo1, sml1⟩ := id hsc1
     refine cT hA ?_
     refine wp_skip ?_
     refine then_normal ?_
     refine wp_seq ?_
     refine wp_block ?_
     refine sR (l := (rg 0 10)) ?_
     refine ck (l := (rg 0 8)) (r := [8, 9]) (e' := [(0, .slice (some ad1) l.length c), (2, bl false), (3, i64 ((i : Nat) : Int)), (4, i64 ((k : Nat) : Int)), (37, .agg #[.slice yp1 yd1.words.length yc1, str yd1.inp, str yd1.out, bl yd1.app])]) hA [.slice (some ad2) xl1.length xc1, .agg #[.slice yp1 yd1.words.length yc1, str yd1.inp, str yd1.out, bl yd1.app]] (cc (⟨by omega, by omega⟩ : (0 : Int) ≤ ((i : Nat) : Int) ∧ ((i : Nat) : Int) < ((l.length : Nat) : Int)) (cc (((hv.1.keep hO.only).ld0 encJ hx1 (by rfl)) : Ld Try.prog w2 (ad1.add (i * 2)) 43 (.slice (some ad2) xl1.length xc1)) (cc (⟨by omega, by omega⟩ : (0 : Int) ≤ ((k : Nat) : Int) ∧ ((k : Nat) : Int) < ((xl1.length : Nat) : Int)) (cc (((hvx1.1.keep hO.only).ldn encC hy1) : Ld Try.prog w2 (ad2.add (k * 4)) 49 (.agg #[.slice yp1 yd1.words.length yc1, str yd1.inp, str yd1.out, bl yd1.app])) c0)))) ?_
     clear hA fr; intro fr hA
     refine wpOps_cons' (mN (l := [.slice none 0 0, str (⟨#[]⟩), str (⟨#[]⟩), bl false]) (t := 49) (v := pt) (d := 5) hA hO ?_)
     clear hA hO fr; intro fr w3 b1 hA hO
     replace hA := hA.sb (e' := [(0, .slice (some ad1) l.length c), (2, bl false), (3, i64 ((i : Nat) : Int)), (4, i64 ((k : Nat) : Int)), (5, pt b1), (37, .agg #[.slice yp1 yd1.words.length yc1, str yd1.inp, str yd1.out, bl yd1.app])])
     refine wpOps_cons' (mS (off := 0) (vc := [.slice yp1 yd1.words.length yc1, str yd1.inp, str yd1.out, bl yd1.app]) 0 hA hO ?_)
     clear hO; intro w4 hO
     replace hA := hA.sb (e' := [(0, .slice (some ad1) l.length c), (2, bl false), (3, i64 ((i : Nat) : Int)), (4, i64 ((k : Nat) : Int)), (5, pt b1)])
     refine end_ops ?_
     refine then_normal ?_
     refine wp_seq ?_
     refine sR (l := (rg 0 14)) ?_
     refine ck (l := (rg 0 5)) (r := (rg 5 9)) (e' := [(0, .slice (some ad1) l.length c), (2, bl false), (3, i64 ((i : Nat) : Int)), (4, i64 ((k : Nat) : Int)), (5, pt b1), (41, bl (decide (((yd1.words.length : Nat) : Int) > 8))), (42, bl (decide (((yd1.words.length : Nat) : Int) > 8)))]) hA [.slice yp1 yd1.words.length yc1] (cc (hO.l1 0 0 47 (.slice yp1 yd1.words.length yc1)) c0) ?_
     clear hA fr; intro fr hA
     rcases Bool.eq_false_or_eq_true (decide (((yd1.words.length : Nat) : Int) > 8)) with h4 | h4
     · rw [h4] at hA
       have h4p := of_decide_eq_true h4
       refine ck (l := (rg 5 9)) (r := []) (e' := [(0, .slice (some ad1) l.length c), (2, bl false), (3, i64 ((i : Nat) : Int)), (4, i64 ((k : Nat) : Int)), (5, pt b1), (51, bl true)]) hA [] c0 ?_
       clear hA fr; intro fr hA
       refine end_ops ?_
       refine then_normal ?_
       refine cT hA ?_
       refine sC (e' := [(0, .slice (some ad1) l.length c), (2, bl false), (3, i64 ((i : Nat) : Int)), (4, i64 ((k : Nat) : Int))]) 1 hA [] c0 ?_
       clear hA fr; intro fr hA
       refine wp_ret ?_
       refine then_ret ?_
       refine inBlock_ret ?_
       refine then_ret ?_
       refine then_ret ?_
       refine inBlock_ret ?_
       refine inBlock_ret ?_
       refine then_ret ?_
       refine then_ret ?_
       refine inBlock_ret ?_
       refine then_ret ?_
       refine cR (cs := [none]) (us := [bl false]) hA [] trivial ?_
       have hF := hO.only; clear hA hO
       refine ⟨congrArg (fun b => Ending.returned (.bool b)) ?_, hF⟩
       first | (rw [fewL_yes (all_end ho (by omega))]; exact decide_eq_decide.2 (by omega)) | exact (fewL_no hx1 (fewJ_bad (by omega))).symm | (refine (fewL_no hx1 (fewJ_no hy1 ?_)).symm; show fewC yd1 = false; first | exact fewC_word (by assumption) (by omega) | exact fewC_no (by omega))
     rw [h4] at hA
     have h4p := of_decide_eq_false h4
     refine ck (l := (rg 5 9)) (r := []) (e' := [(0, .slice (some ad1) l.length c), (2, bl false), (3, i64 ((i : Nat) : Int)), (4, i64 ((k : Nat) : Int)), (5, pt b1), (51, bl (decide ((((yd1.inp.size : Nat) : Int) + ((yd1.out.size : Nat) : Int)) > 300)))]) hA [str yd1.inp, str yd1.out, bl true] (cc (hO.l1 0 1 9 (str yd1.inp)) (cc (hO.l1 0 2 9 (str yd1.out)) (cc ((inK_i64 (by omega) (by omega)) : inK .i64 (((yd1.inp.size : Nat) : Int) + ((yd1.out.size : Nat) : Int))) c0))) ?_
     clear hA fr; intro fr hA
     refine end_ops ?_
     refine then_normal ?_
     rcases Bool.eq_false_or_eq_true (decide ((((yd1.inp.size : Nat) : Int) + ((yd1.out.size : Nat) : Int)) > 300)) with h5 | h5
     · rw [h5] at hA
       have h5p := of_decide_eq_true h5
       refine cT hA ?_
       refine sC (e' := [(0, .slice (some ad1) l.length c), (2, bl false), (3, i64 ((i : Nat) : Int)), (4, i64 ((k : Nat) : Int))]) 1 hA [] c0 ?_
       clear hA fr; intro fr hA
       refine wp_ret ?_
       refine then_ret ?_
       refine inBlock_ret ?_
       refine then_ret ?_
       refine then_ret ?_
       refine inBlock_ret ?_
       refine inBlock_ret ?_
       refine then_ret ?_
       refine then_ret ?_
       refine inBlock_ret ?_
       refine then_ret ?_
       refine cR (cs := [none]) (us := [bl false]) hA [] trivial ?_
       have hF := hO.only; clear hA hO
       refine ⟨congrArg (fun b => Ending.returned (.bool b)) ?_, hF⟩
       first | (rw [fewL_yes (all_end ho (by omega))]; exact decide_eq_decide.2 (by omega)) | exact (fewL_no hx1 (fewJ_bad (by omega))).symm | (refine (fewL_no hx1 (fewJ_no hy1 ?_)).symm; show fewC yd1 = false; first | exact fewC_word (by assumption) (by omega) | exact fewC_no (by omega))
     rw [h5] at hA
     have h5p := of_decide_eq_false h5
     refine cF hA ?_
     refine wp_skip ?_
     refine then_normal ?_
     refine sC (e' := [(0, .slice (some ad1) l.length c), (2, bl false), (3, i64 ((i : Nat) : Int)), (4, i64 ((k : Nat) : Int)), (5, pt b1), (6, i64 0)]) 1 hA [] c0 ?_
     clear hA fr; intro fr hA
     refine wp_block ?_
     refine c_loop (fun mm fr W => ∃ (j : Nat), mm = yd1.words.length - j ∧ Holds 69 [] fr [(0, .slice (some ad1) l.length c), (2, bl false), (3, i64 ((i : Nat) : Int)), (4, i64 ((k : Nat) : Int)), (5, pt b1), (6, i64 ((j : Nat) : Int))] ∧ Ow Try.prog none' w W [(b1, 49, [.slice yp1 yd1.words.length yc1, str yd1.inp, str yd1.out, bl yd1.app])] ∧ j ≤ yd1.words.length ∧ (yd1.words.take j).all (fun u => decide (u.size ≤ 100)) = true ∧ True) ?_ ?_
     · exact ⟨_, 0, rfl, (hA.sub (e' := [(0, .slice (some ad1) l.length c), (2, bl false), (3, i64 ((i : Nat) : Int)), (4, i64 ((k : Nat) : Int)), (5, pt b1), (6, i64 0)]) [0, 2, 3, 4, 5, 6] (by kernel_rfl)).cast (by kernel_rfl), hO.to, (Nat.zero_le _), rfl, trivial⟩
     rintro _ fr w5 ⟨j, rfl, hA, hO, hi_j, hoj, -⟩
     refine wp_seq ?_
     refine sC (e' := [(0, .slice (some ad1) l.length c), (2, bl false), (3, i64 ((i : Nat) : Int)), (4, i64 ((k : Nat) : Int)), (5, pt b1), (6, i64 ((j : Nat) : Int)), (56, bl (decide (((j : Nat) : Int) < ((yd1.words.length : Nat) : Int))))]) 5 hA [.slice yp1 yd1.words.length yc1] (cc (hO.l1 0 0 47 (.slice yp1 yd1.words.length yc1)) c0) ?_
     clear hA fr; intro fr hA
     rcases Bool.eq_false_or_eq_true (decide (((j : Nat) : Int) < ((yd1.words.length : Nat) : Int))) with h6 | h6
     · rw [h6] at hA
       have h6p := of_decide_eq_true h6
       obtain ⟨ad3, rfl⟩ := (hvy1).pos (by omega)
       obtain ⟨z1, hz1⟩ : ∃ x, yd1.words[j]? = some x := ⟨_, getD_at _ ⟨#[]⟩ (by omega)⟩
       have hszz1 := smC.at hsc1 hz1
       refine cT hA ?_
       refine wp_skip ?_
       refine then_normal ?_
       refine wp_seq ?_
       refine wp_block ?_
       refine sC (e' := [(0, .slice (some ad1) l.length c), (2, bl false), (3, i64 ((i : Nat) : Int)), (4, i64 ((k : Nat) : Int)), (5, pt b1), (6, i64 ((j : Nat) : Int)), (65, bl (decide (((z1.size : Nat) : Int) > 100)))]) 7 hA [.slice (some ad3) yd1.words.length yc1, str z1] (cc (hO.l1 0 0 47 (.slice (some ad3) yd1.words.length yc1)) (cc (⟨by omega, by omega⟩ : (0 : Int) ≤ ((j : Nat) : Int) ∧ ((j : Nat) : Int) < ((yd1.words.length : Nat) : Int)) (cc (((hvy1.keep hO.only).ldT hz1) : Ld Try.prog w5 (ad3.add j) 9 (str z1)) c0))) ?_
       clear hA fr; intro fr hA
       rcases Bool.eq_false_or_eq_true (decide (((z1.size : Nat) : Int) > 100)) with h7 | h7
       · rw [h7] at hA
         have h7p := of_decide_eq_true h7
         refine cT hA ?_
         refine sC (e' := [(0, .slice (some ad1) l.length c), (2, bl false), (3, i64 ((i : Nat) : Int)), (4, i64 ((k : Nat) : Int)), (5, pt b1), (6, i64 ((j : Nat) : Int))]) 1 hA [] c0 ?_
         clear hA fr; intro fr hA
         refine wp_ret ?_
         refine inBlock_ret ?_
         refine then_ret ?_
         refine then_ret ?_
         refine inBlock_ret ?_
         refine inBlock_ret ?_
         refine then_ret ?_
         refine then_ret ?_
         refine inBlock_ret ?_
         refine inBlock_ret ?_
         refine then_ret ?_
         refine then_ret ?_
         refine inBlock_ret ?_
         refine then_ret ?_
         refine cR (cs := [none]) (us := [bl false]) hA [] trivial ?_
         have hF := hO.only; clear hA hO
         refine ⟨congrArg (fun b => Ending.returned (.bool b)) ?_, hF⟩
         first | (rw [fewL_yes (all_end ho (by omega))]; exact decide_eq_decide.2 (by omega)) | exact (fewL_no hx1 (fewJ_bad (by omega))).symm | (refine (fewL_no hx1 (fewJ_no hy1 ?_)).symm; show fewC yd1 = false; first | exact fewC_word (by assumption) (by omega) | exact fewC_no (by omega))
       rw [h7] at hA
       have h7p := of_decide_eq_false h7
       refine cF hA ?_
       refine wp_skip ?_
       refine inBlock_normal ?_
       refine then_normal ?_
       refine rC (e' := [(0, .slice (some ad1) l.length c), (2, bl false), (3, i64 ((i : Nat) : Int)), (4, i64 ((k : Nat) : Int)), (5, pt b1), (6, i64 (((j : Nat) : Int) + 1))]) 3 hA [bl true] (cc ((inK_i64 (by omega) (by omega)) : inK .i64 (((j : Nat) : Int) + 1)) c0) ?_
       clear hA fr; intro fr hA
       refine then_normal ?_
       exact ⟨_, by omega, j + 1, rfl, (hA.sub (e' := [(0, .slice (some ad1) l.length c), (2, bl false), (3, i64 ((i : Nat) : Int)), (4, i64 ((k : Nat) : Int)), (5, pt b1), (6, i64 (((j : Nat) : Int) + 1))]) [0, 2, 3, 4, 5, 6] (by kernel_rfl)).cast (by kernel_rfl), hO.to, (by omega), (all_step hoj (by assumption) (decide_eq_true (by omega))), trivial⟩
     rw [h6] at hA
     have h6p := of_decide_eq_false h6
     refine cF hA ?_
     refine wp_exit ?_
     refine then_exit ?_
     refine then_exit ?_
     refine inBlock_exit ?_
     refine inBlock_normal ?_
     refine then_normal ?_
     refine rC (e' := [(0, .slice (some ad1) l.length c), (2, bl false), (3, i64 ((i : Nat) : Int)), (4, i64 (((k : Nat) : Int) + 1))]) 3 hA [bl true] (cc ((inK_i64 (by omega) (by omega)) : inK .i64 (((k : Nat) : Int) + 1)) c0) ?_
     clear hA fr; intro fr hA
     refine then_normal ?_
     exact ⟨_, by omega, k + 1, rfl, (hA.sub (e' := [(0, .slice (some ad1) l.length c), (2, bl false), (3, i64 ((i : Nat) : Int)), (4, i64 (((k : Nat) : Int) + 1))]) [0, 2, 3, 4] (by kernel_rfl)).cast (by kernel_rfl), (hO.sub []), (by omega), (all_step hok hy1 (show fewC yd1 = true from fewC_yes (by omega) (all_end hoj (by omega)))), trivial⟩
   rw [h3] at hA
   have h3p := of_decide_eq_false h3
   refine cF hA ?_
   refine wp_exit ?_
   refine then_exit ?_
   refine then_exit ?_
   refine inBlock_exit ?_
   refine inBlock_normal ?_
   refine then_normal ?_
   refine rC (e' := [(0, .slice (some ad1) l.length c), (2, bl false), (3, i64 (((i : Nat) : Int) + 1))]) 3 hA [bl true] (cc ((inK_i64 (by omega) (by omega)) : inK .i64 (((i : Nat) : Int) + 1)) c0) ?_
   clear hA fr; intro fr hA
   refine then_normal ?_
   exact ⟨_, by omega, i + 1, rfl, (hA.sub (e' := [(0, .slice (some ad1) l.length c), (2, bl false), (3, i64 (((i : Nat) : Int) + 1))]) [0, 2, 3] (by kernel_rfl)).cast (by kernel_rfl), hO.to, (by omega), (all_step ho hx1 (fewJ_yes (by omega) (all_end hok (by omega)))), trivial⟩
 rw [h1] at hA
 have h1p := of_decide_eq_false h1
 refine cF hA ?_
 refine wp_exit ?_
 refine then_exit ?_
 refine then_exit ?_
 refine inBlock_exit ?_
 refine then_normal ?_
 refine sC (e' := [(2, bl (decide (((l.length : Nat) : Int) ≤ 12)))]) 4 hA [] c0 ?_
 clear hA fr; intro fr hA
 refine wp_ret ?_
 refine cR (cs := [none]) (us := [bl (decide (((l.length : Nat) : Int) ≤ 12))]) hA [] trivial ?_
 have hF := hO.only; clear hA hO
 refine ⟨congrArg (fun b => Ending.returned (.bool b)) ?_, hF⟩
 first | (rw [fewL_yes (all_end ho (by omega))]; exact decide_eq_decide.2 (by omega)) | exact (fewL_no hx1 (fewJ_bad (by omega))).symm | (refine (fewL_no hx1 (fewJ_no hy1 ?_)).symm; show fewC yd1 = false; first | exact fewC_word (by assumption) (by omega) | exact fewC_no (by omega))

end Go.Proofs.Ytfhcpegemapbkaa
