/-
  The arguments of the laws of layer 17: programs.
-/
import Derived.Test.YtkfnkcpdabdboaaDoorBase
import Derived.Test.YtkfnkcpdabdboaaDoorFr
set_option linter.unusedVariables false
set_option linter.unusedSimpArgs false
set_option maxRecDepth 100000
namespace Go.Proofs.Fr
open Go Go.ChangeShapes Go.WideShapes Go.ChangeAt Go.RowKit Go.Proofs.Sx
section
variable {H : Type} {enc : TypeId × Value → H} {P : Program}
/-- The type of what lies in cell j (no struct, no array). -/
def leafAt (P : Program) : Nat → TypeId → Nat → Option TypeId
  | 0, _, _ => none
  | m + 1, t, j => match P.underlying t with
    | some (.struct fs) => match fs.toList.find? (fun f => decide (f.offset ≤ j) && decide (j < f.offset + P.cellsOf f.type)) with
      | some f => leafAt P m f.type (j - f.offset)
      | none => none
    | some (.array _ _) => none
    | some _ => if j = 0 then some t else none
    | none => none
theorem trod_leaf {w : World} {base : Nat} {sp : Nat → Bool} {held : Bool} : ∀ (m : Nat) (t : TypeId) (fu : Nat) (cs : List Value) (x : DataW H × List MemPlace) (j : Nat) (u : TypeId), leafAt P m t j = some u →
    DataW.trod enc P w base sp held fu t cs = some x → ∃ fu' y k, DataW.trod enc P w base sp held fu' u ((cs.drop j).take k) = some y
  | 0, _, _, _, _, _, _, h, _ => by cases h
  | m + 1, t, fu, cs, x, j, u, h, h1 => by
    unfold leafAt at h
    split at h
    · rename_i fs ht
      split at h
      · rename_i f hf
        obtain ⟨xs, n, rfl, e, hl, hx, hg⟩ := DataW.trod_struct ht h1
        have hfm := List.mem_of_find?_eq_some hf
        have hfj := List.find?_some hf
        simp only [Bool.and_eq_true, decide_eq_true_eq] at hfj
        obtain ⟨i, hi⟩ := List.mem_iff_getElem?.1 hfm
        have hi' : fs[i]? = some f := by simpa using hi
        have hil : i < fs.size := (Array.getElem?_eq_some_iff.1 hi').1
        have g1 := hg i f hi'
        rw [List.getElem?_eq_getElem (by omega)] at g1
        obtain ⟨fu', y, k, hz⟩ := trod_leaf m f.type n _ _ _ u h g1
        refine ⟨fu', y, min k (P.cellsOf f.type - (j - f.offset)), ?_⟩
        rw [List.drop_take, List.take_take, List.drop_drop, show f.offset + (j - f.offset) = j by omega] at hz
        exact hz
      · cases h
    · cases h
    · split at h
      · rename_i hj
        simp only [Option.some.injEq] at h
        subst h; subst hj
        exact ⟨fu, x, cs.length, by simpa using h1⟩
      · cases h
    · cases h
theorem sl_cells {W : World} {t e : TypeId} (ht : P.underlying t = some (.slice e)) (he : P.underlying e = some (.int .u8)) (hc : P.cellsOf e = 1) {cs : List Value} {fuel : Nat} {y : DataW H × List MemPlace}
    (hf : DataW.trod enc P W 0 (fun _ => true) true fuel t cs = some y) : ∃ a cap xs, cs = [.slice a xs.length cap] ∧ SlI W (.slice a xs.length cap) xs ∧ xs.length ≤ cap := by
  obtain ⟨d, p⟩ := y
  rcases open_ints ht he hc hf with ⟨hcs, _⟩ | ⟨x, l, c, zs, hcs, _, hl, hm, hz, _, hcell, hwz⟩
  · exact ⟨none, 0, [], hcs, SlI.nil W, Nat.le_refl _⟩
  · have hz' : zs.length = c := by simpa using hz
    have hlen : (zs.take l).length = l := by simp; omega
    refine ⟨some x, c, zs.take l, by rw [hlen]; exact hcs, ⟨fun y hy => u8_wf (hwz y (List.mem_of_mem_take hy)), .inr ⟨x, c, rfl, fun i hi => ?_⟩⟩, by rw [hlen]; omega⟩
    rw [hlen] at hi
    rw [hcell i (by omega), List.getD_eq_getElem?_getD, List.getD_eq_getElem?_getD, List.getElem?_take, if_pos hi]
theorem one_at {cs : List Value} {j k : Nat} {v : Value} (h : (cs.drop j).take k = [v]) : cs[j]? = some v := by
  have := congrArg (·[0]?) h
  simp only [List.getElem?_take, List.getElem?_drop, Nat.add_zero] at this
  split at this
  · exact this
  · cases this
theorem file_arg {W : World} {base : Nat} {t sl e : TypeId} {fs : Array Field} {v : Value} {d : DataW H} {p : List MemPlace} (hs : P.underlying t = some (.struct fs)) (hc : P.cellsOf t = 4)
    (h0 : leafAt P 8 t 0 = some sl) (h1 : leafAt P 8 t 1 = some sl) (h2 : kindAt P 8 t 2 = some .i64) (h3 : kindAt P 8 t 3 = some .i64) (hsl : P.underlying sl = some (.slice e)) (he : P.underlying e = some (.int .u8)) (hce : P.cellsOf e = 1)
    (hv : Value.okWide P W .any base t v) (h : DataW.Trod enc P W 0 (fun _ => true) true t v d p) :
    ∃ (cp dp : Option Addr) (kc kd : Nat) (cs ds : List Int) (z et : Int), v = .agg #[.slice cp cs.length kc, .slice dp ds.length kd, .int .i64 z, .int .i64 et] ∧ SlI W (.slice cp cs.length kc) cs ∧ SlI W (.slice dp ds.length kd) ds ∧ cs.length ≤ kc ∧ ds.length ≤ kd ∧ inK .i64 z ∧ inK .i64 et := by
  obtain ⟨cs, rfl, hsz⟩ := okWide_struct hs hv
  rw [hc] at hsz
  obtain ⟨fuel, hf⟩ := h
  have hf' : DataW.trod enc P W 0 (fun _ => true) true fuel t cs.toList = some (d, p) := hf
  obtain ⟨_, _, _, g0⟩ := trod_leaf 8 t fuel _ _ 0 sl h0 hf'
  obtain ⟨_, _, _, g1⟩ := trod_leaf 8 t fuel _ _ 1 sl h1 hf'
  obtain ⟨z, g2, w2⟩ := trod_int_at 8 t fuel _ _ 2 .i64 h2 hf'
  obtain ⟨et, g3, w3⟩ := trod_int_at 8 t fuel _ _ 3 .i64 h3 hf'
  obtain ⟨a, c, xs, e0, s0, l0⟩ := sl_cells hsl he hce g0
  obtain ⟨a', c', ys, e1, s1, l1⟩ := sl_cells hsl he hce g1
  have q0 := one_at e0
  have q1 := one_at e1
  refine ⟨a, a', c, c', xs, ys, z, et, ?_, s0, s1, l0, l1, wf_inK w2, wf_inK w3⟩
  obtain ⟨l⟩ := cs
  match l, hsz with
  | [c0, c1, c2, c3], _ =>
    simp at q0 q1 g2 g3
    subst q0 q1 g2 g3
    rfl
end
end Go.Proofs.Fr
