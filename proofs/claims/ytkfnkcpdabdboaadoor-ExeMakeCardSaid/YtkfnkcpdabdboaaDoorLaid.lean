/-
  What is laid reads as laid: variables further on in the list.
-/
import Derived.Test.YtkfnkcpdabdboaaDoorFr
set_option linter.unusedVariables false
namespace Go.Proofs.Fr
open Go Go.RowKit Go.Proofs.Sx
section
variable {P : Program} {w : World} {name : String} {D : DataW Unit} {rest : List (String × DataW Unit)} {ps : List MemPlace} {g : Nat} {t : TypeId} {cs : List Value}
theorem lv_of {laid : List (String × DataW Unit)} (h : laidMet P laid w) : ∃ ps, DataW.LaidVars P w laid ps := ⟨_, h.choose_spec.1⟩
theorem lv_tail (h : ∃ ps, DataW.LaidVars P w ((name, D) :: rest) ps) : ∃ ps, DataW.LaidVars P w rest ps := by
  obtain ⟨ps, g', t', cs', fu', p', q, _, _, _, _, hr, _⟩ := h
  exact ⟨q, hr⟩
theorem lv_var (h : ∃ ps, DataW.LaidVars P w ((name, D) :: rest) ps) (hg : P.globalNamed name = some g) (ht : (P.globals[g]?).map (·.type) = some t) (m fu : Nat) {p : List MemPlace} (hp : plainT P m t = true)
    (hd : DataW.trod (fun _ => ()) P w 0 (fun _ => true) false fu t cs = some (D, p)) : w.var? P name = some cs.toArray := by
  obtain ⟨ps, g', t', cs', fu', p', q, hg', ht', hvar, hd', _, _⟩ := h
  obtain rfl := Option.some.inj (hg.symm.trans hg')
  obtain rfl := Option.some.inj (ht.symm.trans ht')
  have e := trod_inj m t fu' fu _ _ D p' p hp hd' hd
  rw [hvar, ← e]
theorem lv_cells (h : ∃ ps, DataW.LaidVars P w ((name, D) :: rest) ps) (hg : P.globalNamed name = some g) (ht : (P.globals[g]?).map (·.type) = some t) (m fu : Nat) {p : List MemPlace} (hp : plainT P m t = true)
    (hd : DataW.trod (fun _ => ()) P w 0 (fun _ => true) false fu t cs = some (D, p)) : ∀ (j : Nat) (v : Value), cs[j]? = some v → w.cell? ⟨g, j, none⟩ = some v := by
  have hv := lv_var h hg ht m fu hp hd
  intro j v hj
  have := World.var?_cell hg hv j
  rw [this, ← hj]
  simp
end
end Go.Proofs.Fr
