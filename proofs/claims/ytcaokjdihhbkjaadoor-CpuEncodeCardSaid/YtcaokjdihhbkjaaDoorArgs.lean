/-
  The arguments of the laws of layer 16: registers and instructions.
-/
import Derived.Test.YtcaokjdihhbkjaaDoorBase
import Derived.Test.YtcaokjdihhbkjaaDoorFr
set_option linter.unusedVariables false
set_option linter.unusedSimpArgs false
set_option maxRecDepth 100000
namespace Go.Proofs.YtcaokjdihhbkjaaDoor
open Go Go.ChangeShapes Go.WideShapes Go.ChangeAt Go.RowKit Go.Proofs.Sx Go.Proofs.Fr
def structOf (P : Program) (t : TypeId) : Array Field := match P.underlying t with | some (.struct fs) => fs | _ => #[]
theorem under38 : Tryd.prog.underlying 38 = some (.struct (structOf Tryd.prog 38)) := by kernel_rfl
theorem under29 : Tryd.prog.underlying 29 = some (.struct (structOf Tryd.prog 29)) := by kernel_rfl
section
variable {H : Type} {enc : TypeId × Value → H} {W : World} {base : Nat}
theorem regs_arg {t : TypeId} {fs : Array Field} {v : Value} {d : DataW H} {p : List MemPlace} (hs : Tryd.prog.underlying t = some (.struct fs)) (hc : Tryd.prog.cellsOf t = 17)
    (hk : ((List.range 16).all fun j => kindAt Tryd.prog 8 t j == some .i32) = true) (hk' : kindAt Tryd.prog 8 t 16 = some .i64) (hv : Value.okWide Tryd.prog W .any base t v) (h : DataW.Trod enc Tryd.prog W 0 (fun _ => true) true t v d p) :
    ∃ R pc, v = .agg (regsL R pc).toArray ∧ RegsOk R ∧ inK .i64 pc := by
  obtain ⟨cs, rfl, hsz⟩ := okWide_struct hs hv
  rw [hc] at hsz
  obtain ⟨fuel, hf⟩ := h
  have hf' : DataW.trod enc Tryd.prog W 0 (fun _ => true) true fuel t cs.toList = some (d, p) := hf
  have at16 : ∀ j, j < 16 → ∃ n, cs.toList[j]? = some (.int .i32 n) ∧ (Lit.int .i32 n).wf = true := fun j hj =>
    trod_int_at 8 t fuel _ _ j .i32 (by simpa using List.all_eq_true.1 hk j (List.mem_range.2 hj)) hf'
  obtain ⟨pc, hpc, wpc⟩ := trod_int_at 8 t fuel _ _ 16 .i64 hk' hf'
  refine ⟨fun i => if i < 16 then intAt cs.toList i else 0, pc, ?_, ?_, wf_inK wpc⟩
  · congr 1
    apply Array.toList_inj.1
    apply List.ext_getElem?
    intro j
    rcases Nat.lt_trichotomy j 16 with hj | rfl | hj
    · obtain ⟨n, hn, _⟩ := at16 j hj
      rw [hn]
      show _ = (regsL _ pc)[j]?
      rw [regsL_get hj, if_pos hj]
      simp only [intAt, hn]
    · rw [hpc]; rfl
    · rw [List.getElem?_eq_none (by simp [hsz]; omega)]
      show _ = (regsL _ pc)[j]?
      rw [List.getElem?_eq_none (by rw [regsL_len]; omega)]
  · intro i
    by_cases hi : i < 16
    · obtain ⟨n, hn, hw⟩ := at16 i hi
      simp only [if_pos hi, intAt, hn]
      exact wf_inK hw
    · simp only [if_neg hi]; exact inK_i32 (by decide) (by decide)
theorem ins_arg {t : TypeId} {fs : Array Field} {v : Value} {d : DataW H} {p : List MemPlace} (hs : Tryd.prog.underlying t = some (.struct fs)) (hc : Tryd.prog.cellsOf t = 5)
    (hk : ((List.range 5).all fun j => kindAt Tryd.prog 8 t j == some .i64) = true) (hv : Value.okWide Tryd.prog W .any base t v) (h : DataW.Trod enc Tryd.prog W 0 (fun _ => true) true t v d p) :
    ∃ o a b c x, v = insV o a b c x ∧ inK .i64 o ∧ inK .i64 a ∧ inK .i64 b ∧ inK .i64 c ∧ inK .i64 x := by
  obtain ⟨cs, rfl, hsz⟩ := okWide_struct hs hv
  rw [hc] at hsz
  obtain ⟨fuel, hf⟩ := h
  have hf' : DataW.trod enc Tryd.prog W 0 (fun _ => true) true fuel t cs.toList = some (d, p) := hf
  have at5 : ∀ j, j < 5 → ∃ n, cs.toList[j]? = some (.int .i64 n) ∧ (Lit.int .i64 n).wf = true := fun j hj =>
    trod_int_at 8 t fuel _ _ j .i64 (by simpa using List.all_eq_true.1 hk j (List.mem_range.2 hj)) hf'
  obtain ⟨o, ho, wo⟩ := at5 0 (by decide)
  obtain ⟨a, ha, wa⟩ := at5 1 (by decide)
  obtain ⟨b, hb, wb⟩ := at5 2 (by decide)
  obtain ⟨c, hc', wc⟩ := at5 3 (by decide)
  obtain ⟨x, hx, wx⟩ := at5 4 (by decide)
  refine ⟨o, a, b, c, x, ?_, wf_inK wo, wf_inK wa, wf_inK wb, wf_inK wc, wf_inK wx⟩
  obtain ⟨l⟩ := cs
  match l, hsz with
  | [c0, c1, c2, c3, c4], _ =>
    simp at ho ha hb hc' hx
    subst ho ha hb hc' hx
    rfl
end
end Go.Proofs.YtcaokjdihhbkjaaDoor
