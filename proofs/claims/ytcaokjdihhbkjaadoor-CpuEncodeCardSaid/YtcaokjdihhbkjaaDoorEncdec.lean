/- The layer cpu: walks of an encoding is read back. -/
import Derived.Test.YtcaokjdihhbkjaaDoorLDecode
set_option linter.unusedVariables false
set_option linter.unusedSimpArgs false
set_option maxRecDepth 10000
namespace Go.Proofs.YtcaokjdihhbkjaaDoor
open Go Go.RowKit Go.Proofs.Sx

theorem enc_dec {o a b c v : Int} (h : legalB o a b c v = true) : decX (encX o a b c v) = some (o, a, b, c, v) := by
  obtain ⟨ho, ha, hb, hc, hv, hc2⟩ := legal_spec h
  have h' := h
  simp only [legalB, legC, legV, Bool.and_eq_true] at h'
  obtain ⟨_, h1, h2, h3, h4⟩ := h'
  have eo : IntKind.u8.wrap o = o := (inK_u8 (by omega) (by omega)).wrap
  have ea : IntKind.u8.wrap a = a := (inK_u8 (by omega) (by omega)).wrap
  have eb : IntKind.u8.wrap b = b := (inK_u8 (by omega) (by omega)).wrap
  simp only [encX, decX, decS, decF, eo, ea, eb]
  rw [if_pos ho]
  have key : (cond (opV o) (o, a, (0 : Int), (0 : Int), IntKind.i16.wrap ((cond (opV o) (IntKind.u8.wrap (v / 256)) b) * 256 + cond (opV o) (IntKind.u8.wrap v) (IntKind.u8.wrap c)))
      (cond (opS o) (o, a, (cond (opV o) (IntKind.u8.wrap (v / 256)) b), IntKind.i8.wrap (cond (opV o) (IntKind.u8.wrap v) (IntKind.u8.wrap c)), (0 : Int)) (o, a, (cond (opV o) (IntKind.u8.wrap (v / 256)) b), cond (opV o) (IntKind.u8.wrap v) (IntKind.u8.wrap c), (0 : Int)))) = (o, a, b, c, v) := by
    obtain ⟨iA, iB, iV, iS⟩ := op_iff o
    cases hV : opV o with
    | true =>
      have hVo := iV.1 hV
      have hB : opB o = false := by cases hh : opB o with | false => rfl | true => have := iB.1 hh; omega
      have hS : opS o = false := by cases hh : opS o with | false => rfl | true => have := iS.1 hh; omega
      rw [hB] at h2
      rw [hS, cond_false, hB] at h3
      simp only [regB, Bool.false_and, Bool.or_false, beq_iff_eq] at h2 h3
      subst h2; subst h3
      simp only [cond_true, Prod.mk.injEq, true_and]
      rw [u8_mod, u8_mod]
      by_cases hn : 0 ≤ v
      · rw [i16_lo (by omega) (by omega)]; omega
      · rw [i16_hi (by omega) (by omega)]; omega
    | false =>
      rw [hV] at h4
      simp only [Bool.false_and, Bool.or_false, beq_iff_eq] at h4
      subst h4
      cases hS : opS o with
      | true =>
        simp only [cond_false, cond_true, Prod.mk.injEq, true_and, and_true]
        rw [u8_mod]
        by_cases hn : 0 ≤ c
        · rw [i8_lo (by omega) (by omega)]; omega
        · rw [i8_hi (by omega) (by omega)]; omega
      | false =>
        rw [hS, cond_false] at h3
        have := regB_spec h3
        simp only [cond_false, Prod.mk.injEq, true_and, and_true]
        exact (inK_u8 (by omega) (by omega)).wrap
  rw [key]
  simp only [h, if_true]
theorem execX_enc (R : Nat → Int) (pc ld : Int) {o a b c v : Int} (h : legalB o a b c v = true) : execX R pc ld (encX o a b c v) = execV R pc ld o a b c v := by
  unfold execX; rw [enc_dec h]

end Go.Proofs.YtcaokjdihhbkjaaDoor
