/- The layer cpu: walks of the law CpuArithmetic. -/
import Derived.Test.YtcaokjdihhbkjaaDoorEncode
set_option linter.unusedVariables false
set_option linter.unusedSimpArgs false
set_option maxRecDepth 10000
namespace Go.Proofs.YtcaokjdihhbkjaaDoor
open Go Go.RowKit Go.Proofs.Sx

theorem rgs2_ok' {a b : Int} (ha : inK .i32 a) (hb : inK .i32 b) : RegsOk (rgs [0, a, b]) := rgs_ok fun x hx => by
  simp only [List.mem_cons, List.not_mem_nil, or_false] at hx
  rcases hx with rfl | rfl | rfl
  · decide
  · exact ha
  · exact hb
theorem i32_q (x : Int) : ∃ q, IntKind.i32.wrap x = x + 4294967296 * q := by
  have e : IntKind.i32.wrap x = if x % 4294967296 ≥ 2147483648 then x % 4294967296 - 4294967296 else x % 4294967296 := by
    simp [IntKind.wrap, IntKind.bits, IntKind.signed]
  rw [e]
  have h := Int.mul_ediv_add_emod x 4294967296
  split
  · exact ⟨-(x / 4294967296) - 1, by omega⟩
  · exact ⟨-(x / 4294967296), by omega⟩
theorem tz {x : Int} (h : ∃ q, x = 4294967296 * q) : (x.tmod 4294967296 != 0) = false := by
  obtain ⟨q, rfl⟩ := h
  rw [Int.mul_tmod_right]; rfl
theorem ar_add (a b : Int) : ((((IntKind.i32.wrap (a + b)) - a) - b).tmod 4294967296 != 0) = false := tz (by obtain ⟨q, h⟩ := i32_q (a + b); exact ⟨q, by omega⟩)
theorem ar_sub (a b : Int) : ((((IntKind.i32.wrap (a - b)) - a) + b).tmod 4294967296 != 0) = false := tz (by obtain ⟨q, h⟩ := i32_q (a - b); exact ⟨q, by omega⟩)
theorem ar_mul (a b : Int) : (((IntKind.i32.wrap (a * b)) - (a * b)).tmod 4294967296 != 0) = false := tz (by obtain ⟨q, h⟩ := i32_q (a * b); exact ⟨q, by omega⟩)
theorem ar_div (a b : Int) : (((((IntKind.i32.wrap (a.tdiv b)) * b) + (a.tmod b)) - a).tmod 4294967296 == 0) = true := by
  have h : ∃ q, (((IntKind.i32.wrap (a.tdiv b)) * b) + (a.tmod b)) - a = 4294967296 * q := by
    obtain ⟨q, h⟩ := i32_q (a.tdiv b)
    have h2 := Int.tmod_def a b
    refine ⟨q * b, ?_⟩
    rw [h, h2, Int.add_mul, Int.mul_assoc, Int.mul_comm (a.tdiv b) b]; omega
  have := tz h
  simpa using this
theorem tmod_abs {a b : Int} (h : b ≠ 0) : (a.tmod b).natAbs < b.natAbs := by rw [Int.natAbs_tmod]; exact Nat.mod_lt _ (by omega)
theorem ar_lt {a b : Int} (h : b ≠ 0) : decide ((a.tmod b) * (a.tmod b) < b * b) = true := decide_eq_true (by
  have h1 := tmod_abs (a := a) h
  have e : ∀ x : Int, x * x = ((x.natAbs * x.natAbs : Nat) : Int) := fun x => by rw [Int.natCast_mul, Int.natAbs_mul_self' x]
  rw [e, e]
  exact_mod_cast Nat.mul_lt_mul'' h1 h1)
theorem tmod_in {b c : Int} (hb : inK .i32 b) : inK .i32 (b.tmod c) := by
  have h1 : -2147483648 ≤ b ∧ b ≤ 2147483647 := hb
  have h2 : (b.tmod c).natAbs ≤ b.natAbs := by rw [Int.natAbs_tmod]; exact Nat.mod_le _ _
  have h3 : 0 ≤ b → 0 ≤ b.tmod c := fun h => Int.tmod_nonneg _ h
  have h4 : b ≤ 0 → b.tmod c ≤ 0 := fun h => by
    have := Int.tmod_nonneg (a := -b) c (by omega)
    rw [Int.neg_tmod] at this; omega
  exact inK_i32 (by omega) (by omega)
theorem ar_sgn {a b : Int} (h : ((a.tmod b) == 0) = false) : (decide (a.tmod b < 0) == decide (a < 0)) = true := by
  have hn : a.tmod b ≠ 0 := ne_of_beq_false h
  have h3 : 0 ≤ a → 0 ≤ a.tmod b := fun h => Int.tmod_nonneg _ h
  have h4 : a ≤ 0 → a.tmod b ≤ 0 := fun h => by
    have := Int.tmod_nonneg (a := -a) b (by omega)
    rw [Int.neg_tmod] at this; omega
  rw [beq_iff_eq, decide_eq_decide]; omega
theorem mul_b {b c : Int} (hb : inK .i32 b) (hc : inK .i32 c) : -4611686018427387904 ≤ b * c ∧ b * c ≤ 4611686018427387904 := by
  have h1 : -2147483648 ≤ b ∧ b ≤ 2147483647 := hb
  have h2 : -2147483648 ≤ c ∧ c ≤ 2147483647 := hc
  have h3 : (b * c).natAbs ≤ 2147483648 * 2147483648 := by
    rw [Int.natAbs_mul]; exact Nat.mul_le_mul (by omega) (by omega)
  omega

end Go.Proofs.YtcaokjdihhbkjaaDoor
