/-
  Plain laws of bits: sums of 'and', 'or', 'xor' of two words.
-/
import Derived.Test.YtcaokjdihhbkjaaDoorWord
set_option linter.unusedVariables false
namespace Go.Proofs.YtcaokjdihhbkjaaDoor
open Go Go.Proofs.Sx
theorem bit_div (x k : Nat) : x / 2 ^ k % 2 = (x.testBit k).toNat := (Nat.toNat_testBit x k).symm
theorem and_or_bit (a b k : Nat) : (a &&& b) / 2 ^ k % 2 + (a ||| b) / 2 ^ k % 2 = a / 2 ^ k % 2 + b / 2 ^ k % 2 := by
  simp only [bit_div, Nat.testBit_and, Nat.testBit_or]
  cases a.testBit k <;> cases b.testBit k <;> rfl
theorem xor_bit (a b k : Nat) : (a ^^^ b) / 2 ^ k % 2 + (a &&& b) / 2 ^ k % 2 = (a ||| b) / 2 ^ k % 2 := by
  simp only [bit_div, Nat.testBit_and, Nat.testBit_or, Nat.testBit_xor]
  cases a.testBit k <;> cases b.testBit k <;> rfl
theorem and_or_mod (a b : Nat) : ∀ k, (a &&& b) % 2 ^ k + (a ||| b) % 2 ^ k = a % 2 ^ k + b % 2 ^ k
  | 0 => by simp [Nat.mod_one]
  | k + 1 => by
    have h := and_or_mod a b k
    have h2 := and_or_bit a b k
    simp only [Nat.mod_pow_succ]
    have : 2 ^ k * ((a &&& b) / 2 ^ k % 2) + 2 ^ k * ((a ||| b) / 2 ^ k % 2) = 2 ^ k * (a / 2 ^ k % 2) + 2 ^ k * (b / 2 ^ k % 2) := by rw [← Nat.mul_add, ← Nat.mul_add, h2]
    omega
theorem xor_mod (a b : Nat) : ∀ k, (a ^^^ b) % 2 ^ k + (a &&& b) % 2 ^ k = (a ||| b) % 2 ^ k
  | 0 => by simp [Nat.mod_one]
  | k + 1 => by
    have h := xor_mod a b k
    have h2 := xor_bit a b k
    simp only [Nat.mod_pow_succ]
    have : 2 ^ k * ((a ^^^ b) / 2 ^ k % 2) + 2 ^ k * ((a &&& b) / 2 ^ k % 2) = 2 ^ k * ((a ||| b) / 2 ^ k % 2) := by rw [← Nat.mul_add, h2]
    omega
theorem i32_top {n : Nat} (h : n < 4294967296) : IntKind.i32.wrap (n : Int) = (n : Int) - 4294967296 * ((n / 2147483648 % 2 : Nat) : Int) := by
  by_cases hn : n < 2147483648
  · rw [(inK_i32 (by omega) (by omega)).wrap]; omega
  · rw [i32_congr (y := (n : Int) - 4294967296) (by omega), (inK_i32 (by omega) (by omega)).wrap]; omega
theorem i32_nat {a : Int} (h : inK .i32 a) : a = ((BitVec.ofInt 32 a).toNat : Int) - 4294967296 * (((BitVec.ofInt 32 a).toNat / 2147483648 % 2 : Nat) : Int) := by
  have h1 : -2147483648 ≤ a ∧ a ≤ 2147483647 := h
  have e : ((BitVec.ofInt 32 a).toNat : Int) = a % 4294967296 := by
    rw [BitVec.toNat_ofInt]; omega
  omega
theorem bits_sum {a b : Int} (ha : inK .i32 a) (hb : inK .i32 b) : bits .and .i32 a b + bits .or .i32 a b = a + b := by
  have e1 : bits .and .i32 a b = IntKind.i32.wrap ((BitVec.ofInt 32 a &&& BitVec.ofInt 32 b).toNat : Int) := rfl
  have e2 : bits .or .i32 a b = IntKind.i32.wrap ((BitVec.ofInt 32 a ||| BitVec.ofInt 32 b).toNat : Int) := rfl
  rw [e1, e2, i32_top (BitVec.isLt _), i32_top (BitVec.isLt _)]
  have h1 := i32_nat ha
  have h2 := i32_nat hb
  have g1 := and_or_mod (BitVec.ofInt 32 a).toNat (BitVec.ofInt 32 b).toNat 32
  have g2 := and_or_bit (BitVec.ofInt 32 a).toNat (BitVec.ofInt 32 b).toNat 31
  rw [BitVec.toNat_and, BitVec.toNat_or]
  have l1 := (BitVec.ofInt 32 a).isLt
  have l2 := (BitVec.ofInt 32 b).isLt
  have l3 := (BitVec.ofInt 32 a &&& BitVec.ofInt 32 b).isLt
  have l4 := (BitVec.ofInt 32 a ||| BitVec.ofInt 32 b).isLt
  rw [BitVec.toNat_and] at l3
  rw [BitVec.toNat_or] at l4
  rw [Nat.mod_eq_of_lt l1, Nat.mod_eq_of_lt l2, Nat.mod_eq_of_lt l3, Nat.mod_eq_of_lt l4] at g1
  rw [show (2 : Nat) ^ 31 = 2147483648 from rfl] at g2
  generalize (BitVec.ofInt 32 a).toNat = A at *
  generalize (BitVec.ofInt 32 b).toNat = B at *
  generalize A &&& B = C at *
  generalize A ||| B = D at *
  generalize A / 2147483648 % 2 = tA at *
  generalize B / 2147483648 % 2 = tB at *
  generalize C / 2147483648 % 2 = tC at *
  generalize D / 2147483648 % 2 = tD at *
  omega
theorem bits_xor {a b : Int} (ha : inK .i32 a) (hb : inK .i32 b) : bits .xor .i32 a b = bits .or .i32 a b - bits .and .i32 a b := by
  have e0 : bits .xor .i32 a b = IntKind.i32.wrap ((BitVec.ofInt 32 a ^^^ BitVec.ofInt 32 b).toNat : Int) := rfl
  have e1 : bits .and .i32 a b = IntKind.i32.wrap ((BitVec.ofInt 32 a &&& BitVec.ofInt 32 b).toNat : Int) := rfl
  have e2 : bits .or .i32 a b = IntKind.i32.wrap ((BitVec.ofInt 32 a ||| BitVec.ofInt 32 b).toNat : Int) := rfl
  rw [e0, e1, e2, i32_top (BitVec.isLt _), i32_top (BitVec.isLt _), i32_top (BitVec.isLt _)]
  have g1 := xor_mod (BitVec.ofInt 32 a).toNat (BitVec.ofInt 32 b).toNat 32
  have g2 := xor_bit (BitVec.ofInt 32 a).toNat (BitVec.ofInt 32 b).toNat 31
  rw [BitVec.toNat_and, BitVec.toNat_or, BitVec.toNat_xor]
  have l3 := (BitVec.ofInt 32 a &&& BitVec.ofInt 32 b).isLt
  have l4 := (BitVec.ofInt 32 a ||| BitVec.ofInt 32 b).isLt
  have l5 := (BitVec.ofInt 32 a ^^^ BitVec.ofInt 32 b).isLt
  rw [BitVec.toNat_and] at l3
  rw [BitVec.toNat_or] at l4
  rw [BitVec.toNat_xor] at l5
  generalize (BitVec.ofInt 32 a).toNat = A at *
  generalize (BitVec.ofInt 32 b).toNat = B at *
  generalize A &&& B = C at *
  generalize A ||| B = D at *
  generalize A ^^^ B = E at *
  omega
theorem tri (a b : Int) : ((cond (decide (a < b)) 1 0 : Int) + (cond (a == b) 1 0 : Int) + (cond (decide (b < a)) 1 0 : Int) == 1) = true := by
  rcases Int.lt_trichotomy a b with h | h | h
  · rw [decide_eq_true h, decide_eq_false (show ¬ b < a by omega), beq_false_of_ne (show a ≠ b by omega)]; rfl
  · rw [decide_eq_false (show ¬ a < b by omega), decide_eq_false (show ¬ b < a by omega), beq_iff_eq.2 h]; rfl
  · rw [decide_eq_true h, decide_eq_false (show ¬ a < b by omega), beq_false_of_ne (show a ≠ b by omega)]; rfl
theorem one_eq (x : Bool) : (((cond x 1 0 : Int) == 1) == x) = true := by cases x <;> rfl
end Go.Proofs.YtcaokjdihhbkjaaDoor
