/-
  Plain laws for the reference of layer 16: single bits, remainders of words.
-/
import Derived.Test.YtcaokjdihhbkjaaDoorEncdec
import Derived.Test.YtcaokjdihhbkjaaDoorWord
set_option linter.unusedVariables false
set_option linter.unusedSimpArgs false
namespace Go.Proofs.YtcaokjdihhbkjaaDoor
open Go Go.Proofs.Sx
def bt (a : Int) (k : Nat) : Int := a / 2 ^ k % 2
def bsum (f : Int → Int → Int) (a b : Int) : Nat → Int
  | 0 => 0
  | k + 1 => bsum f a b k + f (bt a k) (bt b k) * 2 ^ k
theorem bt_01 (a : Int) (k : Nat) : 0 ≤ bt a k ∧ bt a k ≤ 1 := by unfold bt; omega
def Bitly (f : Int → Int → Int) : Prop := ∀ x y, 0 ≤ x → x ≤ 1 → 0 ≤ y → y ≤ 1 → 0 ≤ f x y ∧ f x y ≤ 1
theorem bsum_lt {f : Int → Int → Int} (hf : Bitly f) (a b : Int) : ∀ k, 0 ≤ bsum f a b k ∧ bsum f a b k < 2 ^ k
  | 0 => by simp [bsum]
  | k + 1 => by
    have h := bsum_lt hf a b k
    have h1 := bt_01 a k; have h2 := bt_01 b k
    have h3 := hf _ _ h1.1 h1.2 h2.1 h2.2
    simp only [bsum]
    generalize f (bt a k) (bt b k) = z at *
    have hp : (2 : Int) ^ (k + 1) = 2 * 2 ^ k := by rw [Int.pow_succ, Int.mul_comm]
    have : z = 0 ∨ z = 1 := by omega
    rcases this with rfl | rfl <;> omega
theorem bt_nat (a : Int) {k : Nat} (hk : k < 32) : bt a k = (((BitVec.ofInt 32 a).toNat.testBit k).toNat : Int) := by
  have hd : (2 : Int) ^ 32 = 2 ^ k * (2 * 2 ^ (31 - k)) := by
    rw [← Int.mul_assoc, Int.mul_comm (2 ^ k) 2, Int.mul_assoc, ← Int.pow_add, show k + (31 - k) = 31 from by omega]; rfl
  have e : ((BitVec.ofInt 32 a).toNat : Int) = a % 2 ^ 32 := by rw [BitVec.toNat_ofInt]; omega
  rw [Nat.toNat_testBit]
  unfold bt
  have e2 : (((BitVec.ofInt 32 a).toNat / 2 ^ k % 2 : Nat) : Int) = (a % 2 ^ 32) / 2 ^ k % 2 := by
    rw [← e]; simp [Int.natCast_ediv, Int.natCast_emod, Int.natCast_pow]
  rw [e2]
  have h := Int.mul_ediv_add_emod a (2 ^ 32)
  have hp : (2 : Int) ^ k ≠ 0 := by have := Int.pow_pos (n := 2) (m := k) (by decide); omega
  conv => lhs; rw [← h]
  rw [hd, Int.mul_assoc, Int.add_comm, Int.add_mul_ediv_left _ _ hp, Int.mul_assoc]
  omega
theorem bsum_bits (f : Int → Int → Int) (g : Bool → Bool → Bool) (op : Nat → Nat → Nat) (hg : ∀ x y i, (op x y).testBit i = g (x.testBit i) (y.testBit i))
    (hf : ∀ x y : Bool, f (x.toNat : Int) (y.toNat : Int) = ((g x y).toNat : Int)) (a b : Int) : ∀ k, k ≤ 32 → bsum f a b k = ((op (BitVec.ofInt 32 a).toNat (BitVec.ofInt 32 b).toNat % 2 ^ k : Nat) : Int)
  | 0, _ => by simp [bsum, Nat.mod_one]
  | k + 1, hk => by
    have h := bsum_bits f g op hg hf a b k (by omega)
    simp only [bsum]
    rw [h, bt_nat a (by omega), bt_nat b (by omega), hf, ← hg, Nat.toNat_testBit, Nat.mod_pow_succ]
    push_cast
    rw [Int.mul_comm]
def fAnd (x y : Int) : Int := x * y
def fOr (x y : Int) : Int := max x y
def fXor (x y : Int) : Int := (x + y) % 2
theorem bitly_and : Bitly fAnd := fun x y h1 h2 h3 h4 => by
  unfold fAnd
  have : x = 0 ∨ x = 1 := by omega
  rcases this with rfl | rfl <;> omega
theorem bitly_or : Bitly fOr := fun x y h1 h2 h3 h4 => by unfold fOr; omega
theorem bitly_xor : Bitly fXor := fun x y h1 h2 h3 h4 => by unfold fXor; omega
theorem bsum_and (a b : Int) : IntKind.i32.wrap (bsum fAnd a b 32) = bits .and .i32 a b := by
  rw [bsum_bits fAnd Bool.and (· &&& ·) (fun x y i => Nat.testBit_and x y i) (fun x y => by cases x <;> cases y <;> rfl) a b 32 (by decide)]
  have l := (BitVec.ofInt 32 a &&& BitVec.ofInt 32 b).isLt
  rw [BitVec.toNat_and] at l
  rw [Nat.mod_eq_of_lt l, ← BitVec.toNat_and]; rfl
theorem bsum_or (a b : Int) : IntKind.i32.wrap (bsum fOr a b 32) = bits .or .i32 a b := by
  rw [bsum_bits fOr Bool.or (· ||| ·) (fun x y i => Nat.testBit_or x y i) (fun x y => by cases x <;> cases y <;> rfl) a b 32 (by decide)]
  have l := (BitVec.ofInt 32 a ||| BitVec.ofInt 32 b).isLt
  rw [BitVec.toNat_or] at l
  rw [Nat.mod_eq_of_lt l, ← BitVec.toNat_or]; rfl
theorem bsum_xor (a b : Int) : IntKind.i32.wrap (bsum fXor a b 32) = bits .xor .i32 a b := by
  rw [bsum_bits fXor Bool.xor (· ^^^ ·) (fun x y i => Nat.testBit_xor x y i) (fun x y => by cases x <;> cases y <;> rfl) a b 32 (by decide)]
  have l := (BitVec.ofInt 32 a ^^^ BitVec.ofInt 32 b).isLt
  rw [BitVec.toNat_xor] at l
  rw [Nat.mod_eq_of_lt l, ← BitVec.toNat_xor]; rfl
theorem bit_go (a : Int) (j : Nat) (h : j < 32) : bits .and .i64 (a / 2 ^ (min (((j : Nat) : Int)).toNat 64)) 1 = bt a j := by
  rw [show min (((j : Nat) : Int)).toNat 64 = j by omega]
  show IntKind.i64.wrap (((BitVec.ofInt 64 (a / 2 ^ j) &&& BitVec.ofInt 64 1).toNat : Nat) : Int) = a / 2 ^ j % 2
  generalize a / 2 ^ j = z
  rw [BitVec.toNat_and, show (BitVec.ofInt 64 1).toNat = 1 from rfl, Nat.and_one_is_mod, BitVec.toNat_ofInt]
  have e : (((z % ((2 ^ 64 : Nat) : Int)).toNat % 2 : Nat) : Int) = z % 2 := by omega
  rw [e, (inK_i64 (by omega) (by omega)).wrap]
theorem bsum_step {f : Int → Int → Int} (hf : Bitly f) (a b : Int) (j : Nat) (h : j < 32) : IntKind.i64.wrap (bsum f a b j + IntKind.i64.wrap (f (bt a j) (bt b j) * 2 ^ (min (((j : Nat) : Int)).toNat 64))) = bsum f a b (j + 1) := by
  rw [show min (((j : Nat) : Int)).toNat 64 = j by omega]
  have h1 := bt_01 a j; have h2 := bt_01 b j
  have h3 := hf _ _ h1.1 h1.2 h2.1 h2.2
  have h4 := bsum_lt hf a b (j + 1)
  have h5 := bsum_lt hf a b j
  have hp : (2 : Int) ^ (j + 1) = 2 * 2 ^ j := by rw [Int.pow_succ, Int.mul_comm]
  have hq : (2 : Int) ^ j ≤ 2 ^ 31 := by exact_mod_cast Nat.pow_le_pow_right (n := 2) (by decide) (show j ≤ 31 by omega)
  have hr : (2 : Int) ^ 31 = 2147483648 := rfl
  have e : bsum f a b (j + 1) = bsum f a b j + f (bt a j) (bt b j) * 2 ^ j := rfl
  have h6 : 0 ≤ f (bt a j) (bt b j) * 2 ^ j ∧ f (bt a j) (bt b j) * 2 ^ j ≤ 2 ^ j := by
    generalize f (bt a j) (bt b j) = z at *
    have : z = 0 ∨ z = 1 := by omega
    rcases this with rfl | rfl <;> omega
  rw [(inK_i64 (x := f (bt a j) (bt b j) * 2 ^ j) (by omega) (by omega)).wrap, ← e, (inK_i64 (by omega) (by omega)).wrap]
theorem and_go (a b : Int) (j : Nat) : IntKind.i64.wrap (bt a j * bt b j) = fAnd (bt a j) (bt b j) := by
  have h1 := bt_01 a j; have h2 := bt_01 b j
  have h3 := bitly_and _ _ h1.1 h1.2 h2.1 h2.2
  exact (inK_i64 (by unfold fAnd at h3; omega) (by unfold fAnd at h3; omega)).wrap
theorem xor_go (a b : Int) (j : Nat) : (IntKind.i64.wrap (bt a j + bt b j)).tmod 2 = fXor (bt a j) (bt b j) := by
  have h1 := bt_01 a j; have h2 := bt_01 b j
  rw [(inK_i64 (x := bt a j + bt b j) (by omega) (by omega)).wrap, Int.tmod_eq_emod_of_nonneg (by omega)]; rfl
theorem mul_i32 {b c : Int} (hb : inK .i32 b) (hc : inK .i32 c) : inK .i64 (b * c) := by
  have h1 : -2147483648 ≤ b ∧ b ≤ 2147483647 := hb
  have h2 : -2147483648 ≤ c ∧ c ≤ 2147483647 := hc
  have h3 : (b * c).natAbs ≤ 2147483648 * 2147483648 := by
    rw [Int.natAbs_mul]; exact Nat.mul_le_mul (by omega) (by omega)
  exact inK_i64 (by omega) (by omega)
theorem i32_i64 (z : Int) : IntKind.i32.wrap (IntKind.i64.wrap z) = IntKind.i32.wrap z := by
  refine i32_congr ?_
  have h : ∀ y : Int, IntKind.i64.wrap y % 4294967296 = y % 4294967296 := fun y => by
    have e : IntKind.i64.wrap y = if y % 18446744073709551616 ≥ 9223372036854775808 then y % 18446744073709551616 - 18446744073709551616 else y % 18446744073709551616 := by
      simp [IntKind.wrap, IntKind.bits, IntKind.signed]
    rw [e]; split <;> omega
  exact h z
theorem tmod_i32 {b c : Int} (hb : inK .i32 b) : IntKind.i32.wrap (b.tmod c) = b.tmod c := by
  have h1 : -2147483648 ≤ b ∧ b ≤ 2147483647 := hb
  have h2 : (b.tmod c).natAbs ≤ b.natAbs := by rw [Int.natAbs_tmod]; exact Nat.mod_le _ _
  have h3 : 0 ≤ b → 0 ≤ b.tmod c := fun h => Int.tmod_nonneg _ h
  have h4 : b ≤ 0 → b.tmod c ≤ 0 := fun h => by
    have := Int.tmod_nonneg (a := -b) c (by omega)
    rw [Int.neg_tmod] at this; omega
  exact (inK_i32 (by omega) (by omega)).wrap
theorem cond_i32 (p : Bool) : IntKind.i32.wrap (cond p 1 0) = cond p 1 0 := by cases p <;> rfl
theorem tmod_byte (x : Int) : ((x.tmod 256) + 256).tmod 256 = IntKind.u8.wrap x := by
  have h1 := Int.lt_tmod_of_pos x (b := 256) (by decide)
  have h2 := Int.tmod_lt_of_pos x (b := 256) (by decide)
  rw [Int.tmod_eq_emod_of_nonneg (by omega), u8_mod, Int.tmod_def]
  omega
theorem u8_i32 (x : Int) : IntKind.i32.wrap (IntKind.u8.wrap x) = IntKind.u8.wrap x := by
  have : 0 ≤ IntKind.u8.wrap x ∧ IntKind.u8.wrap x ≤ 255 := wrap_inK .u8 x
  exact (inK_i32 (by omega) (by omega)).wrap
end Go.Proofs.YtcaokjdihhbkjaaDoor
