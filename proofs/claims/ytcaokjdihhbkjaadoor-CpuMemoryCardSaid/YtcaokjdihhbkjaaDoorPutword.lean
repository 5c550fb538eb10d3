/- The layer cpu: walks of Word and Put, the law CpuMemory. -/
import Derived.Test.YtcaokjdihhbkjaaDoorAccess
set_option linter.unusedVariables false
set_option linter.unusedSimpArgs false
set_option maxRecDepth 10000
namespace Go.Proofs.YtcaokjdihhbkjaaDoor
open Go Go.RowKit Go.Proofs.Sx

theorem or_u32 {x z : Int} (k : Nat) (h1 : 0 ≤ x) (h2 : x < 2 ^ k) (h3 : 0 ≤ z) (h4 : x + z * 2 ^ k < 4294967296) : bits .or .u32 x (z * 2 ^ k) = x + z * 2 ^ k := by
  obtain ⟨a, rfl⟩ := Int.eq_ofNat_of_zero_le h1
  obtain ⟨b, rfl⟩ := Int.eq_ofNat_of_zero_le h3
  have ha : a < 2 ^ k := by exact_mod_cast h2
  have e1 : ((b : Int) * 2 ^ k) = ((2 ^ k * b : Nat) : Int) := by rw [Int.natCast_mul, Int.natCast_pow, Int.mul_comm]; rfl
  have hs : a + 2 ^ k * b < 4294967296 := by rw [e1] at h4; omega
  have e2 : a ||| (2 ^ k * b) = 2 ^ k * b + a := by
    rw [Nat.or_comm]; exact (Nat.two_pow_add_eq_or_of_lt ha b).symm
  rw [e1]
  show IntKind.u32.wrap (((BitVec.ofInt 32 (a : Int) ||| BitVec.ofInt 32 ((2 ^ k * b : Nat) : Int)).toNat : Nat) : Int) = _
  rw [BitVec.toNat_or, BitVec.ofInt_natCast, BitVec.ofInt_natCast, BitVec.toNat_ofNat, BitVec.toNat_ofNat, Nat.mod_eq_of_lt (by omega), Nat.mod_eq_of_lt (by omega), e2]
  rw [inK.wrap (inK_u32 (by omega) (by omega))]
  omega
theorem put_word {ld : Int} (h : inK .i32 ld) : IntKind.i32.wrap (bits .or .u32 (bits .or .u32 (bits .or .u32 (IntKind.u8.wrap ld) ((IntKind.u8.wrap (ld / 256)) * 256)) ((IntKind.u8.wrap (ld / 65536)) * 65536)) ((IntKind.u8.wrap (ld / 16777216)) * 16777216)) = ld := by
  have h1 : -2147483648 ≤ ld ∧ ld ≤ 2147483647 := h
  simp only [u8_mod]
  have e1 := or_u32 (x := ld % 256) (z := ld / 256 % 256) 8 (by omega) (by simp; omega) (by omega) (by simp; omega)
  have e2 := or_u32 (x := ld % 256 + ld / 256 % 256 * 256) (z := ld / 65536 % 256) 16 (by omega) (by simp; omega) (by omega) (by simp; omega)
  have e3 := or_u32 (x := ld % 256 + ld / 256 % 256 * 256 + ld / 65536 % 256 * 65536) (z := ld / 16777216 % 256) 24 (by omega) (by simp; omega) (by omega) (by simp; omega)
  simp only [Int.reducePow] at e1 e2 e3
  rw [e1, e2, e3, ← (inK_i32 (x := ld) (by omega) (by omega)).wrap]
  refine i32_congr ?_
  rw [(inK_i32 (x := ld) (by omega) (by omega)).wrap]
  omega

theorem put_any (x : Int) (w : World) :
    Calls Tryd.prog 28 #[i64 x] w fun e w' => ∃ bk, e = .returned (.slice (some ⟨bk, 0, none⟩) 4 4) ∧ Only none' w w' ∧ Blk w' bk 5 [.int .u8 (IntKind.u8.wrap x), .int .u8 (IntKind.u8.wrap (x / 256)), .int .u8 (IntKind.u8.wrap (x / 65536)), .int .u8 (IntKind.u8.wrap (x / 16777216))] ∧ w.heap.size ≤ bk := by
  refine c_enter (args := [i64 x]) (m := 14) (n := 15) Tryd.func28 rfl (by kernel_rfl) (by kernel_rfl) fun fr hA => ?_
  have hO := Ow.nil Tryd.prog none' w
  refine sC (e' := [(0, i64 x), (2, .slice none 0 0)]) 1 hA [] c0 ?_
  clear hA fr; intro fr hA
  refine sR (l := (rg 0 13)) ?_
  refine ck (l := (rg 0 11)) (r := [11, 12]) (e' := [(2, .slice none 0 0), (4, u8 (IntKind.u8.wrap x)), (7, u8 (IntKind.u8.wrap (x / 256))), (10, u8 (IntKind.u8.wrap (x / 65536))), (13, u8 (IntKind.u8.wrap (x / 16777216)))]) hA [bl false, bl false, bl false, bl false, bl false, bl false, bl false] (cc (by omega : (0 : Int) ≤ 8) (cc (by omega : (0 : Int) ≤ 16) (cc (by omega : (0 : Int) ≤ 24) c0))) ?_
  clear hA fr; intro fr hA
  refine wpOps_cons' (mN (l := [u8 (IntKind.u8.wrap x), u8 (IntKind.u8.wrap (x / 256)), u8 (IntKind.u8.wrap (x / 65536)), u8 (IntKind.u8.wrap (x / 16777216))]) (t := 5) (v := fun b => .slice (some ⟨b, 0, none⟩) 4 4) (d := 14) hA hO ?_)
  clear hA hO fr; intro fr w1 b1 hA hO
  replace hA := hA.sb (e' := [(2, .slice none 0 0), (14, .slice (some ⟨b1, 0, none⟩) 4 4)])
  refine ck (l := [12]) (r := []) (e' := [(2, .slice (some ⟨b1, 0, none⟩) 4 4)]) hA [] c0 ?_
  clear hA fr; intro fr hA
  refine end_ops ?_
  refine then_normal ?_
  refine wp_ret ?_
  refine cR (cs := [none]) (us := [.slice (some ⟨b1, 0, none⟩) 4 4]) hA [] trivial ?_
  exact ⟨b1, rfl, hO.only, hO.b 0, hO.fresh 0⟩

theorem cword_4 (ad : Addr) (cap : Nat) (x0 x1 x2 x3 : Int) (w : World) (hc0 : w.cell? (ad.add 0) = some (.int .u8 x0)) (l0 : 0 ≤ x0) (u0 : x0 ≤ 255) (hc1 : w.cell? (ad.add 1) = some (.int .u8 x1)) (l1 : 0 ≤ x1) (u1 : x1 ≤ 255) (hc2 : w.cell? (ad.add 2) = some (.int .u8 x2)) (l2 : 0 ≤ x2) (u2 : x2 ≤ 255) (hc3 : w.cell? (ad.add 3) = some (.int .u8 x3)) (l3 : 0 ≤ x3) (u3 : x3 ≤ 255) :
    Calls Tryd.prog 27 #[.slice (some ad) 4 cap] w fun e w' => e = .returned (.tuple #[.int .i64 (IntKind.i32.wrap (bits .or .u32 (bits .or .u32 (bits .or .u32 x0 (x1 * 256)) (x2 * 65536)) (x3 * 16777216))), .int .i64 0]) ∧ Only none' w w' := by
  refine c_enter (args := [.slice (some ad) 4 cap]) (m := 30) (n := 31) Tryd.func27 rfl (by kernel_rfl) (by kernel_rfl) fun fr hA => ?_
  have hO := Ow.nil Tryd.prog none' w
  refine sC (e' := [(0, .slice (some ad) 4 cap), (2, i64 0), (3, i64 0)]) 2 hA [] c0 ?_
  clear hA fr; intro fr hA
  refine wp_seq ?_
  refine sC (e' := [(0, .slice (some ad) 4 cap), (2, i64 0), (3, i64 0), (6, bl false)]) 3 hA [] c0 ?_
  clear hA fr; intro fr hA
  refine cF hA ?_
  refine wp_skip ?_
  refine then_normal ?_
  refine wp_seq ?_
  have hS := hO
  refine rP [(0, true), (1, true), (2, true), (3, true), (4, true), (5, true), (6, true), (7, true), (8, true), (9, true), (10, true), (11, true), (12, true), (13, true), (14, true), (15, true), (16, true), (17, true), (18, true), (19, true), (20, true), (21, true), (22, true), (23, true), (24, true), (25, true)] hS ?_
  intro w1 ho; replace hO := hO.st ho; clear ho
  refine ckS (l := (rg 0 26)) (r := []) (e' := [(2, i64 (IntKind.i32.wrap (bits .or .u32 (bits .or .u32 (bits .or .u32 x0 (x1 * 256)) (x2 * 65536)) (x3 * 16777216)))), (3, i64 0)]) hA [u8 x0, bl true, u8 x1, bl true, bl true, u8 x2, bl true, bl true, u8 x3, bl true, bl true, bl false, bl true] (cc (⟨by omega, by omega⟩ : (0 : Int) ≤ 0 ∧ 0 < ((4 : Nat) : Int)) (cc (hS.sx (ad.add 0) 5 (u8 x0) fun _ hO => (ld_cell (by kernel_rfl) (hO.only.cell hc0 (fun h => h)))) (cc ((inK_u32 (by omega) (by omega)) : inK .u32 x0) (cc (⟨by omega, by omega⟩ : (0 : Int) ≤ 1 ∧ 1 < ((4 : Nat) : Int)) (cc (hS.sx (ad.add 1) 5 (u8 x1) fun _ hO => (ld_cell (by kernel_rfl) (hO.only.cell hc1 (fun h => h)))) (cc ((inK_u32 (by omega) (by omega)) : inK .u32 x1) (cc ((inK_u32 (by omega) (by omega)) : inK .u32 (x1 * 256)) (cc (by omega : (0 : Int) ≤ 8) (cc (⟨by omega, by omega⟩ : (0 : Int) ≤ 2 ∧ 2 < ((4 : Nat) : Int)) (cc (hS.sx (ad.add 2) 5 (u8 x2) fun _ hO => (ld_cell (by kernel_rfl) (hO.only.cell hc2 (fun h => h)))) (cc ((inK_u32 (by omega) (by omega)) : inK .u32 x2) (cc ((inK_u32 (by omega) (by omega)) : inK .u32 (x2 * 65536)) (cc (by omega : (0 : Int) ≤ 16) (cc (⟨by omega, by omega⟩ : (0 : Int) ≤ 3 ∧ 3 < ((4 : Nat) : Int)) (cc (hS.sx (ad.add 3) 5 (u8 x3) fun _ hO => (ld_cell (by kernel_rfl) (hO.only.cell hc3 (fun h => h)))) (cc ((inK_u32 (by omega) (by omega)) : inK .u32 x3) (cc ((inK_u32 (by omega) (by omega)) : inK .u32 (x3 * 16777216)) (cc (by omega : (0 : Int) ≤ 24) (cc ((inK_up (by kernel_rfl) (wrap_inK _ _)) : inK .i64 (IntKind.i32.wrap (bits .or .u32 (bits .or .u32 (bits .or .u32 x0 (x1 * 256)) (x2 * 65536)) (x3 * 16777216)))) c0))))))))))))))))))) ?_
  clear hA fr; intro fr hA
  refine end_plan ?_
  refine then_normal ?_
  refine wp_ret ?_
  refine cR (cs := [none, none]) (us := [i64 (IntKind.i32.wrap (bits .or .u32 (bits .or .u32 (bits .or .u32 x0 (x1 * 256)) (x2 * 65536)) (x3 * 16777216))), i64 0]) hA [] trivial ?_
  have hF := hO.only; clear hA hO
  exact ⟨rfl, hF⟩

theorem cword_any (sl : Value) (x0 x1 x2 x3 : Int) (w : World) (h : SlI w sl [x0, x1, x2, x3]) : Calls Tryd.prog 27 #[sl] w fun e w' => e = .returned (.tuple #[.int .i64 (IntKind.i32.wrap (bits .or .u32 (bits .or .u32 (bits .or .u32 x0 (x1 * 256)) (x2 * 65536)) (x3 * 16777216))), .int .i64 0]) ∧ Only none' w w' := by
  obtain ⟨hu, ⟨_, h0⟩ | ⟨ad, cap, rfl, hc⟩⟩ := h
  · cases h0
  · have u0 := hu x0 (by simp); have u1 := hu x1 (by simp); have u2 := hu x2 (by simp); have u3 := hu x3 (by simp)
    exact cword_4 ad cap x0 x1 x2 x3 w (hc 0 (by simp)) u0.1 u0.2 (hc 1 (by simp)) u1.1 u1.2 (hc 2 (by simp)) u2.1 u2.2 (hc 3 (by simp)) u3.1 u3.2
theorem accX_enc (R : Nat → Int) {o a b c v : Int} (h : legalB o a b c v = true) : accX R (encX o a b c v) = accV R o b c := by
  unfold accX; rw [enc_dec h]
def IsOut0 (x : Value) : Prop := ∃ (R' : Nat → Int) (pc' k p0 p1 p2 p3 p4 p5 : Int), x = outV R' pc' 0 (trapL k p0 p1 p2 p3 p4 p5)
theorem IsOut0.ite {p : Prop} [Decidable p] {x y : Value} (h : IsOut0 x) (h' : IsOut0 y) : IsOut0 (if p then x else y) := by split <;> assumption
theorem IsOut0.mk (R : Nat → Int) (pc k p0 p1 p2 p3 p4 p5 : Int) : IsOut0 (outV R pc 0 (trapL k p0 p1 p2 p3 p4 p5)) := ⟨_, _, _, _, _, _, _, _, _, rfl⟩
theorem exec_out0 (R : Nat → Int) (pc ld o a b c v : Int) (h : ¬ (14 ≤ o ∧ o ≤ 17)) : IsOut0 (execV R pc ld o a b c v) := by
  simp only [execV]
  rw [if_neg (show o ≠ 14 by omega), if_neg (show o ≠ 15 by omega), if_neg (show o ≠ 16 by omega), if_neg (show o ≠ 17 by omega)]
  repeat' refine IsOut0.ite ?_ ?_
  all_goals exact .mk ..
theorem acc_out0 (R : Nat → Int) (o b c : Int) (h : ¬ (14 ≤ o ∧ o ≤ 17)) : accV R o b c = acc0 := by
  have : placeN o = 0 := by unfold placeN; rw [if_neg (by omega), if_neg (by omega)]
  simp only [accV, if_pos this]
theorem mem_z {x y : Int} (m : Int) (h : ∃ q, x = y + m * q) : ((x - y).tmod m == 0) = true := by
  obtain ⟨q, rfl⟩ := h
  rw [show y + m * q - y = m * q by omega, Int.mul_tmod_right]; rfl
theorem i32_q' (x : Int) : ∃ q, IntKind.i32.wrap x = x + 4294967296 * q := by
  have e : IntKind.i32.wrap x = if x % 4294967296 ≥ 2147483648 then x % 4294967296 - 4294967296 else x % 4294967296 := by
    simp [IntKind.wrap, IntKind.bits, IntKind.signed]
  rw [e]
  have h := Int.mul_ediv_add_emod x 4294967296
  split
  · exact ⟨-(x / 4294967296) - 1, by omega⟩
  · exact ⟨-(x / 4294967296), by omega⟩
theorem u8_q (x : Int) : ∃ q, IntKind.u8.wrap x = x + 256 * q := ⟨-(x / 256), by rw [u8_mod]; omega⟩

end Go.Proofs.YtcaokjdihhbkjaaDoor
