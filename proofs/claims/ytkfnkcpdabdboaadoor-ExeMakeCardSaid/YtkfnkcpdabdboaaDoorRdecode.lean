/- The layer cpu: walks of the reference: Decode. -/
import Derived.Test.YtkfnkcpdabdboaaDoorRlegal
set_option linter.unusedVariables false
set_option linter.unusedSimpArgs false
set_option maxRecDepth 10000
namespace Go.Proofs.YtkfnkcpdabdboaaDoor
open Go Go.RowKit Go.Proofs.Sx

theorem i16_lo {y : Int} (h : 0 ≤ y) (h' : y ≤ 32767) : IntKind.i16.wrap y = y := (inK_i16 (by omega) (by omega)).wrap
theorem i8_lo {y : Int} (h : 0 ≤ y) (h' : y ≤ 127) : IntKind.i8.wrap y = y := (inK_i8 (by omega) (by omega)).wrap
theorem i16_hi {y : Int} (h : 32767 < y) (h' : y ≤ 65535) : IntKind.i16.wrap y = y - 65536 := by
  have e : IntKind.i16.wrap y = IntKind.i16.wrap (y - 65536) := by
    have e : y % 2 ^ IntKind.i16.bits = (y - 65536) % 2 ^ IntKind.i16.bits := by show y % 65536 = (y - 65536) % 65536; omega
    simp only [IntKind.wrap, e]
  rw [e]; exact (inK_i16 (by omega) (by omega)).wrap
theorem i8_hi {y : Int} (h : 127 < y) (h' : y ≤ 255) : IntKind.i8.wrap y = y - 256 := by
  have e : IntKind.i8.wrap y = IntKind.i8.wrap (y - 256) := by
    have e : y % 2 ^ IntKind.i8.bits = (y - 256) % 2 ^ IntKind.i8.bits := by show y % 256 = (y - 256) % 256; omega
    simp only [IntKind.wrap, e]
  rw [e]; exact (inK_i8 (by omega) (by omega)).wrap

theorem rdecode_len (ad : Option Addr) (n cap : Nat) (w : World) (h0 : n ≠ 4) :
    Calls Tryd.prog 32 #[.slice ad n cap] w fun e w' => e = .returned (.tuple #[insO none, .int .i64 (errO none)]) ∧ Only none' w w' := by
  refine c_enter (args := [.slice ad n cap]) (m := 75) (n := 76) Tryd.func32 rfl (by kernel_rfl) (by kernel_rfl) fun fr hA => ?_
  have hO := Ow.nil Tryd.prog none' w
  refine sR (l := [0, 1]) ?_
  refine wpOps_cons' (mN (l := [i64 0, i64 0, i64 0, i64 0, i64 0]) (t := 56) (v := pt) (d := 2) hA hO ?_)
  clear hA hO fr; intro fr w1 b1 hA hO
  refine ck (l := [1]) (r := []) (e' := [(0, .slice ad n cap), (2, pt b1), (3, i64 0)]) hA [] c0 ?_
  clear hA fr; intro fr hA
  refine end_ops ?_
  refine then_normal ?_
  refine wp_seq ?_
  refine sC (e' := [(0, .slice ad n cap), (2, pt b1), (3, i64 0), (7, bl (((n : Nat) : Int) != 4))]) 3 hA [] c0 ?_
  clear hA fr; intro fr hA
  rcases Bool.eq_false_or_eq_true (((n : Nat) : Int) != 4) with h1 | h1
  ·
    replace hA := hA.bool (f := fun z_ => [(0, .slice ad n cap), (2, pt b1), (3, i64 0), (7, .bool z_)]) h1
    have h1p := ne_of_bne h1
    refine cT hA ?_
    refine sR (l := [0, 1, 2]) ?_
    refine ck (l := [0]) (r := [1, 2]) (e' := [(0, .slice ad n cap), (2, pt b1), (3, i64 0), (8, .agg #[i64 0, i64 0, i64 0, i64 0, i64 0])]) hA [] c0 ?_
    clear hA fr; intro fr hA
    refine wpOps_cons' (mS (off := 0) (vc := [i64 0, i64 0, i64 0, i64 0, i64 0]) 0 hA hO ?_)
    clear hO; intro w2 hO
    replace hA := hA.sb (e' := [(0, .slice ad n cap), (2, pt b1), (3, i64 0)])
    refine ck (l := [2]) (r := []) (e' := [(0, .slice ad n cap), (2, pt b1), (3, i64 4)]) hA [] c0 ?_
    clear hA fr; intro fr hA
    refine end_ops ?_
    refine then_normal ?_
    refine wp_ret ?_
    refine then_ret ?_
    refine cR (cs := [some (⟨b1, 0, none⟩, 56), none]) (us := [.agg #[i64 0, i64 0, i64 0, i64 0, i64 0], i64 4]) hA [.agg #[i64 0, i64 0, i64 0, i64 0, i64 0]] ⟨(hO.ln 0 0 56 [i64 0, i64 0, i64 0, i64 0, i64 0]), trivial⟩ ?_
    have hF := hO.only; clear hA hO
    exact ⟨rfl, hF⟩
  ·
    exfalso; simp at h1; omega

theorem rdecode_0 (fv fs : Bool) (ad : Addr) (cap : Nat) (x0 x1 x2 x3 : Int) (w : World) (hf : formF x0 = 0) (hg : ¬ (1 ≤ x0 ∧ x0 ≤ 22)) (hc0 : w.cell? (ad.add 0) = some (.int .u8 x0)) (l0 : 0 ≤ x0) (u0 : x0 ≤ 255) (hc1 : w.cell? (ad.add 1) = some (.int .u8 x1)) (l1 : 0 ≤ x1) (u1 : x1 ≤ 255) (hc2 : w.cell? (ad.add 2) = some (.int .u8 x2)) (l2 : 0 ≤ x2) (u2 : x2 ≤ 255) (hc3 : w.cell? (ad.add 3) = some (.int .u8 x3)) (l3 : 0 ≤ x3) (u3 : x3 ≤ 255) :
    Calls Tryd.prog 32 #[.slice (some ad) 4 cap] w fun e w' => e = .returned (.tuple #[insO (decF fv fs x0 x1 x2 x3), .int .i64 (errO (decF fv fs x0 x1 x2 x3))]) ∧ Only none' w w' := by
  refine c_enter (args := [.slice (some ad) 4 cap]) (m := 75) (n := 76) Tryd.func32 rfl (by kernel_rfl) (by kernel_rfl) fun fr hA => ?_
  have hO := Ow.nil Tryd.prog none' w
  refine sR (l := [0, 1]) ?_
  refine wpOps_cons' (mN (l := [i64 0, i64 0, i64 0, i64 0, i64 0]) (t := 56) (v := pt) (d := 2) hA hO ?_)
  clear hA hO fr; intro fr w1 b1 hA hO
  refine ck (l := [1]) (r := []) (e' := [(0, .slice (some ad) 4 cap), (2, pt b1), (3, i64 0)]) hA [] c0 ?_
  clear hA fr; intro fr hA
  refine end_ops ?_
  refine then_normal ?_
  refine wp_seq ?_
  refine sC (e' := [(0, .slice (some ad) 4 cap), (2, pt b1), (3, i64 0), (7, bl false)]) 3 hA [] c0 ?_
  clear hA fr; intro fr hA
  refine cF hA ?_
  refine wp_skip ?_
  refine then_normal ?_
  refine wp_seq ?_
  have hS := hO
  refine rP [(0, true), (1, true), (2, true), (3, true), (4, true), (5, true), (6, true), (7, true), (8, true), (9, false), (10, false)] hS ?_
  intro w2 ho; replace hO := hO.st ho; clear ho
  refine ckS (l := (rg 0 9)) (r := [(9, false), (10, false)]) (e' := [(0, .slice (some ad) 4 cap), (2, pt b1), (3, i64 0), (17, .agg #[i64 x0, i64 x1, i64 0, i64 0, i64 0])]) hA [u8 x0, bl true, u8 x1, bl true] (cc (⟨by omega, by omega⟩ : (0 : Int) ≤ 0 ∧ 0 < ((4 : Nat) : Int)) (cc (hS.sx (ad.add 0) 5 (u8 x0) fun _ hO => (ld_cell (by kernel_rfl) (hO.only.cell hc0 (fun h => h)))) (cc ((inK_i64 (by omega) (by omega)) : inK .i64 x0) (cc (⟨by omega, by omega⟩ : (0 : Int) ≤ 1 ∧ 1 < ((4 : Nat) : Int)) (cc (hS.sx (ad.add 1) 5 (u8 x1) fun _ hO => (ld_cell (by kernel_rfl) (hO.only.cell hc1 (fun h => h)))) (cc ((inK_i64 (by omega) (by omega)) : inK .i64 x1) c0)))))) ?_
  clear hA fr; intro fr hA
  refine plan_mem (mN (l := [i64 0, i64 0, i64 0, i64 0, i64 0]) (t := 56) (v := pt) (d := 4) hA hO ?_)
  clear hA hO fr; intro fr w3 b2 hA hO
  refine ⟨(hO.sub [1]), ?_⟩
  refine plan_mem (mS (off := 0) (vc := [i64 x0, i64 x1, i64 0, i64 0, i64 0]) 0 hA hO ?_)
  clear hO; intro w4 hO
  refine ⟨(hO.sub [1]), ?_⟩
  replace hA := hA.sb (e' := [(0, .slice (some ad) 4 cap), (2, pt b1), (3, i64 0), (4, pt b2)])
  refine end_plan ?_
  refine then_normal ?_
  refine wp_seq ?_
  refine sR (l := [0, 1, 2]) ?_
  refine ck (l := [0, 1]) (r := [2]) (e' := [(0, .slice (some ad) 4 cap), (2, pt b1), (3, i64 0), (4, pt b2), (19, i64 x0)]) hA [i64 x0] (cc (hO.l1 0 0 3 (i64 x0)) c0) ?_
  clear hA fr; intro fr hA
  refine wpOps_cons' (mK (f := 43) (args := [i64 x0]) (d := (some 20)) (v := i64 0) hA hO Tryd.func43 (rs (form_any x0 _) (congrArg _ hf)) ?_)
  clear hA hO fr; intro fr w5 hA hO
  replace hA := hA.sb (e' := [(0, .slice (some ad) 4 cap), (2, pt b1), (3, i64 0), (4, pt b2), (20, i64 0)])
  refine end_ops ?_
  refine then_normal ?_
  refine wp_block ?_
  refine wp_seq ?_
  refine sC (e' := [(0, .slice (some ad) 4 cap), (2, pt b1), (3, i64 0), (4, pt b2), (20, i64 0), (31, bl false)]) 2 hA [] c0 ?_
  clear hA fr; intro fr hA
  refine cF hA ?_
  refine rC (e' := [(0, .slice (some ad) 4 cap), (2, pt b1), (3, i64 0), (4, pt b2), (20, i64 0), (31, bl false)]) 2 hA [] c0 ?_
  clear hA fr; intro fr hA
  refine then_normal ?_
  refine cF hA ?_
  refine sC (e' := [(0, .slice (some ad) 4 cap), (2, pt b1), (3, i64 0), (4, pt b2), (52, bl false)]) 2 hA [] c0 ?_
  clear hA fr; intro fr hA
  refine cF hA ?_
  have hS : Ow Tryd.prog none' w _ [(b1, 56, [i64 0, i64 0, i64 0, i64 0, i64 0])] := hO.sub [1]
  refine rP [(0, true), (1, true), (2, true), (3, true), (4, true), (5, true), (6, true), (7, true), (8, true), (9, false), (10, true), (11, false)] hS ?_
  intro w6 ho; replace hO := hO.st ho; clear ho
  refine ckS (l := (rg 0 9)) (r := [(9, false), (10, true), (11, false)]) (e' := [(2, pt b1), (3, i64 0), (4, pt b2), (24, i64 x2), (28, i64 x3), (29, pf b2 2)]) hA [u8 x2, bl true, u8 x3, bl true] (cc (⟨by omega, by omega⟩ : (0 : Int) ≤ 2 ∧ 2 < ((4 : Nat) : Int)) (cc (hS.sx (ad.add 2) 5 (u8 x2) fun _ hO => (ld_cell (by kernel_rfl) (hO.only.cell hc2 (fun h => h)))) (cc ((inK_i64 (by omega) (by omega)) : inK .i64 x2) (cc (⟨by omega, by omega⟩ : (0 : Int) ≤ 3 ∧ 3 < ((4 : Nat) : Int)) (cc (hS.sx (ad.add 3) 5 (u8 x3) fun _ hO => (ld_cell (by kernel_rfl) (hO.only.cell hc3 (fun h => h)))) (cc ((inK_i64 (by omega) (by omega)) : inK .i64 x3) c0)))))) ?_
  clear hA fr; intro fr hA
  refine plan_mem (mS (off := 2) (vc := [i64 x2]) 0 hA hO ?_)
  clear hO; intro w7 hO
  refine ⟨(hO.sub [1]), ?_⟩
  replace hA := hA.sb (e' := [(2, pt b1), (3, i64 0), (4, pt b2), (28, i64 x3)])
  refine ckS (l := [10]) (r := [(11, false)]) (e' := [(2, pt b1), (3, i64 0), (4, pt b2), (28, i64 x3), (30, pf b2 3)]) hA [] c0 ?_
  clear hA fr; intro fr hA
  refine plan_mem (mS (off := 3) (vc := [i64 x3]) 0 hA hO ?_)
  clear hO; intro w8 hO
  refine ⟨(hO.sub [1]), ?_⟩
  replace hA := hA.sb (e' := [(2, pt b1), (3, i64 0), (4, pt b2)])
  refine end_plan ?_
  refine inBlock_normal ?_
  refine then_normal ?_
  refine wp_seq ?_
  refine sR (l := [0, 1, 2]) ?_
  refine ck (l := [0]) (r := [1, 2]) (e' := [(2, pt b1), (3, i64 0), (4, pt b2), (71, .agg #[i64 x0, i64 x1, i64 x2, i64 x3, i64 0])]) hA [.agg #[i64 x0, i64 x1, i64 x2, i64 x3, i64 0]] (cc (hO.ln 0 0 56 [i64 x0, i64 x1, i64 x2, i64 x3, i64 0]) c0) ?_
  clear hA fr; intro fr hA
  refine wpOps_cons' (mK (f := 44) (args := [.agg #[i64 x0, i64 x1, i64 x2, i64 x3, i64 0]]) (d := (some 72)) (v := bl (legalB x0 x1 x2 x3 0)) hA hO Tryd.func44 (rlegal_any x0 x1 x2 x3 0 _) ?_)
  clear hA hO fr; intro fr w9 hA hO
  replace hA := hA.sb (e' := [(2, pt b1), (3, i64 0), (4, pt b2), (72, bl (legalB x0 x1 x2 x3 0))])
  refine ck (l := [2]) (r := []) (e' := [(2, pt b1), (3, i64 0), (4, pt b2), (73, bl (!(legalB x0 x1 x2 x3 0)))]) hA [] c0 ?_
  clear hA fr; intro fr hA
  refine end_ops ?_
  refine then_normal ?_
  rcases Bool.eq_false_or_eq_true (legalB x0 x1 x2 x3 0) with h1 | h1
  ·
    exfalso; have := (legal_spec h1).1; omega
  ·
    replace hA := hA.bool (f := fun z_ => [(2, pt b1), (3, i64 0), (4, pt b2), (73, .bool !z_)]) h1
    refine cT hA ?_
    refine sR (l := [0, 1, 2]) ?_
    refine ck (l := [0]) (r := [1, 2]) (e' := [(2, pt b1), (3, i64 0), (4, pt b2), (74, .agg #[i64 0, i64 0, i64 0, i64 0, i64 0])]) hA [] c0 ?_
    clear hA fr; intro fr hA
    refine wpOps_cons' (mS (off := 0) (vc := [i64 0, i64 0, i64 0, i64 0, i64 0]) 1 hA hO ?_)
    clear hO; intro w10 hO
    replace hA := hA.sb (e' := [(2, pt b1), (3, i64 0), (4, pt b2)])
    refine ck (l := [2]) (r := []) (e' := [(2, pt b1), (3, i64 4), (4, pt b2)]) hA [] c0 ?_
    clear hA fr; intro fr hA
    refine end_ops ?_
    refine then_normal ?_
    refine wp_ret ?_
    refine then_ret ?_
    refine cR (cs := [some (⟨b1, 0, none⟩, 56), none]) (us := [.agg #[i64 0, i64 0, i64 0, i64 0, i64 0], i64 4]) hA [.agg #[i64 0, i64 0, i64 0, i64 0, i64 0]] ⟨(hO.ln 1 0 56 [i64 0, i64 0, i64 0, i64 0, i64 0]), trivial⟩ ?_
    have hF := hO.only; clear hA hO
    exact ⟨by rw [decF, if_neg hg]; rfl, hF⟩

theorem rdecode_1 (ad : Addr) (cap : Nat) (x0 x1 x2 x3 : Int) (w : World) (hf : formF x0 = 1) (hg : (1 ≤ x0 ∧ x0 ≤ 22)) (hc0 : w.cell? (ad.add 0) = some (.int .u8 x0)) (l0 : 0 ≤ x0) (u0 : x0 ≤ 255) (hc1 : w.cell? (ad.add 1) = some (.int .u8 x1)) (l1 : 0 ≤ x1) (u1 : x1 ≤ 255) (hc2 : w.cell? (ad.add 2) = some (.int .u8 x2)) (l2 : 0 ≤ x2) (u2 : x2 ≤ 255) (hc3 : w.cell? (ad.add 3) = some (.int .u8 x3)) (l3 : 0 ≤ x3) (u3 : x3 ≤ 255) :
    Calls Tryd.prog 32 #[.slice (some ad) 4 cap] w fun e w' => e = .returned (.tuple #[insO (decF true false x0 x1 x2 x3), .int .i64 (errO (decF true false x0 x1 x2 x3))]) ∧ Only none' w w' := by
  refine c_enter (args := [.slice (some ad) 4 cap]) (m := 75) (n := 76) Tryd.func32 rfl (by kernel_rfl) (by kernel_rfl) fun fr hA => ?_
  have hO := Ow.nil Tryd.prog none' w
  refine sR (l := [0, 1]) ?_
  refine wpOps_cons' (mN (l := [i64 0, i64 0, i64 0, i64 0, i64 0]) (t := 56) (v := pt) (d := 2) hA hO ?_)
  clear hA hO fr; intro fr w1 b1 hA hO
  refine ck (l := [1]) (r := []) (e' := [(0, .slice (some ad) 4 cap), (2, pt b1), (3, i64 0)]) hA [] c0 ?_
  clear hA fr; intro fr hA
  refine end_ops ?_
  refine then_normal ?_
  refine wp_seq ?_
  refine sC (e' := [(0, .slice (some ad) 4 cap), (2, pt b1), (3, i64 0), (7, bl false)]) 3 hA [] c0 ?_
  clear hA fr; intro fr hA
  refine cF hA ?_
  refine wp_skip ?_
  refine then_normal ?_
  refine wp_seq ?_
  have hS := hO
  refine rP [(0, true), (1, true), (2, true), (3, true), (4, true), (5, true), (6, true), (7, true), (8, true), (9, false), (10, false)] hS ?_
  intro w2 ho; replace hO := hO.st ho; clear ho
  refine ckS (l := (rg 0 9)) (r := [(9, false), (10, false)]) (e' := [(0, .slice (some ad) 4 cap), (2, pt b1), (3, i64 0), (17, .agg #[i64 x0, i64 x1, i64 0, i64 0, i64 0])]) hA [u8 x0, bl true, u8 x1, bl true] (cc (⟨by omega, by omega⟩ : (0 : Int) ≤ 0 ∧ 0 < ((4 : Nat) : Int)) (cc (hS.sx (ad.add 0) 5 (u8 x0) fun _ hO => (ld_cell (by kernel_rfl) (hO.only.cell hc0 (fun h => h)))) (cc ((inK_i64 (by omega) (by omega)) : inK .i64 x0) (cc (⟨by omega, by omega⟩ : (0 : Int) ≤ 1 ∧ 1 < ((4 : Nat) : Int)) (cc (hS.sx (ad.add 1) 5 (u8 x1) fun _ hO => (ld_cell (by kernel_rfl) (hO.only.cell hc1 (fun h => h)))) (cc ((inK_i64 (by omega) (by omega)) : inK .i64 x1) c0)))))) ?_
  clear hA fr; intro fr hA
  refine plan_mem (mN (l := [i64 0, i64 0, i64 0, i64 0, i64 0]) (t := 56) (v := pt) (d := 4) hA hO ?_)
  clear hA hO fr; intro fr w3 b2 hA hO
  refine ⟨(hO.sub [1]), ?_⟩
  refine plan_mem (mS (off := 0) (vc := [i64 x0, i64 x1, i64 0, i64 0, i64 0]) 0 hA hO ?_)
  clear hO; intro w4 hO
  refine ⟨(hO.sub [1]), ?_⟩
  replace hA := hA.sb (e' := [(0, .slice (some ad) 4 cap), (2, pt b1), (3, i64 0), (4, pt b2)])
  refine end_plan ?_
  refine then_normal ?_
  refine wp_seq ?_
  refine sR (l := [0, 1, 2]) ?_
  refine ck (l := [0, 1]) (r := [2]) (e' := [(0, .slice (some ad) 4 cap), (2, pt b1), (3, i64 0), (4, pt b2), (19, i64 x0)]) hA [i64 x0] (cc (hO.l1 0 0 3 (i64 x0)) c0) ?_
  clear hA fr; intro fr hA
  refine wpOps_cons' (mK (f := 43) (args := [i64 x0]) (d := (some 20)) (v := i64 1) hA hO Tryd.func43 (rs (form_any x0 _) (congrArg _ hf)) ?_)
  clear hA hO fr; intro fr w5 hA hO
  replace hA := hA.sb (e' := [(0, .slice (some ad) 4 cap), (2, pt b1), (3, i64 0), (4, pt b2), (20, i64 1)])
  refine end_ops ?_
  refine then_normal ?_
  refine wp_block ?_
  refine wp_seq ?_
  refine sC (e' := [(0, .slice (some ad) 4 cap), (2, pt b1), (3, i64 0), (4, pt b2), (20, i64 1), (31, bl true)]) 2 hA [] c0 ?_
  clear hA fr; intro fr hA
  refine cT hA ?_
  refine wp_skip ?_
  refine then_normal ?_
  refine cT hA ?_
  refine wp_seq ?_
  have hS : Ow Tryd.prog none' w _ [(b1, 56, [i64 0, i64 0, i64 0, i64 0, i64 0])] := hO.sub [1]
  refine rP [(0, true), (1, true), (2, true), (3, true), (4, true), (5, true), (6, true), (7, true), (8, true), (9, true), (10, true), (11, false)] hS ?_
  intro w6 ho; replace hO := hO.st ho; clear ho
  refine ckS (l := (rg 0 11)) (r := [(11, false)]) (e' := [(2, pt b1), (3, i64 0), (4, pt b2), (43, i64 ((x2 * 256) + x3)), (44, pf b2 4)]) hA [u8 x2, bl true, bl true, u8 x3, bl true, bl true] (cc (⟨by omega, by omega⟩ : (0 : Int) ≤ 2 ∧ 2 < ((4 : Nat) : Int)) (cc (hS.sx (ad.add 2) 5 (u8 x2) fun _ hO => (ld_cell (by kernel_rfl) (hO.only.cell hc2 (fun h => h)))) (cc ((inK_i64 (by omega) (by omega)) : inK .i64 x2) (cc ((inK_i64 (by omega) (by omega)) : inK .i64 (x2 * 256)) (cc (⟨by omega, by omega⟩ : (0 : Int) ≤ 3 ∧ 3 < ((4 : Nat) : Int)) (cc (hS.sx (ad.add 3) 5 (u8 x3) fun _ hO => (ld_cell (by kernel_rfl) (hO.only.cell hc3 (fun h => h)))) (cc ((inK_i64 (by omega) (by omega)) : inK .i64 x3) (cc ((inK_i64 (by omega) (by omega)) : inK .i64 ((x2 * 256) + x3)) c0)))))))) ?_
  clear hA fr; intro fr hA
  refine plan_mem (mS (off := 4) (vc := [i64 ((x2 * 256) + x3)]) 0 hA hO ?_)
  clear hO; intro w7 hO
  refine ⟨(hO.sub [1]), ?_⟩
  replace hA := hA.sb (e' := [(2, pt b1), (3, i64 0), (4, pt b2)])
  refine end_plan ?_
  refine then_normal ?_
  refine sC (e' := [(2, pt b1), (3, i64 0), (4, pt b2), (47, bl (decide (((x2 * 256) + x3) > 32767)))]) 3 hA [i64 ((x2 * 256) + x3)] (cc (hO.l1 0 4 3 (i64 ((x2 * 256) + x3))) c0) ?_
  clear hA fr; intro fr hA
  rcases Bool.eq_false_or_eq_true (decide (((x2 * 256) + x3) > 32767)) with h1 | h1
  ·
    replace hA := hA.bool (f := fun z_ => [(2, pt b1), (3, i64 0), (4, pt b2), (47, .bool z_)]) h1
    have h1p := of_decide_eq_true h1
    refine cT hA ?_
    refine rR (l := (rg 0 5)) ?_
    refine ck (l := [0, 1, 2, 3]) (r := [4]) (e' := [(2, pt b1), (3, i64 0), (4, pt b2), (50, i64 (((x2 * 256) + x3) - 65536)), (51, pf b2 4)]) hA [i64 ((x2 * 256) + x3), bl true] (cc (hO.l1 0 4 3 (i64 ((x2 * 256) + x3))) (cc ((inK_i64 (by omega) (by omega)) : inK .i64 (((x2 * 256) + x3) - 65536)) c0)) ?_
    clear hA fr; intro fr hA
    refine wpOps_cons' (mS (off := 4) (vc := [i64 (((x2 * 256) + x3) - 65536)]) 0 hA hO ?_)
    clear hO; intro w8 hO
    replace hA := hA.sb (e' := [(2, pt b1), (3, i64 0), (4, pt b2)])
    refine end_ops ?_
    refine inBlock_normal ?_
    refine then_normal ?_
    refine wp_seq ?_
    refine sR (l := [0, 1, 2]) ?_
    refine ck (l := [0]) (r := [1, 2]) (e' := [(2, pt b1), (3, i64 0), (4, pt b2), (71, .agg #[i64 x0, i64 x1, i64 0, i64 0, i64 (((x2 * 256) + x3) - 65536)])]) hA [.agg #[i64 x0, i64 x1, i64 0, i64 0, i64 (((x2 * 256) + x3) - 65536)]] (cc (hO.ln 0 0 56 [i64 x0, i64 x1, i64 0, i64 0, i64 (((x2 * 256) + x3) - 65536)]) c0) ?_
    clear hA fr; intro fr hA
    refine wpOps_cons' (mK (f := 44) (args := [.agg #[i64 x0, i64 x1, i64 0, i64 0, i64 (((x2 * 256) + x3) - 65536)]]) (d := (some 72)) (v := bl (legalB x0 x1 0 0 (((x2 * 256) + x3) - 65536))) hA hO Tryd.func44 (rlegal_any x0 x1 0 0 (((x2 * 256) + x3) - 65536) _) ?_)
    clear hA hO fr; intro fr w9 hA hO
    replace hA := hA.sb (e' := [(2, pt b1), (3, i64 0), (4, pt b2), (72, bl (legalB x0 x1 0 0 (((x2 * 256) + x3) - 65536)))])
    refine ck (l := [2]) (r := []) (e' := [(2, pt b1), (3, i64 0), (4, pt b2), (73, bl (!(legalB x0 x1 0 0 (((x2 * 256) + x3) - 65536))))]) hA [] c0 ?_
    clear hA fr; intro fr hA
    refine end_ops ?_
    refine then_normal ?_
    rcases Bool.eq_false_or_eq_true (legalB x0 x1 0 0 (((x2 * 256) + x3) - 65536)) with h2 | h2
    ·
      replace hA := hA.bool (f := fun z_ => [(2, pt b1), (3, i64 0), (4, pt b2), (73, .bool !z_)]) h2
      refine cF hA ?_
      refine wp_skip ?_
      refine then_normal ?_
      refine sR (l := [0, 1, 2]) ?_
      refine ck (l := [0]) (r := [1, 2]) (e' := [(2, pt b1), (3, i64 0), (75, .agg #[i64 x0, i64 x1, i64 0, i64 0, i64 (((x2 * 256) + x3) - 65536)])]) hA [.agg #[i64 x0, i64 x1, i64 0, i64 0, i64 (((x2 * 256) + x3) - 65536)]] (cc (hO.ln 0 0 56 [i64 x0, i64 x1, i64 0, i64 0, i64 (((x2 * 256) + x3) - 65536)]) c0) ?_
      clear hA fr; intro fr hA
      refine wpOps_cons' (mS (off := 0) (vc := [i64 x0, i64 x1, i64 0, i64 0, i64 (((x2 * 256) + x3) - 65536)]) 1 hA hO ?_)
      clear hO; intro w10 hO
      replace hA := hA.sb (e' := [(2, pt b1), (3, i64 0)])
      refine ck (l := [2]) (r := []) (e' := [(2, pt b1), (3, i64 0)]) hA [] c0 ?_
      clear hA fr; intro fr hA
      refine end_ops ?_
      refine then_normal ?_
      refine wp_ret ?_
      refine cR (cs := [some (⟨b1, 0, none⟩, 56), none]) (us := [.agg #[i64 x0, i64 x1, i64 0, i64 0, i64 (((x2 * 256) + x3) - 65536)], i64 0]) hA [.agg #[i64 x0, i64 x1, i64 0, i64 0, i64 (((x2 * 256) + x3) - 65536)]] ⟨(hO.ln 1 0 56 [i64 x0, i64 x1, i64 0, i64 0, i64 (((x2 * 256) + x3) - 65536)]), trivial⟩ ?_
      have hF := hO.only; clear hA hO
      have hw := i16_hi (y := x2 * 256 + x3) (by omega) (by omega)
      exact ⟨by simp_all [pack, decF, insO, errO, insV], hF⟩
    ·
      replace hA := hA.bool (f := fun z_ => [(2, pt b1), (3, i64 0), (4, pt b2), (73, .bool !z_)]) h2
      refine cT hA ?_
      refine sR (l := [0, 1, 2]) ?_
      refine ck (l := [0]) (r := [1, 2]) (e' := [(2, pt b1), (3, i64 0), (4, pt b2), (74, .agg #[i64 0, i64 0, i64 0, i64 0, i64 0])]) hA [] c0 ?_
      clear hA fr; intro fr hA
      refine wpOps_cons' (mS (off := 0) (vc := [i64 0, i64 0, i64 0, i64 0, i64 0]) 1 hA hO ?_)
      clear hO; intro w11 hO
      replace hA := hA.sb (e' := [(2, pt b1), (3, i64 0), (4, pt b2)])
      refine ck (l := [2]) (r := []) (e' := [(2, pt b1), (3, i64 4), (4, pt b2)]) hA [] c0 ?_
      clear hA fr; intro fr hA
      refine end_ops ?_
      refine then_normal ?_
      refine wp_ret ?_
      refine then_ret ?_
      refine cR (cs := [some (⟨b1, 0, none⟩, 56), none]) (us := [.agg #[i64 0, i64 0, i64 0, i64 0, i64 0], i64 4]) hA [.agg #[i64 0, i64 0, i64 0, i64 0, i64 0]] ⟨(hO.ln 1 0 56 [i64 0, i64 0, i64 0, i64 0, i64 0]), trivial⟩ ?_
      have hF := hO.only; clear hA hO
      have hw := i16_hi (y := x2 * 256 + x3) (by omega) (by omega)
      exact ⟨by simp_all [pack, decF, insO, errO, insV], hF⟩
  ·
    replace hA := hA.bool (f := fun z_ => [(2, pt b1), (3, i64 0), (4, pt b2), (47, .bool z_)]) h1
    have h1p := of_decide_eq_false h1
    refine cF hA ?_
    refine wp_skip ?_
    refine inBlock_normal ?_
    refine then_normal ?_
    refine wp_seq ?_
    refine sR (l := [0, 1, 2]) ?_
    refine ck (l := [0]) (r := [1, 2]) (e' := [(2, pt b1), (3, i64 0), (4, pt b2), (71, .agg #[i64 x0, i64 x1, i64 0, i64 0, i64 ((x2 * 256) + x3)])]) hA [.agg #[i64 x0, i64 x1, i64 0, i64 0, i64 ((x2 * 256) + x3)]] (cc (hO.ln 0 0 56 [i64 x0, i64 x1, i64 0, i64 0, i64 ((x2 * 256) + x3)]) c0) ?_
    clear hA fr; intro fr hA
    refine wpOps_cons' (mK (f := 44) (args := [.agg #[i64 x0, i64 x1, i64 0, i64 0, i64 ((x2 * 256) + x3)]]) (d := (some 72)) (v := bl (legalB x0 x1 0 0 ((x2 * 256) + x3))) hA hO Tryd.func44 (rlegal_any x0 x1 0 0 ((x2 * 256) + x3) _) ?_)
    clear hA hO fr; intro fr w12 hA hO
    replace hA := hA.sb (e' := [(2, pt b1), (3, i64 0), (4, pt b2), (72, bl (legalB x0 x1 0 0 ((x2 * 256) + x3)))])
    refine ck (l := [2]) (r := []) (e' := [(2, pt b1), (3, i64 0), (4, pt b2), (73, bl (!(legalB x0 x1 0 0 ((x2 * 256) + x3))))]) hA [] c0 ?_
    clear hA fr; intro fr hA
    refine end_ops ?_
    refine then_normal ?_
    rcases Bool.eq_false_or_eq_true (legalB x0 x1 0 0 ((x2 * 256) + x3)) with h3 | h3
    ·
      replace hA := hA.bool (f := fun z_ => [(2, pt b1), (3, i64 0), (4, pt b2), (73, .bool !z_)]) h3
      refine cF hA ?_
      refine wp_skip ?_
      refine then_normal ?_
      refine sR (l := [0, 1, 2]) ?_
      refine ck (l := [0]) (r := [1, 2]) (e' := [(2, pt b1), (3, i64 0), (75, .agg #[i64 x0, i64 x1, i64 0, i64 0, i64 ((x2 * 256) + x3)])]) hA [.agg #[i64 x0, i64 x1, i64 0, i64 0, i64 ((x2 * 256) + x3)]] (cc (hO.ln 0 0 56 [i64 x0, i64 x1, i64 0, i64 0, i64 ((x2 * 256) + x3)]) c0) ?_
      clear hA fr; intro fr hA
      refine wpOps_cons' (mS (off := 0) (vc := [i64 x0, i64 x1, i64 0, i64 0, i64 ((x2 * 256) + x3)]) 1 hA hO ?_)
      clear hO; intro w13 hO
      replace hA := hA.sb (e' := [(2, pt b1), (3, i64 0)])
      refine ck (l := [2]) (r := []) (e' := [(2, pt b1), (3, i64 0)]) hA [] c0 ?_
      clear hA fr; intro fr hA
      refine end_ops ?_
      refine then_normal ?_
      refine wp_ret ?_
      refine cR (cs := [some (⟨b1, 0, none⟩, 56), none]) (us := [.agg #[i64 x0, i64 x1, i64 0, i64 0, i64 ((x2 * 256) + x3)], i64 0]) hA [.agg #[i64 x0, i64 x1, i64 0, i64 0, i64 ((x2 * 256) + x3)]] ⟨(hO.ln 1 0 56 [i64 x0, i64 x1, i64 0, i64 0, i64 ((x2 * 256) + x3)]), trivial⟩ ?_
      have hF := hO.only; clear hA hO
      have hw := i16_lo (y := x2 * 256 + x3) (by omega) (by omega)
      exact ⟨by simp_all [pack, decF, insO, errO, insV], hF⟩
    ·
      replace hA := hA.bool (f := fun z_ => [(2, pt b1), (3, i64 0), (4, pt b2), (73, .bool !z_)]) h3
      refine cT hA ?_
      refine sR (l := [0, 1, 2]) ?_
      refine ck (l := [0]) (r := [1, 2]) (e' := [(2, pt b1), (3, i64 0), (4, pt b2), (74, .agg #[i64 0, i64 0, i64 0, i64 0, i64 0])]) hA [] c0 ?_
      clear hA fr; intro fr hA
      refine wpOps_cons' (mS (off := 0) (vc := [i64 0, i64 0, i64 0, i64 0, i64 0]) 1 hA hO ?_)
      clear hO; intro w14 hO
      replace hA := hA.sb (e' := [(2, pt b1), (3, i64 0), (4, pt b2)])
      refine ck (l := [2]) (r := []) (e' := [(2, pt b1), (3, i64 4), (4, pt b2)]) hA [] c0 ?_
      clear hA fr; intro fr hA
      refine end_ops ?_
      refine then_normal ?_
      refine wp_ret ?_
      refine then_ret ?_
      refine cR (cs := [some (⟨b1, 0, none⟩, 56), none]) (us := [.agg #[i64 0, i64 0, i64 0, i64 0, i64 0], i64 4]) hA [.agg #[i64 0, i64 0, i64 0, i64 0, i64 0]] ⟨(hO.ln 1 0 56 [i64 0, i64 0, i64 0, i64 0, i64 0]), trivial⟩ ?_
      have hF := hO.only; clear hA hO
      have hw := i16_lo (y := x2 * 256 + x3) (by omega) (by omega)
      exact ⟨by simp_all [pack, decF, insO, errO, insV], hF⟩

theorem rdecode_2 (ad : Addr) (cap : Nat) (x0 x1 x2 x3 : Int) (w : World) (hf : formF x0 = 2) (hg : (1 ≤ x0 ∧ x0 ≤ 22)) (hc0 : w.cell? (ad.add 0) = some (.int .u8 x0)) (l0 : 0 ≤ x0) (u0 : x0 ≤ 255) (hc1 : w.cell? (ad.add 1) = some (.int .u8 x1)) (l1 : 0 ≤ x1) (u1 : x1 ≤ 255) (hc2 : w.cell? (ad.add 2) = some (.int .u8 x2)) (l2 : 0 ≤ x2) (u2 : x2 ≤ 255) (hc3 : w.cell? (ad.add 3) = some (.int .u8 x3)) (l3 : 0 ≤ x3) (u3 : x3 ≤ 255) :
    Calls Tryd.prog 32 #[.slice (some ad) 4 cap] w fun e w' => e = .returned (.tuple #[insO (decF false true x0 x1 x2 x3), .int .i64 (errO (decF false true x0 x1 x2 x3))]) ∧ Only none' w w' := by
  refine c_enter (args := [.slice (some ad) 4 cap]) (m := 75) (n := 76) Tryd.func32 rfl (by kernel_rfl) (by kernel_rfl) fun fr hA => ?_
  have hO := Ow.nil Tryd.prog none' w
  refine sR (l := [0, 1]) ?_
  refine wpOps_cons' (mN (l := [i64 0, i64 0, i64 0, i64 0, i64 0]) (t := 56) (v := pt) (d := 2) hA hO ?_)
  clear hA hO fr; intro fr w1 b1 hA hO
  refine ck (l := [1]) (r := []) (e' := [(0, .slice (some ad) 4 cap), (2, pt b1), (3, i64 0)]) hA [] c0 ?_
  clear hA fr; intro fr hA
  refine end_ops ?_
  refine then_normal ?_
  refine wp_seq ?_
  refine sC (e' := [(0, .slice (some ad) 4 cap), (2, pt b1), (3, i64 0), (7, bl false)]) 3 hA [] c0 ?_
  clear hA fr; intro fr hA
  refine cF hA ?_
  refine wp_skip ?_
  refine then_normal ?_
  refine wp_seq ?_
  have hS := hO
  refine rP [(0, true), (1, true), (2, true), (3, true), (4, true), (5, true), (6, true), (7, true), (8, true), (9, false), (10, false)] hS ?_
  intro w2 ho; replace hO := hO.st ho; clear ho
  refine ckS (l := (rg 0 9)) (r := [(9, false), (10, false)]) (e' := [(0, .slice (some ad) 4 cap), (2, pt b1), (3, i64 0), (17, .agg #[i64 x0, i64 x1, i64 0, i64 0, i64 0])]) hA [u8 x0, bl true, u8 x1, bl true] (cc (⟨by omega, by omega⟩ : (0 : Int) ≤ 0 ∧ 0 < ((4 : Nat) : Int)) (cc (hS.sx (ad.add 0) 5 (u8 x0) fun _ hO => (ld_cell (by kernel_rfl) (hO.only.cell hc0 (fun h => h)))) (cc ((inK_i64 (by omega) (by omega)) : inK .i64 x0) (cc (⟨by omega, by omega⟩ : (0 : Int) ≤ 1 ∧ 1 < ((4 : Nat) : Int)) (cc (hS.sx (ad.add 1) 5 (u8 x1) fun _ hO => (ld_cell (by kernel_rfl) (hO.only.cell hc1 (fun h => h)))) (cc ((inK_i64 (by omega) (by omega)) : inK .i64 x1) c0)))))) ?_
  clear hA fr; intro fr hA
  refine plan_mem (mN (l := [i64 0, i64 0, i64 0, i64 0, i64 0]) (t := 56) (v := pt) (d := 4) hA hO ?_)
  clear hA hO fr; intro fr w3 b2 hA hO
  refine ⟨(hO.sub [1]), ?_⟩
  refine plan_mem (mS (off := 0) (vc := [i64 x0, i64 x1, i64 0, i64 0, i64 0]) 0 hA hO ?_)
  clear hO; intro w4 hO
  refine ⟨(hO.sub [1]), ?_⟩
  replace hA := hA.sb (e' := [(0, .slice (some ad) 4 cap), (2, pt b1), (3, i64 0), (4, pt b2)])
  refine end_plan ?_
  refine then_normal ?_
  refine wp_seq ?_
  refine sR (l := [0, 1, 2]) ?_
  refine ck (l := [0, 1]) (r := [2]) (e' := [(0, .slice (some ad) 4 cap), (2, pt b1), (3, i64 0), (4, pt b2), (19, i64 x0)]) hA [i64 x0] (cc (hO.l1 0 0 3 (i64 x0)) c0) ?_
  clear hA fr; intro fr hA
  refine wpOps_cons' (mK (f := 43) (args := [i64 x0]) (d := (some 20)) (v := i64 2) hA hO Tryd.func43 (rs (form_any x0 _) (congrArg _ hf)) ?_)
  clear hA hO fr; intro fr w5 hA hO
  replace hA := hA.sb (e' := [(0, .slice (some ad) 4 cap), (2, pt b1), (3, i64 0), (4, pt b2), (20, i64 2)])
  refine end_ops ?_
  refine then_normal ?_
  refine wp_block ?_
  refine wp_seq ?_
  refine sC (e' := [(0, .slice (some ad) 4 cap), (2, pt b1), (3, i64 0), (4, pt b2), (20, i64 2), (31, bl false)]) 2 hA [] c0 ?_
  clear hA fr; intro fr hA
  refine cF hA ?_
  refine rC (e' := [(0, .slice (some ad) 4 cap), (2, pt b1), (3, i64 0), (4, pt b2), (20, i64 2), (31, bl false)]) 2 hA [] c0 ?_
  clear hA fr; intro fr hA
  refine then_normal ?_
  refine cF hA ?_
  refine sC (e' := [(0, .slice (some ad) 4 cap), (2, pt b1), (3, i64 0), (4, pt b2), (52, bl true)]) 2 hA [] c0 ?_
  clear hA fr; intro fr hA
  refine cT hA ?_
  refine wp_seq ?_
  have hS : Ow Tryd.prog none' w _ [(b1, 56, [i64 0, i64 0, i64 0, i64 0, i64 0])] := hO.sub [1]
  refine rP [(0, true), (1, true), (2, true), (3, true), (4, true), (5, true), (6, true), (7, true), (8, true), (9, false), (10, true), (11, false)] hS ?_
  intro w6 ho; replace hO := hO.st ho; clear ho
  refine ckS (l := (rg 0 9)) (r := [(9, false), (10, true), (11, false)]) (e' := [(2, pt b1), (3, i64 0), (4, pt b2), (57, i64 x2), (61, i64 x3), (62, pf b2 2)]) hA [u8 x2, bl true, u8 x3, bl true] (cc (⟨by omega, by omega⟩ : (0 : Int) ≤ 2 ∧ 2 < ((4 : Nat) : Int)) (cc (hS.sx (ad.add 2) 5 (u8 x2) fun _ hO => (ld_cell (by kernel_rfl) (hO.only.cell hc2 (fun h => h)))) (cc ((inK_i64 (by omega) (by omega)) : inK .i64 x2) (cc (⟨by omega, by omega⟩ : (0 : Int) ≤ 3 ∧ 3 < ((4 : Nat) : Int)) (cc (hS.sx (ad.add 3) 5 (u8 x3) fun _ hO => (ld_cell (by kernel_rfl) (hO.only.cell hc3 (fun h => h)))) (cc ((inK_i64 (by omega) (by omega)) : inK .i64 x3) c0)))))) ?_
  clear hA fr; intro fr hA
  refine plan_mem (mS (off := 2) (vc := [i64 x2]) 0 hA hO ?_)
  clear hO; intro w7 hO
  refine ⟨(hO.sub [1]), ?_⟩
  replace hA := hA.sb (e' := [(2, pt b1), (3, i64 0), (4, pt b2), (61, i64 x3)])
  refine ckS (l := [10]) (r := [(11, false)]) (e' := [(2, pt b1), (3, i64 0), (4, pt b2), (61, i64 x3), (63, pf b2 3)]) hA [] c0 ?_
  clear hA fr; intro fr hA
  refine plan_mem (mS (off := 3) (vc := [i64 x3]) 0 hA hO ?_)
  clear hO; intro w8 hO
  refine ⟨(hO.sub [1]), ?_⟩
  replace hA := hA.sb (e' := [(2, pt b1), (3, i64 0), (4, pt b2)])
  refine end_plan ?_
  refine then_normal ?_
  refine sC (e' := [(2, pt b1), (3, i64 0), (4, pt b2), (66, bl (decide (x3 > 127)))]) 3 hA [i64 x3] (cc (hO.l1 0 3 3 (i64 x3)) c0) ?_
  clear hA fr; intro fr hA
  rcases Bool.eq_false_or_eq_true (decide (x3 > 127)) with h1 | h1
  ·
    replace hA := hA.bool (f := fun z_ => [(2, pt b1), (3, i64 0), (4, pt b2), (66, .bool z_)]) h1
    have h1p := of_decide_eq_true h1
    refine cT hA ?_
    refine rR (l := (rg 0 5)) ?_
    refine ck (l := [0, 1, 2, 3]) (r := [4]) (e' := [(2, pt b1), (3, i64 0), (4, pt b2), (69, i64 (x3 - 256)), (70, pf b2 3)]) hA [i64 x3, bl true] (cc (hO.l1 0 3 3 (i64 x3)) (cc ((inK_i64 (by omega) (by omega)) : inK .i64 (x3 - 256)) c0)) ?_
    clear hA fr; intro fr hA
    refine wpOps_cons' (mS (off := 3) (vc := [i64 (x3 - 256)]) 0 hA hO ?_)
    clear hO; intro w9 hO
    replace hA := hA.sb (e' := [(2, pt b1), (3, i64 0), (4, pt b2)])
    refine end_ops ?_
    refine inBlock_normal ?_
    refine then_normal ?_
    refine wp_seq ?_
    refine sR (l := [0, 1, 2]) ?_
    refine ck (l := [0]) (r := [1, 2]) (e' := [(2, pt b1), (3, i64 0), (4, pt b2), (71, .agg #[i64 x0, i64 x1, i64 x2, i64 (x3 - 256), i64 0])]) hA [.agg #[i64 x0, i64 x1, i64 x2, i64 (x3 - 256), i64 0]] (cc (hO.ln 0 0 56 [i64 x0, i64 x1, i64 x2, i64 (x3 - 256), i64 0]) c0) ?_
    clear hA fr; intro fr hA
    refine wpOps_cons' (mK (f := 44) (args := [.agg #[i64 x0, i64 x1, i64 x2, i64 (x3 - 256), i64 0]]) (d := (some 72)) (v := bl (legalB x0 x1 x2 (x3 - 256) 0)) hA hO Tryd.func44 (rlegal_any x0 x1 x2 (x3 - 256) 0 _) ?_)
    clear hA hO fr; intro fr w10 hA hO
    replace hA := hA.sb (e' := [(2, pt b1), (3, i64 0), (4, pt b2), (72, bl (legalB x0 x1 x2 (x3 - 256) 0))])
    refine ck (l := [2]) (r := []) (e' := [(2, pt b1), (3, i64 0), (4, pt b2), (73, bl (!(legalB x0 x1 x2 (x3 - 256) 0)))]) hA [] c0 ?_
    clear hA fr; intro fr hA
    refine end_ops ?_
    refine then_normal ?_
    rcases Bool.eq_false_or_eq_true (legalB x0 x1 x2 (x3 - 256) 0) with h2 | h2
    ·
      replace hA := hA.bool (f := fun z_ => [(2, pt b1), (3, i64 0), (4, pt b2), (73, .bool !z_)]) h2
      refine cF hA ?_
      refine wp_skip ?_
      refine then_normal ?_
      refine sR (l := [0, 1, 2]) ?_
      refine ck (l := [0]) (r := [1, 2]) (e' := [(2, pt b1), (3, i64 0), (75, .agg #[i64 x0, i64 x1, i64 x2, i64 (x3 - 256), i64 0])]) hA [.agg #[i64 x0, i64 x1, i64 x2, i64 (x3 - 256), i64 0]] (cc (hO.ln 0 0 56 [i64 x0, i64 x1, i64 x2, i64 (x3 - 256), i64 0]) c0) ?_
      clear hA fr; intro fr hA
      refine wpOps_cons' (mS (off := 0) (vc := [i64 x0, i64 x1, i64 x2, i64 (x3 - 256), i64 0]) 1 hA hO ?_)
      clear hO; intro w11 hO
      replace hA := hA.sb (e' := [(2, pt b1), (3, i64 0)])
      refine ck (l := [2]) (r := []) (e' := [(2, pt b1), (3, i64 0)]) hA [] c0 ?_
      clear hA fr; intro fr hA
      refine end_ops ?_
      refine then_normal ?_
      refine wp_ret ?_
      refine cR (cs := [some (⟨b1, 0, none⟩, 56), none]) (us := [.agg #[i64 x0, i64 x1, i64 x2, i64 (x3 - 256), i64 0], i64 0]) hA [.agg #[i64 x0, i64 x1, i64 x2, i64 (x3 - 256), i64 0]] ⟨(hO.ln 1 0 56 [i64 x0, i64 x1, i64 x2, i64 (x3 - 256), i64 0]), trivial⟩ ?_
      have hF := hO.only; clear hA hO
      have hw := i8_hi (y := x3) (by omega) (by omega)
      exact ⟨by simp_all [pack, decF, insO, errO, insV], hF⟩
    ·
      replace hA := hA.bool (f := fun z_ => [(2, pt b1), (3, i64 0), (4, pt b2), (73, .bool !z_)]) h2
      refine cT hA ?_
      refine sR (l := [0, 1, 2]) ?_
      refine ck (l := [0]) (r := [1, 2]) (e' := [(2, pt b1), (3, i64 0), (4, pt b2), (74, .agg #[i64 0, i64 0, i64 0, i64 0, i64 0])]) hA [] c0 ?_
      clear hA fr; intro fr hA
      refine wpOps_cons' (mS (off := 0) (vc := [i64 0, i64 0, i64 0, i64 0, i64 0]) 1 hA hO ?_)
      clear hO; intro w12 hO
      replace hA := hA.sb (e' := [(2, pt b1), (3, i64 0), (4, pt b2)])
      refine ck (l := [2]) (r := []) (e' := [(2, pt b1), (3, i64 4), (4, pt b2)]) hA [] c0 ?_
      clear hA fr; intro fr hA
      refine end_ops ?_
      refine then_normal ?_
      refine wp_ret ?_
      refine then_ret ?_
      refine cR (cs := [some (⟨b1, 0, none⟩, 56), none]) (us := [.agg #[i64 0, i64 0, i64 0, i64 0, i64 0], i64 4]) hA [.agg #[i64 0, i64 0, i64 0, i64 0, i64 0]] ⟨(hO.ln 1 0 56 [i64 0, i64 0, i64 0, i64 0, i64 0]), trivial⟩ ?_
      have hF := hO.only; clear hA hO
      have hw := i8_hi (y := x3) (by omega) (by omega)
      exact ⟨by simp_all [pack, decF, insO, errO, insV], hF⟩
  ·
    replace hA := hA.bool (f := fun z_ => [(2, pt b1), (3, i64 0), (4, pt b2), (66, .bool z_)]) h1
    have h1p := of_decide_eq_false h1
    refine cF hA ?_
    refine wp_skip ?_
    refine inBlock_normal ?_
    refine then_normal ?_
    refine wp_seq ?_
    refine sR (l := [0, 1, 2]) ?_
    refine ck (l := [0]) (r := [1, 2]) (e' := [(2, pt b1), (3, i64 0), (4, pt b2), (71, .agg #[i64 x0, i64 x1, i64 x2, i64 x3, i64 0])]) hA [.agg #[i64 x0, i64 x1, i64 x2, i64 x3, i64 0]] (cc (hO.ln 0 0 56 [i64 x0, i64 x1, i64 x2, i64 x3, i64 0]) c0) ?_
    clear hA fr; intro fr hA
    refine wpOps_cons' (mK (f := 44) (args := [.agg #[i64 x0, i64 x1, i64 x2, i64 x3, i64 0]]) (d := (some 72)) (v := bl (legalB x0 x1 x2 x3 0)) hA hO Tryd.func44 (rlegal_any x0 x1 x2 x3 0 _) ?_)
    clear hA hO fr; intro fr w13 hA hO
    replace hA := hA.sb (e' := [(2, pt b1), (3, i64 0), (4, pt b2), (72, bl (legalB x0 x1 x2 x3 0))])
    refine ck (l := [2]) (r := []) (e' := [(2, pt b1), (3, i64 0), (4, pt b2), (73, bl (!(legalB x0 x1 x2 x3 0)))]) hA [] c0 ?_
    clear hA fr; intro fr hA
    refine end_ops ?_
    refine then_normal ?_
    rcases Bool.eq_false_or_eq_true (legalB x0 x1 x2 x3 0) with h3 | h3
    ·
      replace hA := hA.bool (f := fun z_ => [(2, pt b1), (3, i64 0), (4, pt b2), (73, .bool !z_)]) h3
      refine cF hA ?_
      refine wp_skip ?_
      refine then_normal ?_
      refine sR (l := [0, 1, 2]) ?_
      refine ck (l := [0]) (r := [1, 2]) (e' := [(2, pt b1), (3, i64 0), (75, .agg #[i64 x0, i64 x1, i64 x2, i64 x3, i64 0])]) hA [.agg #[i64 x0, i64 x1, i64 x2, i64 x3, i64 0]] (cc (hO.ln 0 0 56 [i64 x0, i64 x1, i64 x2, i64 x3, i64 0]) c0) ?_
      clear hA fr; intro fr hA
      refine wpOps_cons' (mS (off := 0) (vc := [i64 x0, i64 x1, i64 x2, i64 x3, i64 0]) 1 hA hO ?_)
      clear hO; intro w14 hO
      replace hA := hA.sb (e' := [(2, pt b1), (3, i64 0)])
      refine ck (l := [2]) (r := []) (e' := [(2, pt b1), (3, i64 0)]) hA [] c0 ?_
      clear hA fr; intro fr hA
      refine end_ops ?_
      refine then_normal ?_
      refine wp_ret ?_
      refine cR (cs := [some (⟨b1, 0, none⟩, 56), none]) (us := [.agg #[i64 x0, i64 x1, i64 x2, i64 x3, i64 0], i64 0]) hA [.agg #[i64 x0, i64 x1, i64 x2, i64 x3, i64 0]] ⟨(hO.ln 1 0 56 [i64 x0, i64 x1, i64 x2, i64 x3, i64 0]), trivial⟩ ?_
      have hF := hO.only; clear hA hO
      have hw := i8_lo (y := x3) (by omega) (by omega)
      exact ⟨by simp_all [pack, decF, insO, errO, insV], hF⟩
    ·
      replace hA := hA.bool (f := fun z_ => [(2, pt b1), (3, i64 0), (4, pt b2), (73, .bool !z_)]) h3
      refine cT hA ?_
      refine sR (l := [0, 1, 2]) ?_
      refine ck (l := [0]) (r := [1, 2]) (e' := [(2, pt b1), (3, i64 0), (4, pt b2), (74, .agg #[i64 0, i64 0, i64 0, i64 0, i64 0])]) hA [] c0 ?_
      clear hA fr; intro fr hA
      refine wpOps_cons' (mS (off := 0) (vc := [i64 0, i64 0, i64 0, i64 0, i64 0]) 1 hA hO ?_)
      clear hO; intro w15 hO
      replace hA := hA.sb (e' := [(2, pt b1), (3, i64 0), (4, pt b2)])
      refine ck (l := [2]) (r := []) (e' := [(2, pt b1), (3, i64 4), (4, pt b2)]) hA [] c0 ?_
      clear hA fr; intro fr hA
      refine end_ops ?_
      refine then_normal ?_
      refine wp_ret ?_
      refine then_ret ?_
      refine cR (cs := [some (⟨b1, 0, none⟩, 56), none]) (us := [.agg #[i64 0, i64 0, i64 0, i64 0, i64 0], i64 4]) hA [.agg #[i64 0, i64 0, i64 0, i64 0, i64 0]] ⟨(hO.ln 1 0 56 [i64 0, i64 0, i64 0, i64 0, i64 0]), trivial⟩ ?_
      have hF := hO.only; clear hA hO
      have hw := i8_lo (y := x3) (by omega) (by omega)
      exact ⟨by simp_all [pack, decF, insO, errO, insV], hF⟩

theorem rdecode_3 (ad : Addr) (cap : Nat) (x0 x1 x2 x3 : Int) (w : World) (hf : formF x0 = 3) (hg : (1 ≤ x0 ∧ x0 ≤ 22)) (hc0 : w.cell? (ad.add 0) = some (.int .u8 x0)) (l0 : 0 ≤ x0) (u0 : x0 ≤ 255) (hc1 : w.cell? (ad.add 1) = some (.int .u8 x1)) (l1 : 0 ≤ x1) (u1 : x1 ≤ 255) (hc2 : w.cell? (ad.add 2) = some (.int .u8 x2)) (l2 : 0 ≤ x2) (u2 : x2 ≤ 255) (hc3 : w.cell? (ad.add 3) = some (.int .u8 x3)) (l3 : 0 ≤ x3) (u3 : x3 ≤ 255) :
    Calls Tryd.prog 32 #[.slice (some ad) 4 cap] w fun e w' => e = .returned (.tuple #[insO (decF false false x0 x1 x2 x3), .int .i64 (errO (decF false false x0 x1 x2 x3))]) ∧ Only none' w w' := by
  refine c_enter (args := [.slice (some ad) 4 cap]) (m := 75) (n := 76) Tryd.func32 rfl (by kernel_rfl) (by kernel_rfl) fun fr hA => ?_
  have hO := Ow.nil Tryd.prog none' w
  refine sR (l := [0, 1]) ?_
  refine wpOps_cons' (mN (l := [i64 0, i64 0, i64 0, i64 0, i64 0]) (t := 56) (v := pt) (d := 2) hA hO ?_)
  clear hA hO fr; intro fr w1 b1 hA hO
  refine ck (l := [1]) (r := []) (e' := [(0, .slice (some ad) 4 cap), (2, pt b1), (3, i64 0)]) hA [] c0 ?_
  clear hA fr; intro fr hA
  refine end_ops ?_
  refine then_normal ?_
  refine wp_seq ?_
  refine sC (e' := [(0, .slice (some ad) 4 cap), (2, pt b1), (3, i64 0), (7, bl false)]) 3 hA [] c0 ?_
  clear hA fr; intro fr hA
  refine cF hA ?_
  refine wp_skip ?_
  refine then_normal ?_
  refine wp_seq ?_
  have hS := hO
  refine rP [(0, true), (1, true), (2, true), (3, true), (4, true), (5, true), (6, true), (7, true), (8, true), (9, false), (10, false)] hS ?_
  intro w2 ho; replace hO := hO.st ho; clear ho
  refine ckS (l := (rg 0 9)) (r := [(9, false), (10, false)]) (e' := [(0, .slice (some ad) 4 cap), (2, pt b1), (3, i64 0), (17, .agg #[i64 x0, i64 x1, i64 0, i64 0, i64 0])]) hA [u8 x0, bl true, u8 x1, bl true] (cc (⟨by omega, by omega⟩ : (0 : Int) ≤ 0 ∧ 0 < ((4 : Nat) : Int)) (cc (hS.sx (ad.add 0) 5 (u8 x0) fun _ hO => (ld_cell (by kernel_rfl) (hO.only.cell hc0 (fun h => h)))) (cc ((inK_i64 (by omega) (by omega)) : inK .i64 x0) (cc (⟨by omega, by omega⟩ : (0 : Int) ≤ 1 ∧ 1 < ((4 : Nat) : Int)) (cc (hS.sx (ad.add 1) 5 (u8 x1) fun _ hO => (ld_cell (by kernel_rfl) (hO.only.cell hc1 (fun h => h)))) (cc ((inK_i64 (by omega) (by omega)) : inK .i64 x1) c0)))))) ?_
  clear hA fr; intro fr hA
  refine plan_mem (mN (l := [i64 0, i64 0, i64 0, i64 0, i64 0]) (t := 56) (v := pt) (d := 4) hA hO ?_)
  clear hA hO fr; intro fr w3 b2 hA hO
  refine ⟨(hO.sub [1]), ?_⟩
  refine plan_mem (mS (off := 0) (vc := [i64 x0, i64 x1, i64 0, i64 0, i64 0]) 0 hA hO ?_)
  clear hO; intro w4 hO
  refine ⟨(hO.sub [1]), ?_⟩
  replace hA := hA.sb (e' := [(0, .slice (some ad) 4 cap), (2, pt b1), (3, i64 0), (4, pt b2)])
  refine end_plan ?_
  refine then_normal ?_
  refine wp_seq ?_
  refine sR (l := [0, 1, 2]) ?_
  refine ck (l := [0, 1]) (r := [2]) (e' := [(0, .slice (some ad) 4 cap), (2, pt b1), (3, i64 0), (4, pt b2), (19, i64 x0)]) hA [i64 x0] (cc (hO.l1 0 0 3 (i64 x0)) c0) ?_
  clear hA fr; intro fr hA
  refine wpOps_cons' (mK (f := 43) (args := [i64 x0]) (d := (some 20)) (v := i64 3) hA hO Tryd.func43 (rs (form_any x0 _) (congrArg _ hf)) ?_)
  clear hA hO fr; intro fr w5 hA hO
  replace hA := hA.sb (e' := [(0, .slice (some ad) 4 cap), (2, pt b1), (3, i64 0), (4, pt b2), (20, i64 3)])
  refine end_ops ?_
  refine then_normal ?_
  refine wp_block ?_
  refine wp_seq ?_
  refine sC (e' := [(0, .slice (some ad) 4 cap), (2, pt b1), (3, i64 0), (4, pt b2), (20, i64 3), (31, bl false)]) 2 hA [] c0 ?_
  clear hA fr; intro fr hA
  refine cF hA ?_
  refine rC (e' := [(0, .slice (some ad) 4 cap), (2, pt b1), (3, i64 0), (4, pt b2), (20, i64 3), (31, bl false)]) 2 hA [] c0 ?_
  clear hA fr; intro fr hA
  refine then_normal ?_
  refine cF hA ?_
  refine sC (e' := [(0, .slice (some ad) 4 cap), (2, pt b1), (3, i64 0), (4, pt b2), (52, bl false)]) 2 hA [] c0 ?_
  clear hA fr; intro fr hA
  refine cF hA ?_
  have hS : Ow Tryd.prog none' w _ [(b1, 56, [i64 0, i64 0, i64 0, i64 0, i64 0])] := hO.sub [1]
  refine rP [(0, true), (1, true), (2, true), (3, true), (4, true), (5, true), (6, true), (7, true), (8, true), (9, false), (10, true), (11, false)] hS ?_
  intro w6 ho; replace hO := hO.st ho; clear ho
  refine ckS (l := (rg 0 9)) (r := [(9, false), (10, true), (11, false)]) (e' := [(2, pt b1), (3, i64 0), (4, pt b2), (24, i64 x2), (28, i64 x3), (29, pf b2 2)]) hA [u8 x2, bl true, u8 x3, bl true] (cc (⟨by omega, by omega⟩ : (0 : Int) ≤ 2 ∧ 2 < ((4 : Nat) : Int)) (cc (hS.sx (ad.add 2) 5 (u8 x2) fun _ hO => (ld_cell (by kernel_rfl) (hO.only.cell hc2 (fun h => h)))) (cc ((inK_i64 (by omega) (by omega)) : inK .i64 x2) (cc (⟨by omega, by omega⟩ : (0 : Int) ≤ 3 ∧ 3 < ((4 : Nat) : Int)) (cc (hS.sx (ad.add 3) 5 (u8 x3) fun _ hO => (ld_cell (by kernel_rfl) (hO.only.cell hc3 (fun h => h)))) (cc ((inK_i64 (by omega) (by omega)) : inK .i64 x3) c0)))))) ?_
  clear hA fr; intro fr hA
  refine plan_mem (mS (off := 2) (vc := [i64 x2]) 0 hA hO ?_)
  clear hO; intro w7 hO
  refine ⟨(hO.sub [1]), ?_⟩
  replace hA := hA.sb (e' := [(2, pt b1), (3, i64 0), (4, pt b2), (28, i64 x3)])
  refine ckS (l := [10]) (r := [(11, false)]) (e' := [(2, pt b1), (3, i64 0), (4, pt b2), (28, i64 x3), (30, pf b2 3)]) hA [] c0 ?_
  clear hA fr; intro fr hA
  refine plan_mem (mS (off := 3) (vc := [i64 x3]) 0 hA hO ?_)
  clear hO; intro w8 hO
  refine ⟨(hO.sub [1]), ?_⟩
  replace hA := hA.sb (e' := [(2, pt b1), (3, i64 0), (4, pt b2)])
  refine end_plan ?_
  refine inBlock_normal ?_
  refine then_normal ?_
  refine wp_seq ?_
  refine sR (l := [0, 1, 2]) ?_
  refine ck (l := [0]) (r := [1, 2]) (e' := [(2, pt b1), (3, i64 0), (4, pt b2), (71, .agg #[i64 x0, i64 x1, i64 x2, i64 x3, i64 0])]) hA [.agg #[i64 x0, i64 x1, i64 x2, i64 x3, i64 0]] (cc (hO.ln 0 0 56 [i64 x0, i64 x1, i64 x2, i64 x3, i64 0]) c0) ?_
  clear hA fr; intro fr hA
  refine wpOps_cons' (mK (f := 44) (args := [.agg #[i64 x0, i64 x1, i64 x2, i64 x3, i64 0]]) (d := (some 72)) (v := bl (legalB x0 x1 x2 x3 0)) hA hO Tryd.func44 (rlegal_any x0 x1 x2 x3 0 _) ?_)
  clear hA hO fr; intro fr w9 hA hO
  replace hA := hA.sb (e' := [(2, pt b1), (3, i64 0), (4, pt b2), (72, bl (legalB x0 x1 x2 x3 0))])
  refine ck (l := [2]) (r := []) (e' := [(2, pt b1), (3, i64 0), (4, pt b2), (73, bl (!(legalB x0 x1 x2 x3 0)))]) hA [] c0 ?_
  clear hA fr; intro fr hA
  refine end_ops ?_
  refine then_normal ?_
  rcases Bool.eq_false_or_eq_true (legalB x0 x1 x2 x3 0) with h1 | h1
  ·
    replace hA := hA.bool (f := fun z_ => [(2, pt b1), (3, i64 0), (4, pt b2), (73, .bool !z_)]) h1
    refine cF hA ?_
    refine wp_skip ?_
    refine then_normal ?_
    refine sR (l := [0, 1, 2]) ?_
    refine ck (l := [0]) (r := [1, 2]) (e' := [(2, pt b1), (3, i64 0), (75, .agg #[i64 x0, i64 x1, i64 x2, i64 x3, i64 0])]) hA [.agg #[i64 x0, i64 x1, i64 x2, i64 x3, i64 0]] (cc (hO.ln 0 0 56 [i64 x0, i64 x1, i64 x2, i64 x3, i64 0]) c0) ?_
    clear hA fr; intro fr hA
    refine wpOps_cons' (mS (off := 0) (vc := [i64 x0, i64 x1, i64 x2, i64 x3, i64 0]) 1 hA hO ?_)
    clear hO; intro w10 hO
    replace hA := hA.sb (e' := [(2, pt b1), (3, i64 0)])
    refine ck (l := [2]) (r := []) (e' := [(2, pt b1), (3, i64 0)]) hA [] c0 ?_
    clear hA fr; intro fr hA
    refine end_ops ?_
    refine then_normal ?_
    refine wp_ret ?_
    refine cR (cs := [some (⟨b1, 0, none⟩, 56), none]) (us := [.agg #[i64 x0, i64 x1, i64 x2, i64 x3, i64 0], i64 0]) hA [.agg #[i64 x0, i64 x1, i64 x2, i64 x3, i64 0]] ⟨(hO.ln 1 0 56 [i64 x0, i64 x1, i64 x2, i64 x3, i64 0]), trivial⟩ ?_
    have hF := hO.only; clear hA hO
    exact ⟨by simp_all [pack, decF, insO, errO, insV], hF⟩
  ·
    replace hA := hA.bool (f := fun z_ => [(2, pt b1), (3, i64 0), (4, pt b2), (73, .bool !z_)]) h1
    refine cT hA ?_
    refine sR (l := [0, 1, 2]) ?_
    refine ck (l := [0]) (r := [1, 2]) (e' := [(2, pt b1), (3, i64 0), (4, pt b2), (74, .agg #[i64 0, i64 0, i64 0, i64 0, i64 0])]) hA [] c0 ?_
    clear hA fr; intro fr hA
    refine wpOps_cons' (mS (off := 0) (vc := [i64 0, i64 0, i64 0, i64 0, i64 0]) 1 hA hO ?_)
    clear hO; intro w11 hO
    replace hA := hA.sb (e' := [(2, pt b1), (3, i64 0), (4, pt b2)])
    refine ck (l := [2]) (r := []) (e' := [(2, pt b1), (3, i64 4), (4, pt b2)]) hA [] c0 ?_
    clear hA fr; intro fr hA
    refine end_ops ?_
    refine then_normal ?_
    refine wp_ret ?_
    refine then_ret ?_
    refine cR (cs := [some (⟨b1, 0, none⟩, 56), none]) (us := [.agg #[i64 0, i64 0, i64 0, i64 0, i64 0], i64 4]) hA [.agg #[i64 0, i64 0, i64 0, i64 0, i64 0]] ⟨(hO.ln 1 0 56 [i64 0, i64 0, i64 0, i64 0, i64 0]), trivial⟩ ?_
    have hF := hO.only; clear hA hO
    exact ⟨by simp_all [pack, decF, insO, errO, insV], hF⟩

theorem rdecode_4 (ad : Addr) (cap : Nat) (x0 x1 x2 x3 : Int) (w : World) (hf : formF x0 = 4) (hg : (1 ≤ x0 ∧ x0 ≤ 22)) (hc0 : w.cell? (ad.add 0) = some (.int .u8 x0)) (l0 : 0 ≤ x0) (u0 : x0 ≤ 255) (hc1 : w.cell? (ad.add 1) = some (.int .u8 x1)) (l1 : 0 ≤ x1) (u1 : x1 ≤ 255) (hc2 : w.cell? (ad.add 2) = some (.int .u8 x2)) (l2 : 0 ≤ x2) (u2 : x2 ≤ 255) (hc3 : w.cell? (ad.add 3) = some (.int .u8 x3)) (l3 : 0 ≤ x3) (u3 : x3 ≤ 255) :
    Calls Tryd.prog 32 #[.slice (some ad) 4 cap] w fun e w' => e = .returned (.tuple #[insO (decF true false x0 x1 x2 x3), .int .i64 (errO (decF true false x0 x1 x2 x3))]) ∧ Only none' w w' := by
  refine c_enter (args := [.slice (some ad) 4 cap]) (m := 75) (n := 76) Tryd.func32 rfl (by kernel_rfl) (by kernel_rfl) fun fr hA => ?_
  have hO := Ow.nil Tryd.prog none' w
  refine sR (l := [0, 1]) ?_
  refine wpOps_cons' (mN (l := [i64 0, i64 0, i64 0, i64 0, i64 0]) (t := 56) (v := pt) (d := 2) hA hO ?_)
  clear hA hO fr; intro fr w1 b1 hA hO
  refine ck (l := [1]) (r := []) (e' := [(0, .slice (some ad) 4 cap), (2, pt b1), (3, i64 0)]) hA [] c0 ?_
  clear hA fr; intro fr hA
  refine end_ops ?_
  refine then_normal ?_
  refine wp_seq ?_
  refine sC (e' := [(0, .slice (some ad) 4 cap), (2, pt b1), (3, i64 0), (7, bl false)]) 3 hA [] c0 ?_
  clear hA fr; intro fr hA
  refine cF hA ?_
  refine wp_skip ?_
  refine then_normal ?_
  refine wp_seq ?_
  have hS := hO
  refine rP [(0, true), (1, true), (2, true), (3, true), (4, true), (5, true), (6, true), (7, true), (8, true), (9, false), (10, false)] hS ?_
  intro w2 ho; replace hO := hO.st ho; clear ho
  refine ckS (l := (rg 0 9)) (r := [(9, false), (10, false)]) (e' := [(0, .slice (some ad) 4 cap), (2, pt b1), (3, i64 0), (17, .agg #[i64 x0, i64 x1, i64 0, i64 0, i64 0])]) hA [u8 x0, bl true, u8 x1, bl true] (cc (⟨by omega, by omega⟩ : (0 : Int) ≤ 0 ∧ 0 < ((4 : Nat) : Int)) (cc (hS.sx (ad.add 0) 5 (u8 x0) fun _ hO => (ld_cell (by kernel_rfl) (hO.only.cell hc0 (fun h => h)))) (cc ((inK_i64 (by omega) (by omega)) : inK .i64 x0) (cc (⟨by omega, by omega⟩ : (0 : Int) ≤ 1 ∧ 1 < ((4 : Nat) : Int)) (cc (hS.sx (ad.add 1) 5 (u8 x1) fun _ hO => (ld_cell (by kernel_rfl) (hO.only.cell hc1 (fun h => h)))) (cc ((inK_i64 (by omega) (by omega)) : inK .i64 x1) c0)))))) ?_
  clear hA fr; intro fr hA
  refine plan_mem (mN (l := [i64 0, i64 0, i64 0, i64 0, i64 0]) (t := 56) (v := pt) (d := 4) hA hO ?_)
  clear hA hO fr; intro fr w3 b2 hA hO
  refine ⟨(hO.sub [1]), ?_⟩
  refine plan_mem (mS (off := 0) (vc := [i64 x0, i64 x1, i64 0, i64 0, i64 0]) 0 hA hO ?_)
  clear hO; intro w4 hO
  refine ⟨(hO.sub [1]), ?_⟩
  replace hA := hA.sb (e' := [(0, .slice (some ad) 4 cap), (2, pt b1), (3, i64 0), (4, pt b2)])
  refine end_plan ?_
  refine then_normal ?_
  refine wp_seq ?_
  refine sR (l := [0, 1, 2]) ?_
  refine ck (l := [0, 1]) (r := [2]) (e' := [(0, .slice (some ad) 4 cap), (2, pt b1), (3, i64 0), (4, pt b2), (19, i64 x0)]) hA [i64 x0] (cc (hO.l1 0 0 3 (i64 x0)) c0) ?_
  clear hA fr; intro fr hA
  refine wpOps_cons' (mK (f := 43) (args := [i64 x0]) (d := (some 20)) (v := i64 4) hA hO Tryd.func43 (rs (form_any x0 _) (congrArg _ hf)) ?_)
  clear hA hO fr; intro fr w5 hA hO
  replace hA := hA.sb (e' := [(0, .slice (some ad) 4 cap), (2, pt b1), (3, i64 0), (4, pt b2), (20, i64 4)])
  refine end_ops ?_
  refine then_normal ?_
  refine wp_block ?_
  refine wp_seq ?_
  refine sC (e' := [(0, .slice (some ad) 4 cap), (2, pt b1), (3, i64 0), (4, pt b2), (20, i64 4), (31, bl false)]) 2 hA [] c0 ?_
  clear hA fr; intro fr hA
  refine cF hA ?_
  refine rC (e' := [(0, .slice (some ad) 4 cap), (2, pt b1), (3, i64 0), (4, pt b2), (20, i64 4), (31, bl true)]) 2 hA [] c0 ?_
  clear hA fr; intro fr hA
  refine then_normal ?_
  refine cT hA ?_
  refine wp_seq ?_
  have hS : Ow Tryd.prog none' w _ [(b1, 56, [i64 0, i64 0, i64 0, i64 0, i64 0])] := hO.sub [1]
  refine rP [(0, true), (1, true), (2, true), (3, true), (4, true), (5, true), (6, true), (7, true), (8, true), (9, true), (10, true), (11, false)] hS ?_
  intro w6 ho; replace hO := hO.st ho; clear ho
  refine ckS (l := (rg 0 11)) (r := [(11, false)]) (e' := [(2, pt b1), (3, i64 0), (4, pt b2), (43, i64 ((x2 * 256) + x3)), (44, pf b2 4)]) hA [u8 x2, bl true, bl true, u8 x3, bl true, bl true] (cc (⟨by omega, by omega⟩ : (0 : Int) ≤ 2 ∧ 2 < ((4 : Nat) : Int)) (cc (hS.sx (ad.add 2) 5 (u8 x2) fun _ hO => (ld_cell (by kernel_rfl) (hO.only.cell hc2 (fun h => h)))) (cc ((inK_i64 (by omega) (by omega)) : inK .i64 x2) (cc ((inK_i64 (by omega) (by omega)) : inK .i64 (x2 * 256)) (cc (⟨by omega, by omega⟩ : (0 : Int) ≤ 3 ∧ 3 < ((4 : Nat) : Int)) (cc (hS.sx (ad.add 3) 5 (u8 x3) fun _ hO => (ld_cell (by kernel_rfl) (hO.only.cell hc3 (fun h => h)))) (cc ((inK_i64 (by omega) (by omega)) : inK .i64 x3) (cc ((inK_i64 (by omega) (by omega)) : inK .i64 ((x2 * 256) + x3)) c0)))))))) ?_
  clear hA fr; intro fr hA
  refine plan_mem (mS (off := 4) (vc := [i64 ((x2 * 256) + x3)]) 0 hA hO ?_)
  clear hO; intro w7 hO
  refine ⟨(hO.sub [1]), ?_⟩
  replace hA := hA.sb (e' := [(2, pt b1), (3, i64 0), (4, pt b2)])
  refine end_plan ?_
  refine then_normal ?_
  refine sC (e' := [(2, pt b1), (3, i64 0), (4, pt b2), (47, bl (decide (((x2 * 256) + x3) > 32767)))]) 3 hA [i64 ((x2 * 256) + x3)] (cc (hO.l1 0 4 3 (i64 ((x2 * 256) + x3))) c0) ?_
  clear hA fr; intro fr hA
  rcases Bool.eq_false_or_eq_true (decide (((x2 * 256) + x3) > 32767)) with h1 | h1
  ·
    replace hA := hA.bool (f := fun z_ => [(2, pt b1), (3, i64 0), (4, pt b2), (47, .bool z_)]) h1
    have h1p := of_decide_eq_true h1
    refine cT hA ?_
    refine rR (l := (rg 0 5)) ?_
    refine ck (l := [0, 1, 2, 3]) (r := [4]) (e' := [(2, pt b1), (3, i64 0), (4, pt b2), (50, i64 (((x2 * 256) + x3) - 65536)), (51, pf b2 4)]) hA [i64 ((x2 * 256) + x3), bl true] (cc (hO.l1 0 4 3 (i64 ((x2 * 256) + x3))) (cc ((inK_i64 (by omega) (by omega)) : inK .i64 (((x2 * 256) + x3) - 65536)) c0)) ?_
    clear hA fr; intro fr hA
    refine wpOps_cons' (mS (off := 4) (vc := [i64 (((x2 * 256) + x3) - 65536)]) 0 hA hO ?_)
    clear hO; intro w8 hO
    replace hA := hA.sb (e' := [(2, pt b1), (3, i64 0), (4, pt b2)])
    refine end_ops ?_
    refine inBlock_normal ?_
    refine then_normal ?_
    refine wp_seq ?_
    refine sR (l := [0, 1, 2]) ?_
    refine ck (l := [0]) (r := [1, 2]) (e' := [(2, pt b1), (3, i64 0), (4, pt b2), (71, .agg #[i64 x0, i64 x1, i64 0, i64 0, i64 (((x2 * 256) + x3) - 65536)])]) hA [.agg #[i64 x0, i64 x1, i64 0, i64 0, i64 (((x2 * 256) + x3) - 65536)]] (cc (hO.ln 0 0 56 [i64 x0, i64 x1, i64 0, i64 0, i64 (((x2 * 256) + x3) - 65536)]) c0) ?_
    clear hA fr; intro fr hA
    refine wpOps_cons' (mK (f := 44) (args := [.agg #[i64 x0, i64 x1, i64 0, i64 0, i64 (((x2 * 256) + x3) - 65536)]]) (d := (some 72)) (v := bl (legalB x0 x1 0 0 (((x2 * 256) + x3) - 65536))) hA hO Tryd.func44 (rlegal_any x0 x1 0 0 (((x2 * 256) + x3) - 65536) _) ?_)
    clear hA hO fr; intro fr w9 hA hO
    replace hA := hA.sb (e' := [(2, pt b1), (3, i64 0), (4, pt b2), (72, bl (legalB x0 x1 0 0 (((x2 * 256) + x3) - 65536)))])
    refine ck (l := [2]) (r := []) (e' := [(2, pt b1), (3, i64 0), (4, pt b2), (73, bl (!(legalB x0 x1 0 0 (((x2 * 256) + x3) - 65536))))]) hA [] c0 ?_
    clear hA fr; intro fr hA
    refine end_ops ?_
    refine then_normal ?_
    rcases Bool.eq_false_or_eq_true (legalB x0 x1 0 0 (((x2 * 256) + x3) - 65536)) with h2 | h2
    ·
      replace hA := hA.bool (f := fun z_ => [(2, pt b1), (3, i64 0), (4, pt b2), (73, .bool !z_)]) h2
      refine cF hA ?_
      refine wp_skip ?_
      refine then_normal ?_
      refine sR (l := [0, 1, 2]) ?_
      refine ck (l := [0]) (r := [1, 2]) (e' := [(2, pt b1), (3, i64 0), (75, .agg #[i64 x0, i64 x1, i64 0, i64 0, i64 (((x2 * 256) + x3) - 65536)])]) hA [.agg #[i64 x0, i64 x1, i64 0, i64 0, i64 (((x2 * 256) + x3) - 65536)]] (cc (hO.ln 0 0 56 [i64 x0, i64 x1, i64 0, i64 0, i64 (((x2 * 256) + x3) - 65536)]) c0) ?_
      clear hA fr; intro fr hA
      refine wpOps_cons' (mS (off := 0) (vc := [i64 x0, i64 x1, i64 0, i64 0, i64 (((x2 * 256) + x3) - 65536)]) 1 hA hO ?_)
      clear hO; intro w10 hO
      replace hA := hA.sb (e' := [(2, pt b1), (3, i64 0)])
      refine ck (l := [2]) (r := []) (e' := [(2, pt b1), (3, i64 0)]) hA [] c0 ?_
      clear hA fr; intro fr hA
      refine end_ops ?_
      refine then_normal ?_
      refine wp_ret ?_
      refine cR (cs := [some (⟨b1, 0, none⟩, 56), none]) (us := [.agg #[i64 x0, i64 x1, i64 0, i64 0, i64 (((x2 * 256) + x3) - 65536)], i64 0]) hA [.agg #[i64 x0, i64 x1, i64 0, i64 0, i64 (((x2 * 256) + x3) - 65536)]] ⟨(hO.ln 1 0 56 [i64 x0, i64 x1, i64 0, i64 0, i64 (((x2 * 256) + x3) - 65536)]), trivial⟩ ?_
      have hF := hO.only; clear hA hO
      have hw := i16_hi (y := x2 * 256 + x3) (by omega) (by omega)
      exact ⟨by simp_all [pack, decF, insO, errO, insV], hF⟩
    ·
      replace hA := hA.bool (f := fun z_ => [(2, pt b1), (3, i64 0), (4, pt b2), (73, .bool !z_)]) h2
      refine cT hA ?_
      refine sR (l := [0, 1, 2]) ?_
      refine ck (l := [0]) (r := [1, 2]) (e' := [(2, pt b1), (3, i64 0), (4, pt b2), (74, .agg #[i64 0, i64 0, i64 0, i64 0, i64 0])]) hA [] c0 ?_
      clear hA fr; intro fr hA
      refine wpOps_cons' (mS (off := 0) (vc := [i64 0, i64 0, i64 0, i64 0, i64 0]) 1 hA hO ?_)
      clear hO; intro w11 hO
      replace hA := hA.sb (e' := [(2, pt b1), (3, i64 0), (4, pt b2)])
      refine ck (l := [2]) (r := []) (e' := [(2, pt b1), (3, i64 4), (4, pt b2)]) hA [] c0 ?_
      clear hA fr; intro fr hA
      refine end_ops ?_
      refine then_normal ?_
      refine wp_ret ?_
      refine then_ret ?_
      refine cR (cs := [some (⟨b1, 0, none⟩, 56), none]) (us := [.agg #[i64 0, i64 0, i64 0, i64 0, i64 0], i64 4]) hA [.agg #[i64 0, i64 0, i64 0, i64 0, i64 0]] ⟨(hO.ln 1 0 56 [i64 0, i64 0, i64 0, i64 0, i64 0]), trivial⟩ ?_
      have hF := hO.only; clear hA hO
      have hw := i16_hi (y := x2 * 256 + x3) (by omega) (by omega)
      exact ⟨by simp_all [pack, decF, insO, errO, insV], hF⟩
  ·
    replace hA := hA.bool (f := fun z_ => [(2, pt b1), (3, i64 0), (4, pt b2), (47, .bool z_)]) h1
    have h1p := of_decide_eq_false h1
    refine cF hA ?_
    refine wp_skip ?_
    refine inBlock_normal ?_
    refine then_normal ?_
    refine wp_seq ?_
    refine sR (l := [0, 1, 2]) ?_
    refine ck (l := [0]) (r := [1, 2]) (e' := [(2, pt b1), (3, i64 0), (4, pt b2), (71, .agg #[i64 x0, i64 x1, i64 0, i64 0, i64 ((x2 * 256) + x3)])]) hA [.agg #[i64 x0, i64 x1, i64 0, i64 0, i64 ((x2 * 256) + x3)]] (cc (hO.ln 0 0 56 [i64 x0, i64 x1, i64 0, i64 0, i64 ((x2 * 256) + x3)]) c0) ?_
    clear hA fr; intro fr hA
    refine wpOps_cons' (mK (f := 44) (args := [.agg #[i64 x0, i64 x1, i64 0, i64 0, i64 ((x2 * 256) + x3)]]) (d := (some 72)) (v := bl (legalB x0 x1 0 0 ((x2 * 256) + x3))) hA hO Tryd.func44 (rlegal_any x0 x1 0 0 ((x2 * 256) + x3) _) ?_)
    clear hA hO fr; intro fr w12 hA hO
    replace hA := hA.sb (e' := [(2, pt b1), (3, i64 0), (4, pt b2), (72, bl (legalB x0 x1 0 0 ((x2 * 256) + x3)))])
    refine ck (l := [2]) (r := []) (e' := [(2, pt b1), (3, i64 0), (4, pt b2), (73, bl (!(legalB x0 x1 0 0 ((x2 * 256) + x3))))]) hA [] c0 ?_
    clear hA fr; intro fr hA
    refine end_ops ?_
    refine then_normal ?_
    rcases Bool.eq_false_or_eq_true (legalB x0 x1 0 0 ((x2 * 256) + x3)) with h3 | h3
    ·
      replace hA := hA.bool (f := fun z_ => [(2, pt b1), (3, i64 0), (4, pt b2), (73, .bool !z_)]) h3
      refine cF hA ?_
      refine wp_skip ?_
      refine then_normal ?_
      refine sR (l := [0, 1, 2]) ?_
      refine ck (l := [0]) (r := [1, 2]) (e' := [(2, pt b1), (3, i64 0), (75, .agg #[i64 x0, i64 x1, i64 0, i64 0, i64 ((x2 * 256) + x3)])]) hA [.agg #[i64 x0, i64 x1, i64 0, i64 0, i64 ((x2 * 256) + x3)]] (cc (hO.ln 0 0 56 [i64 x0, i64 x1, i64 0, i64 0, i64 ((x2 * 256) + x3)]) c0) ?_
      clear hA fr; intro fr hA
      refine wpOps_cons' (mS (off := 0) (vc := [i64 x0, i64 x1, i64 0, i64 0, i64 ((x2 * 256) + x3)]) 1 hA hO ?_)
      clear hO; intro w13 hO
      replace hA := hA.sb (e' := [(2, pt b1), (3, i64 0)])
      refine ck (l := [2]) (r := []) (e' := [(2, pt b1), (3, i64 0)]) hA [] c0 ?_
      clear hA fr; intro fr hA
      refine end_ops ?_
      refine then_normal ?_
      refine wp_ret ?_
      refine cR (cs := [some (⟨b1, 0, none⟩, 56), none]) (us := [.agg #[i64 x0, i64 x1, i64 0, i64 0, i64 ((x2 * 256) + x3)], i64 0]) hA [.agg #[i64 x0, i64 x1, i64 0, i64 0, i64 ((x2 * 256) + x3)]] ⟨(hO.ln 1 0 56 [i64 x0, i64 x1, i64 0, i64 0, i64 ((x2 * 256) + x3)]), trivial⟩ ?_
      have hF := hO.only; clear hA hO
      have hw := i16_lo (y := x2 * 256 + x3) (by omega) (by omega)
      exact ⟨by simp_all [pack, decF, insO, errO, insV], hF⟩
    ·
      replace hA := hA.bool (f := fun z_ => [(2, pt b1), (3, i64 0), (4, pt b2), (73, .bool !z_)]) h3
      refine cT hA ?_
      refine sR (l := [0, 1, 2]) ?_
      refine ck (l := [0]) (r := [1, 2]) (e' := [(2, pt b1), (3, i64 0), (4, pt b2), (74, .agg #[i64 0, i64 0, i64 0, i64 0, i64 0])]) hA [] c0 ?_
      clear hA fr; intro fr hA
      refine wpOps_cons' (mS (off := 0) (vc := [i64 0, i64 0, i64 0, i64 0, i64 0]) 1 hA hO ?_)
      clear hO; intro w14 hO
      replace hA := hA.sb (e' := [(2, pt b1), (3, i64 0), (4, pt b2)])
      refine ck (l := [2]) (r := []) (e' := [(2, pt b1), (3, i64 4), (4, pt b2)]) hA [] c0 ?_
      clear hA fr; intro fr hA
      refine end_ops ?_
      refine then_normal ?_
      refine wp_ret ?_
      refine then_ret ?_
      refine cR (cs := [some (⟨b1, 0, none⟩, 56), none]) (us := [.agg #[i64 0, i64 0, i64 0, i64 0, i64 0], i64 4]) hA [.agg #[i64 0, i64 0, i64 0, i64 0, i64 0]] ⟨(hO.ln 1 0 56 [i64 0, i64 0, i64 0, i64 0, i64 0]), trivial⟩ ?_
      have hF := hO.only; clear hA hO
      have hw := i16_lo (y := x2 * 256 + x3) (by omega) (by omega)
      exact ⟨by simp_all [pack, decF, insO, errO, insV], hF⟩

theorem rdecode_5 (ad : Addr) (cap : Nat) (x0 x1 x2 x3 : Int) (w : World) (hf : formF x0 = 5) (hg : (1 ≤ x0 ∧ x0 ≤ 22)) (hc0 : w.cell? (ad.add 0) = some (.int .u8 x0)) (l0 : 0 ≤ x0) (u0 : x0 ≤ 255) (hc1 : w.cell? (ad.add 1) = some (.int .u8 x1)) (l1 : 0 ≤ x1) (u1 : x1 ≤ 255) (hc2 : w.cell? (ad.add 2) = some (.int .u8 x2)) (l2 : 0 ≤ x2) (u2 : x2 ≤ 255) (hc3 : w.cell? (ad.add 3) = some (.int .u8 x3)) (l3 : 0 ≤ x3) (u3 : x3 ≤ 255) :
    Calls Tryd.prog 32 #[.slice (some ad) 4 cap] w fun e w' => e = .returned (.tuple #[insO (decF false false x0 x1 x2 x3), .int .i64 (errO (decF false false x0 x1 x2 x3))]) ∧ Only none' w w' := by
  refine c_enter (args := [.slice (some ad) 4 cap]) (m := 75) (n := 76) Tryd.func32 rfl (by kernel_rfl) (by kernel_rfl) fun fr hA => ?_
  have hO := Ow.nil Tryd.prog none' w
  refine sR (l := [0, 1]) ?_
  refine wpOps_cons' (mN (l := [i64 0, i64 0, i64 0, i64 0, i64 0]) (t := 56) (v := pt) (d := 2) hA hO ?_)
  clear hA hO fr; intro fr w1 b1 hA hO
  refine ck (l := [1]) (r := []) (e' := [(0, .slice (some ad) 4 cap), (2, pt b1), (3, i64 0)]) hA [] c0 ?_
  clear hA fr; intro fr hA
  refine end_ops ?_
  refine then_normal ?_
  refine wp_seq ?_
  refine sC (e' := [(0, .slice (some ad) 4 cap), (2, pt b1), (3, i64 0), (7, bl false)]) 3 hA [] c0 ?_
  clear hA fr; intro fr hA
  refine cF hA ?_
  refine wp_skip ?_
  refine then_normal ?_
  refine wp_seq ?_
  have hS := hO
  refine rP [(0, true), (1, true), (2, true), (3, true), (4, true), (5, true), (6, true), (7, true), (8, true), (9, false), (10, false)] hS ?_
  intro w2 ho; replace hO := hO.st ho; clear ho
  refine ckS (l := (rg 0 9)) (r := [(9, false), (10, false)]) (e' := [(0, .slice (some ad) 4 cap), (2, pt b1), (3, i64 0), (17, .agg #[i64 x0, i64 x1, i64 0, i64 0, i64 0])]) hA [u8 x0, bl true, u8 x1, bl true] (cc (⟨by omega, by omega⟩ : (0 : Int) ≤ 0 ∧ 0 < ((4 : Nat) : Int)) (cc (hS.sx (ad.add 0) 5 (u8 x0) fun _ hO => (ld_cell (by kernel_rfl) (hO.only.cell hc0 (fun h => h)))) (cc ((inK_i64 (by omega) (by omega)) : inK .i64 x0) (cc (⟨by omega, by omega⟩ : (0 : Int) ≤ 1 ∧ 1 < ((4 : Nat) : Int)) (cc (hS.sx (ad.add 1) 5 (u8 x1) fun _ hO => (ld_cell (by kernel_rfl) (hO.only.cell hc1 (fun h => h)))) (cc ((inK_i64 (by omega) (by omega)) : inK .i64 x1) c0)))))) ?_
  clear hA fr; intro fr hA
  refine plan_mem (mN (l := [i64 0, i64 0, i64 0, i64 0, i64 0]) (t := 56) (v := pt) (d := 4) hA hO ?_)
  clear hA hO fr; intro fr w3 b2 hA hO
  refine ⟨(hO.sub [1]), ?_⟩
  refine plan_mem (mS (off := 0) (vc := [i64 x0, i64 x1, i64 0, i64 0, i64 0]) 0 hA hO ?_)
  clear hO; intro w4 hO
  refine ⟨(hO.sub [1]), ?_⟩
  replace hA := hA.sb (e' := [(0, .slice (some ad) 4 cap), (2, pt b1), (3, i64 0), (4, pt b2)])
  refine end_plan ?_
  refine then_normal ?_
  refine wp_seq ?_
  refine sR (l := [0, 1, 2]) ?_
  refine ck (l := [0, 1]) (r := [2]) (e' := [(0, .slice (some ad) 4 cap), (2, pt b1), (3, i64 0), (4, pt b2), (19, i64 x0)]) hA [i64 x0] (cc (hO.l1 0 0 3 (i64 x0)) c0) ?_
  clear hA fr; intro fr hA
  refine wpOps_cons' (mK (f := 43) (args := [i64 x0]) (d := (some 20)) (v := i64 5) hA hO Tryd.func43 (rs (form_any x0 _) (congrArg _ hf)) ?_)
  clear hA hO fr; intro fr w5 hA hO
  replace hA := hA.sb (e' := [(0, .slice (some ad) 4 cap), (2, pt b1), (3, i64 0), (4, pt b2), (20, i64 5)])
  refine end_ops ?_
  refine then_normal ?_
  refine wp_block ?_
  refine wp_seq ?_
  refine sC (e' := [(0, .slice (some ad) 4 cap), (2, pt b1), (3, i64 0), (4, pt b2), (20, i64 5), (31, bl false)]) 2 hA [] c0 ?_
  clear hA fr; intro fr hA
  refine cF hA ?_
  refine rC (e' := [(0, .slice (some ad) 4 cap), (2, pt b1), (3, i64 0), (4, pt b2), (20, i64 5), (31, bl false)]) 2 hA [] c0 ?_
  clear hA fr; intro fr hA
  refine then_normal ?_
  refine cF hA ?_
  refine sC (e' := [(0, .slice (some ad) 4 cap), (2, pt b1), (3, i64 0), (4, pt b2), (52, bl false)]) 2 hA [] c0 ?_
  clear hA fr; intro fr hA
  refine cF hA ?_
  have hS : Ow Tryd.prog none' w _ [(b1, 56, [i64 0, i64 0, i64 0, i64 0, i64 0])] := hO.sub [1]
  refine rP [(0, true), (1, true), (2, true), (3, true), (4, true), (5, true), (6, true), (7, true), (8, true), (9, false), (10, true), (11, false)] hS ?_
  intro w6 ho; replace hO := hO.st ho; clear ho
  refine ckS (l := (rg 0 9)) (r := [(9, false), (10, true), (11, false)]) (e' := [(2, pt b1), (3, i64 0), (4, pt b2), (24, i64 x2), (28, i64 x3), (29, pf b2 2)]) hA [u8 x2, bl true, u8 x3, bl true] (cc (⟨by omega, by omega⟩ : (0 : Int) ≤ 2 ∧ 2 < ((4 : Nat) : Int)) (cc (hS.sx (ad.add 2) 5 (u8 x2) fun _ hO => (ld_cell (by kernel_rfl) (hO.only.cell hc2 (fun h => h)))) (cc ((inK_i64 (by omega) (by omega)) : inK .i64 x2) (cc (⟨by omega, by omega⟩ : (0 : Int) ≤ 3 ∧ 3 < ((4 : Nat) : Int)) (cc (hS.sx (ad.add 3) 5 (u8 x3) fun _ hO => (ld_cell (by kernel_rfl) (hO.only.cell hc3 (fun h => h)))) (cc ((inK_i64 (by omega) (by omega)) : inK .i64 x3) c0)))))) ?_
  clear hA fr; intro fr hA
  refine plan_mem (mS (off := 2) (vc := [i64 x2]) 0 hA hO ?_)
  clear hO; intro w7 hO
  refine ⟨(hO.sub [1]), ?_⟩
  replace hA := hA.sb (e' := [(2, pt b1), (3, i64 0), (4, pt b2), (28, i64 x3)])
  refine ckS (l := [10]) (r := [(11, false)]) (e' := [(2, pt b1), (3, i64 0), (4, pt b2), (28, i64 x3), (30, pf b2 3)]) hA [] c0 ?_
  clear hA fr; intro fr hA
  refine plan_mem (mS (off := 3) (vc := [i64 x3]) 0 hA hO ?_)
  clear hO; intro w8 hO
  refine ⟨(hO.sub [1]), ?_⟩
  replace hA := hA.sb (e' := [(2, pt b1), (3, i64 0), (4, pt b2)])
  refine end_plan ?_
  refine inBlock_normal ?_
  refine then_normal ?_
  refine wp_seq ?_
  refine sR (l := [0, 1, 2]) ?_
  refine ck (l := [0]) (r := [1, 2]) (e' := [(2, pt b1), (3, i64 0), (4, pt b2), (71, .agg #[i64 x0, i64 x1, i64 x2, i64 x3, i64 0])]) hA [.agg #[i64 x0, i64 x1, i64 x2, i64 x3, i64 0]] (cc (hO.ln 0 0 56 [i64 x0, i64 x1, i64 x2, i64 x3, i64 0]) c0) ?_
  clear hA fr; intro fr hA
  refine wpOps_cons' (mK (f := 44) (args := [.agg #[i64 x0, i64 x1, i64 x2, i64 x3, i64 0]]) (d := (some 72)) (v := bl (legalB x0 x1 x2 x3 0)) hA hO Tryd.func44 (rlegal_any x0 x1 x2 x3 0 _) ?_)
  clear hA hO fr; intro fr w9 hA hO
  replace hA := hA.sb (e' := [(2, pt b1), (3, i64 0), (4, pt b2), (72, bl (legalB x0 x1 x2 x3 0))])
  refine ck (l := [2]) (r := []) (e' := [(2, pt b1), (3, i64 0), (4, pt b2), (73, bl (!(legalB x0 x1 x2 x3 0)))]) hA [] c0 ?_
  clear hA fr; intro fr hA
  refine end_ops ?_
  refine then_normal ?_
  rcases Bool.eq_false_or_eq_true (legalB x0 x1 x2 x3 0) with h1 | h1
  ·
    replace hA := hA.bool (f := fun z_ => [(2, pt b1), (3, i64 0), (4, pt b2), (73, .bool !z_)]) h1
    refine cF hA ?_
    refine wp_skip ?_
    refine then_normal ?_
    refine sR (l := [0, 1, 2]) ?_
    refine ck (l := [0]) (r := [1, 2]) (e' := [(2, pt b1), (3, i64 0), (75, .agg #[i64 x0, i64 x1, i64 x2, i64 x3, i64 0])]) hA [.agg #[i64 x0, i64 x1, i64 x2, i64 x3, i64 0]] (cc (hO.ln 0 0 56 [i64 x0, i64 x1, i64 x2, i64 x3, i64 0]) c0) ?_
    clear hA fr; intro fr hA
    refine wpOps_cons' (mS (off := 0) (vc := [i64 x0, i64 x1, i64 x2, i64 x3, i64 0]) 1 hA hO ?_)
    clear hO; intro w10 hO
    replace hA := hA.sb (e' := [(2, pt b1), (3, i64 0)])
    refine ck (l := [2]) (r := []) (e' := [(2, pt b1), (3, i64 0)]) hA [] c0 ?_
    clear hA fr; intro fr hA
    refine end_ops ?_
    refine then_normal ?_
    refine wp_ret ?_
    refine cR (cs := [some (⟨b1, 0, none⟩, 56), none]) (us := [.agg #[i64 x0, i64 x1, i64 x2, i64 x3, i64 0], i64 0]) hA [.agg #[i64 x0, i64 x1, i64 x2, i64 x3, i64 0]] ⟨(hO.ln 1 0 56 [i64 x0, i64 x1, i64 x2, i64 x3, i64 0]), trivial⟩ ?_
    have hF := hO.only; clear hA hO
    exact ⟨by simp_all [pack, decF, insO, errO, insV], hF⟩
  ·
    replace hA := hA.bool (f := fun z_ => [(2, pt b1), (3, i64 0), (4, pt b2), (73, .bool !z_)]) h1
    refine cT hA ?_
    refine sR (l := [0, 1, 2]) ?_
    refine ck (l := [0]) (r := [1, 2]) (e' := [(2, pt b1), (3, i64 0), (4, pt b2), (74, .agg #[i64 0, i64 0, i64 0, i64 0, i64 0])]) hA [] c0 ?_
    clear hA fr; intro fr hA
    refine wpOps_cons' (mS (off := 0) (vc := [i64 0, i64 0, i64 0, i64 0, i64 0]) 1 hA hO ?_)
    clear hO; intro w11 hO
    replace hA := hA.sb (e' := [(2, pt b1), (3, i64 0), (4, pt b2)])
    refine ck (l := [2]) (r := []) (e' := [(2, pt b1), (3, i64 4), (4, pt b2)]) hA [] c0 ?_
    clear hA fr; intro fr hA
    refine end_ops ?_
    refine then_normal ?_
    refine wp_ret ?_
    refine then_ret ?_
    refine cR (cs := [some (⟨b1, 0, none⟩, 56), none]) (us := [.agg #[i64 0, i64 0, i64 0, i64 0, i64 0], i64 4]) hA [.agg #[i64 0, i64 0, i64 0, i64 0, i64 0]] ⟨(hO.ln 1 0 56 [i64 0, i64 0, i64 0, i64 0, i64 0]), trivial⟩ ?_
    have hF := hO.only; clear hA hO
    exact ⟨by simp_all [pack, decF, insO, errO, insV], hF⟩

theorem rdecode_6 (ad : Addr) (cap : Nat) (x0 x1 x2 x3 : Int) (w : World) (hf : formF x0 = 6) (hg : (1 ≤ x0 ∧ x0 ≤ 22)) (hc0 : w.cell? (ad.add 0) = some (.int .u8 x0)) (l0 : 0 ≤ x0) (u0 : x0 ≤ 255) (hc1 : w.cell? (ad.add 1) = some (.int .u8 x1)) (l1 : 0 ≤ x1) (u1 : x1 ≤ 255) (hc2 : w.cell? (ad.add 2) = some (.int .u8 x2)) (l2 : 0 ≤ x2) (u2 : x2 ≤ 255) (hc3 : w.cell? (ad.add 3) = some (.int .u8 x3)) (l3 : 0 ≤ x3) (u3 : x3 ≤ 255) :
    Calls Tryd.prog 32 #[.slice (some ad) 4 cap] w fun e w' => e = .returned (.tuple #[insO (decF false false x0 x1 x2 x3), .int .i64 (errO (decF false false x0 x1 x2 x3))]) ∧ Only none' w w' := by
  refine c_enter (args := [.slice (some ad) 4 cap]) (m := 75) (n := 76) Tryd.func32 rfl (by kernel_rfl) (by kernel_rfl) fun fr hA => ?_
  have hO := Ow.nil Tryd.prog none' w
  refine sR (l := [0, 1]) ?_
  refine wpOps_cons' (mN (l := [i64 0, i64 0, i64 0, i64 0, i64 0]) (t := 56) (v := pt) (d := 2) hA hO ?_)
  clear hA hO fr; intro fr w1 b1 hA hO
  refine ck (l := [1]) (r := []) (e' := [(0, .slice (some ad) 4 cap), (2, pt b1), (3, i64 0)]) hA [] c0 ?_
  clear hA fr; intro fr hA
  refine end_ops ?_
  refine then_normal ?_
  refine wp_seq ?_
  refine sC (e' := [(0, .slice (some ad) 4 cap), (2, pt b1), (3, i64 0), (7, bl false)]) 3 hA [] c0 ?_
  clear hA fr; intro fr hA
  refine cF hA ?_
  refine wp_skip ?_
  refine then_normal ?_
  refine wp_seq ?_
  have hS := hO
  refine rP [(0, true), (1, true), (2, true), (3, true), (4, true), (5, true), (6, true), (7, true), (8, true), (9, false), (10, false)] hS ?_
  intro w2 ho; replace hO := hO.st ho; clear ho
  refine ckS (l := (rg 0 9)) (r := [(9, false), (10, false)]) (e' := [(0, .slice (some ad) 4 cap), (2, pt b1), (3, i64 0), (17, .agg #[i64 x0, i64 x1, i64 0, i64 0, i64 0])]) hA [u8 x0, bl true, u8 x1, bl true] (cc (⟨by omega, by omega⟩ : (0 : Int) ≤ 0 ∧ 0 < ((4 : Nat) : Int)) (cc (hS.sx (ad.add 0) 5 (u8 x0) fun _ hO => (ld_cell (by kernel_rfl) (hO.only.cell hc0 (fun h => h)))) (cc ((inK_i64 (by omega) (by omega)) : inK .i64 x0) (cc (⟨by omega, by omega⟩ : (0 : Int) ≤ 1 ∧ 1 < ((4 : Nat) : Int)) (cc (hS.sx (ad.add 1) 5 (u8 x1) fun _ hO => (ld_cell (by kernel_rfl) (hO.only.cell hc1 (fun h => h)))) (cc ((inK_i64 (by omega) (by omega)) : inK .i64 x1) c0)))))) ?_
  clear hA fr; intro fr hA
  refine plan_mem (mN (l := [i64 0, i64 0, i64 0, i64 0, i64 0]) (t := 56) (v := pt) (d := 4) hA hO ?_)
  clear hA hO fr; intro fr w3 b2 hA hO
  refine ⟨(hO.sub [1]), ?_⟩
  refine plan_mem (mS (off := 0) (vc := [i64 x0, i64 x1, i64 0, i64 0, i64 0]) 0 hA hO ?_)
  clear hO; intro w4 hO
  refine ⟨(hO.sub [1]), ?_⟩
  replace hA := hA.sb (e' := [(0, .slice (some ad) 4 cap), (2, pt b1), (3, i64 0), (4, pt b2)])
  refine end_plan ?_
  refine then_normal ?_
  refine wp_seq ?_
  refine sR (l := [0, 1, 2]) ?_
  refine ck (l := [0, 1]) (r := [2]) (e' := [(0, .slice (some ad) 4 cap), (2, pt b1), (3, i64 0), (4, pt b2), (19, i64 x0)]) hA [i64 x0] (cc (hO.l1 0 0 3 (i64 x0)) c0) ?_
  clear hA fr; intro fr hA
  refine wpOps_cons' (mK (f := 43) (args := [i64 x0]) (d := (some 20)) (v := i64 6) hA hO Tryd.func43 (rs (form_any x0 _) (congrArg _ hf)) ?_)
  clear hA hO fr; intro fr w5 hA hO
  replace hA := hA.sb (e' := [(0, .slice (some ad) 4 cap), (2, pt b1), (3, i64 0), (4, pt b2), (20, i64 6)])
  refine end_ops ?_
  refine then_normal ?_
  refine wp_block ?_
  refine wp_seq ?_
  refine sC (e' := [(0, .slice (some ad) 4 cap), (2, pt b1), (3, i64 0), (4, pt b2), (20, i64 6), (31, bl false)]) 2 hA [] c0 ?_
  clear hA fr; intro fr hA
  refine cF hA ?_
  refine rC (e' := [(0, .slice (some ad) 4 cap), (2, pt b1), (3, i64 0), (4, pt b2), (20, i64 6), (31, bl false)]) 2 hA [] c0 ?_
  clear hA fr; intro fr hA
  refine then_normal ?_
  refine cF hA ?_
  refine sC (e' := [(0, .slice (some ad) 4 cap), (2, pt b1), (3, i64 0), (4, pt b2), (52, bl false)]) 2 hA [] c0 ?_
  clear hA fr; intro fr hA
  refine cF hA ?_
  have hS : Ow Tryd.prog none' w _ [(b1, 56, [i64 0, i64 0, i64 0, i64 0, i64 0])] := hO.sub [1]
  refine rP [(0, true), (1, true), (2, true), (3, true), (4, true), (5, true), (6, true), (7, true), (8, true), (9, false), (10, true), (11, false)] hS ?_
  intro w6 ho; replace hO := hO.st ho; clear ho
  refine ckS (l := (rg 0 9)) (r := [(9, false), (10, true), (11, false)]) (e' := [(2, pt b1), (3, i64 0), (4, pt b2), (24, i64 x2), (28, i64 x3), (29, pf b2 2)]) hA [u8 x2, bl true, u8 x3, bl true] (cc (⟨by omega, by omega⟩ : (0 : Int) ≤ 2 ∧ 2 < ((4 : Nat) : Int)) (cc (hS.sx (ad.add 2) 5 (u8 x2) fun _ hO => (ld_cell (by kernel_rfl) (hO.only.cell hc2 (fun h => h)))) (cc ((inK_i64 (by omega) (by omega)) : inK .i64 x2) (cc (⟨by omega, by omega⟩ : (0 : Int) ≤ 3 ∧ 3 < ((4 : Nat) : Int)) (cc (hS.sx (ad.add 3) 5 (u8 x3) fun _ hO => (ld_cell (by kernel_rfl) (hO.only.cell hc3 (fun h => h)))) (cc ((inK_i64 (by omega) (by omega)) : inK .i64 x3) c0)))))) ?_
  clear hA fr; intro fr hA
  refine plan_mem (mS (off := 2) (vc := [i64 x2]) 0 hA hO ?_)
  clear hO; intro w7 hO
  refine ⟨(hO.sub [1]), ?_⟩
  replace hA := hA.sb (e' := [(2, pt b1), (3, i64 0), (4, pt b2), (28, i64 x3)])
  refine ckS (l := [10]) (r := [(11, false)]) (e' := [(2, pt b1), (3, i64 0), (4, pt b2), (28, i64 x3), (30, pf b2 3)]) hA [] c0 ?_
  clear hA fr; intro fr hA
  refine plan_mem (mS (off := 3) (vc := [i64 x3]) 0 hA hO ?_)
  clear hO; intro w8 hO
  refine ⟨(hO.sub [1]), ?_⟩
  replace hA := hA.sb (e' := [(2, pt b1), (3, i64 0), (4, pt b2)])
  refine end_plan ?_
  refine inBlock_normal ?_
  refine then_normal ?_
  refine wp_seq ?_
  refine sR (l := [0, 1, 2]) ?_
  refine ck (l := [0]) (r := [1, 2]) (e' := [(2, pt b1), (3, i64 0), (4, pt b2), (71, .agg #[i64 x0, i64 x1, i64 x2, i64 x3, i64 0])]) hA [.agg #[i64 x0, i64 x1, i64 x2, i64 x3, i64 0]] (cc (hO.ln 0 0 56 [i64 x0, i64 x1, i64 x2, i64 x3, i64 0]) c0) ?_
  clear hA fr; intro fr hA
  refine wpOps_cons' (mK (f := 44) (args := [.agg #[i64 x0, i64 x1, i64 x2, i64 x3, i64 0]]) (d := (some 72)) (v := bl (legalB x0 x1 x2 x3 0)) hA hO Tryd.func44 (rlegal_any x0 x1 x2 x3 0 _) ?_)
  clear hA hO fr; intro fr w9 hA hO
  replace hA := hA.sb (e' := [(2, pt b1), (3, i64 0), (4, pt b2), (72, bl (legalB x0 x1 x2 x3 0))])
  refine ck (l := [2]) (r := []) (e' := [(2, pt b1), (3, i64 0), (4, pt b2), (73, bl (!(legalB x0 x1 x2 x3 0)))]) hA [] c0 ?_
  clear hA fr; intro fr hA
  refine end_ops ?_
  refine then_normal ?_
  rcases Bool.eq_false_or_eq_true (legalB x0 x1 x2 x3 0) with h1 | h1
  ·
    replace hA := hA.bool (f := fun z_ => [(2, pt b1), (3, i64 0), (4, pt b2), (73, .bool !z_)]) h1
    refine cF hA ?_
    refine wp_skip ?_
    refine then_normal ?_
    refine sR (l := [0, 1, 2]) ?_
    refine ck (l := [0]) (r := [1, 2]) (e' := [(2, pt b1), (3, i64 0), (75, .agg #[i64 x0, i64 x1, i64 x2, i64 x3, i64 0])]) hA [.agg #[i64 x0, i64 x1, i64 x2, i64 x3, i64 0]] (cc (hO.ln 0 0 56 [i64 x0, i64 x1, i64 x2, i64 x3, i64 0]) c0) ?_
    clear hA fr; intro fr hA
    refine wpOps_cons' (mS (off := 0) (vc := [i64 x0, i64 x1, i64 x2, i64 x3, i64 0]) 1 hA hO ?_)
    clear hO; intro w10 hO
    replace hA := hA.sb (e' := [(2, pt b1), (3, i64 0)])
    refine ck (l := [2]) (r := []) (e' := [(2, pt b1), (3, i64 0)]) hA [] c0 ?_
    clear hA fr; intro fr hA
    refine end_ops ?_
    refine then_normal ?_
    refine wp_ret ?_
    refine cR (cs := [some (⟨b1, 0, none⟩, 56), none]) (us := [.agg #[i64 x0, i64 x1, i64 x2, i64 x3, i64 0], i64 0]) hA [.agg #[i64 x0, i64 x1, i64 x2, i64 x3, i64 0]] ⟨(hO.ln 1 0 56 [i64 x0, i64 x1, i64 x2, i64 x3, i64 0]), trivial⟩ ?_
    have hF := hO.only; clear hA hO
    exact ⟨by simp_all [pack, decF, insO, errO, insV], hF⟩
  ·
    replace hA := hA.bool (f := fun z_ => [(2, pt b1), (3, i64 0), (4, pt b2), (73, .bool !z_)]) h1
    refine cT hA ?_
    refine sR (l := [0, 1, 2]) ?_
    refine ck (l := [0]) (r := [1, 2]) (e' := [(2, pt b1), (3, i64 0), (4, pt b2), (74, .agg #[i64 0, i64 0, i64 0, i64 0, i64 0])]) hA [] c0 ?_
    clear hA fr; intro fr hA
    refine wpOps_cons' (mS (off := 0) (vc := [i64 0, i64 0, i64 0, i64 0, i64 0]) 1 hA hO ?_)
    clear hO; intro w11 hO
    replace hA := hA.sb (e' := [(2, pt b1), (3, i64 0), (4, pt b2)])
    refine ck (l := [2]) (r := []) (e' := [(2, pt b1), (3, i64 4), (4, pt b2)]) hA [] c0 ?_
    clear hA fr; intro fr hA
    refine end_ops ?_
    refine then_normal ?_
    refine wp_ret ?_
    refine then_ret ?_
    refine cR (cs := [some (⟨b1, 0, none⟩, 56), none]) (us := [.agg #[i64 0, i64 0, i64 0, i64 0, i64 0], i64 4]) hA [.agg #[i64 0, i64 0, i64 0, i64 0, i64 0]] ⟨(hO.ln 1 0 56 [i64 0, i64 0, i64 0, i64 0, i64 0]), trivial⟩ ?_
    have hF := hO.only; clear hA hO
    exact ⟨by simp_all [pack, decF, insO, errO, insV], hF⟩

theorem rdecode_any (sl : Value) (xs : List Int) (w : World) (h : SlI w sl xs) : Calls Tryd.prog 32 #[sl] w fun e w' => e = .returned (.tuple #[insO (decX xs), .int .i64 (errO (decX xs))]) ∧ Only none' w w' := by
  obtain ⟨hu, ⟨rfl, rfl⟩ | ⟨ad, cap, rfl, hc⟩⟩ := h
  · exact rdecode_len none 0 0 w (by omega)
  · by_cases hl : xs.length = 4
    · obtain ⟨x0, x1, x2, x3, rfl⟩ : ∃ x0 x1 x2 x3, xs = [x0, x1, x2, x3] := by
        match xs, hl with
        | [x0, x1, x2, x3], _ => exact ⟨_, _, _, _, rfl⟩
      have u0 := hu x0 (by simp); have u1 := hu x1 (by simp); have u2 := hu x2 (by simp); have u3 := hu x3 (by simp)
      have c0 := hc 0 (by simp); have c1 := hc 1 (by simp); have c2 := hc 2 (by simp); have c3 := hc 3 (by simp)
      have hk := form_flags x0
      show Calls _ _ _ w fun e w' => e = .returned (.tuple #[insO (decS x0 x1 x2 x3), .int .i64 (errO (decS x0 x1 x2 x3))]) ∧ Only none' w w'
      unfold decS
      rcases form_cases x0 with h | h | h | h | h | h | h
      · exact rdecode_0 _ _ ad cap x0 x1 x2 x3 w h (form_zero h) c0 u0.1 u0.2 c1 u1.1 u1.2 c2 u2.1 u2.2 c3 u3.1 u3.2
      · have hh := hk.1 h; rw [hh.2.2.2.1, hh.2.2.2.2]; exact rdecode_1 ad cap x0 x1 x2 x3 w h hh.1 c0 u0.1 u0.2 c1 u1.1 u1.2 c2 u2.1 u2.2 c3 u3.1 u3.2
      · have hh := hk.2.1 h; rw [hh.2.2.2.1, hh.2.2.2.2]; exact rdecode_2 ad cap x0 x1 x2 x3 w h hh.1 c0 u0.1 u0.2 c1 u1.1 u1.2 c2 u2.1 u2.2 c3 u3.1 u3.2
      · have hh := hk.2.2.1 h; rw [hh.2.2.2.1, hh.2.2.2.2]; exact rdecode_3 ad cap x0 x1 x2 x3 w h hh.1 c0 u0.1 u0.2 c1 u1.1 u1.2 c2 u2.1 u2.2 c3 u3.1 u3.2
      · have hh := hk.2.2.2.1 h; rw [hh.2.2.2.1, hh.2.2.2.2]; exact rdecode_4 ad cap x0 x1 x2 x3 w h hh.1 c0 u0.1 u0.2 c1 u1.1 u1.2 c2 u2.1 u2.2 c3 u3.1 u3.2
      · have hh := hk.2.2.2.2.1 h; rw [hh.2.2.2.1, hh.2.2.2.2]; exact rdecode_5 ad cap x0 x1 x2 x3 w h hh.1 c0 u0.1 u0.2 c1 u1.1 u1.2 c2 u2.1 u2.2 c3 u3.1 u3.2
      · have hh := hk.2.2.2.2.2 h; rw [hh.2.2.2.1, hh.2.2.2.2]; exact rdecode_6 ad cap x0 x1 x2 x3 w h hh.1 c0 u0.1 u0.2 c1 u1.1 u1.2 c2 u2.1 u2.2 c3 u3.1 u3.2
    · have hx : decX xs = none := by
        match xs, hl with
        | [], _ => rfl
        | [_], _ => rfl
        | [_, _], _ => rfl
        | [_, _, _], _ => rfl
        | _ :: _ :: _ :: _ :: _ :: _, _ => rfl
      rw [hx]
      exact rdecode_len _ _ _ w hl

end Go.Proofs.YtkfnkcpdabdboaaDoor
