/- The layer cpu: walks of Exec. -/
import Derived.Test.YtcaokjdihhbkjaaDoorArith
set_option linter.unusedVariables false
set_option linter.unusedSimpArgs false
set_option maxRecDepth 10000
namespace Go.Proofs.YtcaokjdihhbkjaaDoor
open Go Go.RowKit Go.Proofs.Sx

theorem exec_1 (R : Nat → Int) (pc ld a b c v : Int) (sl : Value) (w : World) (hT : Tab w) (hR : RegsOk R) (hp : -1099511627776 < pc) (hp' : pc < 1099511627776) (ha : 0 ≤ a) (ha' : a ≤ 15) (hb : 0 ≤ b) (hb' : b ≤ 15) (hc : -128 ≤ c) (hc' : c ≤ 127) (hv : -32768 ≤ v) (hv' : v ≤ 32767) (hdec : ∀ w', Only none' w w' → Calls Tryd.prog 13 #[sl] w' fun e w2 => e = .returned (.tuple #[insV 1 a b c v, .int .i64 0]) ∧ Only none' w' w2) :
    Calls Tryd.prog 18 #[.agg (List.toArray (regsL R pc)), sl, i64 ld] w fun e w' => e = .returned (execV R pc ld 1 a b c v) ∧ Only none' w w' := by
  refine c_enter (args := [.agg (List.toArray (regsL R pc)), sl, i64 ld]) (m := 206) (n := 209) Tryd.func18 rfl (by kernel_rfl) (by kernel_rfl) fun fr hA => ?_
  have hO := Ow.nil Tryd.prog none' w
  have hRa := hR a.toNat; have hRb := hR b.toNat; have hRc := hR c.toNat; simp only [inK] at hRa hRb hRc
  refine sR (l := [0, 1, 2, 3]) ?_
  refine wpOps_cons' (mN (l := (regsL R pc)) (t := 40) (v := pt) (d := 3) hA hO ?_)
  clear hA hO fr; intro fr w1 b1 hA hO
  replace hA := hA.sb (e' := [(1, sl), (2, i64 ld), (3, pt b1)])
  refine wpOps_cons' (mN (l := [i32 0, i32 0, i32 0, i32 0, i32 0, i32 0, i32 0, i32 0, i32 0, i32 0, i32 0, i32 0, i32 0, i32 0, i32 0, i32 0, i64 0]) (t := 40) (v := pt) (d := 6) hA hO ?_)
  clear hA hO fr; intro fr w2 b2 hA hO
  refine ck (l := [2]) (r := [3]) (e' := [(1, sl), (2, i64 ld), (3, pt b1), (6, pt b2), (7, i64 0)]) hA [] c0 ?_
  clear hA fr; intro fr hA
  refine wpOps_cons' (mN (l := [i64 0, i64 0, i64 0, i64 0, i64 0, i64 0, i64 0]) (t := 43) (v := pt) (d := 8) hA hO ?_)
  clear hA hO fr; intro fr w3 b3 hA hO
  refine end_ops ?_
  refine then_normal ?_
  refine sR (l := (rg 0 8)) ?_
  refine ck (l := [0]) (r := (rg 1 7)) (e' := [(2, i64 ld), (3, pt b1), (6, pt b2), (7, i64 0), (8, pt b3), (18, sl)]) hA [] c0 ?_
  clear hA fr; intro fr hA
  refine wpOps_cons' (mK (f := 13) (args := [sl]) (d := (some 19)) (v := .tuple #[.agg #[i64 1, i64 a, i64 b, i64 c, i64 v], i64 0]) hA hO Tryd.func13 (hdec _ hO.only) ?_)
  clear hA hO fr; intro fr w4 hA hO
  replace hA := hA.sb (e' := [(2, i64 ld), (3, pt b1), (6, pt b2), (7, i64 0), (8, pt b3), (19, .tuple #[.agg #[i64 1, i64 a, i64 b, i64 c, i64 v], i64 0])])
  refine ck (l := [2, 3, 4]) (r := [5, 6, 7]) (e' := [(2, i64 ld), (3, pt b1), (6, pt b2), (7, i64 0), (8, pt b3), (20, .agg #[i64 1, i64 a, i64 b, i64 c, i64 v]), (21, i64 0)]) hA [] c0 ?_
  clear hA fr; intro fr hA
  refine wpOps_cons' (mN (l := [i64 0, i64 0, i64 0, i64 0, i64 0]) (t := 25) (v := pt) (d := 9) hA hO ?_)
  clear hA hO fr; intro fr w5 b4 hA hO
  refine wpOps_cons' (mS (off := 0) (vc := [i64 1, i64 a, i64 b, i64 c, i64 v]) 0 hA hO ?_)
  clear hO; intro w6 hO
  replace hA := hA.sb (e' := [(2, i64 ld), (3, pt b1), (6, pt b2), (7, i64 0), (8, pt b3), (9, pt b4), (21, i64 0)])
  refine ck (l := [7]) (r := []) (e' := [(2, i64 ld), (3, pt b1), (6, pt b2), (7, i64 0), (8, pt b3), (9, pt b4), (10, i64 0)]) hA [] c0 ?_
  clear hA fr; intro fr hA
  refine end_ops ?_
  refine then_normal ?_
  refine wp_seq ?_
  refine sC (e' := [(2, i64 ld), (3, pt b1), (6, pt b2), (7, i64 0), (8, pt b3), (9, pt b4), (23, bl false)]) 2 hA [] c0 ?_
  clear hA fr; intro fr hA
  refine cF hA ?_
  refine wp_skip ?_
  refine then_normal ?_
  refine wp_seq ?_
  refine sR (l := (rg 0 8)) ?_
  refine ck (l := [0, 1]) (r := (rg 2 6)) (e' := [(2, i64 ld), (3, pt b1), (6, pt b2), (7, i64 0), (8, pt b3), (9, pt b4), (27, .agg (List.toArray (regsL R pc))), (28, .agg #[i64 1, i64 a, i64 b, i64 c, i64 v])]) hA [.agg (List.toArray (regsL R pc)), .agg #[i64 1, i64 a, i64 b, i64 c, i64 v]] (cc (hO.ln 3 0 40 (regsL R pc)) (cc (hO.ln 0 0 25 [i64 1, i64 a, i64 b, i64 c, i64 v]) c0)) ?_
  clear hA fr; intro fr hA
  refine wpOps_cons' (mK (f := 36) (args := [.agg (List.toArray (regsL R pc)), .agg #[i64 1, i64 a, i64 b, i64 c, i64 v]]) (d := (some 29)) (v := .tuple #[i64 0, i64 0]) hA hO Tryd.func36 (place_any R pc 1 a b c v _ hR hb hb' (by omega) (by omega)) ?_)
  clear hA hO fr; intro fr w7 hA hO
  replace hA := hA.sb (e' := [(2, i64 ld), (3, pt b1), (6, pt b2), (7, i64 0), (8, pt b3), (9, pt b4), (29, .tuple #[i64 0, i64 0])])
  refine ck (l := (rg 3 5)) (r := []) (e' := [(2, i64 ld), (3, pt b1), (6, pt b2), (7, i64 0), (8, pt b3), (9, pt b4), (11, i64 0), (12, i64 0)]) hA [] c0 ?_
  clear hA fr; intro fr hA
  refine end_ops ?_
  refine then_normal ?_
  refine sC (e' := [(2, i64 ld), (3, pt b1), (6, pt b2), (7, i64 0), (8, pt b3), (9, pt b4), (39, bl false)]) 8 hA [] c0 ?_
  clear hA fr; intro fr hA
  refine cF hA ?_
  refine wp_skip ?_
  refine then_normal ?_
  refine wp_seq ?_
  refine sC (e' := [(2, i64 ld), (3, pt b1), (6, pt b2), (7, i64 0), (8, pt b3), (9, pt b4), (57, bl false)]) 16 hA [i64 1, i64 1] (cc (hO.l1 0 0 3 (i64 1)) (cc (hO.l1 0 0 3 (i64 1)) c0)) ?_
  clear hA fr; intro fr hA
  refine cF hA ?_
  refine wp_skip ?_
  refine then_normal ?_
  refine sR (l := [0, 1, 2]) ?_
  refine ck (l := [0]) (r := [1, 2]) (e' := [(2, i64 ld), (3, pt b1), (6, pt b2), (7, i64 0), (8, pt b3), (9, pt b4), (60, .agg (List.toArray (regsL R pc)))]) hA [.agg (List.toArray (regsL R pc))] (cc (hO.ln 3 0 40 (regsL R pc)) c0) ?_
  clear hA fr; intro fr hA
  refine wpOps_cons' (mN (l := [i32 0, i32 0, i32 0, i32 0, i32 0, i32 0, i32 0, i32 0, i32 0, i32 0, i32 0, i32 0, i32 0, i32 0, i32 0, i32 0, i64 0]) (t := 40) (v := pt) (d := 13) hA hO ?_)
  clear hA hO fr; intro fr w8 b5 hA hO
  refine wpOps_cons' (mS (off := 0) (vc := (regsL R pc)) 0 hA hO ?_)
  clear hO; intro w9 hO
  replace hA := hA.sb (e' := [(2, i64 ld), (3, pt b1), (6, pt b2), (7, i64 0), (8, pt b3), (9, pt b4), (13, pt b5)])
  refine end_ops ?_
  refine then_normal ?_
  refine sC (e' := [(2, i64 ld), (3, pt b1), (6, pt b2), (7, i64 0), (8, pt b3), (9, pt b4), (13, pt b5), (14, i64 ((pc + 4) + (4 * v)))]) 8 hA [i64 pc, bl true, i64 v, bl true, bl true] (cc (hO.l1 4 16 3 (i64 pc)) (cc ((inK_i64 (by omega) (by omega)) : inK .i64 (pc + 4)) (cc (hO.l1 1 4 3 (i64 v)) (cc ((inK_i64 (by omega) (by omega)) : inK .i64 (4 * v)) (cc ((inK_i64 (by omega) (by omega)) : inK .i64 ((pc + 4) + (4 * v))) c0))))) ?_
  clear hA fr; intro fr hA
  refine sR (l := (rg 0 5)) ?_
  refine ck (l := [0, 1, 2, 3]) (r := [4]) (e' := [(2, i64 ld), (3, pt b1), (6, pt b2), (7, i64 0), (8, pt b3), (9, pt b4), (13, pt b5), (14, i64 ((pc + 4) + (4 * v))), (70, i64 (pc + 4)), (71, pf b1 16)]) hA [i64 pc, bl true] (cc (hO.l1 4 16 3 (i64 pc)) (cc ((inK_i64 (by omega) (by omega)) : inK .i64 (pc + 4)) c0)) ?_
  clear hA fr; intro fr hA
  refine wpOps_cons' (mSR (off := 16) (ad := ⟨b1, 16, none⟩) (vc := [i64 (pc + 4)]) (l' := (regsL R (pc + 4))) 4 hA hO rfl (by kernel_rfl) (by kernel_rfl) ?_)
  clear hO; intro w10 hO
  replace hA := hA.sb (e' := [(2, i64 ld), (3, pt b1), (6, pt b2), (7, i64 0), (8, pt b3), (9, pt b4), (13, pt b5), (14, i64 ((pc + 4) + (4 * v)))])
  refine end_ops ?_
  refine then_normal ?_
  refine sC (e' := [(2, i64 ld), (3, pt b1), (6, pt b2), (7, i64 0), (8, pt b3), (9, pt b4), (13, pt b5), (14, i64 ((pc + 4) + (4 * v))), (15, .pointer (some ((⟨b1, 0, none⟩ : Addr).add ((a).toNat))))]) 5 hA [i64 a] (cc (hO.l1 1 1 3 (i64 a)) (cc (⟨by omega, by omega⟩ : (0 : Int) ≤ a ∧ a < ((16 : Nat) : Int)) c0)) ?_
  clear hA fr; intro fr hA
  refine wp_seq ?_
  refine sC (e' := [(2, i64 ld), (3, pt b1), (6, pt b2), (7, i64 0), (8, pt b3), (9, pt b4), (13, pt b5), (14, i64 ((pc + 4) + (4 * v))), (15, .pointer (some ((⟨b1, 0, none⟩ : Addr).add ((a).toNat)))), (77, i64 1)]) 2 hA [i64 1] (cc (hO.l1 1 0 3 (i64 1)) c0) ?_
  clear hA fr; intro fr hA
  refine wp_block ?_
  refine sC (e' := [(2, i64 ld), (3, pt b1), (6, pt b2), (7, i64 0), (8, pt b3), (9, pt b4), (13, pt b5), (14, i64 ((pc + 4) + (4 * v))), (15, .pointer (some ((⟨b1, 0, none⟩ : Addr).add ((a).toNat)))), (77, i64 1), (93, bl true)]) 2 hA [] c0 ?_
  clear hA fr; intro fr hA
  refine cT hA ?_
  refine rR (l := (rg 0 6)) ?_
  refine ck (l := (rg 0 5)) (r := [5]) (e' := [(3, pt b1), (6, pt b2), (7, i64 0), (8, pt b3), (98, i32 v), (99, .pointer (some ((⟨b1, 0, none⟩ : Addr).add ((a).toNat))))]) hA [i64 v, bl true] (cc (hO.l1 1 4 3 (i64 v)) (cc ((inK_i32 (by omega) (by omega)) : inK .i32 v) c0)) ?_
  clear hA fr; intro fr hA
  refine wpOps_cons' (mSR (off := (a).toNat) (ad := (⟨b1, 0, none⟩ : Addr).add ((a).toNat)) (vc := [i32 v]) (l' := (regsL (upd R ((a).toNat) v) (pc + 4))) 4 hA hO (add_zero_off _ _) (regs_ble R (pc + 4) (by omega)) (setL_regs (by omega) _) ?_)
  clear hO; intro w11 hO
  replace hA := hA.sb (e' := [(3, pt b1), (6, pt b2), (7, i64 0), (8, pt b3)])
  refine end_ops ?_
  refine inBlock_normal ?_
  refine then_normal ?_
  refine sR (l := (rg 0 5)) ?_
  refine ck (l := [0, 1]) (r := [2, 3, 4]) (e' := [(6, pt b2), (7, i64 0), (8, pt b3), (207, .agg (List.toArray (regsL (upd R ((a).toNat) v) (pc + 4)))), (208, .agg #[i64 0, i64 0, i64 0, i64 0, i64 0, i64 0, i64 0])]) hA [.agg (List.toArray (regsL (upd R ((a).toNat) v) (pc + 4)))] (cc (hO.ln 4 0 40 (regsL (upd R ((a).toNat) v) (pc + 4))) c0) ?_
  clear hA fr; intro fr hA
  refine wpOps_cons' (mS (off := 0) (vc := (regsL (upd R ((a).toNat) v) (pc + 4))) 3 hA hO ?_)
  clear hO; intro w12 hO
  replace hA := hA.sb (e' := [(6, pt b2), (7, i64 0), (8, pt b3), (208, .agg #[i64 0, i64 0, i64 0, i64 0, i64 0, i64 0, i64 0])])
  refine ck (l := [3]) (r := [4]) (e' := [(6, pt b2), (7, i64 0), (8, pt b3), (208, .agg #[i64 0, i64 0, i64 0, i64 0, i64 0, i64 0, i64 0])]) hA [] c0 ?_
  clear hA fr; intro fr hA
  refine wpOps_cons' (mS (off := 0) (vc := [i64 0, i64 0, i64 0, i64 0, i64 0, i64 0, i64 0]) 2 hA hO ?_)
  clear hO; intro w13 hO
  replace hA := hA.sb (e' := [(6, pt b2), (7, i64 0), (8, pt b3)])
  refine end_ops ?_
  refine then_normal ?_
  refine wp_ret ?_
  refine cR (cs := [some (⟨b2, 0, none⟩, 40), none, some (⟨b3, 0, none⟩, 43)]) (us := [.agg (List.toArray (regsL (upd R ((a).toNat) v) (pc + 4))), i64 0, .agg #[i64 0, i64 0, i64 0, i64 0, i64 0, i64 0, i64 0]]) hA [.agg (List.toArray (regsL (upd R ((a).toNat) v) (pc + 4))), .agg #[i64 0, i64 0, i64 0, i64 0, i64 0, i64 0, i64 0]] ⟨(hO.ln 3 0 40 (regsL (upd R ((a).toNat) v) (pc + 4))), (hO.ln 2 0 43 [i64 0, i64 0, i64 0, i64 0, i64 0, i64 0, i64 0]), trivial⟩ ?_
  have hF := hO.only; clear hA hO
  exact ⟨by simp_all [pack, execV, outV, noTrap, trapL, insV], hF⟩

theorem exec_2 (R : Nat → Int) (pc ld a b c v : Int) (sl : Value) (w : World) (hT : Tab w) (hR : RegsOk R) (hp : -1099511627776 < pc) (hp' : pc < 1099511627776) (ha : 0 ≤ a) (ha' : a ≤ 15) (hb : 0 ≤ b) (hb' : b ≤ 15) (hc : -128 ≤ c) (hc' : c ≤ 127) (hv : -32768 ≤ v) (hv' : v ≤ 32767) (hdec : ∀ w', Only none' w w' → Calls Tryd.prog 13 #[sl] w' fun e w2 => e = .returned (.tuple #[insV 2 a b c v, .int .i64 0]) ∧ Only none' w' w2) :
    Calls Tryd.prog 18 #[.agg (List.toArray (regsL R pc)), sl, i64 ld] w fun e w' => e = .returned (execV R pc ld 2 a b c v) ∧ Only none' w w' := by
  refine c_enter (args := [.agg (List.toArray (regsL R pc)), sl, i64 ld]) (m := 206) (n := 209) Tryd.func18 rfl (by kernel_rfl) (by kernel_rfl) fun fr hA => ?_
  have hO := Ow.nil Tryd.prog none' w
  have hRa := hR a.toNat; have hRb := hR b.toNat; have hRc := hR c.toNat; simp only [inK] at hRa hRb hRc
  refine sR (l := [0, 1, 2, 3]) ?_
  refine wpOps_cons' (mN (l := (regsL R pc)) (t := 40) (v := pt) (d := 3) hA hO ?_)
  clear hA hO fr; intro fr w1 b1 hA hO
  replace hA := hA.sb (e' := [(1, sl), (2, i64 ld), (3, pt b1)])
  refine wpOps_cons' (mN (l := [i32 0, i32 0, i32 0, i32 0, i32 0, i32 0, i32 0, i32 0, i32 0, i32 0, i32 0, i32 0, i32 0, i32 0, i32 0, i32 0, i64 0]) (t := 40) (v := pt) (d := 6) hA hO ?_)
  clear hA hO fr; intro fr w2 b2 hA hO
  refine ck (l := [2]) (r := [3]) (e' := [(1, sl), (2, i64 ld), (3, pt b1), (6, pt b2), (7, i64 0)]) hA [] c0 ?_
  clear hA fr; intro fr hA
  refine wpOps_cons' (mN (l := [i64 0, i64 0, i64 0, i64 0, i64 0, i64 0, i64 0]) (t := 43) (v := pt) (d := 8) hA hO ?_)
  clear hA hO fr; intro fr w3 b3 hA hO
  refine end_ops ?_
  refine then_normal ?_
  refine sR (l := (rg 0 8)) ?_
  refine ck (l := [0]) (r := (rg 1 7)) (e' := [(2, i64 ld), (3, pt b1), (6, pt b2), (7, i64 0), (8, pt b3), (18, sl)]) hA [] c0 ?_
  clear hA fr; intro fr hA
  refine wpOps_cons' (mK (f := 13) (args := [sl]) (d := (some 19)) (v := .tuple #[.agg #[i64 2, i64 a, i64 b, i64 c, i64 v], i64 0]) hA hO Tryd.func13 (hdec _ hO.only) ?_)
  clear hA hO fr; intro fr w4 hA hO
  replace hA := hA.sb (e' := [(2, i64 ld), (3, pt b1), (6, pt b2), (7, i64 0), (8, pt b3), (19, .tuple #[.agg #[i64 2, i64 a, i64 b, i64 c, i64 v], i64 0])])
  refine ck (l := [2, 3, 4]) (r := [5, 6, 7]) (e' := [(2, i64 ld), (3, pt b1), (6, pt b2), (7, i64 0), (8, pt b3), (20, .agg #[i64 2, i64 a, i64 b, i64 c, i64 v]), (21, i64 0)]) hA [] c0 ?_
  clear hA fr; intro fr hA
  refine wpOps_cons' (mN (l := [i64 0, i64 0, i64 0, i64 0, i64 0]) (t := 25) (v := pt) (d := 9) hA hO ?_)
  clear hA hO fr; intro fr w5 b4 hA hO
  refine wpOps_cons' (mS (off := 0) (vc := [i64 2, i64 a, i64 b, i64 c, i64 v]) 0 hA hO ?_)
  clear hO; intro w6 hO
  replace hA := hA.sb (e' := [(2, i64 ld), (3, pt b1), (6, pt b2), (7, i64 0), (8, pt b3), (9, pt b4), (21, i64 0)])
  refine ck (l := [7]) (r := []) (e' := [(2, i64 ld), (3, pt b1), (6, pt b2), (7, i64 0), (8, pt b3), (9, pt b4), (10, i64 0)]) hA [] c0 ?_
  clear hA fr; intro fr hA
  refine end_ops ?_
  refine then_normal ?_
  refine wp_seq ?_
  refine sC (e' := [(2, i64 ld), (3, pt b1), (6, pt b2), (7, i64 0), (8, pt b3), (9, pt b4), (23, bl false)]) 2 hA [] c0 ?_
  clear hA fr; intro fr hA
  refine cF hA ?_
  refine wp_skip ?_
  refine then_normal ?_
  refine wp_seq ?_
  refine sR (l := (rg 0 8)) ?_
  refine ck (l := [0, 1]) (r := (rg 2 6)) (e' := [(2, i64 ld), (3, pt b1), (6, pt b2), (7, i64 0), (8, pt b3), (9, pt b4), (27, .agg (List.toArray (regsL R pc))), (28, .agg #[i64 2, i64 a, i64 b, i64 c, i64 v])]) hA [.agg (List.toArray (regsL R pc)), .agg #[i64 2, i64 a, i64 b, i64 c, i64 v]] (cc (hO.ln 3 0 40 (regsL R pc)) (cc (hO.ln 0 0 25 [i64 2, i64 a, i64 b, i64 c, i64 v]) c0)) ?_
  clear hA fr; intro fr hA
  refine wpOps_cons' (mK (f := 36) (args := [.agg (List.toArray (regsL R pc)), .agg #[i64 2, i64 a, i64 b, i64 c, i64 v]]) (d := (some 29)) (v := .tuple #[i64 0, i64 0]) hA hO Tryd.func36 (place_any R pc 2 a b c v _ hR hb hb' (by omega) (by omega)) ?_)
  clear hA hO fr; intro fr w7 hA hO
  replace hA := hA.sb (e' := [(2, i64 ld), (3, pt b1), (6, pt b2), (7, i64 0), (8, pt b3), (9, pt b4), (29, .tuple #[i64 0, i64 0])])
  refine ck (l := (rg 3 5)) (r := []) (e' := [(2, i64 ld), (3, pt b1), (6, pt b2), (7, i64 0), (8, pt b3), (9, pt b4), (11, i64 0), (12, i64 0)]) hA [] c0 ?_
  clear hA fr; intro fr hA
  refine end_ops ?_
  refine then_normal ?_
  refine sC (e' := [(2, i64 ld), (3, pt b1), (6, pt b2), (7, i64 0), (8, pt b3), (9, pt b4), (39, bl false)]) 8 hA [] c0 ?_
  clear hA fr; intro fr hA
  refine cF hA ?_
  refine wp_skip ?_
  refine then_normal ?_
  refine wp_seq ?_
  refine sC (e' := [(2, i64 ld), (3, pt b1), (6, pt b2), (7, i64 0), (8, pt b3), (9, pt b4), (57, bl false)]) 16 hA [i64 2, i64 2] (cc (hO.l1 0 0 3 (i64 2)) (cc (hO.l1 0 0 3 (i64 2)) c0)) ?_
  clear hA fr; intro fr hA
  refine cF hA ?_
  refine wp_skip ?_
  refine then_normal ?_
  refine sR (l := [0, 1, 2]) ?_
  refine ck (l := [0]) (r := [1, 2]) (e' := [(2, i64 ld), (3, pt b1), (6, pt b2), (7, i64 0), (8, pt b3), (9, pt b4), (60, .agg (List.toArray (regsL R pc)))]) hA [.agg (List.toArray (regsL R pc))] (cc (hO.ln 3 0 40 (regsL R pc)) c0) ?_
  clear hA fr; intro fr hA
  refine wpOps_cons' (mN (l := [i32 0, i32 0, i32 0, i32 0, i32 0, i32 0, i32 0, i32 0, i32 0, i32 0, i32 0, i32 0, i32 0, i32 0, i32 0, i32 0, i64 0]) (t := 40) (v := pt) (d := 13) hA hO ?_)
  clear hA hO fr; intro fr w8 b5 hA hO
  refine wpOps_cons' (mS (off := 0) (vc := (regsL R pc)) 0 hA hO ?_)
  clear hO; intro w9 hO
  replace hA := hA.sb (e' := [(2, i64 ld), (3, pt b1), (6, pt b2), (7, i64 0), (8, pt b3), (9, pt b4), (13, pt b5)])
  refine end_ops ?_
  refine then_normal ?_
  refine sC (e' := [(2, i64 ld), (3, pt b1), (6, pt b2), (7, i64 0), (8, pt b3), (9, pt b4), (13, pt b5), (14, i64 ((pc + 4) + (4 * v)))]) 8 hA [i64 pc, bl true, i64 v, bl true, bl true] (cc (hO.l1 4 16 3 (i64 pc)) (cc ((inK_i64 (by omega) (by omega)) : inK .i64 (pc + 4)) (cc (hO.l1 1 4 3 (i64 v)) (cc ((inK_i64 (by omega) (by omega)) : inK .i64 (4 * v)) (cc ((inK_i64 (by omega) (by omega)) : inK .i64 ((pc + 4) + (4 * v))) c0))))) ?_
  clear hA fr; intro fr hA
  refine sR (l := (rg 0 5)) ?_
  refine ck (l := [0, 1, 2, 3]) (r := [4]) (e' := [(2, i64 ld), (3, pt b1), (6, pt b2), (7, i64 0), (8, pt b3), (9, pt b4), (13, pt b5), (14, i64 ((pc + 4) + (4 * v))), (70, i64 (pc + 4)), (71, pf b1 16)]) hA [i64 pc, bl true] (cc (hO.l1 4 16 3 (i64 pc)) (cc ((inK_i64 (by omega) (by omega)) : inK .i64 (pc + 4)) c0)) ?_
  clear hA fr; intro fr hA
  refine wpOps_cons' (mSR (off := 16) (ad := ⟨b1, 16, none⟩) (vc := [i64 (pc + 4)]) (l' := (regsL R (pc + 4))) 4 hA hO rfl (by kernel_rfl) (by kernel_rfl) ?_)
  clear hO; intro w10 hO
  replace hA := hA.sb (e' := [(2, i64 ld), (3, pt b1), (6, pt b2), (7, i64 0), (8, pt b3), (9, pt b4), (13, pt b5), (14, i64 ((pc + 4) + (4 * v)))])
  refine end_ops ?_
  refine then_normal ?_
  refine sC (e' := [(2, i64 ld), (3, pt b1), (6, pt b2), (7, i64 0), (8, pt b3), (9, pt b4), (13, pt b5), (14, i64 ((pc + 4) + (4 * v))), (15, .pointer (some ((⟨b1, 0, none⟩ : Addr).add ((a).toNat))))]) 5 hA [i64 a] (cc (hO.l1 1 1 3 (i64 a)) (cc (⟨by omega, by omega⟩ : (0 : Int) ≤ a ∧ a < ((16 : Nat) : Int)) c0)) ?_
  clear hA fr; intro fr hA
  refine wp_seq ?_
  refine sC (e' := [(2, i64 ld), (3, pt b1), (6, pt b2), (7, i64 0), (8, pt b3), (9, pt b4), (13, pt b5), (14, i64 ((pc + 4) + (4 * v))), (15, .pointer (some ((⟨b1, 0, none⟩ : Addr).add ((a).toNat)))), (77, i64 2)]) 2 hA [i64 2] (cc (hO.l1 1 0 3 (i64 2)) c0) ?_
  clear hA fr; intro fr hA
  refine wp_block ?_
  refine sC (e' := [(2, i64 ld), (3, pt b1), (6, pt b2), (7, i64 0), (8, pt b3), (9, pt b4), (13, pt b5), (14, i64 ((pc + 4) + (4 * v))), (15, .pointer (some ((⟨b1, 0, none⟩ : Addr).add ((a).toNat)))), (77, i64 2), (93, bl false)]) 2 hA [] c0 ?_
  clear hA fr; intro fr hA
  refine cF hA ?_
  refine sC (e' := [(2, i64 ld), (3, pt b1), (6, pt b2), (7, i64 0), (8, pt b3), (9, pt b4), (13, pt b5), (14, i64 ((pc + 4) + (4 * v))), (15, .pointer (some ((⟨b1, 0, none⟩ : Addr).add ((a).toNat)))), (77, i64 2), (100, bl true)]) 2 hA [] c0 ?_
  clear hA fr; intro fr hA
  refine cT hA ?_
  have hS : Ow Tryd.prog none' w _ [(b5, 40, (regsL R pc)), (b4, 25, [i64 2, i64 a, i64 b, i64 c, i64 v]), (b3, 43, [i64 0, i64 0, i64 0, i64 0, i64 0, i64 0, i64 0]), (b2, 40, [i32 0, i32 0, i32 0, i32 0, i32 0, i32 0, i32 0, i32 0, i32 0, i32 0, i32 0, i32 0, i32 0, i32 0, i32 0, i32 0, i64 0])] := hO.sub [0, 1, 2, 3]
  refine rP [(0, true), (1, true), (3, true), (4, true), (5, true), (6, true), (2, false), (7, true), (8, true), (9, false)] hS ?_
  intro w11 ho; replace hO := hO.st ho; clear ho
  refine ckS (l := [0, 1, 3, 4, 5, 6]) (r := [(2, false), (7, true), (8, true), (9, false)]) (e' := [(3, pt b1), (6, pt b2), (7, i64 0), (8, pt b3), (102, .pointer (some ((⟨b1, 0, none⟩ : Addr).add ((a).toNat)))), (103, .pointer (some ((⟨b1, 0, none⟩ : Addr).add ((a).toNat)))), (108, i32 (v * 65536))]) hA [i64 v, bl true, bl true] (cc (hS.s1 1 4 3 (i64 v)) (cc ((inK_i32 (by omega) (by omega)) : inK .i32 v) (cc ((inK_i32 (by omega) (by omega)) : inK .i32 (v * 65536)) (cc (by omega : (0 : Int) ≤ 16) c0)))) ?_
  clear hA fr; intro fr hA
  refine plan_mem (mQ (e' := [(3, pt b1), (6, pt b2), (7, i64 0), (8, pt b3), (102, .pointer (some ((⟨b1, 0, none⟩ : Addr).add ((a).toNat)))), (104, i32 (R ((a).toNat))), (108, i32 (v * 65536))]) hA [i32 (R ((a).toNat))] (cc ((ld_regs (hO.b 4) (by omega) (by kernel_rfl)) : Ld Tryd.prog w11 ((⟨b1, 0, none⟩ : Addr).add ((a).toNat)) 21 (i32 (R ((a).toNat)))) c0) ?_)
  clear hA fr; intro fr hA
  refine ⟨(hO.sub [0, 1, 2, 3]), ?_⟩
  refine ckS (l := [7, 8]) (r := [(9, false)]) (e' := [(3, pt b1), (6, pt b2), (7, i64 0), (8, pt b3), (109, i32 (IntKind.i32.wrap ((R ((a).toNat)) + (v * 65536)))), (110, .pointer (some ((⟨b1, 0, none⟩ : Addr).add ((a).toNat))))]) hA [bl false] c0 ?_
  clear hA fr; intro fr hA
  refine plan_mem (mSR (off := (a).toNat) (ad := (⟨b1, 0, none⟩ : Addr).add ((a).toNat)) (vc := [i32 (IntKind.i32.wrap ((R ((a).toNat)) + (v * 65536)))]) (l' := (regsL (upd R ((a).toNat) (IntKind.i32.wrap ((R ((a).toNat)) + (v * 65536)))) (pc + 4))) 4 hA hO (add_zero_off _ _) (regs_ble R (pc + 4) (by omega)) (setL_regs (by omega) _) ?_)
  clear hO; intro w12 hO
  refine ⟨(hO.sub [0, 1, 2, 3]), ?_⟩
  replace hA := hA.sb (e' := [(3, pt b1), (6, pt b2), (7, i64 0), (8, pt b3)])
  refine end_plan ?_
  refine inBlock_normal ?_
  refine then_normal ?_
  refine sR (l := (rg 0 5)) ?_
  refine ck (l := [0, 1]) (r := [2, 3, 4]) (e' := [(6, pt b2), (7, i64 0), (8, pt b3), (207, .agg (List.toArray (regsL (upd R ((a).toNat) (IntKind.i32.wrap ((R ((a).toNat)) + (v * 65536)))) (pc + 4)))), (208, .agg #[i64 0, i64 0, i64 0, i64 0, i64 0, i64 0, i64 0])]) hA [.agg (List.toArray (regsL (upd R ((a).toNat) (IntKind.i32.wrap ((R ((a).toNat)) + (v * 65536)))) (pc + 4)))] (cc (hO.ln 4 0 40 (regsL (upd R ((a).toNat) (IntKind.i32.wrap ((R ((a).toNat)) + (v * 65536)))) (pc + 4))) c0) ?_
  clear hA fr; intro fr hA
  refine wpOps_cons' (mS (off := 0) (vc := (regsL (upd R ((a).toNat) (IntKind.i32.wrap ((R ((a).toNat)) + (v * 65536)))) (pc + 4))) 3 hA hO ?_)
  clear hO; intro w13 hO
  replace hA := hA.sb (e' := [(6, pt b2), (7, i64 0), (8, pt b3), (208, .agg #[i64 0, i64 0, i64 0, i64 0, i64 0, i64 0, i64 0])])
  refine ck (l := [3]) (r := [4]) (e' := [(6, pt b2), (7, i64 0), (8, pt b3), (208, .agg #[i64 0, i64 0, i64 0, i64 0, i64 0, i64 0, i64 0])]) hA [] c0 ?_
  clear hA fr; intro fr hA
  refine wpOps_cons' (mS (off := 0) (vc := [i64 0, i64 0, i64 0, i64 0, i64 0, i64 0, i64 0]) 2 hA hO ?_)
  clear hO; intro w14 hO
  replace hA := hA.sb (e' := [(6, pt b2), (7, i64 0), (8, pt b3)])
  refine end_ops ?_
  refine then_normal ?_
  refine wp_ret ?_
  refine cR (cs := [some (⟨b2, 0, none⟩, 40), none, some (⟨b3, 0, none⟩, 43)]) (us := [.agg (List.toArray (regsL (upd R ((a).toNat) (IntKind.i32.wrap ((R ((a).toNat)) + (v * 65536)))) (pc + 4))), i64 0, .agg #[i64 0, i64 0, i64 0, i64 0, i64 0, i64 0, i64 0]]) hA [.agg (List.toArray (regsL (upd R ((a).toNat) (IntKind.i32.wrap ((R ((a).toNat)) + (v * 65536)))) (pc + 4))), .agg #[i64 0, i64 0, i64 0, i64 0, i64 0, i64 0, i64 0]] ⟨(hO.ln 3 0 40 (regsL (upd R ((a).toNat) (IntKind.i32.wrap ((R ((a).toNat)) + (v * 65536)))) (pc + 4))), (hO.ln 2 0 43 [i64 0, i64 0, i64 0, i64 0, i64 0, i64 0, i64 0]), trivial⟩ ?_
  have hF := hO.only; clear hA hO
  exact ⟨by simp_all [pack, execV, outV, noTrap, trapL, insV], hF⟩

theorem exec_3 (R : Nat → Int) (pc ld a b c v : Int) (sl : Value) (w : World) (hT : Tab w) (hR : RegsOk R) (hp : -1099511627776 < pc) (hp' : pc < 1099511627776) (ha : 0 ≤ a) (ha' : a ≤ 15) (hb : 0 ≤ b) (hb' : b ≤ 15) (hc : -128 ≤ c) (hc' : c ≤ 127) (hv : -32768 ≤ v) (hv' : v ≤ 32767) (hdec : ∀ w', Only none' w w' → Calls Tryd.prog 13 #[sl] w' fun e w2 => e = .returned (.tuple #[insV 3 a b c v, .int .i64 0]) ∧ Only none' w' w2) :
    Calls Tryd.prog 18 #[.agg (List.toArray (regsL R pc)), sl, i64 ld] w fun e w' => e = .returned (execV R pc ld 3 a b c v) ∧ Only none' w w' := by
  refine c_enter (args := [.agg (List.toArray (regsL R pc)), sl, i64 ld]) (m := 206) (n := 209) Tryd.func18 rfl (by kernel_rfl) (by kernel_rfl) fun fr hA => ?_
  have hO := Ow.nil Tryd.prog none' w
  have hRa := hR a.toNat; have hRb := hR b.toNat; have hRc := hR c.toNat; simp only [inK] at hRa hRb hRc
  refine sR (l := [0, 1, 2, 3]) ?_
  refine wpOps_cons' (mN (l := (regsL R pc)) (t := 40) (v := pt) (d := 3) hA hO ?_)
  clear hA hO fr; intro fr w1 b1 hA hO
  replace hA := hA.sb (e' := [(1, sl), (2, i64 ld), (3, pt b1)])
  refine wpOps_cons' (mN (l := [i32 0, i32 0, i32 0, i32 0, i32 0, i32 0, i32 0, i32 0, i32 0, i32 0, i32 0, i32 0, i32 0, i32 0, i32 0, i32 0, i64 0]) (t := 40) (v := pt) (d := 6) hA hO ?_)
  clear hA hO fr; intro fr w2 b2 hA hO
  refine ck (l := [2]) (r := [3]) (e' := [(1, sl), (2, i64 ld), (3, pt b1), (6, pt b2), (7, i64 0)]) hA [] c0 ?_
  clear hA fr; intro fr hA
  refine wpOps_cons' (mN (l := [i64 0, i64 0, i64 0, i64 0, i64 0, i64 0, i64 0]) (t := 43) (v := pt) (d := 8) hA hO ?_)
  clear hA hO fr; intro fr w3 b3 hA hO
  refine end_ops ?_
  refine then_normal ?_
  refine sR (l := (rg 0 8)) ?_
  refine ck (l := [0]) (r := (rg 1 7)) (e' := [(2, i64 ld), (3, pt b1), (6, pt b2), (7, i64 0), (8, pt b3), (18, sl)]) hA [] c0 ?_
  clear hA fr; intro fr hA
  refine wpOps_cons' (mK (f := 13) (args := [sl]) (d := (some 19)) (v := .tuple #[.agg #[i64 3, i64 a, i64 b, i64 c, i64 v], i64 0]) hA hO Tryd.func13 (hdec _ hO.only) ?_)
  clear hA hO fr; intro fr w4 hA hO
  replace hA := hA.sb (e' := [(2, i64 ld), (3, pt b1), (6, pt b2), (7, i64 0), (8, pt b3), (19, .tuple #[.agg #[i64 3, i64 a, i64 b, i64 c, i64 v], i64 0])])
  refine ck (l := [2, 3, 4]) (r := [5, 6, 7]) (e' := [(2, i64 ld), (3, pt b1), (6, pt b2), (7, i64 0), (8, pt b3), (20, .agg #[i64 3, i64 a, i64 b, i64 c, i64 v]), (21, i64 0)]) hA [] c0 ?_
  clear hA fr; intro fr hA
  refine wpOps_cons' (mN (l := [i64 0, i64 0, i64 0, i64 0, i64 0]) (t := 25) (v := pt) (d := 9) hA hO ?_)
  clear hA hO fr; intro fr w5 b4 hA hO
  refine wpOps_cons' (mS (off := 0) (vc := [i64 3, i64 a, i64 b, i64 c, i64 v]) 0 hA hO ?_)
  clear hO; intro w6 hO
  replace hA := hA.sb (e' := [(2, i64 ld), (3, pt b1), (6, pt b2), (7, i64 0), (8, pt b3), (9, pt b4), (21, i64 0)])
  refine ck (l := [7]) (r := []) (e' := [(2, i64 ld), (3, pt b1), (6, pt b2), (7, i64 0), (8, pt b3), (9, pt b4), (10, i64 0)]) hA [] c0 ?_
  clear hA fr; intro fr hA
  refine end_ops ?_
  refine then_normal ?_
  refine wp_seq ?_
  refine sC (e' := [(2, i64 ld), (3, pt b1), (6, pt b2), (7, i64 0), (8, pt b3), (9, pt b4), (23, bl false)]) 2 hA [] c0 ?_
  clear hA fr; intro fr hA
  refine cF hA ?_
  refine wp_skip ?_
  refine then_normal ?_
  refine wp_seq ?_
  refine sR (l := (rg 0 8)) ?_
  refine ck (l := [0, 1]) (r := (rg 2 6)) (e' := [(2, i64 ld), (3, pt b1), (6, pt b2), (7, i64 0), (8, pt b3), (9, pt b4), (27, .agg (List.toArray (regsL R pc))), (28, .agg #[i64 3, i64 a, i64 b, i64 c, i64 v])]) hA [.agg (List.toArray (regsL R pc)), .agg #[i64 3, i64 a, i64 b, i64 c, i64 v]] (cc (hO.ln 3 0 40 (regsL R pc)) (cc (hO.ln 0 0 25 [i64 3, i64 a, i64 b, i64 c, i64 v]) c0)) ?_
  clear hA fr; intro fr hA
  refine wpOps_cons' (mK (f := 36) (args := [.agg (List.toArray (regsL R pc)), .agg #[i64 3, i64 a, i64 b, i64 c, i64 v]]) (d := (some 29)) (v := .tuple #[i64 0, i64 0]) hA hO Tryd.func36 (place_any R pc 3 a b c v _ hR hb hb' (by omega) (by omega)) ?_)
  clear hA hO fr; intro fr w7 hA hO
  replace hA := hA.sb (e' := [(2, i64 ld), (3, pt b1), (6, pt b2), (7, i64 0), (8, pt b3), (9, pt b4), (29, .tuple #[i64 0, i64 0])])
  refine ck (l := (rg 3 5)) (r := []) (e' := [(2, i64 ld), (3, pt b1), (6, pt b2), (7, i64 0), (8, pt b3), (9, pt b4), (11, i64 0), (12, i64 0)]) hA [] c0 ?_
  clear hA fr; intro fr hA
  refine end_ops ?_
  refine then_normal ?_
  refine sC (e' := [(2, i64 ld), (3, pt b1), (6, pt b2), (7, i64 0), (8, pt b3), (9, pt b4), (39, bl false)]) 8 hA [] c0 ?_
  clear hA fr; intro fr hA
  refine cF hA ?_
  refine wp_skip ?_
  refine then_normal ?_
  refine wp_seq ?_
  refine sC (e' := [(2, i64 ld), (3, pt b1), (6, pt b2), (7, i64 0), (8, pt b3), (9, pt b4), (57, bl false)]) 16 hA [i64 3, i64 3] (cc (hO.l1 0 0 3 (i64 3)) (cc (hO.l1 0 0 3 (i64 3)) c0)) ?_
  clear hA fr; intro fr hA
  refine cF hA ?_
  refine wp_skip ?_
  refine then_normal ?_
  refine sR (l := [0, 1, 2]) ?_
  refine ck (l := [0]) (r := [1, 2]) (e' := [(2, i64 ld), (3, pt b1), (6, pt b2), (7, i64 0), (8, pt b3), (9, pt b4), (60, .agg (List.toArray (regsL R pc)))]) hA [.agg (List.toArray (regsL R pc))] (cc (hO.ln 3 0 40 (regsL R pc)) c0) ?_
  clear hA fr; intro fr hA
  refine wpOps_cons' (mN (l := [i32 0, i32 0, i32 0, i32 0, i32 0, i32 0, i32 0, i32 0, i32 0, i32 0, i32 0, i32 0, i32 0, i32 0, i32 0, i32 0, i64 0]) (t := 40) (v := pt) (d := 13) hA hO ?_)
  clear hA hO fr; intro fr w8 b5 hA hO
  refine wpOps_cons' (mS (off := 0) (vc := (regsL R pc)) 0 hA hO ?_)
  clear hO; intro w9 hO
  replace hA := hA.sb (e' := [(2, i64 ld), (3, pt b1), (6, pt b2), (7, i64 0), (8, pt b3), (9, pt b4), (13, pt b5)])
  refine end_ops ?_
  refine then_normal ?_
  refine sC (e' := [(2, i64 ld), (3, pt b1), (6, pt b2), (7, i64 0), (8, pt b3), (9, pt b4), (13, pt b5), (14, i64 ((pc + 4) + (4 * v)))]) 8 hA [i64 pc, bl true, i64 v, bl true, bl true] (cc (hO.l1 4 16 3 (i64 pc)) (cc ((inK_i64 (by omega) (by omega)) : inK .i64 (pc + 4)) (cc (hO.l1 1 4 3 (i64 v)) (cc ((inK_i64 (by omega) (by omega)) : inK .i64 (4 * v)) (cc ((inK_i64 (by omega) (by omega)) : inK .i64 ((pc + 4) + (4 * v))) c0))))) ?_
  clear hA fr; intro fr hA
  refine sR (l := (rg 0 5)) ?_
  refine ck (l := [0, 1, 2, 3]) (r := [4]) (e' := [(2, i64 ld), (3, pt b1), (6, pt b2), (7, i64 0), (8, pt b3), (9, pt b4), (13, pt b5), (14, i64 ((pc + 4) + (4 * v))), (70, i64 (pc + 4)), (71, pf b1 16)]) hA [i64 pc, bl true] (cc (hO.l1 4 16 3 (i64 pc)) (cc ((inK_i64 (by omega) (by omega)) : inK .i64 (pc + 4)) c0)) ?_
  clear hA fr; intro fr hA
  refine wpOps_cons' (mSR (off := 16) (ad := ⟨b1, 16, none⟩) (vc := [i64 (pc + 4)]) (l' := (regsL R (pc + 4))) 4 hA hO rfl (by kernel_rfl) (by kernel_rfl) ?_)
  clear hO; intro w10 hO
  replace hA := hA.sb (e' := [(2, i64 ld), (3, pt b1), (6, pt b2), (7, i64 0), (8, pt b3), (9, pt b4), (13, pt b5), (14, i64 ((pc + 4) + (4 * v)))])
  refine end_ops ?_
  refine then_normal ?_
  refine sC (e' := [(2, i64 ld), (3, pt b1), (6, pt b2), (7, i64 0), (8, pt b3), (9, pt b4), (13, pt b5), (14, i64 ((pc + 4) + (4 * v))), (15, .pointer (some ((⟨b1, 0, none⟩ : Addr).add ((a).toNat))))]) 5 hA [i64 a] (cc (hO.l1 1 1 3 (i64 a)) (cc (⟨by omega, by omega⟩ : (0 : Int) ≤ a ∧ a < ((16 : Nat) : Int)) c0)) ?_
  clear hA fr; intro fr hA
  refine wp_seq ?_
  refine sC (e' := [(2, i64 ld), (3, pt b1), (6, pt b2), (7, i64 0), (8, pt b3), (9, pt b4), (13, pt b5), (14, i64 ((pc + 4) + (4 * v))), (15, .pointer (some ((⟨b1, 0, none⟩ : Addr).add ((a).toNat)))), (77, i64 3)]) 2 hA [i64 3] (cc (hO.l1 1 0 3 (i64 3)) c0) ?_
  clear hA fr; intro fr hA
  refine wp_block ?_
  refine sC (e' := [(2, i64 ld), (3, pt b1), (6, pt b2), (7, i64 0), (8, pt b3), (9, pt b4), (13, pt b5), (14, i64 ((pc + 4) + (4 * v))), (15, .pointer (some ((⟨b1, 0, none⟩ : Addr).add ((a).toNat)))), (77, i64 3), (93, bl false)]) 2 hA [] c0 ?_
  clear hA fr; intro fr hA
  refine cF hA ?_
  refine sC (e' := [(2, i64 ld), (3, pt b1), (6, pt b2), (7, i64 0), (8, pt b3), (9, pt b4), (13, pt b5), (14, i64 ((pc + 4) + (4 * v))), (15, .pointer (some ((⟨b1, 0, none⟩ : Addr).add ((a).toNat)))), (77, i64 3), (100, bl false)]) 2 hA [] c0 ?_
  clear hA fr; intro fr hA
  refine cF hA ?_
  refine sC (e' := [(2, i64 ld), (3, pt b1), (6, pt b2), (7, i64 0), (8, pt b3), (9, pt b4), (13, pt b5), (14, i64 ((pc + 4) + (4 * v))), (15, .pointer (some ((⟨b1, 0, none⟩ : Addr).add ((a).toNat)))), (77, i64 3), (111, bl true)]) 2 hA [] c0 ?_
  clear hA fr; intro fr hA
  refine cT hA ?_
  have hS : Ow Tryd.prog none' w _ [(b5, 40, (regsL R pc)), (b4, 25, [i64 3, i64 a, i64 b, i64 c, i64 v]), (b3, 43, [i64 0, i64 0, i64 0, i64 0, i64 0, i64 0, i64 0]), (b2, 40, [i32 0, i32 0, i32 0, i32 0, i32 0, i32 0, i32 0, i32 0, i32 0, i32 0, i32 0, i32 0, i32 0, i32 0, i32 0, i32 0, i64 0])] := hO.sub [0, 1, 2, 3]
  refine rP [(0, true), (1, true), (2, true), (3, true), (4, true), (5, true), (6, true), (7, true), (8, true), (9, true), (10, true), (11, false)] hS ?_
  intro w11 ho; replace hO := hO.st ho; clear ho
  refine ckS (l := (rg 0 11)) (r := [(11, false)]) (e' := [(3, pt b1), (6, pt b2), (7, i64 0), (8, pt b3), (122, i32 (IntKind.i32.wrap ((R ((b).toNat)) + c))), (123, .pointer (some ((⟨b1, 0, none⟩ : Addr).add ((a).toNat))))]) hA [i64 b, i32 (R ((b).toNat)), i64 c, bl true, bl false] (cc (hS.s1 1 2 3 (i64 b)) (cc (⟨by omega, by omega⟩ : (0 : Int) ≤ b ∧ b < ((16 : Nat) : Int)) (cc (hS.sx ((⟨b5, 0, none⟩ : Addr).add ((b).toNat)) 21 (i32 (R ((b).toNat))) fun _ hO => (ld_regs (hO.b 0) (by omega) (by kernel_rfl))) (cc (hS.s1 1 3 3 (i64 c)) (cc ((inK_i32 (by omega) (by omega)) : inK .i32 c) c0))))) ?_
  clear hA fr; intro fr hA
  refine plan_mem (mSR (off := (a).toNat) (ad := (⟨b1, 0, none⟩ : Addr).add ((a).toNat)) (vc := [i32 (IntKind.i32.wrap ((R ((b).toNat)) + c))]) (l' := (regsL (upd R ((a).toNat) (IntKind.i32.wrap ((R ((b).toNat)) + c))) (pc + 4))) 4 hA hO (add_zero_off _ _) (regs_ble R (pc + 4) (by omega)) (setL_regs (by omega) _) ?_)
  clear hO; intro w12 hO
  refine ⟨(hO.sub [0, 1, 2, 3]), ?_⟩
  replace hA := hA.sb (e' := [(3, pt b1), (6, pt b2), (7, i64 0), (8, pt b3)])
  refine end_plan ?_
  refine inBlock_normal ?_
  refine then_normal ?_
  refine sR (l := (rg 0 5)) ?_
  refine ck (l := [0, 1]) (r := [2, 3, 4]) (e' := [(6, pt b2), (7, i64 0), (8, pt b3), (207, .agg (List.toArray (regsL (upd R ((a).toNat) (IntKind.i32.wrap ((R ((b).toNat)) + c))) (pc + 4)))), (208, .agg #[i64 0, i64 0, i64 0, i64 0, i64 0, i64 0, i64 0])]) hA [.agg (List.toArray (regsL (upd R ((a).toNat) (IntKind.i32.wrap ((R ((b).toNat)) + c))) (pc + 4)))] (cc (hO.ln 4 0 40 (regsL (upd R ((a).toNat) (IntKind.i32.wrap ((R ((b).toNat)) + c))) (pc + 4))) c0) ?_
  clear hA fr; intro fr hA
  refine wpOps_cons' (mS (off := 0) (vc := (regsL (upd R ((a).toNat) (IntKind.i32.wrap ((R ((b).toNat)) + c))) (pc + 4))) 3 hA hO ?_)
  clear hO; intro w13 hO
  replace hA := hA.sb (e' := [(6, pt b2), (7, i64 0), (8, pt b3), (208, .agg #[i64 0, i64 0, i64 0, i64 0, i64 0, i64 0, i64 0])])
  refine ck (l := [3]) (r := [4]) (e' := [(6, pt b2), (7, i64 0), (8, pt b3), (208, .agg #[i64 0, i64 0, i64 0, i64 0, i64 0, i64 0, i64 0])]) hA [] c0 ?_
  clear hA fr; intro fr hA
  refine wpOps_cons' (mS (off := 0) (vc := [i64 0, i64 0, i64 0, i64 0, i64 0, i64 0, i64 0]) 2 hA hO ?_)
  clear hO; intro w14 hO
  replace hA := hA.sb (e' := [(6, pt b2), (7, i64 0), (8, pt b3)])
  refine end_ops ?_
  refine then_normal ?_
  refine wp_ret ?_
  refine cR (cs := [some (⟨b2, 0, none⟩, 40), none, some (⟨b3, 0, none⟩, 43)]) (us := [.agg (List.toArray (regsL (upd R ((a).toNat) (IntKind.i32.wrap ((R ((b).toNat)) + c))) (pc + 4))), i64 0, .agg #[i64 0, i64 0, i64 0, i64 0, i64 0, i64 0, i64 0]]) hA [.agg (List.toArray (regsL (upd R ((a).toNat) (IntKind.i32.wrap ((R ((b).toNat)) + c))) (pc + 4))), .agg #[i64 0, i64 0, i64 0, i64 0, i64 0, i64 0, i64 0]] ⟨(hO.ln 3 0 40 (regsL (upd R ((a).toNat) (IntKind.i32.wrap ((R ((b).toNat)) + c))) (pc + 4))), (hO.ln 2 0 43 [i64 0, i64 0, i64 0, i64 0, i64 0, i64 0, i64 0]), trivial⟩ ?_
  have hF := hO.only; clear hA hO
  exact ⟨by simp_all [pack, execV, outV, noTrap, trapL, insV], hF⟩

theorem exec_4 (R : Nat → Int) (pc ld a b c v : Int) (sl : Value) (w : World) (hT : Tab w) (hR : RegsOk R) (hp : -1099511627776 < pc) (hp' : pc < 1099511627776) (ha : 0 ≤ a) (ha' : a ≤ 15) (hb : 0 ≤ b) (hb' : b ≤ 15) (hc : 0 ≤ c) (hc' : c ≤ 15) (hv : -32768 ≤ v) (hv' : v ≤ 32767) (hdec : ∀ w', Only none' w w' → Calls Tryd.prog 13 #[sl] w' fun e w2 => e = .returned (.tuple #[insV 4 a b c v, .int .i64 0]) ∧ Only none' w' w2) :
    Calls Tryd.prog 18 #[.agg (List.toArray (regsL R pc)), sl, i64 ld] w fun e w' => e = .returned (execV R pc ld 4 a b c v) ∧ Only none' w w' := by
  refine c_enter (args := [.agg (List.toArray (regsL R pc)), sl, i64 ld]) (m := 206) (n := 209) Tryd.func18 rfl (by kernel_rfl) (by kernel_rfl) fun fr hA => ?_
  have hO := Ow.nil Tryd.prog none' w
  have hRa := hR a.toNat; have hRb := hR b.toNat; have hRc := hR c.toNat; simp only [inK] at hRa hRb hRc
  refine sR (l := [0, 1, 2, 3]) ?_
  refine wpOps_cons' (mN (l := (regsL R pc)) (t := 40) (v := pt) (d := 3) hA hO ?_)
  clear hA hO fr; intro fr w1 b1 hA hO
  replace hA := hA.sb (e' := [(1, sl), (2, i64 ld), (3, pt b1)])
  refine wpOps_cons' (mN (l := [i32 0, i32 0, i32 0, i32 0, i32 0, i32 0, i32 0, i32 0, i32 0, i32 0, i32 0, i32 0, i32 0, i32 0, i32 0, i32 0, i64 0]) (t := 40) (v := pt) (d := 6) hA hO ?_)
  clear hA hO fr; intro fr w2 b2 hA hO
  refine ck (l := [2]) (r := [3]) (e' := [(1, sl), (2, i64 ld), (3, pt b1), (6, pt b2), (7, i64 0)]) hA [] c0 ?_
  clear hA fr; intro fr hA
  refine wpOps_cons' (mN (l := [i64 0, i64 0, i64 0, i64 0, i64 0, i64 0, i64 0]) (t := 43) (v := pt) (d := 8) hA hO ?_)
  clear hA hO fr; intro fr w3 b3 hA hO
  refine end_ops ?_
  refine then_normal ?_
  refine sR (l := (rg 0 8)) ?_
  refine ck (l := [0]) (r := (rg 1 7)) (e' := [(2, i64 ld), (3, pt b1), (6, pt b2), (7, i64 0), (8, pt b3), (18, sl)]) hA [] c0 ?_
  clear hA fr; intro fr hA
  refine wpOps_cons' (mK (f := 13) (args := [sl]) (d := (some 19)) (v := .tuple #[.agg #[i64 4, i64 a, i64 b, i64 c, i64 v], i64 0]) hA hO Tryd.func13 (hdec _ hO.only) ?_)
  clear hA hO fr; intro fr w4 hA hO
  replace hA := hA.sb (e' := [(2, i64 ld), (3, pt b1), (6, pt b2), (7, i64 0), (8, pt b3), (19, .tuple #[.agg #[i64 4, i64 a, i64 b, i64 c, i64 v], i64 0])])
  refine ck (l := [2, 3, 4]) (r := [5, 6, 7]) (e' := [(2, i64 ld), (3, pt b1), (6, pt b2), (7, i64 0), (8, pt b3), (20, .agg #[i64 4, i64 a, i64 b, i64 c, i64 v]), (21, i64 0)]) hA [] c0 ?_
  clear hA fr; intro fr hA
  refine wpOps_cons' (mN (l := [i64 0, i64 0, i64 0, i64 0, i64 0]) (t := 25) (v := pt) (d := 9) hA hO ?_)
  clear hA hO fr; intro fr w5 b4 hA hO
  refine wpOps_cons' (mS (off := 0) (vc := [i64 4, i64 a, i64 b, i64 c, i64 v]) 0 hA hO ?_)
  clear hO; intro w6 hO
  replace hA := hA.sb (e' := [(2, i64 ld), (3, pt b1), (6, pt b2), (7, i64 0), (8, pt b3), (9, pt b4), (21, i64 0)])
  refine ck (l := [7]) (r := []) (e' := [(2, i64 ld), (3, pt b1), (6, pt b2), (7, i64 0), (8, pt b3), (9, pt b4), (10, i64 0)]) hA [] c0 ?_
  clear hA fr; intro fr hA
  refine end_ops ?_
  refine then_normal ?_
  refine wp_seq ?_
  refine sC (e' := [(2, i64 ld), (3, pt b1), (6, pt b2), (7, i64 0), (8, pt b3), (9, pt b4), (23, bl false)]) 2 hA [] c0 ?_
  clear hA fr; intro fr hA
  refine cF hA ?_
  refine wp_skip ?_
  refine then_normal ?_
  refine wp_seq ?_
  refine sR (l := (rg 0 8)) ?_
  refine ck (l := [0, 1]) (r := (rg 2 6)) (e' := [(2, i64 ld), (3, pt b1), (6, pt b2), (7, i64 0), (8, pt b3), (9, pt b4), (27, .agg (List.toArray (regsL R pc))), (28, .agg #[i64 4, i64 a, i64 b, i64 c, i64 v])]) hA [.agg (List.toArray (regsL R pc)), .agg #[i64 4, i64 a, i64 b, i64 c, i64 v]] (cc (hO.ln 3 0 40 (regsL R pc)) (cc (hO.ln 0 0 25 [i64 4, i64 a, i64 b, i64 c, i64 v]) c0)) ?_
  clear hA fr; intro fr hA
  refine wpOps_cons' (mK (f := 36) (args := [.agg (List.toArray (regsL R pc)), .agg #[i64 4, i64 a, i64 b, i64 c, i64 v]]) (d := (some 29)) (v := .tuple #[i64 0, i64 0]) hA hO Tryd.func36 (place_any R pc 4 a b c v _ hR hb hb' (by omega) (by omega)) ?_)
  clear hA hO fr; intro fr w7 hA hO
  replace hA := hA.sb (e' := [(2, i64 ld), (3, pt b1), (6, pt b2), (7, i64 0), (8, pt b3), (9, pt b4), (29, .tuple #[i64 0, i64 0])])
  refine ck (l := (rg 3 5)) (r := []) (e' := [(2, i64 ld), (3, pt b1), (6, pt b2), (7, i64 0), (8, pt b3), (9, pt b4), (11, i64 0), (12, i64 0)]) hA [] c0 ?_
  clear hA fr; intro fr hA
  refine end_ops ?_
  refine then_normal ?_
  refine sC (e' := [(2, i64 ld), (3, pt b1), (6, pt b2), (7, i64 0), (8, pt b3), (9, pt b4), (39, bl false)]) 8 hA [] c0 ?_
  clear hA fr; intro fr hA
  refine cF hA ?_
  refine wp_skip ?_
  refine then_normal ?_
  refine wp_seq ?_
  refine sC (e' := [(2, i64 ld), (3, pt b1), (6, pt b2), (7, i64 0), (8, pt b3), (9, pt b4), (57, bl false)]) 16 hA [i64 4, i64 4] (cc (hO.l1 0 0 3 (i64 4)) (cc (hO.l1 0 0 3 (i64 4)) c0)) ?_
  clear hA fr; intro fr hA
  refine cF hA ?_
  refine wp_skip ?_
  refine then_normal ?_
  refine sR (l := [0, 1, 2]) ?_
  refine ck (l := [0]) (r := [1, 2]) (e' := [(2, i64 ld), (3, pt b1), (6, pt b2), (7, i64 0), (8, pt b3), (9, pt b4), (60, .agg (List.toArray (regsL R pc)))]) hA [.agg (List.toArray (regsL R pc))] (cc (hO.ln 3 0 40 (regsL R pc)) c0) ?_
  clear hA fr; intro fr hA
  refine wpOps_cons' (mN (l := [i32 0, i32 0, i32 0, i32 0, i32 0, i32 0, i32 0, i32 0, i32 0, i32 0, i32 0, i32 0, i32 0, i32 0, i32 0, i32 0, i64 0]) (t := 40) (v := pt) (d := 13) hA hO ?_)
  clear hA hO fr; intro fr w8 b5 hA hO
  refine wpOps_cons' (mS (off := 0) (vc := (regsL R pc)) 0 hA hO ?_)
  clear hO; intro w9 hO
  replace hA := hA.sb (e' := [(2, i64 ld), (3, pt b1), (6, pt b2), (7, i64 0), (8, pt b3), (9, pt b4), (13, pt b5)])
  refine end_ops ?_
  refine then_normal ?_
  refine sC (e' := [(2, i64 ld), (3, pt b1), (6, pt b2), (7, i64 0), (8, pt b3), (9, pt b4), (13, pt b5), (14, i64 ((pc + 4) + (4 * v)))]) 8 hA [i64 pc, bl true, i64 v, bl true, bl true] (cc (hO.l1 4 16 3 (i64 pc)) (cc ((inK_i64 (by omega) (by omega)) : inK .i64 (pc + 4)) (cc (hO.l1 1 4 3 (i64 v)) (cc ((inK_i64 (by omega) (by omega)) : inK .i64 (4 * v)) (cc ((inK_i64 (by omega) (by omega)) : inK .i64 ((pc + 4) + (4 * v))) c0))))) ?_
  clear hA fr; intro fr hA
  refine sR (l := (rg 0 5)) ?_
  refine ck (l := [0, 1, 2, 3]) (r := [4]) (e' := [(2, i64 ld), (3, pt b1), (6, pt b2), (7, i64 0), (8, pt b3), (9, pt b4), (13, pt b5), (14, i64 ((pc + 4) + (4 * v))), (70, i64 (pc + 4)), (71, pf b1 16)]) hA [i64 pc, bl true] (cc (hO.l1 4 16 3 (i64 pc)) (cc ((inK_i64 (by omega) (by omega)) : inK .i64 (pc + 4)) c0)) ?_
  clear hA fr; intro fr hA
  refine wpOps_cons' (mSR (off := 16) (ad := ⟨b1, 16, none⟩) (vc := [i64 (pc + 4)]) (l' := (regsL R (pc + 4))) 4 hA hO rfl (by kernel_rfl) (by kernel_rfl) ?_)
  clear hO; intro w10 hO
  replace hA := hA.sb (e' := [(2, i64 ld), (3, pt b1), (6, pt b2), (7, i64 0), (8, pt b3), (9, pt b4), (13, pt b5), (14, i64 ((pc + 4) + (4 * v)))])
  refine end_ops ?_
  refine then_normal ?_
  refine sC (e' := [(2, i64 ld), (3, pt b1), (6, pt b2), (7, i64 0), (8, pt b3), (9, pt b4), (13, pt b5), (14, i64 ((pc + 4) + (4 * v))), (15, .pointer (some ((⟨b1, 0, none⟩ : Addr).add ((a).toNat))))]) 5 hA [i64 a] (cc (hO.l1 1 1 3 (i64 a)) (cc (⟨by omega, by omega⟩ : (0 : Int) ≤ a ∧ a < ((16 : Nat) : Int)) c0)) ?_
  clear hA fr; intro fr hA
  refine wp_seq ?_
  refine sC (e' := [(2, i64 ld), (3, pt b1), (6, pt b2), (7, i64 0), (8, pt b3), (9, pt b4), (13, pt b5), (14, i64 ((pc + 4) + (4 * v))), (15, .pointer (some ((⟨b1, 0, none⟩ : Addr).add ((a).toNat)))), (77, i64 4)]) 2 hA [i64 4] (cc (hO.l1 1 0 3 (i64 4)) c0) ?_
  clear hA fr; intro fr hA
  refine wp_block ?_
  refine sC (e' := [(2, i64 ld), (3, pt b1), (6, pt b2), (7, i64 0), (8, pt b3), (9, pt b4), (13, pt b5), (14, i64 ((pc + 4) + (4 * v))), (15, .pointer (some ((⟨b1, 0, none⟩ : Addr).add ((a).toNat)))), (77, i64 4), (93, bl false)]) 2 hA [] c0 ?_
  clear hA fr; intro fr hA
  refine cF hA ?_
  refine sC (e' := [(2, i64 ld), (3, pt b1), (6, pt b2), (7, i64 0), (8, pt b3), (9, pt b4), (13, pt b5), (14, i64 ((pc + 4) + (4 * v))), (15, .pointer (some ((⟨b1, 0, none⟩ : Addr).add ((a).toNat)))), (77, i64 4), (100, bl false)]) 2 hA [] c0 ?_
  clear hA fr; intro fr hA
  refine cF hA ?_
  refine sC (e' := [(2, i64 ld), (3, pt b1), (6, pt b2), (7, i64 0), (8, pt b3), (9, pt b4), (13, pt b5), (14, i64 ((pc + 4) + (4 * v))), (15, .pointer (some ((⟨b1, 0, none⟩ : Addr).add ((a).toNat)))), (77, i64 4), (111, bl false)]) 2 hA [] c0 ?_
  clear hA fr; intro fr hA
  refine cF hA ?_
  refine sC (e' := [(2, i64 ld), (3, pt b1), (6, pt b2), (7, i64 0), (8, pt b3), (9, pt b4), (13, pt b5), (14, i64 ((pc + 4) + (4 * v))), (15, .pointer (some ((⟨b1, 0, none⟩ : Addr).add ((a).toNat)))), (77, i64 4), (124, bl false)]) 2 hA [] c0 ?_
  clear hA fr; intro fr hA
  refine cF hA ?_
  refine sC (e' := [(2, i64 ld), (3, pt b1), (6, pt b2), (7, i64 0), (8, pt b3), (9, pt b4), (13, pt b5), (14, i64 ((pc + 4) + (4 * v))), (15, .pointer (some ((⟨b1, 0, none⟩ : Addr).add ((a).toNat)))), (77, i64 4), (130, bl false)]) 2 hA [] c0 ?_
  clear hA fr; intro fr hA
  refine cF hA ?_
  refine sC (e' := [(3, pt b1), (6, pt b2), (7, i64 0), (8, pt b3), (9, pt b4), (13, pt b5), (14, i64 ((pc + 4) + (4 * v))), (15, .pointer (some ((⟨b1, 0, none⟩ : Addr).add ((a).toNat)))), (77, i64 4), (137, bl false)]) 2 hA [] c0 ?_
  clear hA fr; intro fr hA
  refine cF hA ?_
  refine sC (e' := [(3, pt b1), (6, pt b2), (7, i64 0), (8, pt b3), (9, pt b4), (13, pt b5), (14, i64 ((pc + 4) + (4 * v))), (15, .pointer (some ((⟨b1, 0, none⟩ : Addr).add ((a).toNat)))), (77, i64 4), (145, bl false)]) 2 hA [] c0 ?_
  clear hA fr; intro fr hA
  refine cF hA ?_
  refine sC (e' := [(3, pt b1), (6, pt b2), (7, i64 0), (8, pt b3), (9, pt b4), (13, pt b5), (14, i64 ((pc + 4) + (4 * v))), (15, .pointer (some ((⟨b1, 0, none⟩ : Addr).add ((a).toNat)))), (77, i64 4), (154, bl false)]) 2 hA [] c0 ?_
  clear hA fr; intro fr hA
  refine cF hA ?_
  refine sC (e' := [(3, pt b1), (6, pt b2), (7, i64 0), (8, pt b3), (9, pt b4), (13, pt b5), (14, i64 ((pc + 4) + (4 * v))), (15, .pointer (some ((⟨b1, 0, none⟩ : Addr).add ((a).toNat)))), (77, i64 4), (158, bl false)]) 2 hA [] c0 ?_
  clear hA fr; intro fr hA
  refine cF hA ?_
  refine sC (e' := [(3, pt b1), (6, pt b2), (7, i64 0), (8, pt b3), (9, pt b4), (13, pt b5), (14, i64 ((pc + 4) + (4 * v))), (15, .pointer (some ((⟨b1, 0, none⟩ : Addr).add ((a).toNat)))), (77, i64 4), (166, bl false)]) 2 hA [] c0 ?_
  clear hA fr; intro fr hA
  refine cF hA ?_
  refine sC (e' := [(3, pt b1), (6, pt b2), (7, i64 0), (8, pt b3), (9, pt b4), (13, pt b5), (15, .pointer (some ((⟨b1, 0, none⟩ : Addr).add ((a).toNat)))), (77, i64 4), (175, bl false)]) 2 hA [] c0 ?_
  clear hA fr; intro fr hA
  refine cF hA ?_
  refine sC (e' := [(3, pt b1), (6, pt b2), (7, i64 0), (8, pt b3), (9, pt b4), (13, pt b5), (15, .pointer (some ((⟨b1, 0, none⟩ : Addr).add ((a).toNat)))), (182, bl false)]) 2 hA [] c0 ?_
  clear hA fr; intro fr hA
  refine cF hA ?_
  have hS : Ow Tryd.prog none' w _ [(b5, 40, (regsL R pc)), (b4, 25, [i64 4, i64 a, i64 b, i64 c, i64 v]), (b3, 43, [i64 0, i64 0, i64 0, i64 0, i64 0, i64 0, i64 0]), (b2, 40, [i32 0, i32 0, i32 0, i32 0, i32 0, i32 0, i32 0, i32 0, i32 0, i32 0, i32 0, i32 0, i32 0, i32 0, i32 0, i32 0, i64 0])] := hO.sub [0, 1, 2, 3]
  refine rP [(0, true), (1, true), (2, true), (3, true), (4, true), (5, true), (6, true), (7, true), (8, true), (9, true), (10, true), (11, true), (12, true), (13, false), (14, true), (15, false)] hS ?_
  intro w11 ho; replace hO := hO.st ho; clear ho
  refine ckS (l := (rg 0 13)) (r := [(13, false), (14, true), (15, false)]) (e' := [(3, pt b1), (6, pt b2), (7, i64 0), (8, pt b3), (78, .pointer (some ((⟨b1, 0, none⟩ : Addr).add ((a).toNat)))), (80, i64 4), (85, i32 (R ((b).toNat))), (90, i32 (R ((c).toNat)))]) hA [i64 4, i64 b, i32 (R ((b).toNat)), i64 c, i32 (R ((c).toNat))] (cc (hS.s1 1 0 3 (i64 4)) (cc (hS.s1 1 2 3 (i64 b)) (cc (⟨by omega, by omega⟩ : (0 : Int) ≤ b ∧ b < ((16 : Nat) : Int)) (cc (hS.sx ((⟨b5, 0, none⟩ : Addr).add ((b).toNat)) 21 (i32 (R ((b).toNat))) fun _ hO => (ld_regs (hO.b 0) (by omega) (by kernel_rfl))) (cc (hS.s1 1 3 3 (i64 c)) (cc (⟨by omega, by omega⟩ : (0 : Int) ≤ c ∧ c < ((16 : Nat) : Int)) (cc (hS.sx ((⟨b5, 0, none⟩ : Addr).add ((c).toNat)) 21 (i32 (R ((c).toNat))) fun _ hO => (ld_regs (hO.b 0) (by omega) (by kernel_rfl))) c0))))))) ?_
  clear hA fr; intro fr hA
  refine plan_mem (mK (f := 37) (args := [i64 4, i32 (R ((b).toNat)), i32 (R ((c).toNat))]) (d := (some 91)) (v := i32 (arithS 4 (R ((b).toNat)) (R ((c).toNat)))) hA hO Tryd.func37 (arithmetic_any 4 (R ((b).toNat)) (R ((c).toNat)) _ (by omega)) ?_)
  clear hA hO fr; intro fr w12 hA hO
  refine ⟨(hO.sub [0, 1, 2, 3]), ?_⟩
  replace hA := hA.sb (e' := [(3, pt b1), (6, pt b2), (7, i64 0), (8, pt b3), (78, .pointer (some ((⟨b1, 0, none⟩ : Addr).add ((a).toNat)))), (91, i32 (arithS 4 (R ((b).toNat)) (R ((c).toNat))))])
  refine ckS (l := [14]) (r := [(15, false)]) (e' := [(3, pt b1), (6, pt b2), (7, i64 0), (8, pt b3), (91, i32 (arithS 4 (R ((b).toNat)) (R ((c).toNat)))), (92, .pointer (some ((⟨b1, 0, none⟩ : Addr).add ((a).toNat))))]) hA [] c0 ?_
  clear hA fr; intro fr hA
  refine plan_mem (mSR (off := (a).toNat) (ad := (⟨b1, 0, none⟩ : Addr).add ((a).toNat)) (vc := [i32 (arithS 4 (R ((b).toNat)) (R ((c).toNat)))]) (l' := (regsL (upd R ((a).toNat) (arithS 4 (R ((b).toNat)) (R ((c).toNat)))) (pc + 4))) 4 hA hO (add_zero_off _ _) (regs_ble R (pc + 4) (by omega)) (setL_regs (by omega) _) ?_)
  clear hO; intro w13 hO
  refine ⟨(hO.sub [0, 1, 2, 3]), ?_⟩
  replace hA := hA.sb (e' := [(3, pt b1), (6, pt b2), (7, i64 0), (8, pt b3)])
  refine end_plan ?_
  refine inBlock_normal ?_
  refine then_normal ?_
  refine sR (l := (rg 0 5)) ?_
  refine ck (l := [0, 1]) (r := [2, 3, 4]) (e' := [(6, pt b2), (7, i64 0), (8, pt b3), (207, .agg (List.toArray (regsL (upd R ((a).toNat) (arithS 4 (R ((b).toNat)) (R ((c).toNat)))) (pc + 4)))), (208, .agg #[i64 0, i64 0, i64 0, i64 0, i64 0, i64 0, i64 0])]) hA [.agg (List.toArray (regsL (upd R ((a).toNat) (arithS 4 (R ((b).toNat)) (R ((c).toNat)))) (pc + 4)))] (cc (hO.ln 4 0 40 (regsL (upd R ((a).toNat) (arithS 4 (R ((b).toNat)) (R ((c).toNat)))) (pc + 4))) c0) ?_
  clear hA fr; intro fr hA
  refine wpOps_cons' (mS (off := 0) (vc := (regsL (upd R ((a).toNat) (arithS 4 (R ((b).toNat)) (R ((c).toNat)))) (pc + 4))) 3 hA hO ?_)
  clear hO; intro w14 hO
  replace hA := hA.sb (e' := [(6, pt b2), (7, i64 0), (8, pt b3), (208, .agg #[i64 0, i64 0, i64 0, i64 0, i64 0, i64 0, i64 0])])
  refine ck (l := [3]) (r := [4]) (e' := [(6, pt b2), (7, i64 0), (8, pt b3), (208, .agg #[i64 0, i64 0, i64 0, i64 0, i64 0, i64 0, i64 0])]) hA [] c0 ?_
  clear hA fr; intro fr hA
  refine wpOps_cons' (mS (off := 0) (vc := [i64 0, i64 0, i64 0, i64 0, i64 0, i64 0, i64 0]) 2 hA hO ?_)
  clear hO; intro w15 hO
  replace hA := hA.sb (e' := [(6, pt b2), (7, i64 0), (8, pt b3)])
  refine end_ops ?_
  refine then_normal ?_
  refine wp_ret ?_
  refine cR (cs := [some (⟨b2, 0, none⟩, 40), none, some (⟨b3, 0, none⟩, 43)]) (us := [.agg (List.toArray (regsL (upd R ((a).toNat) (arithS 4 (R ((b).toNat)) (R ((c).toNat)))) (pc + 4))), i64 0, .agg #[i64 0, i64 0, i64 0, i64 0, i64 0, i64 0, i64 0]]) hA [.agg (List.toArray (regsL (upd R ((a).toNat) (arithS 4 (R ((b).toNat)) (R ((c).toNat)))) (pc + 4))), .agg #[i64 0, i64 0, i64 0, i64 0, i64 0, i64 0, i64 0]] ⟨(hO.ln 3 0 40 (regsL (upd R ((a).toNat) (arithS 4 (R ((b).toNat)) (R ((c).toNat)))) (pc + 4))), (hO.ln 2 0 43 [i64 0, i64 0, i64 0, i64 0, i64 0, i64 0, i64 0]), trivial⟩ ?_
  have hF := hO.only; clear hA hO
  exact ⟨by simp_all [pack, execV, outV, noTrap, trapL, insV], hF⟩

theorem exec_5 (R : Nat → Int) (pc ld a b c v : Int) (sl : Value) (w : World) (hT : Tab w) (hR : RegsOk R) (hp : -1099511627776 < pc) (hp' : pc < 1099511627776) (ha : 0 ≤ a) (ha' : a ≤ 15) (hb : 0 ≤ b) (hb' : b ≤ 15) (hc : 0 ≤ c) (hc' : c ≤ 15) (hv : -32768 ≤ v) (hv' : v ≤ 32767) (hdec : ∀ w', Only none' w w' → Calls Tryd.prog 13 #[sl] w' fun e w2 => e = .returned (.tuple #[insV 5 a b c v, .int .i64 0]) ∧ Only none' w' w2) :
    Calls Tryd.prog 18 #[.agg (List.toArray (regsL R pc)), sl, i64 ld] w fun e w' => e = .returned (execV R pc ld 5 a b c v) ∧ Only none' w w' := by
  refine c_enter (args := [.agg (List.toArray (regsL R pc)), sl, i64 ld]) (m := 206) (n := 209) Tryd.func18 rfl (by kernel_rfl) (by kernel_rfl) fun fr hA => ?_
  have hO := Ow.nil Tryd.prog none' w
  have hRa := hR a.toNat; have hRb := hR b.toNat; have hRc := hR c.toNat; simp only [inK] at hRa hRb hRc
  refine sR (l := [0, 1, 2, 3]) ?_
  refine wpOps_cons' (mN (l := (regsL R pc)) (t := 40) (v := pt) (d := 3) hA hO ?_)
  clear hA hO fr; intro fr w1 b1 hA hO
  replace hA := hA.sb (e' := [(1, sl), (2, i64 ld), (3, pt b1)])
  refine wpOps_cons' (mN (l := [i32 0, i32 0, i32 0, i32 0, i32 0, i32 0, i32 0, i32 0, i32 0, i32 0, i32 0, i32 0, i32 0, i32 0, i32 0, i32 0, i64 0]) (t := 40) (v := pt) (d := 6) hA hO ?_)
  clear hA hO fr; intro fr w2 b2 hA hO
  refine ck (l := [2]) (r := [3]) (e' := [(1, sl), (2, i64 ld), (3, pt b1), (6, pt b2), (7, i64 0)]) hA [] c0 ?_
  clear hA fr; intro fr hA
  refine wpOps_cons' (mN (l := [i64 0, i64 0, i64 0, i64 0, i64 0, i64 0, i64 0]) (t := 43) (v := pt) (d := 8) hA hO ?_)
  clear hA hO fr; intro fr w3 b3 hA hO
  refine end_ops ?_
  refine then_normal ?_
  refine sR (l := (rg 0 8)) ?_
  refine ck (l := [0]) (r := (rg 1 7)) (e' := [(2, i64 ld), (3, pt b1), (6, pt b2), (7, i64 0), (8, pt b3), (18, sl)]) hA [] c0 ?_
  clear hA fr; intro fr hA
  refine wpOps_cons' (mK (f := 13) (args := [sl]) (d := (some 19)) (v := .tuple #[.agg #[i64 5, i64 a, i64 b, i64 c, i64 v], i64 0]) hA hO Tryd.func13 (hdec _ hO.only) ?_)
  clear hA hO fr; intro fr w4 hA hO
  replace hA := hA.sb (e' := [(2, i64 ld), (3, pt b1), (6, pt b2), (7, i64 0), (8, pt b3), (19, .tuple #[.agg #[i64 5, i64 a, i64 b, i64 c, i64 v], i64 0])])
  refine ck (l := [2, 3, 4]) (r := [5, 6, 7]) (e' := [(2, i64 ld), (3, pt b1), (6, pt b2), (7, i64 0), (8, pt b3), (20, .agg #[i64 5, i64 a, i64 b, i64 c, i64 v]), (21, i64 0)]) hA [] c0 ?_
  clear hA fr; intro fr hA
  refine wpOps_cons' (mN (l := [i64 0, i64 0, i64 0, i64 0, i64 0]) (t := 25) (v := pt) (d := 9) hA hO ?_)
  clear hA hO fr; intro fr w5 b4 hA hO
  refine wpOps_cons' (mS (off := 0) (vc := [i64 5, i64 a, i64 b, i64 c, i64 v]) 0 hA hO ?_)
  clear hO; intro w6 hO
  replace hA := hA.sb (e' := [(2, i64 ld), (3, pt b1), (6, pt b2), (7, i64 0), (8, pt b3), (9, pt b4), (21, i64 0)])
  refine ck (l := [7]) (r := []) (e' := [(2, i64 ld), (3, pt b1), (6, pt b2), (7, i64 0), (8, pt b3), (9, pt b4), (10, i64 0)]) hA [] c0 ?_
  clear hA fr; intro fr hA
  refine end_ops ?_
  refine then_normal ?_
  refine wp_seq ?_
  refine sC (e' := [(2, i64 ld), (3, pt b1), (6, pt b2), (7, i64 0), (8, pt b3), (9, pt b4), (23, bl false)]) 2 hA [] c0 ?_
  clear hA fr; intro fr hA
  refine cF hA ?_
  refine wp_skip ?_
  refine then_normal ?_
  refine wp_seq ?_
  refine sR (l := (rg 0 8)) ?_
  refine ck (l := [0, 1]) (r := (rg 2 6)) (e' := [(2, i64 ld), (3, pt b1), (6, pt b2), (7, i64 0), (8, pt b3), (9, pt b4), (27, .agg (List.toArray (regsL R pc))), (28, .agg #[i64 5, i64 a, i64 b, i64 c, i64 v])]) hA [.agg (List.toArray (regsL R pc)), .agg #[i64 5, i64 a, i64 b, i64 c, i64 v]] (cc (hO.ln 3 0 40 (regsL R pc)) (cc (hO.ln 0 0 25 [i64 5, i64 a, i64 b, i64 c, i64 v]) c0)) ?_
  clear hA fr; intro fr hA
  refine wpOps_cons' (mK (f := 36) (args := [.agg (List.toArray (regsL R pc)), .agg #[i64 5, i64 a, i64 b, i64 c, i64 v]]) (d := (some 29)) (v := .tuple #[i64 0, i64 0]) hA hO Tryd.func36 (place_any R pc 5 a b c v _ hR hb hb' (by omega) (by omega)) ?_)
  clear hA hO fr; intro fr w7 hA hO
  replace hA := hA.sb (e' := [(2, i64 ld), (3, pt b1), (6, pt b2), (7, i64 0), (8, pt b3), (9, pt b4), (29, .tuple #[i64 0, i64 0])])
  refine ck (l := (rg 3 5)) (r := []) (e' := [(2, i64 ld), (3, pt b1), (6, pt b2), (7, i64 0), (8, pt b3), (9, pt b4), (11, i64 0), (12, i64 0)]) hA [] c0 ?_
  clear hA fr; intro fr hA
  refine end_ops ?_
  refine then_normal ?_
  refine sC (e' := [(2, i64 ld), (3, pt b1), (6, pt b2), (7, i64 0), (8, pt b3), (9, pt b4), (39, bl false)]) 8 hA [] c0 ?_
  clear hA fr; intro fr hA
  refine cF hA ?_
  refine wp_skip ?_
  refine then_normal ?_
  refine wp_seq ?_
  refine sC (e' := [(2, i64 ld), (3, pt b1), (6, pt b2), (7, i64 0), (8, pt b3), (9, pt b4), (57, bl false)]) 16 hA [i64 5, i64 5] (cc (hO.l1 0 0 3 (i64 5)) (cc (hO.l1 0 0 3 (i64 5)) c0)) ?_
  clear hA fr; intro fr hA
  refine cF hA ?_
  refine wp_skip ?_
  refine then_normal ?_
  refine sR (l := [0, 1, 2]) ?_
  refine ck (l := [0]) (r := [1, 2]) (e' := [(2, i64 ld), (3, pt b1), (6, pt b2), (7, i64 0), (8, pt b3), (9, pt b4), (60, .agg (List.toArray (regsL R pc)))]) hA [.agg (List.toArray (regsL R pc))] (cc (hO.ln 3 0 40 (regsL R pc)) c0) ?_
  clear hA fr; intro fr hA
  refine wpOps_cons' (mN (l := [i32 0, i32 0, i32 0, i32 0, i32 0, i32 0, i32 0, i32 0, i32 0, i32 0, i32 0, i32 0, i32 0, i32 0, i32 0, i32 0, i64 0]) (t := 40) (v := pt) (d := 13) hA hO ?_)
  clear hA hO fr; intro fr w8 b5 hA hO
  refine wpOps_cons' (mS (off := 0) (vc := (regsL R pc)) 0 hA hO ?_)
  clear hO; intro w9 hO
  replace hA := hA.sb (e' := [(2, i64 ld), (3, pt b1), (6, pt b2), (7, i64 0), (8, pt b3), (9, pt b4), (13, pt b5)])
  refine end_ops ?_
  refine then_normal ?_
  refine sC (e' := [(2, i64 ld), (3, pt b1), (6, pt b2), (7, i64 0), (8, pt b3), (9, pt b4), (13, pt b5), (14, i64 ((pc + 4) + (4 * v)))]) 8 hA [i64 pc, bl true, i64 v, bl true, bl true] (cc (hO.l1 4 16 3 (i64 pc)) (cc ((inK_i64 (by omega) (by omega)) : inK .i64 (pc + 4)) (cc (hO.l1 1 4 3 (i64 v)) (cc ((inK_i64 (by omega) (by omega)) : inK .i64 (4 * v)) (cc ((inK_i64 (by omega) (by omega)) : inK .i64 ((pc + 4) + (4 * v))) c0))))) ?_
  clear hA fr; intro fr hA
  refine sR (l := (rg 0 5)) ?_
  refine ck (l := [0, 1, 2, 3]) (r := [4]) (e' := [(2, i64 ld), (3, pt b1), (6, pt b2), (7, i64 0), (8, pt b3), (9, pt b4), (13, pt b5), (14, i64 ((pc + 4) + (4 * v))), (70, i64 (pc + 4)), (71, pf b1 16)]) hA [i64 pc, bl true] (cc (hO.l1 4 16 3 (i64 pc)) (cc ((inK_i64 (by omega) (by omega)) : inK .i64 (pc + 4)) c0)) ?_
  clear hA fr; intro fr hA
  refine wpOps_cons' (mSR (off := 16) (ad := ⟨b1, 16, none⟩) (vc := [i64 (pc + 4)]) (l' := (regsL R (pc + 4))) 4 hA hO rfl (by kernel_rfl) (by kernel_rfl) ?_)
  clear hO; intro w10 hO
  replace hA := hA.sb (e' := [(2, i64 ld), (3, pt b1), (6, pt b2), (7, i64 0), (8, pt b3), (9, pt b4), (13, pt b5), (14, i64 ((pc + 4) + (4 * v)))])
  refine end_ops ?_
  refine then_normal ?_
  refine sC (e' := [(2, i64 ld), (3, pt b1), (6, pt b2), (7, i64 0), (8, pt b3), (9, pt b4), (13, pt b5), (14, i64 ((pc + 4) + (4 * v))), (15, .pointer (some ((⟨b1, 0, none⟩ : Addr).add ((a).toNat))))]) 5 hA [i64 a] (cc (hO.l1 1 1 3 (i64 a)) (cc (⟨by omega, by omega⟩ : (0 : Int) ≤ a ∧ a < ((16 : Nat) : Int)) c0)) ?_
  clear hA fr; intro fr hA
  refine wp_seq ?_
  refine sC (e' := [(2, i64 ld), (3, pt b1), (6, pt b2), (7, i64 0), (8, pt b3), (9, pt b4), (13, pt b5), (14, i64 ((pc + 4) + (4 * v))), (15, .pointer (some ((⟨b1, 0, none⟩ : Addr).add ((a).toNat)))), (77, i64 5)]) 2 hA [i64 5] (cc (hO.l1 1 0 3 (i64 5)) c0) ?_
  clear hA fr; intro fr hA
  refine wp_block ?_
  refine sC (e' := [(2, i64 ld), (3, pt b1), (6, pt b2), (7, i64 0), (8, pt b3), (9, pt b4), (13, pt b5), (14, i64 ((pc + 4) + (4 * v))), (15, .pointer (some ((⟨b1, 0, none⟩ : Addr).add ((a).toNat)))), (77, i64 5), (93, bl false)]) 2 hA [] c0 ?_
  clear hA fr; intro fr hA
  refine cF hA ?_
  refine sC (e' := [(2, i64 ld), (3, pt b1), (6, pt b2), (7, i64 0), (8, pt b3), (9, pt b4), (13, pt b5), (14, i64 ((pc + 4) + (4 * v))), (15, .pointer (some ((⟨b1, 0, none⟩ : Addr).add ((a).toNat)))), (77, i64 5), (100, bl false)]) 2 hA [] c0 ?_
  clear hA fr; intro fr hA
  refine cF hA ?_
  refine sC (e' := [(2, i64 ld), (3, pt b1), (6, pt b2), (7, i64 0), (8, pt b3), (9, pt b4), (13, pt b5), (14, i64 ((pc + 4) + (4 * v))), (15, .pointer (some ((⟨b1, 0, none⟩ : Addr).add ((a).toNat)))), (77, i64 5), (111, bl false)]) 2 hA [] c0 ?_
  clear hA fr; intro fr hA
  refine cF hA ?_
  refine sC (e' := [(2, i64 ld), (3, pt b1), (6, pt b2), (7, i64 0), (8, pt b3), (9, pt b4), (13, pt b5), (14, i64 ((pc + 4) + (4 * v))), (15, .pointer (some ((⟨b1, 0, none⟩ : Addr).add ((a).toNat)))), (77, i64 5), (124, bl false)]) 2 hA [] c0 ?_
  clear hA fr; intro fr hA
  refine cF hA ?_
  refine sC (e' := [(2, i64 ld), (3, pt b1), (6, pt b2), (7, i64 0), (8, pt b3), (9, pt b4), (13, pt b5), (14, i64 ((pc + 4) + (4 * v))), (15, .pointer (some ((⟨b1, 0, none⟩ : Addr).add ((a).toNat)))), (77, i64 5), (130, bl false)]) 2 hA [] c0 ?_
  clear hA fr; intro fr hA
  refine cF hA ?_
  refine sC (e' := [(3, pt b1), (6, pt b2), (7, i64 0), (8, pt b3), (9, pt b4), (13, pt b5), (14, i64 ((pc + 4) + (4 * v))), (15, .pointer (some ((⟨b1, 0, none⟩ : Addr).add ((a).toNat)))), (77, i64 5), (137, bl false)]) 2 hA [] c0 ?_
  clear hA fr; intro fr hA
  refine cF hA ?_
  refine sC (e' := [(3, pt b1), (6, pt b2), (7, i64 0), (8, pt b3), (9, pt b4), (13, pt b5), (14, i64 ((pc + 4) + (4 * v))), (15, .pointer (some ((⟨b1, 0, none⟩ : Addr).add ((a).toNat)))), (77, i64 5), (145, bl false)]) 2 hA [] c0 ?_
  clear hA fr; intro fr hA
  refine cF hA ?_
  refine sC (e' := [(3, pt b1), (6, pt b2), (7, i64 0), (8, pt b3), (9, pt b4), (13, pt b5), (14, i64 ((pc + 4) + (4 * v))), (15, .pointer (some ((⟨b1, 0, none⟩ : Addr).add ((a).toNat)))), (77, i64 5), (154, bl false)]) 2 hA [] c0 ?_
  clear hA fr; intro fr hA
  refine cF hA ?_
  refine sC (e' := [(3, pt b1), (6, pt b2), (7, i64 0), (8, pt b3), (9, pt b4), (13, pt b5), (14, i64 ((pc + 4) + (4 * v))), (15, .pointer (some ((⟨b1, 0, none⟩ : Addr).add ((a).toNat)))), (77, i64 5), (158, bl false)]) 2 hA [] c0 ?_
  clear hA fr; intro fr hA
  refine cF hA ?_
  refine sC (e' := [(3, pt b1), (6, pt b2), (7, i64 0), (8, pt b3), (9, pt b4), (13, pt b5), (14, i64 ((pc + 4) + (4 * v))), (15, .pointer (some ((⟨b1, 0, none⟩ : Addr).add ((a).toNat)))), (77, i64 5), (166, bl false)]) 2 hA [] c0 ?_
  clear hA fr; intro fr hA
  refine cF hA ?_
  refine sC (e' := [(3, pt b1), (6, pt b2), (7, i64 0), (8, pt b3), (9, pt b4), (13, pt b5), (15, .pointer (some ((⟨b1, 0, none⟩ : Addr).add ((a).toNat)))), (77, i64 5), (175, bl false)]) 2 hA [] c0 ?_
  clear hA fr; intro fr hA
  refine cF hA ?_
  refine sC (e' := [(3, pt b1), (6, pt b2), (7, i64 0), (8, pt b3), (9, pt b4), (13, pt b5), (15, .pointer (some ((⟨b1, 0, none⟩ : Addr).add ((a).toNat)))), (182, bl false)]) 2 hA [] c0 ?_
  clear hA fr; intro fr hA
  refine cF hA ?_
  have hS : Ow Tryd.prog none' w _ [(b5, 40, (regsL R pc)), (b4, 25, [i64 5, i64 a, i64 b, i64 c, i64 v]), (b3, 43, [i64 0, i64 0, i64 0, i64 0, i64 0, i64 0, i64 0]), (b2, 40, [i32 0, i32 0, i32 0, i32 0, i32 0, i32 0, i32 0, i32 0, i32 0, i32 0, i32 0, i32 0, i32 0, i32 0, i32 0, i32 0, i64 0])] := hO.sub [0, 1, 2, 3]
  refine rP [(0, true), (1, true), (2, true), (3, true), (4, true), (5, true), (6, true), (7, true), (8, true), (9, true), (10, true), (11, true), (12, true), (13, false), (14, true), (15, false)] hS ?_
  intro w11 ho; replace hO := hO.st ho; clear ho
  refine ckS (l := (rg 0 13)) (r := [(13, false), (14, true), (15, false)]) (e' := [(3, pt b1), (6, pt b2), (7, i64 0), (8, pt b3), (78, .pointer (some ((⟨b1, 0, none⟩ : Addr).add ((a).toNat)))), (80, i64 5), (85, i32 (R ((b).toNat))), (90, i32 (R ((c).toNat)))]) hA [i64 5, i64 b, i32 (R ((b).toNat)), i64 c, i32 (R ((c).toNat))] (cc (hS.s1 1 0 3 (i64 5)) (cc (hS.s1 1 2 3 (i64 b)) (cc (⟨by omega, by omega⟩ : (0 : Int) ≤ b ∧ b < ((16 : Nat) : Int)) (cc (hS.sx ((⟨b5, 0, none⟩ : Addr).add ((b).toNat)) 21 (i32 (R ((b).toNat))) fun _ hO => (ld_regs (hO.b 0) (by omega) (by kernel_rfl))) (cc (hS.s1 1 3 3 (i64 c)) (cc (⟨by omega, by omega⟩ : (0 : Int) ≤ c ∧ c < ((16 : Nat) : Int)) (cc (hS.sx ((⟨b5, 0, none⟩ : Addr).add ((c).toNat)) 21 (i32 (R ((c).toNat))) fun _ hO => (ld_regs (hO.b 0) (by omega) (by kernel_rfl))) c0))))))) ?_
  clear hA fr; intro fr hA
  refine plan_mem (mK (f := 37) (args := [i64 5, i32 (R ((b).toNat)), i32 (R ((c).toNat))]) (d := (some 91)) (v := i32 (arithS 5 (R ((b).toNat)) (R ((c).toNat)))) hA hO Tryd.func37 (arithmetic_any 5 (R ((b).toNat)) (R ((c).toNat)) _ (by omega)) ?_)
  clear hA hO fr; intro fr w12 hA hO
  refine ⟨(hO.sub [0, 1, 2, 3]), ?_⟩
  replace hA := hA.sb (e' := [(3, pt b1), (6, pt b2), (7, i64 0), (8, pt b3), (78, .pointer (some ((⟨b1, 0, none⟩ : Addr).add ((a).toNat)))), (91, i32 (arithS 5 (R ((b).toNat)) (R ((c).toNat))))])
  refine ckS (l := [14]) (r := [(15, false)]) (e' := [(3, pt b1), (6, pt b2), (7, i64 0), (8, pt b3), (91, i32 (arithS 5 (R ((b).toNat)) (R ((c).toNat)))), (92, .pointer (some ((⟨b1, 0, none⟩ : Addr).add ((a).toNat))))]) hA [] c0 ?_
  clear hA fr; intro fr hA
  refine plan_mem (mSR (off := (a).toNat) (ad := (⟨b1, 0, none⟩ : Addr).add ((a).toNat)) (vc := [i32 (arithS 5 (R ((b).toNat)) (R ((c).toNat)))]) (l' := (regsL (upd R ((a).toNat) (arithS 5 (R ((b).toNat)) (R ((c).toNat)))) (pc + 4))) 4 hA hO (add_zero_off _ _) (regs_ble R (pc + 4) (by omega)) (setL_regs (by omega) _) ?_)
  clear hO; intro w13 hO
  refine ⟨(hO.sub [0, 1, 2, 3]), ?_⟩
  replace hA := hA.sb (e' := [(3, pt b1), (6, pt b2), (7, i64 0), (8, pt b3)])
  refine end_plan ?_
  refine inBlock_normal ?_
  refine then_normal ?_
  refine sR (l := (rg 0 5)) ?_
  refine ck (l := [0, 1]) (r := [2, 3, 4]) (e' := [(6, pt b2), (7, i64 0), (8, pt b3), (207, .agg (List.toArray (regsL (upd R ((a).toNat) (arithS 5 (R ((b).toNat)) (R ((c).toNat)))) (pc + 4)))), (208, .agg #[i64 0, i64 0, i64 0, i64 0, i64 0, i64 0, i64 0])]) hA [.agg (List.toArray (regsL (upd R ((a).toNat) (arithS 5 (R ((b).toNat)) (R ((c).toNat)))) (pc + 4)))] (cc (hO.ln 4 0 40 (regsL (upd R ((a).toNat) (arithS 5 (R ((b).toNat)) (R ((c).toNat)))) (pc + 4))) c0) ?_
  clear hA fr; intro fr hA
  refine wpOps_cons' (mS (off := 0) (vc := (regsL (upd R ((a).toNat) (arithS 5 (R ((b).toNat)) (R ((c).toNat)))) (pc + 4))) 3 hA hO ?_)
  clear hO; intro w14 hO
  replace hA := hA.sb (e' := [(6, pt b2), (7, i64 0), (8, pt b3), (208, .agg #[i64 0, i64 0, i64 0, i64 0, i64 0, i64 0, i64 0])])
  refine ck (l := [3]) (r := [4]) (e' := [(6, pt b2), (7, i64 0), (8, pt b3), (208, .agg #[i64 0, i64 0, i64 0, i64 0, i64 0, i64 0, i64 0])]) hA [] c0 ?_
  clear hA fr; intro fr hA
  refine wpOps_cons' (mS (off := 0) (vc := [i64 0, i64 0, i64 0, i64 0, i64 0, i64 0, i64 0]) 2 hA hO ?_)
  clear hO; intro w15 hO
  replace hA := hA.sb (e' := [(6, pt b2), (7, i64 0), (8, pt b3)])
  refine end_ops ?_
  refine then_normal ?_
  refine wp_ret ?_
  refine cR (cs := [some (⟨b2, 0, none⟩, 40), none, some (⟨b3, 0, none⟩, 43)]) (us := [.agg (List.toArray (regsL (upd R ((a).toNat) (arithS 5 (R ((b).toNat)) (R ((c).toNat)))) (pc + 4))), i64 0, .agg #[i64 0, i64 0, i64 0, i64 0, i64 0, i64 0, i64 0]]) hA [.agg (List.toArray (regsL (upd R ((a).toNat) (arithS 5 (R ((b).toNat)) (R ((c).toNat)))) (pc + 4))), .agg #[i64 0, i64 0, i64 0, i64 0, i64 0, i64 0, i64 0]] ⟨(hO.ln 3 0 40 (regsL (upd R ((a).toNat) (arithS 5 (R ((b).toNat)) (R ((c).toNat)))) (pc + 4))), (hO.ln 2 0 43 [i64 0, i64 0, i64 0, i64 0, i64 0, i64 0, i64 0]), trivial⟩ ?_
  have hF := hO.only; clear hA hO
  exact ⟨by simp_all [pack, execV, outV, noTrap, trapL, insV], hF⟩

theorem exec_6 (R : Nat → Int) (pc ld a b c v : Int) (sl : Value) (w : World) (hT : Tab w) (hR : RegsOk R) (hp : -1099511627776 < pc) (hp' : pc < 1099511627776) (ha : 0 ≤ a) (ha' : a ≤ 15) (hb : 0 ≤ b) (hb' : b ≤ 15) (hc : 0 ≤ c) (hc' : c ≤ 15) (hv : -32768 ≤ v) (hv' : v ≤ 32767) (hdec : ∀ w', Only none' w w' → Calls Tryd.prog 13 #[sl] w' fun e w2 => e = .returned (.tuple #[insV 6 a b c v, .int .i64 0]) ∧ Only none' w' w2) :
    Calls Tryd.prog 18 #[.agg (List.toArray (regsL R pc)), sl, i64 ld] w fun e w' => e = .returned (execV R pc ld 6 a b c v) ∧ Only none' w w' := by
  refine c_enter (args := [.agg (List.toArray (regsL R pc)), sl, i64 ld]) (m := 206) (n := 209) Tryd.func18 rfl (by kernel_rfl) (by kernel_rfl) fun fr hA => ?_
  have hO := Ow.nil Tryd.prog none' w
  have hRa := hR a.toNat; have hRb := hR b.toNat; have hRc := hR c.toNat; simp only [inK] at hRa hRb hRc
  refine sR (l := [0, 1, 2, 3]) ?_
  refine wpOps_cons' (mN (l := (regsL R pc)) (t := 40) (v := pt) (d := 3) hA hO ?_)
  clear hA hO fr; intro fr w1 b1 hA hO
  replace hA := hA.sb (e' := [(1, sl), (2, i64 ld), (3, pt b1)])
  refine wpOps_cons' (mN (l := [i32 0, i32 0, i32 0, i32 0, i32 0, i32 0, i32 0, i32 0, i32 0, i32 0, i32 0, i32 0, i32 0, i32 0, i32 0, i32 0, i64 0]) (t := 40) (v := pt) (d := 6) hA hO ?_)
  clear hA hO fr; intro fr w2 b2 hA hO
  refine ck (l := [2]) (r := [3]) (e' := [(1, sl), (2, i64 ld), (3, pt b1), (6, pt b2), (7, i64 0)]) hA [] c0 ?_
  clear hA fr; intro fr hA
  refine wpOps_cons' (mN (l := [i64 0, i64 0, i64 0, i64 0, i64 0, i64 0, i64 0]) (t := 43) (v := pt) (d := 8) hA hO ?_)
  clear hA hO fr; intro fr w3 b3 hA hO
  refine end_ops ?_
  refine then_normal ?_
  refine sR (l := (rg 0 8)) ?_
  refine ck (l := [0]) (r := (rg 1 7)) (e' := [(2, i64 ld), (3, pt b1), (6, pt b2), (7, i64 0), (8, pt b3), (18, sl)]) hA [] c0 ?_
  clear hA fr; intro fr hA
  refine wpOps_cons' (mK (f := 13) (args := [sl]) (d := (some 19)) (v := .tuple #[.agg #[i64 6, i64 a, i64 b, i64 c, i64 v], i64 0]) hA hO Tryd.func13 (hdec _ hO.only) ?_)
  clear hA hO fr; intro fr w4 hA hO
  replace hA := hA.sb (e' := [(2, i64 ld), (3, pt b1), (6, pt b2), (7, i64 0), (8, pt b3), (19, .tuple #[.agg #[i64 6, i64 a, i64 b, i64 c, i64 v], i64 0])])
  refine ck (l := [2, 3, 4]) (r := [5, 6, 7]) (e' := [(2, i64 ld), (3, pt b1), (6, pt b2), (7, i64 0), (8, pt b3), (20, .agg #[i64 6, i64 a, i64 b, i64 c, i64 v]), (21, i64 0)]) hA [] c0 ?_
  clear hA fr; intro fr hA
  refine wpOps_cons' (mN (l := [i64 0, i64 0, i64 0, i64 0, i64 0]) (t := 25) (v := pt) (d := 9) hA hO ?_)
  clear hA hO fr; intro fr w5 b4 hA hO
  refine wpOps_cons' (mS (off := 0) (vc := [i64 6, i64 a, i64 b, i64 c, i64 v]) 0 hA hO ?_)
  clear hO; intro w6 hO
  replace hA := hA.sb (e' := [(2, i64 ld), (3, pt b1), (6, pt b2), (7, i64 0), (8, pt b3), (9, pt b4), (21, i64 0)])
  refine ck (l := [7]) (r := []) (e' := [(2, i64 ld), (3, pt b1), (6, pt b2), (7, i64 0), (8, pt b3), (9, pt b4), (10, i64 0)]) hA [] c0 ?_
  clear hA fr; intro fr hA
  refine end_ops ?_
  refine then_normal ?_
  refine wp_seq ?_
  refine sC (e' := [(2, i64 ld), (3, pt b1), (6, pt b2), (7, i64 0), (8, pt b3), (9, pt b4), (23, bl false)]) 2 hA [] c0 ?_
  clear hA fr; intro fr hA
  refine cF hA ?_
  refine wp_skip ?_
  refine then_normal ?_
  refine wp_seq ?_
  refine sR (l := (rg 0 8)) ?_
  refine ck (l := [0, 1]) (r := (rg 2 6)) (e' := [(2, i64 ld), (3, pt b1), (6, pt b2), (7, i64 0), (8, pt b3), (9, pt b4), (27, .agg (List.toArray (regsL R pc))), (28, .agg #[i64 6, i64 a, i64 b, i64 c, i64 v])]) hA [.agg (List.toArray (regsL R pc)), .agg #[i64 6, i64 a, i64 b, i64 c, i64 v]] (cc (hO.ln 3 0 40 (regsL R pc)) (cc (hO.ln 0 0 25 [i64 6, i64 a, i64 b, i64 c, i64 v]) c0)) ?_
  clear hA fr; intro fr hA
  refine wpOps_cons' (mK (f := 36) (args := [.agg (List.toArray (regsL R pc)), .agg #[i64 6, i64 a, i64 b, i64 c, i64 v]]) (d := (some 29)) (v := .tuple #[i64 0, i64 0]) hA hO Tryd.func36 (place_any R pc 6 a b c v _ hR hb hb' (by omega) (by omega)) ?_)
  clear hA hO fr; intro fr w7 hA hO
  replace hA := hA.sb (e' := [(2, i64 ld), (3, pt b1), (6, pt b2), (7, i64 0), (8, pt b3), (9, pt b4), (29, .tuple #[i64 0, i64 0])])
  refine ck (l := (rg 3 5)) (r := []) (e' := [(2, i64 ld), (3, pt b1), (6, pt b2), (7, i64 0), (8, pt b3), (9, pt b4), (11, i64 0), (12, i64 0)]) hA [] c0 ?_
  clear hA fr; intro fr hA
  refine end_ops ?_
  refine then_normal ?_
  refine sC (e' := [(2, i64 ld), (3, pt b1), (6, pt b2), (7, i64 0), (8, pt b3), (9, pt b4), (39, bl false)]) 8 hA [] c0 ?_
  clear hA fr; intro fr hA
  refine cF hA ?_
  refine wp_skip ?_
  refine then_normal ?_
  refine wp_seq ?_
  refine sC (e' := [(2, i64 ld), (3, pt b1), (6, pt b2), (7, i64 0), (8, pt b3), (9, pt b4), (57, bl false)]) 16 hA [i64 6, i64 6] (cc (hO.l1 0 0 3 (i64 6)) (cc (hO.l1 0 0 3 (i64 6)) c0)) ?_
  clear hA fr; intro fr hA
  refine cF hA ?_
  refine wp_skip ?_
  refine then_normal ?_
  refine sR (l := [0, 1, 2]) ?_
  refine ck (l := [0]) (r := [1, 2]) (e' := [(2, i64 ld), (3, pt b1), (6, pt b2), (7, i64 0), (8, pt b3), (9, pt b4), (60, .agg (List.toArray (regsL R pc)))]) hA [.agg (List.toArray (regsL R pc))] (cc (hO.ln 3 0 40 (regsL R pc)) c0) ?_
  clear hA fr; intro fr hA
  refine wpOps_cons' (mN (l := [i32 0, i32 0, i32 0, i32 0, i32 0, i32 0, i32 0, i32 0, i32 0, i32 0, i32 0, i32 0, i32 0, i32 0, i32 0, i32 0, i64 0]) (t := 40) (v := pt) (d := 13) hA hO ?_)
  clear hA hO fr; intro fr w8 b5 hA hO
  refine wpOps_cons' (mS (off := 0) (vc := (regsL R pc)) 0 hA hO ?_)
  clear hO; intro w9 hO
  replace hA := hA.sb (e' := [(2, i64 ld), (3, pt b1), (6, pt b2), (7, i64 0), (8, pt b3), (9, pt b4), (13, pt b5)])
  refine end_ops ?_
  refine then_normal ?_
  refine sC (e' := [(2, i64 ld), (3, pt b1), (6, pt b2), (7, i64 0), (8, pt b3), (9, pt b4), (13, pt b5), (14, i64 ((pc + 4) + (4 * v)))]) 8 hA [i64 pc, bl true, i64 v, bl true, bl true] (cc (hO.l1 4 16 3 (i64 pc)) (cc ((inK_i64 (by omega) (by omega)) : inK .i64 (pc + 4)) (cc (hO.l1 1 4 3 (i64 v)) (cc ((inK_i64 (by omega) (by omega)) : inK .i64 (4 * v)) (cc ((inK_i64 (by omega) (by omega)) : inK .i64 ((pc + 4) + (4 * v))) c0))))) ?_
  clear hA fr; intro fr hA
  refine sR (l := (rg 0 5)) ?_
  refine ck (l := [0, 1, 2, 3]) (r := [4]) (e' := [(2, i64 ld), (3, pt b1), (6, pt b2), (7, i64 0), (8, pt b3), (9, pt b4), (13, pt b5), (14, i64 ((pc + 4) + (4 * v))), (70, i64 (pc + 4)), (71, pf b1 16)]) hA [i64 pc, bl true] (cc (hO.l1 4 16 3 (i64 pc)) (cc ((inK_i64 (by omega) (by omega)) : inK .i64 (pc + 4)) c0)) ?_
  clear hA fr; intro fr hA
  refine wpOps_cons' (mSR (off := 16) (ad := ⟨b1, 16, none⟩) (vc := [i64 (pc + 4)]) (l' := (regsL R (pc + 4))) 4 hA hO rfl (by kernel_rfl) (by kernel_rfl) ?_)
  clear hO; intro w10 hO
  replace hA := hA.sb (e' := [(2, i64 ld), (3, pt b1), (6, pt b2), (7, i64 0), (8, pt b3), (9, pt b4), (13, pt b5), (14, i64 ((pc + 4) + (4 * v)))])
  refine end_ops ?_
  refine then_normal ?_
  refine sC (e' := [(2, i64 ld), (3, pt b1), (6, pt b2), (7, i64 0), (8, pt b3), (9, pt b4), (13, pt b5), (14, i64 ((pc + 4) + (4 * v))), (15, .pointer (some ((⟨b1, 0, none⟩ : Addr).add ((a).toNat))))]) 5 hA [i64 a] (cc (hO.l1 1 1 3 (i64 a)) (cc (⟨by omega, by omega⟩ : (0 : Int) ≤ a ∧ a < ((16 : Nat) : Int)) c0)) ?_
  clear hA fr; intro fr hA
  refine wp_seq ?_
  refine sC (e' := [(2, i64 ld), (3, pt b1), (6, pt b2), (7, i64 0), (8, pt b3), (9, pt b4), (13, pt b5), (14, i64 ((pc + 4) + (4 * v))), (15, .pointer (some ((⟨b1, 0, none⟩ : Addr).add ((a).toNat)))), (77, i64 6)]) 2 hA [i64 6] (cc (hO.l1 1 0 3 (i64 6)) c0) ?_
  clear hA fr; intro fr hA
  refine wp_block ?_
  refine sC (e' := [(2, i64 ld), (3, pt b1), (6, pt b2), (7, i64 0), (8, pt b3), (9, pt b4), (13, pt b5), (14, i64 ((pc + 4) + (4 * v))), (15, .pointer (some ((⟨b1, 0, none⟩ : Addr).add ((a).toNat)))), (77, i64 6), (93, bl false)]) 2 hA [] c0 ?_
  clear hA fr; intro fr hA
  refine cF hA ?_
  refine sC (e' := [(2, i64 ld), (3, pt b1), (6, pt b2), (7, i64 0), (8, pt b3), (9, pt b4), (13, pt b5), (14, i64 ((pc + 4) + (4 * v))), (15, .pointer (some ((⟨b1, 0, none⟩ : Addr).add ((a).toNat)))), (77, i64 6), (100, bl false)]) 2 hA [] c0 ?_
  clear hA fr; intro fr hA
  refine cF hA ?_
  refine sC (e' := [(2, i64 ld), (3, pt b1), (6, pt b2), (7, i64 0), (8, pt b3), (9, pt b4), (13, pt b5), (14, i64 ((pc + 4) + (4 * v))), (15, .pointer (some ((⟨b1, 0, none⟩ : Addr).add ((a).toNat)))), (77, i64 6), (111, bl false)]) 2 hA [] c0 ?_
  clear hA fr; intro fr hA
  refine cF hA ?_
  refine sC (e' := [(2, i64 ld), (3, pt b1), (6, pt b2), (7, i64 0), (8, pt b3), (9, pt b4), (13, pt b5), (14, i64 ((pc + 4) + (4 * v))), (15, .pointer (some ((⟨b1, 0, none⟩ : Addr).add ((a).toNat)))), (77, i64 6), (124, bl false)]) 2 hA [] c0 ?_
  clear hA fr; intro fr hA
  refine cF hA ?_
  refine sC (e' := [(2, i64 ld), (3, pt b1), (6, pt b2), (7, i64 0), (8, pt b3), (9, pt b4), (13, pt b5), (14, i64 ((pc + 4) + (4 * v))), (15, .pointer (some ((⟨b1, 0, none⟩ : Addr).add ((a).toNat)))), (77, i64 6), (130, bl false)]) 2 hA [] c0 ?_
  clear hA fr; intro fr hA
  refine cF hA ?_
  refine sC (e' := [(3, pt b1), (6, pt b2), (7, i64 0), (8, pt b3), (9, pt b4), (13, pt b5), (14, i64 ((pc + 4) + (4 * v))), (15, .pointer (some ((⟨b1, 0, none⟩ : Addr).add ((a).toNat)))), (77, i64 6), (137, bl false)]) 2 hA [] c0 ?_
  clear hA fr; intro fr hA
  refine cF hA ?_
  refine sC (e' := [(3, pt b1), (6, pt b2), (7, i64 0), (8, pt b3), (9, pt b4), (13, pt b5), (14, i64 ((pc + 4) + (4 * v))), (15, .pointer (some ((⟨b1, 0, none⟩ : Addr).add ((a).toNat)))), (77, i64 6), (145, bl false)]) 2 hA [] c0 ?_
  clear hA fr; intro fr hA
  refine cF hA ?_
  refine sC (e' := [(3, pt b1), (6, pt b2), (7, i64 0), (8, pt b3), (9, pt b4), (13, pt b5), (14, i64 ((pc + 4) + (4 * v))), (15, .pointer (some ((⟨b1, 0, none⟩ : Addr).add ((a).toNat)))), (77, i64 6), (154, bl false)]) 2 hA [] c0 ?_
  clear hA fr; intro fr hA
  refine cF hA ?_
  refine sC (e' := [(3, pt b1), (6, pt b2), (7, i64 0), (8, pt b3), (9, pt b4), (13, pt b5), (14, i64 ((pc + 4) + (4 * v))), (15, .pointer (some ((⟨b1, 0, none⟩ : Addr).add ((a).toNat)))), (77, i64 6), (158, bl false)]) 2 hA [] c0 ?_
  clear hA fr; intro fr hA
  refine cF hA ?_
  refine sC (e' := [(3, pt b1), (6, pt b2), (7, i64 0), (8, pt b3), (9, pt b4), (13, pt b5), (14, i64 ((pc + 4) + (4 * v))), (15, .pointer (some ((⟨b1, 0, none⟩ : Addr).add ((a).toNat)))), (77, i64 6), (166, bl false)]) 2 hA [] c0 ?_
  clear hA fr; intro fr hA
  refine cF hA ?_
  refine sC (e' := [(3, pt b1), (6, pt b2), (7, i64 0), (8, pt b3), (9, pt b4), (13, pt b5), (15, .pointer (some ((⟨b1, 0, none⟩ : Addr).add ((a).toNat)))), (77, i64 6), (175, bl false)]) 2 hA [] c0 ?_
  clear hA fr; intro fr hA
  refine cF hA ?_
  refine sC (e' := [(3, pt b1), (6, pt b2), (7, i64 0), (8, pt b3), (9, pt b4), (13, pt b5), (15, .pointer (some ((⟨b1, 0, none⟩ : Addr).add ((a).toNat)))), (182, bl false)]) 2 hA [] c0 ?_
  clear hA fr; intro fr hA
  refine cF hA ?_
  have hS : Ow Tryd.prog none' w _ [(b5, 40, (regsL R pc)), (b4, 25, [i64 6, i64 a, i64 b, i64 c, i64 v]), (b3, 43, [i64 0, i64 0, i64 0, i64 0, i64 0, i64 0, i64 0]), (b2, 40, [i32 0, i32 0, i32 0, i32 0, i32 0, i32 0, i32 0, i32 0, i32 0, i32 0, i32 0, i32 0, i32 0, i32 0, i32 0, i32 0, i64 0])] := hO.sub [0, 1, 2, 3]
  refine rP [(0, true), (1, true), (2, true), (3, true), (4, true), (5, true), (6, true), (7, true), (8, true), (9, true), (10, true), (11, true), (12, true), (13, false), (14, true), (15, false)] hS ?_
  intro w11 ho; replace hO := hO.st ho; clear ho
  refine ckS (l := (rg 0 13)) (r := [(13, false), (14, true), (15, false)]) (e' := [(3, pt b1), (6, pt b2), (7, i64 0), (8, pt b3), (78, .pointer (some ((⟨b1, 0, none⟩ : Addr).add ((a).toNat)))), (80, i64 6), (85, i32 (R ((b).toNat))), (90, i32 (R ((c).toNat)))]) hA [i64 6, i64 b, i32 (R ((b).toNat)), i64 c, i32 (R ((c).toNat))] (cc (hS.s1 1 0 3 (i64 6)) (cc (hS.s1 1 2 3 (i64 b)) (cc (⟨by omega, by omega⟩ : (0 : Int) ≤ b ∧ b < ((16 : Nat) : Int)) (cc (hS.sx ((⟨b5, 0, none⟩ : Addr).add ((b).toNat)) 21 (i32 (R ((b).toNat))) fun _ hO => (ld_regs (hO.b 0) (by omega) (by kernel_rfl))) (cc (hS.s1 1 3 3 (i64 c)) (cc (⟨by omega, by omega⟩ : (0 : Int) ≤ c ∧ c < ((16 : Nat) : Int)) (cc (hS.sx ((⟨b5, 0, none⟩ : Addr).add ((c).toNat)) 21 (i32 (R ((c).toNat))) fun _ hO => (ld_regs (hO.b 0) (by omega) (by kernel_rfl))) c0))))))) ?_
  clear hA fr; intro fr hA
  refine plan_mem (mK (f := 37) (args := [i64 6, i32 (R ((b).toNat)), i32 (R ((c).toNat))]) (d := (some 91)) (v := i32 (arithS 6 (R ((b).toNat)) (R ((c).toNat)))) hA hO Tryd.func37 (arithmetic_any 6 (R ((b).toNat)) (R ((c).toNat)) _ (by omega)) ?_)
  clear hA hO fr; intro fr w12 hA hO
  refine ⟨(hO.sub [0, 1, 2, 3]), ?_⟩
  replace hA := hA.sb (e' := [(3, pt b1), (6, pt b2), (7, i64 0), (8, pt b3), (78, .pointer (some ((⟨b1, 0, none⟩ : Addr).add ((a).toNat)))), (91, i32 (arithS 6 (R ((b).toNat)) (R ((c).toNat))))])
  refine ckS (l := [14]) (r := [(15, false)]) (e' := [(3, pt b1), (6, pt b2), (7, i64 0), (8, pt b3), (91, i32 (arithS 6 (R ((b).toNat)) (R ((c).toNat)))), (92, .pointer (some ((⟨b1, 0, none⟩ : Addr).add ((a).toNat))))]) hA [] c0 ?_
  clear hA fr; intro fr hA
  refine plan_mem (mSR (off := (a).toNat) (ad := (⟨b1, 0, none⟩ : Addr).add ((a).toNat)) (vc := [i32 (arithS 6 (R ((b).toNat)) (R ((c).toNat)))]) (l' := (regsL (upd R ((a).toNat) (arithS 6 (R ((b).toNat)) (R ((c).toNat)))) (pc + 4))) 4 hA hO (add_zero_off _ _) (regs_ble R (pc + 4) (by omega)) (setL_regs (by omega) _) ?_)
  clear hO; intro w13 hO
  refine ⟨(hO.sub [0, 1, 2, 3]), ?_⟩
  replace hA := hA.sb (e' := [(3, pt b1), (6, pt b2), (7, i64 0), (8, pt b3)])
  refine end_plan ?_
  refine inBlock_normal ?_
  refine then_normal ?_
  refine sR (l := (rg 0 5)) ?_
  refine ck (l := [0, 1]) (r := [2, 3, 4]) (e' := [(6, pt b2), (7, i64 0), (8, pt b3), (207, .agg (List.toArray (regsL (upd R ((a).toNat) (arithS 6 (R ((b).toNat)) (R ((c).toNat)))) (pc + 4)))), (208, .agg #[i64 0, i64 0, i64 0, i64 0, i64 0, i64 0, i64 0])]) hA [.agg (List.toArray (regsL (upd R ((a).toNat) (arithS 6 (R ((b).toNat)) (R ((c).toNat)))) (pc + 4)))] (cc (hO.ln 4 0 40 (regsL (upd R ((a).toNat) (arithS 6 (R ((b).toNat)) (R ((c).toNat)))) (pc + 4))) c0) ?_
  clear hA fr; intro fr hA
  refine wpOps_cons' (mS (off := 0) (vc := (regsL (upd R ((a).toNat) (arithS 6 (R ((b).toNat)) (R ((c).toNat)))) (pc + 4))) 3 hA hO ?_)
  clear hO; intro w14 hO
  replace hA := hA.sb (e' := [(6, pt b2), (7, i64 0), (8, pt b3), (208, .agg #[i64 0, i64 0, i64 0, i64 0, i64 0, i64 0, i64 0])])
  refine ck (l := [3]) (r := [4]) (e' := [(6, pt b2), (7, i64 0), (8, pt b3), (208, .agg #[i64 0, i64 0, i64 0, i64 0, i64 0, i64 0, i64 0])]) hA [] c0 ?_
  clear hA fr; intro fr hA
  refine wpOps_cons' (mS (off := 0) (vc := [i64 0, i64 0, i64 0, i64 0, i64 0, i64 0, i64 0]) 2 hA hO ?_)
  clear hO; intro w15 hO
  replace hA := hA.sb (e' := [(6, pt b2), (7, i64 0), (8, pt b3)])
  refine end_ops ?_
  refine then_normal ?_
  refine wp_ret ?_
  refine cR (cs := [some (⟨b2, 0, none⟩, 40), none, some (⟨b3, 0, none⟩, 43)]) (us := [.agg (List.toArray (regsL (upd R ((a).toNat) (arithS 6 (R ((b).toNat)) (R ((c).toNat)))) (pc + 4))), i64 0, .agg #[i64 0, i64 0, i64 0, i64 0, i64 0, i64 0, i64 0]]) hA [.agg (List.toArray (regsL (upd R ((a).toNat) (arithS 6 (R ((b).toNat)) (R ((c).toNat)))) (pc + 4))), .agg #[i64 0, i64 0, i64 0, i64 0, i64 0, i64 0, i64 0]] ⟨(hO.ln 3 0 40 (regsL (upd R ((a).toNat) (arithS 6 (R ((b).toNat)) (R ((c).toNat)))) (pc + 4))), (hO.ln 2 0 43 [i64 0, i64 0, i64 0, i64 0, i64 0, i64 0, i64 0]), trivial⟩ ?_
  have hF := hO.only; clear hA hO
  exact ⟨by simp_all [pack, execV, outV, noTrap, trapL, insV], hF⟩

theorem exec_7 (R : Nat → Int) (pc ld a b c v : Int) (sl : Value) (w : World) (hT : Tab w) (hR : RegsOk R) (hp : -1099511627776 < pc) (hp' : pc < 1099511627776) (ha : 0 ≤ a) (ha' : a ≤ 15) (hb : 0 ≤ b) (hb' : b ≤ 15) (hc : 0 ≤ c) (hc' : c ≤ 15) (hv : -32768 ≤ v) (hv' : v ≤ 32767) (hdec : ∀ w', Only none' w w' → Calls Tryd.prog 13 #[sl] w' fun e w2 => e = .returned (.tuple #[insV 7 a b c v, .int .i64 0]) ∧ Only none' w' w2) :
    Calls Tryd.prog 18 #[.agg (List.toArray (regsL R pc)), sl, i64 ld] w fun e w' => e = .returned (execV R pc ld 7 a b c v) ∧ Only none' w w' := by
  refine c_enter (args := [.agg (List.toArray (regsL R pc)), sl, i64 ld]) (m := 206) (n := 209) Tryd.func18 rfl (by kernel_rfl) (by kernel_rfl) fun fr hA => ?_
  have hO := Ow.nil Tryd.prog none' w
  have hRa := hR a.toNat; have hRb := hR b.toNat; have hRc := hR c.toNat; simp only [inK] at hRa hRb hRc
  refine sR (l := [0, 1, 2, 3]) ?_
  refine wpOps_cons' (mN (l := (regsL R pc)) (t := 40) (v := pt) (d := 3) hA hO ?_)
  clear hA hO fr; intro fr w1 b1 hA hO
  replace hA := hA.sb (e' := [(1, sl), (2, i64 ld), (3, pt b1)])
  refine wpOps_cons' (mN (l := [i32 0, i32 0, i32 0, i32 0, i32 0, i32 0, i32 0, i32 0, i32 0, i32 0, i32 0, i32 0, i32 0, i32 0, i32 0, i32 0, i64 0]) (t := 40) (v := pt) (d := 6) hA hO ?_)
  clear hA hO fr; intro fr w2 b2 hA hO
  refine ck (l := [2]) (r := [3]) (e' := [(1, sl), (2, i64 ld), (3, pt b1), (6, pt b2), (7, i64 0)]) hA [] c0 ?_
  clear hA fr; intro fr hA
  refine wpOps_cons' (mN (l := [i64 0, i64 0, i64 0, i64 0, i64 0, i64 0, i64 0]) (t := 43) (v := pt) (d := 8) hA hO ?_)
  clear hA hO fr; intro fr w3 b3 hA hO
  refine end_ops ?_
  refine then_normal ?_
  refine sR (l := (rg 0 8)) ?_
  refine ck (l := [0]) (r := (rg 1 7)) (e' := [(2, i64 ld), (3, pt b1), (6, pt b2), (7, i64 0), (8, pt b3), (18, sl)]) hA [] c0 ?_
  clear hA fr; intro fr hA
  refine wpOps_cons' (mK (f := 13) (args := [sl]) (d := (some 19)) (v := .tuple #[.agg #[i64 7, i64 a, i64 b, i64 c, i64 v], i64 0]) hA hO Tryd.func13 (hdec _ hO.only) ?_)
  clear hA hO fr; intro fr w4 hA hO
  replace hA := hA.sb (e' := [(2, i64 ld), (3, pt b1), (6, pt b2), (7, i64 0), (8, pt b3), (19, .tuple #[.agg #[i64 7, i64 a, i64 b, i64 c, i64 v], i64 0])])
  refine ck (l := [2, 3, 4]) (r := [5, 6, 7]) (e' := [(2, i64 ld), (3, pt b1), (6, pt b2), (7, i64 0), (8, pt b3), (20, .agg #[i64 7, i64 a, i64 b, i64 c, i64 v]), (21, i64 0)]) hA [] c0 ?_
  clear hA fr; intro fr hA
  refine wpOps_cons' (mN (l := [i64 0, i64 0, i64 0, i64 0, i64 0]) (t := 25) (v := pt) (d := 9) hA hO ?_)
  clear hA hO fr; intro fr w5 b4 hA hO
  refine wpOps_cons' (mS (off := 0) (vc := [i64 7, i64 a, i64 b, i64 c, i64 v]) 0 hA hO ?_)
  clear hO; intro w6 hO
  replace hA := hA.sb (e' := [(2, i64 ld), (3, pt b1), (6, pt b2), (7, i64 0), (8, pt b3), (9, pt b4), (21, i64 0)])
  refine ck (l := [7]) (r := []) (e' := [(2, i64 ld), (3, pt b1), (6, pt b2), (7, i64 0), (8, pt b3), (9, pt b4), (10, i64 0)]) hA [] c0 ?_
  clear hA fr; intro fr hA
  refine end_ops ?_
  refine then_normal ?_
  refine wp_seq ?_
  refine sC (e' := [(2, i64 ld), (3, pt b1), (6, pt b2), (7, i64 0), (8, pt b3), (9, pt b4), (23, bl false)]) 2 hA [] c0 ?_
  clear hA fr; intro fr hA
  refine cF hA ?_
  refine wp_skip ?_
  refine then_normal ?_
  refine wp_seq ?_
  refine sR (l := (rg 0 8)) ?_
  refine ck (l := [0, 1]) (r := (rg 2 6)) (e' := [(2, i64 ld), (3, pt b1), (6, pt b2), (7, i64 0), (8, pt b3), (9, pt b4), (27, .agg (List.toArray (regsL R pc))), (28, .agg #[i64 7, i64 a, i64 b, i64 c, i64 v])]) hA [.agg (List.toArray (regsL R pc)), .agg #[i64 7, i64 a, i64 b, i64 c, i64 v]] (cc (hO.ln 3 0 40 (regsL R pc)) (cc (hO.ln 0 0 25 [i64 7, i64 a, i64 b, i64 c, i64 v]) c0)) ?_
  clear hA fr; intro fr hA
  refine wpOps_cons' (mK (f := 36) (args := [.agg (List.toArray (regsL R pc)), .agg #[i64 7, i64 a, i64 b, i64 c, i64 v]]) (d := (some 29)) (v := .tuple #[i64 0, i64 0]) hA hO Tryd.func36 (place_any R pc 7 a b c v _ hR hb hb' (by omega) (by omega)) ?_)
  clear hA hO fr; intro fr w7 hA hO
  replace hA := hA.sb (e' := [(2, i64 ld), (3, pt b1), (6, pt b2), (7, i64 0), (8, pt b3), (9, pt b4), (29, .tuple #[i64 0, i64 0])])
  refine ck (l := (rg 3 5)) (r := []) (e' := [(2, i64 ld), (3, pt b1), (6, pt b2), (7, i64 0), (8, pt b3), (9, pt b4), (11, i64 0), (12, i64 0)]) hA [] c0 ?_
  clear hA fr; intro fr hA
  refine end_ops ?_
  refine then_normal ?_
  refine sC (e' := [(2, i64 ld), (3, pt b1), (6, pt b2), (7, i64 0), (8, pt b3), (9, pt b4), (39, bl false)]) 8 hA [] c0 ?_
  clear hA fr; intro fr hA
  refine cF hA ?_
  refine wp_skip ?_
  refine then_normal ?_
  refine wp_seq ?_
  refine sC (e' := [(2, i64 ld), (3, pt b1), (6, pt b2), (7, i64 0), (8, pt b3), (9, pt b4), (57, bl ((R ((c).toNat)) == 0))]) 16 hA [i64 7, i64 c, i32 (R ((c).toNat))] (cc (hO.l1 0 0 3 (i64 7)) (cc (hO.l1 0 3 3 (i64 c)) (cc (⟨by omega, by omega⟩ : (0 : Int) ≤ c ∧ c < ((16 : Nat) : Int)) (cc ((ld_regs (hO.b 3) (by omega) (by kernel_rfl)) : Ld Tryd.prog w7 ((⟨b1, 0, none⟩ : Addr).add ((c).toNat)) 21 (i32 (R ((c).toNat)))) c0)))) ?_
  clear hA fr; intro fr hA
  rcases Bool.eq_false_or_eq_true ((R ((c).toNat)) == 0) with h1 | h1
  ·
    replace hA := hA.bool (f := fun z_ => [(2, i64 ld), (3, pt b1), (6, pt b2), (7, i64 0), (8, pt b3), (9, pt b4), (57, .bool z_)]) h1
    have h1p := eq_of_beq h1
    refine cT hA ?_
    refine wp_seq ?_
    have hS : Ow Tryd.prog none' w _ [(b4, 25, [i64 7, i64 a, i64 b, i64 c, i64 v]), (b1, 40, (regsL R pc))] := hO.sub [0, 3]
    refine rP [(0, true), (1, false), (2, false), (3, true), (4, false)] hS ?_
    intro w8 ho; replace hO := hO.st ho; clear ho
    refine ckS (l := [0]) (r := [(1, false), (2, false), (3, true), (4, false)]) (e' := [(2, i64 ld), (3, pt b1), (6, pt b2), (7, i64 0), (8, pt b3), (9, pt b4), (58, .agg (List.toArray (regsL R pc)))]) hA [.agg (List.toArray (regsL R pc))] (cc (hS.sn 1 0 40 (regsL R pc)) c0) ?_
    clear hA fr; intro fr hA
    refine plan_mem (mK (f := 35) (args := [i64 2]) (d := (some 59)) (v := .agg #[i64 2, i64 2, i64 0, i64 0, i64 0, i64 0, i64 0]) hA hO Tryd.func35 (exception_any 2 _) ?_)
    clear hA hO fr; intro fr w9 hA hO
    refine ⟨(hO.sub [0, 3]), ?_⟩
    refine plan_mem (mS (off := 0) (vc := (regsL R pc)) 2 hA hO ?_)
    clear hO; intro w10 hO
    refine ⟨(hO.sub [0, 3]), ?_⟩
    replace hA := hA.sb (e' := [(2, i64 ld), (3, pt b1), (6, pt b2), (7, i64 0), (8, pt b3), (9, pt b4), (59, .agg #[i64 2, i64 2, i64 0, i64 0, i64 0, i64 0, i64 0])])
    refine ckS (l := [3]) (r := [(4, false)]) (e' := [(2, i64 ld), (3, pt b1), (6, pt b2), (7, i64 0), (8, pt b3), (9, pt b4), (59, .agg #[i64 2, i64 2, i64 0, i64 0, i64 0, i64 0, i64 0])]) hA [] c0 ?_
    clear hA fr; intro fr hA
    refine plan_mem (mS (off := 0) (vc := [i64 2, i64 2, i64 0, i64 0, i64 0, i64 0, i64 0]) 1 hA hO ?_)
    clear hO; intro w11 hO
    refine ⟨(hO.sub [0, 3]), ?_⟩
    replace hA := hA.sb (e' := [(2, i64 ld), (3, pt b1), (6, pt b2), (7, i64 0), (8, pt b3), (9, pt b4)])
    refine end_plan ?_
    refine then_normal ?_
    refine wp_ret ?_
    refine then_ret ?_
    refine cR (cs := [some (⟨b2, 0, none⟩, 40), none, some (⟨b3, 0, none⟩, 43)]) (us := [.agg (List.toArray (regsL R pc)), i64 0, .agg #[i64 2, i64 2, i64 0, i64 0, i64 0, i64 0, i64 0]]) hA [.agg (List.toArray (regsL R pc)), .agg #[i64 2, i64 2, i64 0, i64 0, i64 0, i64 0, i64 0]] ⟨(hO.ln 2 0 40 (regsL R pc)), (hO.ln 1 0 43 [i64 2, i64 2, i64 0, i64 0, i64 0, i64 0, i64 0]), trivial⟩ ?_
    have hF := hO.only; clear hA hO
    exact ⟨by simp_all [pack, execV, outV, noTrap, trapL, insV], hF⟩
  ·
    replace hA := hA.bool (f := fun z_ => [(2, i64 ld), (3, pt b1), (6, pt b2), (7, i64 0), (8, pt b3), (9, pt b4), (57, .bool z_)]) h1
    have h1p := ne_of_beq_false h1
    refine cF hA ?_
    refine wp_skip ?_
    refine then_normal ?_
    refine sR (l := [0, 1, 2]) ?_
    refine ck (l := [0]) (r := [1, 2]) (e' := [(2, i64 ld), (3, pt b1), (6, pt b2), (7, i64 0), (8, pt b3), (9, pt b4), (60, .agg (List.toArray (regsL R pc)))]) hA [.agg (List.toArray (regsL R pc))] (cc (hO.ln 3 0 40 (regsL R pc)) c0) ?_
    clear hA fr; intro fr hA
    refine wpOps_cons' (mN (l := [i32 0, i32 0, i32 0, i32 0, i32 0, i32 0, i32 0, i32 0, i32 0, i32 0, i32 0, i32 0, i32 0, i32 0, i32 0, i32 0, i64 0]) (t := 40) (v := pt) (d := 13) hA hO ?_)
    clear hA hO fr; intro fr w12 b5 hA hO
    refine wpOps_cons' (mS (off := 0) (vc := (regsL R pc)) 0 hA hO ?_)
    clear hO; intro w13 hO
    replace hA := hA.sb (e' := [(2, i64 ld), (3, pt b1), (6, pt b2), (7, i64 0), (8, pt b3), (9, pt b4), (13, pt b5)])
    refine end_ops ?_
    refine then_normal ?_
    refine sC (e' := [(2, i64 ld), (3, pt b1), (6, pt b2), (7, i64 0), (8, pt b3), (9, pt b4), (13, pt b5), (14, i64 ((pc + 4) + (4 * v)))]) 8 hA [i64 pc, bl true, i64 v, bl true, bl true] (cc (hO.l1 4 16 3 (i64 pc)) (cc ((inK_i64 (by omega) (by omega)) : inK .i64 (pc + 4)) (cc (hO.l1 1 4 3 (i64 v)) (cc ((inK_i64 (by omega) (by omega)) : inK .i64 (4 * v)) (cc ((inK_i64 (by omega) (by omega)) : inK .i64 ((pc + 4) + (4 * v))) c0))))) ?_
    clear hA fr; intro fr hA
    refine sR (l := (rg 0 5)) ?_
    refine ck (l := [0, 1, 2, 3]) (r := [4]) (e' := [(2, i64 ld), (3, pt b1), (6, pt b2), (7, i64 0), (8, pt b3), (9, pt b4), (13, pt b5), (14, i64 ((pc + 4) + (4 * v))), (70, i64 (pc + 4)), (71, pf b1 16)]) hA [i64 pc, bl true] (cc (hO.l1 4 16 3 (i64 pc)) (cc ((inK_i64 (by omega) (by omega)) : inK .i64 (pc + 4)) c0)) ?_
    clear hA fr; intro fr hA
    refine wpOps_cons' (mSR (off := 16) (ad := ⟨b1, 16, none⟩) (vc := [i64 (pc + 4)]) (l' := (regsL R (pc + 4))) 4 hA hO rfl (by kernel_rfl) (by kernel_rfl) ?_)
    clear hO; intro w14 hO
    replace hA := hA.sb (e' := [(2, i64 ld), (3, pt b1), (6, pt b2), (7, i64 0), (8, pt b3), (9, pt b4), (13, pt b5), (14, i64 ((pc + 4) + (4 * v)))])
    refine end_ops ?_
    refine then_normal ?_
    refine sC (e' := [(2, i64 ld), (3, pt b1), (6, pt b2), (7, i64 0), (8, pt b3), (9, pt b4), (13, pt b5), (14, i64 ((pc + 4) + (4 * v))), (15, .pointer (some ((⟨b1, 0, none⟩ : Addr).add ((a).toNat))))]) 5 hA [i64 a] (cc (hO.l1 1 1 3 (i64 a)) (cc (⟨by omega, by omega⟩ : (0 : Int) ≤ a ∧ a < ((16 : Nat) : Int)) c0)) ?_
    clear hA fr; intro fr hA
    refine wp_seq ?_
    refine sC (e' := [(2, i64 ld), (3, pt b1), (6, pt b2), (7, i64 0), (8, pt b3), (9, pt b4), (13, pt b5), (14, i64 ((pc + 4) + (4 * v))), (15, .pointer (some ((⟨b1, 0, none⟩ : Addr).add ((a).toNat)))), (77, i64 7)]) 2 hA [i64 7] (cc (hO.l1 1 0 3 (i64 7)) c0) ?_
    clear hA fr; intro fr hA
    refine wp_block ?_
    refine sC (e' := [(2, i64 ld), (3, pt b1), (6, pt b2), (7, i64 0), (8, pt b3), (9, pt b4), (13, pt b5), (14, i64 ((pc + 4) + (4 * v))), (15, .pointer (some ((⟨b1, 0, none⟩ : Addr).add ((a).toNat)))), (77, i64 7), (93, bl false)]) 2 hA [] c0 ?_
    clear hA fr; intro fr hA
    refine cF hA ?_
    refine sC (e' := [(2, i64 ld), (3, pt b1), (6, pt b2), (7, i64 0), (8, pt b3), (9, pt b4), (13, pt b5), (14, i64 ((pc + 4) + (4 * v))), (15, .pointer (some ((⟨b1, 0, none⟩ : Addr).add ((a).toNat)))), (77, i64 7), (100, bl false)]) 2 hA [] c0 ?_
    clear hA fr; intro fr hA
    refine cF hA ?_
    refine sC (e' := [(2, i64 ld), (3, pt b1), (6, pt b2), (7, i64 0), (8, pt b3), (9, pt b4), (13, pt b5), (14, i64 ((pc + 4) + (4 * v))), (15, .pointer (some ((⟨b1, 0, none⟩ : Addr).add ((a).toNat)))), (77, i64 7), (111, bl false)]) 2 hA [] c0 ?_
    clear hA fr; intro fr hA
    refine cF hA ?_
    refine sC (e' := [(2, i64 ld), (3, pt b1), (6, pt b2), (7, i64 0), (8, pt b3), (9, pt b4), (13, pt b5), (14, i64 ((pc + 4) + (4 * v))), (15, .pointer (some ((⟨b1, 0, none⟩ : Addr).add ((a).toNat)))), (77, i64 7), (124, bl false)]) 2 hA [] c0 ?_
    clear hA fr; intro fr hA
    refine cF hA ?_
    refine sC (e' := [(2, i64 ld), (3, pt b1), (6, pt b2), (7, i64 0), (8, pt b3), (9, pt b4), (13, pt b5), (14, i64 ((pc + 4) + (4 * v))), (15, .pointer (some ((⟨b1, 0, none⟩ : Addr).add ((a).toNat)))), (77, i64 7), (130, bl false)]) 2 hA [] c0 ?_
    clear hA fr; intro fr hA
    refine cF hA ?_
    refine sC (e' := [(3, pt b1), (6, pt b2), (7, i64 0), (8, pt b3), (9, pt b4), (13, pt b5), (14, i64 ((pc + 4) + (4 * v))), (15, .pointer (some ((⟨b1, 0, none⟩ : Addr).add ((a).toNat)))), (77, i64 7), (137, bl false)]) 2 hA [] c0 ?_
    clear hA fr; intro fr hA
    refine cF hA ?_
    refine sC (e' := [(3, pt b1), (6, pt b2), (7, i64 0), (8, pt b3), (9, pt b4), (13, pt b5), (14, i64 ((pc + 4) + (4 * v))), (15, .pointer (some ((⟨b1, 0, none⟩ : Addr).add ((a).toNat)))), (77, i64 7), (145, bl false)]) 2 hA [] c0 ?_
    clear hA fr; intro fr hA
    refine cF hA ?_
    refine sC (e' := [(3, pt b1), (6, pt b2), (7, i64 0), (8, pt b3), (9, pt b4), (13, pt b5), (14, i64 ((pc + 4) + (4 * v))), (15, .pointer (some ((⟨b1, 0, none⟩ : Addr).add ((a).toNat)))), (77, i64 7), (154, bl false)]) 2 hA [] c0 ?_
    clear hA fr; intro fr hA
    refine cF hA ?_
    refine sC (e' := [(3, pt b1), (6, pt b2), (7, i64 0), (8, pt b3), (9, pt b4), (13, pt b5), (14, i64 ((pc + 4) + (4 * v))), (15, .pointer (some ((⟨b1, 0, none⟩ : Addr).add ((a).toNat)))), (77, i64 7), (158, bl false)]) 2 hA [] c0 ?_
    clear hA fr; intro fr hA
    refine cF hA ?_
    refine sC (e' := [(3, pt b1), (6, pt b2), (7, i64 0), (8, pt b3), (9, pt b4), (13, pt b5), (14, i64 ((pc + 4) + (4 * v))), (15, .pointer (some ((⟨b1, 0, none⟩ : Addr).add ((a).toNat)))), (77, i64 7), (166, bl false)]) 2 hA [] c0 ?_
    clear hA fr; intro fr hA
    refine cF hA ?_
    refine sC (e' := [(3, pt b1), (6, pt b2), (7, i64 0), (8, pt b3), (9, pt b4), (13, pt b5), (15, .pointer (some ((⟨b1, 0, none⟩ : Addr).add ((a).toNat)))), (77, i64 7), (175, bl false)]) 2 hA [] c0 ?_
    clear hA fr; intro fr hA
    refine cF hA ?_
    refine sC (e' := [(3, pt b1), (6, pt b2), (7, i64 0), (8, pt b3), (9, pt b4), (13, pt b5), (15, .pointer (some ((⟨b1, 0, none⟩ : Addr).add ((a).toNat)))), (182, bl false)]) 2 hA [] c0 ?_
    clear hA fr; intro fr hA
    refine cF hA ?_
    have hS : Ow Tryd.prog none' w _ [(b5, 40, (regsL R pc)), (b4, 25, [i64 7, i64 a, i64 b, i64 c, i64 v]), (b3, 43, [i64 0, i64 0, i64 0, i64 0, i64 0, i64 0, i64 0]), (b2, 40, [i32 0, i32 0, i32 0, i32 0, i32 0, i32 0, i32 0, i32 0, i32 0, i32 0, i32 0, i32 0, i32 0, i32 0, i32 0, i32 0, i64 0])] := hO.sub [0, 1, 2, 3]
    refine rP [(0, true), (1, true), (2, true), (3, true), (4, true), (5, true), (6, true), (7, true), (8, true), (9, true), (10, true), (11, true), (12, true), (13, false), (14, true), (15, false)] hS ?_
    intro w15 ho; replace hO := hO.st ho; clear ho
    refine ckS (l := (rg 0 13)) (r := [(13, false), (14, true), (15, false)]) (e' := [(3, pt b1), (6, pt b2), (7, i64 0), (8, pt b3), (78, .pointer (some ((⟨b1, 0, none⟩ : Addr).add ((a).toNat)))), (80, i64 7), (85, i32 (R ((b).toNat))), (90, i32 (R ((c).toNat)))]) hA [i64 7, i64 b, i32 (R ((b).toNat)), i64 c, i32 (R ((c).toNat))] (cc (hS.s1 1 0 3 (i64 7)) (cc (hS.s1 1 2 3 (i64 b)) (cc (⟨by omega, by omega⟩ : (0 : Int) ≤ b ∧ b < ((16 : Nat) : Int)) (cc (hS.sx ((⟨b5, 0, none⟩ : Addr).add ((b).toNat)) 21 (i32 (R ((b).toNat))) fun _ hO => (ld_regs (hO.b 0) (by omega) (by kernel_rfl))) (cc (hS.s1 1 3 3 (i64 c)) (cc (⟨by omega, by omega⟩ : (0 : Int) ≤ c ∧ c < ((16 : Nat) : Int)) (cc (hS.sx ((⟨b5, 0, none⟩ : Addr).add ((c).toNat)) 21 (i32 (R ((c).toNat))) fun _ hO => (ld_regs (hO.b 0) (by omega) (by kernel_rfl))) c0))))))) ?_
    clear hA fr; intro fr hA
    refine plan_mem (mK (f := 37) (args := [i64 7, i32 (R ((b).toNat)), i32 (R ((c).toNat))]) (d := (some 91)) (v := i32 (arithS 7 (R ((b).toNat)) (R ((c).toNat)))) hA hO Tryd.func37 (arithmetic_any 7 (R ((b).toNat)) (R ((c).toNat)) _ (by intro q; simp_all)) ?_)
    clear hA hO fr; intro fr w16 hA hO
    refine ⟨(hO.sub [0, 1, 2, 3]), ?_⟩
    replace hA := hA.sb (e' := [(3, pt b1), (6, pt b2), (7, i64 0), (8, pt b3), (78, .pointer (some ((⟨b1, 0, none⟩ : Addr).add ((a).toNat)))), (91, i32 (arithS 7 (R ((b).toNat)) (R ((c).toNat))))])
    refine ckS (l := [14]) (r := [(15, false)]) (e' := [(3, pt b1), (6, pt b2), (7, i64 0), (8, pt b3), (91, i32 (arithS 7 (R ((b).toNat)) (R ((c).toNat)))), (92, .pointer (some ((⟨b1, 0, none⟩ : Addr).add ((a).toNat))))]) hA [] c0 ?_
    clear hA fr; intro fr hA
    refine plan_mem (mSR (off := (a).toNat) (ad := (⟨b1, 0, none⟩ : Addr).add ((a).toNat)) (vc := [i32 (arithS 7 (R ((b).toNat)) (R ((c).toNat)))]) (l' := (regsL (upd R ((a).toNat) (arithS 7 (R ((b).toNat)) (R ((c).toNat)))) (pc + 4))) 4 hA hO (add_zero_off _ _) (regs_ble R (pc + 4) (by omega)) (setL_regs (by omega) _) ?_)
    clear hO; intro w17 hO
    refine ⟨(hO.sub [0, 1, 2, 3]), ?_⟩
    replace hA := hA.sb (e' := [(3, pt b1), (6, pt b2), (7, i64 0), (8, pt b3)])
    refine end_plan ?_
    refine inBlock_normal ?_
    refine then_normal ?_
    refine sR (l := (rg 0 5)) ?_
    refine ck (l := [0, 1]) (r := [2, 3, 4]) (e' := [(6, pt b2), (7, i64 0), (8, pt b3), (207, .agg (List.toArray (regsL (upd R ((a).toNat) (arithS 7 (R ((b).toNat)) (R ((c).toNat)))) (pc + 4)))), (208, .agg #[i64 0, i64 0, i64 0, i64 0, i64 0, i64 0, i64 0])]) hA [.agg (List.toArray (regsL (upd R ((a).toNat) (arithS 7 (R ((b).toNat)) (R ((c).toNat)))) (pc + 4)))] (cc (hO.ln 4 0 40 (regsL (upd R ((a).toNat) (arithS 7 (R ((b).toNat)) (R ((c).toNat)))) (pc + 4))) c0) ?_
    clear hA fr; intro fr hA
    refine wpOps_cons' (mS (off := 0) (vc := (regsL (upd R ((a).toNat) (arithS 7 (R ((b).toNat)) (R ((c).toNat)))) (pc + 4))) 3 hA hO ?_)
    clear hO; intro w18 hO
    replace hA := hA.sb (e' := [(6, pt b2), (7, i64 0), (8, pt b3), (208, .agg #[i64 0, i64 0, i64 0, i64 0, i64 0, i64 0, i64 0])])
    refine ck (l := [3]) (r := [4]) (e' := [(6, pt b2), (7, i64 0), (8, pt b3), (208, .agg #[i64 0, i64 0, i64 0, i64 0, i64 0, i64 0, i64 0])]) hA [] c0 ?_
    clear hA fr; intro fr hA
    refine wpOps_cons' (mS (off := 0) (vc := [i64 0, i64 0, i64 0, i64 0, i64 0, i64 0, i64 0]) 2 hA hO ?_)
    clear hO; intro w19 hO
    replace hA := hA.sb (e' := [(6, pt b2), (7, i64 0), (8, pt b3)])
    refine end_ops ?_
    refine then_normal ?_
    refine wp_ret ?_
    refine cR (cs := [some (⟨b2, 0, none⟩, 40), none, some (⟨b3, 0, none⟩, 43)]) (us := [.agg (List.toArray (regsL (upd R ((a).toNat) (arithS 7 (R ((b).toNat)) (R ((c).toNat)))) (pc + 4))), i64 0, .agg #[i64 0, i64 0, i64 0, i64 0, i64 0, i64 0, i64 0]]) hA [.agg (List.toArray (regsL (upd R ((a).toNat) (arithS 7 (R ((b).toNat)) (R ((c).toNat)))) (pc + 4))), .agg #[i64 0, i64 0, i64 0, i64 0, i64 0, i64 0, i64 0]] ⟨(hO.ln 3 0 40 (regsL (upd R ((a).toNat) (arithS 7 (R ((b).toNat)) (R ((c).toNat)))) (pc + 4))), (hO.ln 2 0 43 [i64 0, i64 0, i64 0, i64 0, i64 0, i64 0, i64 0]), trivial⟩ ?_
    have hF := hO.only; clear hA hO
    exact ⟨by simp_all [pack, execV, outV, noTrap, trapL, insV], hF⟩

theorem exec_8 (R : Nat → Int) (pc ld a b c v : Int) (sl : Value) (w : World) (hT : Tab w) (hR : RegsOk R) (hp : -1099511627776 < pc) (hp' : pc < 1099511627776) (ha : 0 ≤ a) (ha' : a ≤ 15) (hb : 0 ≤ b) (hb' : b ≤ 15) (hc : 0 ≤ c) (hc' : c ≤ 15) (hv : -32768 ≤ v) (hv' : v ≤ 32767) (hdec : ∀ w', Only none' w w' → Calls Tryd.prog 13 #[sl] w' fun e w2 => e = .returned (.tuple #[insV 8 a b c v, .int .i64 0]) ∧ Only none' w' w2) :
    Calls Tryd.prog 18 #[.agg (List.toArray (regsL R pc)), sl, i64 ld] w fun e w' => e = .returned (execV R pc ld 8 a b c v) ∧ Only none' w w' := by
  refine c_enter (args := [.agg (List.toArray (regsL R pc)), sl, i64 ld]) (m := 206) (n := 209) Tryd.func18 rfl (by kernel_rfl) (by kernel_rfl) fun fr hA => ?_
  have hO := Ow.nil Tryd.prog none' w
  have hRa := hR a.toNat; have hRb := hR b.toNat; have hRc := hR c.toNat; simp only [inK] at hRa hRb hRc
  refine sR (l := [0, 1, 2, 3]) ?_
  refine wpOps_cons' (mN (l := (regsL R pc)) (t := 40) (v := pt) (d := 3) hA hO ?_)
  clear hA hO fr; intro fr w1 b1 hA hO
  replace hA := hA.sb (e' := [(1, sl), (2, i64 ld), (3, pt b1)])
  refine wpOps_cons' (mN (l := [i32 0, i32 0, i32 0, i32 0, i32 0, i32 0, i32 0, i32 0, i32 0, i32 0, i32 0, i32 0, i32 0, i32 0, i32 0, i32 0, i64 0]) (t := 40) (v := pt) (d := 6) hA hO ?_)
  clear hA hO fr; intro fr w2 b2 hA hO
  refine ck (l := [2]) (r := [3]) (e' := [(1, sl), (2, i64 ld), (3, pt b1), (6, pt b2), (7, i64 0)]) hA [] c0 ?_
  clear hA fr; intro fr hA
  refine wpOps_cons' (mN (l := [i64 0, i64 0, i64 0, i64 0, i64 0, i64 0, i64 0]) (t := 43) (v := pt) (d := 8) hA hO ?_)
  clear hA hO fr; intro fr w3 b3 hA hO
  refine end_ops ?_
  refine then_normal ?_
  refine sR (l := (rg 0 8)) ?_
  refine ck (l := [0]) (r := (rg 1 7)) (e' := [(2, i64 ld), (3, pt b1), (6, pt b2), (7, i64 0), (8, pt b3), (18, sl)]) hA [] c0 ?_
  clear hA fr; intro fr hA
  refine wpOps_cons' (mK (f := 13) (args := [sl]) (d := (some 19)) (v := .tuple #[.agg #[i64 8, i64 a, i64 b, i64 c, i64 v], i64 0]) hA hO Tryd.func13 (hdec _ hO.only) ?_)
  clear hA hO fr; intro fr w4 hA hO
  replace hA := hA.sb (e' := [(2, i64 ld), (3, pt b1), (6, pt b2), (7, i64 0), (8, pt b3), (19, .tuple #[.agg #[i64 8, i64 a, i64 b, i64 c, i64 v], i64 0])])
  refine ck (l := [2, 3, 4]) (r := [5, 6, 7]) (e' := [(2, i64 ld), (3, pt b1), (6, pt b2), (7, i64 0), (8, pt b3), (20, .agg #[i64 8, i64 a, i64 b, i64 c, i64 v]), (21, i64 0)]) hA [] c0 ?_
  clear hA fr; intro fr hA
  refine wpOps_cons' (mN (l := [i64 0, i64 0, i64 0, i64 0, i64 0]) (t := 25) (v := pt) (d := 9) hA hO ?_)
  clear hA hO fr; intro fr w5 b4 hA hO
  refine wpOps_cons' (mS (off := 0) (vc := [i64 8, i64 a, i64 b, i64 c, i64 v]) 0 hA hO ?_)
  clear hO; intro w6 hO
  replace hA := hA.sb (e' := [(2, i64 ld), (3, pt b1), (6, pt b2), (7, i64 0), (8, pt b3), (9, pt b4), (21, i64 0)])
  refine ck (l := [7]) (r := []) (e' := [(2, i64 ld), (3, pt b1), (6, pt b2), (7, i64 0), (8, pt b3), (9, pt b4), (10, i64 0)]) hA [] c0 ?_
  clear hA fr; intro fr hA
  refine end_ops ?_
  refine then_normal ?_
  refine wp_seq ?_
  refine sC (e' := [(2, i64 ld), (3, pt b1), (6, pt b2), (7, i64 0), (8, pt b3), (9, pt b4), (23, bl false)]) 2 hA [] c0 ?_
  clear hA fr; intro fr hA
  refine cF hA ?_
  refine wp_skip ?_
  refine then_normal ?_
  refine wp_seq ?_
  refine sR (l := (rg 0 8)) ?_
  refine ck (l := [0, 1]) (r := (rg 2 6)) (e' := [(2, i64 ld), (3, pt b1), (6, pt b2), (7, i64 0), (8, pt b3), (9, pt b4), (27, .agg (List.toArray (regsL R pc))), (28, .agg #[i64 8, i64 a, i64 b, i64 c, i64 v])]) hA [.agg (List.toArray (regsL R pc)), .agg #[i64 8, i64 a, i64 b, i64 c, i64 v]] (cc (hO.ln 3 0 40 (regsL R pc)) (cc (hO.ln 0 0 25 [i64 8, i64 a, i64 b, i64 c, i64 v]) c0)) ?_
  clear hA fr; intro fr hA
  refine wpOps_cons' (mK (f := 36) (args := [.agg (List.toArray (regsL R pc)), .agg #[i64 8, i64 a, i64 b, i64 c, i64 v]]) (d := (some 29)) (v := .tuple #[i64 0, i64 0]) hA hO Tryd.func36 (place_any R pc 8 a b c v _ hR hb hb' (by omega) (by omega)) ?_)
  clear hA hO fr; intro fr w7 hA hO
  replace hA := hA.sb (e' := [(2, i64 ld), (3, pt b1), (6, pt b2), (7, i64 0), (8, pt b3), (9, pt b4), (29, .tuple #[i64 0, i64 0])])
  refine ck (l := (rg 3 5)) (r := []) (e' := [(2, i64 ld), (3, pt b1), (6, pt b2), (7, i64 0), (8, pt b3), (9, pt b4), (11, i64 0), (12, i64 0)]) hA [] c0 ?_
  clear hA fr; intro fr hA
  refine end_ops ?_
  refine then_normal ?_
  refine sC (e' := [(2, i64 ld), (3, pt b1), (6, pt b2), (7, i64 0), (8, pt b3), (9, pt b4), (39, bl false)]) 8 hA [] c0 ?_
  clear hA fr; intro fr hA
  refine cF hA ?_
  refine wp_skip ?_
  refine then_normal ?_
  refine wp_seq ?_
  refine sC (e' := [(2, i64 ld), (3, pt b1), (6, pt b2), (7, i64 0), (8, pt b3), (9, pt b4), (57, bl ((R ((c).toNat)) == 0))]) 16 hA [i64 8, i64 8, i64 c, i32 (R ((c).toNat))] (cc (hO.l1 0 0 3 (i64 8)) (cc (hO.l1 0 0 3 (i64 8)) (cc (hO.l1 0 3 3 (i64 c)) (cc (⟨by omega, by omega⟩ : (0 : Int) ≤ c ∧ c < ((16 : Nat) : Int)) (cc ((ld_regs (hO.b 3) (by omega) (by kernel_rfl)) : Ld Tryd.prog w7 ((⟨b1, 0, none⟩ : Addr).add ((c).toNat)) 21 (i32 (R ((c).toNat)))) c0))))) ?_
  clear hA fr; intro fr hA
  rcases Bool.eq_false_or_eq_true ((R ((c).toNat)) == 0) with h1 | h1
  ·
    replace hA := hA.bool (f := fun z_ => [(2, i64 ld), (3, pt b1), (6, pt b2), (7, i64 0), (8, pt b3), (9, pt b4), (57, .bool z_)]) h1
    have h1p := eq_of_beq h1
    refine cT hA ?_
    refine wp_seq ?_
    have hS : Ow Tryd.prog none' w _ [(b4, 25, [i64 8, i64 a, i64 b, i64 c, i64 v]), (b1, 40, (regsL R pc))] := hO.sub [0, 3]
    refine rP [(0, true), (1, false), (2, false), (3, true), (4, false)] hS ?_
    intro w8 ho; replace hO := hO.st ho; clear ho
    refine ckS (l := [0]) (r := [(1, false), (2, false), (3, true), (4, false)]) (e' := [(2, i64 ld), (3, pt b1), (6, pt b2), (7, i64 0), (8, pt b3), (9, pt b4), (58, .agg (List.toArray (regsL R pc)))]) hA [.agg (List.toArray (regsL R pc))] (cc (hS.sn 1 0 40 (regsL R pc)) c0) ?_
    clear hA fr; intro fr hA
    refine plan_mem (mK (f := 35) (args := [i64 2]) (d := (some 59)) (v := .agg #[i64 2, i64 2, i64 0, i64 0, i64 0, i64 0, i64 0]) hA hO Tryd.func35 (exception_any 2 _) ?_)
    clear hA hO fr; intro fr w9 hA hO
    refine ⟨(hO.sub [0, 3]), ?_⟩
    refine plan_mem (mS (off := 0) (vc := (regsL R pc)) 2 hA hO ?_)
    clear hO; intro w10 hO
    refine ⟨(hO.sub [0, 3]), ?_⟩
    replace hA := hA.sb (e' := [(2, i64 ld), (3, pt b1), (6, pt b2), (7, i64 0), (8, pt b3), (9, pt b4), (59, .agg #[i64 2, i64 2, i64 0, i64 0, i64 0, i64 0, i64 0])])
    refine ckS (l := [3]) (r := [(4, false)]) (e' := [(2, i64 ld), (3, pt b1), (6, pt b2), (7, i64 0), (8, pt b3), (9, pt b4), (59, .agg #[i64 2, i64 2, i64 0, i64 0, i64 0, i64 0, i64 0])]) hA [] c0 ?_
    clear hA fr; intro fr hA
    refine plan_mem (mS (off := 0) (vc := [i64 2, i64 2, i64 0, i64 0, i64 0, i64 0, i64 0]) 1 hA hO ?_)
    clear hO; intro w11 hO
    refine ⟨(hO.sub [0, 3]), ?_⟩
    replace hA := hA.sb (e' := [(2, i64 ld), (3, pt b1), (6, pt b2), (7, i64 0), (8, pt b3), (9, pt b4)])
    refine end_plan ?_
    refine then_normal ?_
    refine wp_ret ?_
    refine then_ret ?_
    refine cR (cs := [some (⟨b2, 0, none⟩, 40), none, some (⟨b3, 0, none⟩, 43)]) (us := [.agg (List.toArray (regsL R pc)), i64 0, .agg #[i64 2, i64 2, i64 0, i64 0, i64 0, i64 0, i64 0]]) hA [.agg (List.toArray (regsL R pc)), .agg #[i64 2, i64 2, i64 0, i64 0, i64 0, i64 0, i64 0]] ⟨(hO.ln 2 0 40 (regsL R pc)), (hO.ln 1 0 43 [i64 2, i64 2, i64 0, i64 0, i64 0, i64 0, i64 0]), trivial⟩ ?_
    have hF := hO.only; clear hA hO
    exact ⟨by simp_all [pack, execV, outV, noTrap, trapL, insV], hF⟩
  ·
    replace hA := hA.bool (f := fun z_ => [(2, i64 ld), (3, pt b1), (6, pt b2), (7, i64 0), (8, pt b3), (9, pt b4), (57, .bool z_)]) h1
    have h1p := ne_of_beq_false h1
    refine cF hA ?_
    refine wp_skip ?_
    refine then_normal ?_
    refine sR (l := [0, 1, 2]) ?_
    refine ck (l := [0]) (r := [1, 2]) (e' := [(2, i64 ld), (3, pt b1), (6, pt b2), (7, i64 0), (8, pt b3), (9, pt b4), (60, .agg (List.toArray (regsL R pc)))]) hA [.agg (List.toArray (regsL R pc))] (cc (hO.ln 3 0 40 (regsL R pc)) c0) ?_
    clear hA fr; intro fr hA
    refine wpOps_cons' (mN (l := [i32 0, i32 0, i32 0, i32 0, i32 0, i32 0, i32 0, i32 0, i32 0, i32 0, i32 0, i32 0, i32 0, i32 0, i32 0, i32 0, i64 0]) (t := 40) (v := pt) (d := 13) hA hO ?_)
    clear hA hO fr; intro fr w12 b5 hA hO
    refine wpOps_cons' (mS (off := 0) (vc := (regsL R pc)) 0 hA hO ?_)
    clear hO; intro w13 hO
    replace hA := hA.sb (e' := [(2, i64 ld), (3, pt b1), (6, pt b2), (7, i64 0), (8, pt b3), (9, pt b4), (13, pt b5)])
    refine end_ops ?_
    refine then_normal ?_
    refine sC (e' := [(2, i64 ld), (3, pt b1), (6, pt b2), (7, i64 0), (8, pt b3), (9, pt b4), (13, pt b5), (14, i64 ((pc + 4) + (4 * v)))]) 8 hA [i64 pc, bl true, i64 v, bl true, bl true] (cc (hO.l1 4 16 3 (i64 pc)) (cc ((inK_i64 (by omega) (by omega)) : inK .i64 (pc + 4)) (cc (hO.l1 1 4 3 (i64 v)) (cc ((inK_i64 (by omega) (by omega)) : inK .i64 (4 * v)) (cc ((inK_i64 (by omega) (by omega)) : inK .i64 ((pc + 4) + (4 * v))) c0))))) ?_
    clear hA fr; intro fr hA
    refine sR (l := (rg 0 5)) ?_
    refine ck (l := [0, 1, 2, 3]) (r := [4]) (e' := [(2, i64 ld), (3, pt b1), (6, pt b2), (7, i64 0), (8, pt b3), (9, pt b4), (13, pt b5), (14, i64 ((pc + 4) + (4 * v))), (70, i64 (pc + 4)), (71, pf b1 16)]) hA [i64 pc, bl true] (cc (hO.l1 4 16 3 (i64 pc)) (cc ((inK_i64 (by omega) (by omega)) : inK .i64 (pc + 4)) c0)) ?_
    clear hA fr; intro fr hA
    refine wpOps_cons' (mSR (off := 16) (ad := ⟨b1, 16, none⟩) (vc := [i64 (pc + 4)]) (l' := (regsL R (pc + 4))) 4 hA hO rfl (by kernel_rfl) (by kernel_rfl) ?_)
    clear hO; intro w14 hO
    replace hA := hA.sb (e' := [(2, i64 ld), (3, pt b1), (6, pt b2), (7, i64 0), (8, pt b3), (9, pt b4), (13, pt b5), (14, i64 ((pc + 4) + (4 * v)))])
    refine end_ops ?_
    refine then_normal ?_
    refine sC (e' := [(2, i64 ld), (3, pt b1), (6, pt b2), (7, i64 0), (8, pt b3), (9, pt b4), (13, pt b5), (14, i64 ((pc + 4) + (4 * v))), (15, .pointer (some ((⟨b1, 0, none⟩ : Addr).add ((a).toNat))))]) 5 hA [i64 a] (cc (hO.l1 1 1 3 (i64 a)) (cc (⟨by omega, by omega⟩ : (0 : Int) ≤ a ∧ a < ((16 : Nat) : Int)) c0)) ?_
    clear hA fr; intro fr hA
    refine wp_seq ?_
    refine sC (e' := [(2, i64 ld), (3, pt b1), (6, pt b2), (7, i64 0), (8, pt b3), (9, pt b4), (13, pt b5), (14, i64 ((pc + 4) + (4 * v))), (15, .pointer (some ((⟨b1, 0, none⟩ : Addr).add ((a).toNat)))), (77, i64 8)]) 2 hA [i64 8] (cc (hO.l1 1 0 3 (i64 8)) c0) ?_
    clear hA fr; intro fr hA
    refine wp_block ?_
    refine sC (e' := [(2, i64 ld), (3, pt b1), (6, pt b2), (7, i64 0), (8, pt b3), (9, pt b4), (13, pt b5), (14, i64 ((pc + 4) + (4 * v))), (15, .pointer (some ((⟨b1, 0, none⟩ : Addr).add ((a).toNat)))), (77, i64 8), (93, bl false)]) 2 hA [] c0 ?_
    clear hA fr; intro fr hA
    refine cF hA ?_
    refine sC (e' := [(2, i64 ld), (3, pt b1), (6, pt b2), (7, i64 0), (8, pt b3), (9, pt b4), (13, pt b5), (14, i64 ((pc + 4) + (4 * v))), (15, .pointer (some ((⟨b1, 0, none⟩ : Addr).add ((a).toNat)))), (77, i64 8), (100, bl false)]) 2 hA [] c0 ?_
    clear hA fr; intro fr hA
    refine cF hA ?_
    refine sC (e' := [(2, i64 ld), (3, pt b1), (6, pt b2), (7, i64 0), (8, pt b3), (9, pt b4), (13, pt b5), (14, i64 ((pc + 4) + (4 * v))), (15, .pointer (some ((⟨b1, 0, none⟩ : Addr).add ((a).toNat)))), (77, i64 8), (111, bl false)]) 2 hA [] c0 ?_
    clear hA fr; intro fr hA
    refine cF hA ?_
    refine sC (e' := [(2, i64 ld), (3, pt b1), (6, pt b2), (7, i64 0), (8, pt b3), (9, pt b4), (13, pt b5), (14, i64 ((pc + 4) + (4 * v))), (15, .pointer (some ((⟨b1, 0, none⟩ : Addr).add ((a).toNat)))), (77, i64 8), (124, bl false)]) 2 hA [] c0 ?_
    clear hA fr; intro fr hA
    refine cF hA ?_
    refine sC (e' := [(2, i64 ld), (3, pt b1), (6, pt b2), (7, i64 0), (8, pt b3), (9, pt b4), (13, pt b5), (14, i64 ((pc + 4) + (4 * v))), (15, .pointer (some ((⟨b1, 0, none⟩ : Addr).add ((a).toNat)))), (77, i64 8), (130, bl false)]) 2 hA [] c0 ?_
    clear hA fr; intro fr hA
    refine cF hA ?_
    refine sC (e' := [(3, pt b1), (6, pt b2), (7, i64 0), (8, pt b3), (9, pt b4), (13, pt b5), (14, i64 ((pc + 4) + (4 * v))), (15, .pointer (some ((⟨b1, 0, none⟩ : Addr).add ((a).toNat)))), (77, i64 8), (137, bl false)]) 2 hA [] c0 ?_
    clear hA fr; intro fr hA
    refine cF hA ?_
    refine sC (e' := [(3, pt b1), (6, pt b2), (7, i64 0), (8, pt b3), (9, pt b4), (13, pt b5), (14, i64 ((pc + 4) + (4 * v))), (15, .pointer (some ((⟨b1, 0, none⟩ : Addr).add ((a).toNat)))), (77, i64 8), (145, bl false)]) 2 hA [] c0 ?_
    clear hA fr; intro fr hA
    refine cF hA ?_
    refine sC (e' := [(3, pt b1), (6, pt b2), (7, i64 0), (8, pt b3), (9, pt b4), (13, pt b5), (14, i64 ((pc + 4) + (4 * v))), (15, .pointer (some ((⟨b1, 0, none⟩ : Addr).add ((a).toNat)))), (77, i64 8), (154, bl false)]) 2 hA [] c0 ?_
    clear hA fr; intro fr hA
    refine cF hA ?_
    refine sC (e' := [(3, pt b1), (6, pt b2), (7, i64 0), (8, pt b3), (9, pt b4), (13, pt b5), (14, i64 ((pc + 4) + (4 * v))), (15, .pointer (some ((⟨b1, 0, none⟩ : Addr).add ((a).toNat)))), (77, i64 8), (158, bl false)]) 2 hA [] c0 ?_
    clear hA fr; intro fr hA
    refine cF hA ?_
    refine sC (e' := [(3, pt b1), (6, pt b2), (7, i64 0), (8, pt b3), (9, pt b4), (13, pt b5), (14, i64 ((pc + 4) + (4 * v))), (15, .pointer (some ((⟨b1, 0, none⟩ : Addr).add ((a).toNat)))), (77, i64 8), (166, bl false)]) 2 hA [] c0 ?_
    clear hA fr; intro fr hA
    refine cF hA ?_
    refine sC (e' := [(3, pt b1), (6, pt b2), (7, i64 0), (8, pt b3), (9, pt b4), (13, pt b5), (15, .pointer (some ((⟨b1, 0, none⟩ : Addr).add ((a).toNat)))), (77, i64 8), (175, bl false)]) 2 hA [] c0 ?_
    clear hA fr; intro fr hA
    refine cF hA ?_
    refine sC (e' := [(3, pt b1), (6, pt b2), (7, i64 0), (8, pt b3), (9, pt b4), (13, pt b5), (15, .pointer (some ((⟨b1, 0, none⟩ : Addr).add ((a).toNat)))), (182, bl false)]) 2 hA [] c0 ?_
    clear hA fr; intro fr hA
    refine cF hA ?_
    have hS : Ow Tryd.prog none' w _ [(b5, 40, (regsL R pc)), (b4, 25, [i64 8, i64 a, i64 b, i64 c, i64 v]), (b3, 43, [i64 0, i64 0, i64 0, i64 0, i64 0, i64 0, i64 0]), (b2, 40, [i32 0, i32 0, i32 0, i32 0, i32 0, i32 0, i32 0, i32 0, i32 0, i32 0, i32 0, i32 0, i32 0, i32 0, i32 0, i32 0, i64 0])] := hO.sub [0, 1, 2, 3]
    refine rP [(0, true), (1, true), (2, true), (3, true), (4, true), (5, true), (6, true), (7, true), (8, true), (9, true), (10, true), (11, true), (12, true), (13, false), (14, true), (15, false)] hS ?_
    intro w15 ho; replace hO := hO.st ho; clear ho
    refine ckS (l := (rg 0 13)) (r := [(13, false), (14, true), (15, false)]) (e' := [(3, pt b1), (6, pt b2), (7, i64 0), (8, pt b3), (78, .pointer (some ((⟨b1, 0, none⟩ : Addr).add ((a).toNat)))), (80, i64 8), (85, i32 (R ((b).toNat))), (90, i32 (R ((c).toNat)))]) hA [i64 8, i64 b, i32 (R ((b).toNat)), i64 c, i32 (R ((c).toNat))] (cc (hS.s1 1 0 3 (i64 8)) (cc (hS.s1 1 2 3 (i64 b)) (cc (⟨by omega, by omega⟩ : (0 : Int) ≤ b ∧ b < ((16 : Nat) : Int)) (cc (hS.sx ((⟨b5, 0, none⟩ : Addr).add ((b).toNat)) 21 (i32 (R ((b).toNat))) fun _ hO => (ld_regs (hO.b 0) (by omega) (by kernel_rfl))) (cc (hS.s1 1 3 3 (i64 c)) (cc (⟨by omega, by omega⟩ : (0 : Int) ≤ c ∧ c < ((16 : Nat) : Int)) (cc (hS.sx ((⟨b5, 0, none⟩ : Addr).add ((c).toNat)) 21 (i32 (R ((c).toNat))) fun _ hO => (ld_regs (hO.b 0) (by omega) (by kernel_rfl))) c0))))))) ?_
    clear hA fr; intro fr hA
    refine plan_mem (mK (f := 37) (args := [i64 8, i32 (R ((b).toNat)), i32 (R ((c).toNat))]) (d := (some 91)) (v := i32 (arithS 8 (R ((b).toNat)) (R ((c).toNat)))) hA hO Tryd.func37 (arithmetic_any 8 (R ((b).toNat)) (R ((c).toNat)) _ (by intro q; simp_all)) ?_)
    clear hA hO fr; intro fr w16 hA hO
    refine ⟨(hO.sub [0, 1, 2, 3]), ?_⟩
    replace hA := hA.sb (e' := [(3, pt b1), (6, pt b2), (7, i64 0), (8, pt b3), (78, .pointer (some ((⟨b1, 0, none⟩ : Addr).add ((a).toNat)))), (91, i32 (arithS 8 (R ((b).toNat)) (R ((c).toNat))))])
    refine ckS (l := [14]) (r := [(15, false)]) (e' := [(3, pt b1), (6, pt b2), (7, i64 0), (8, pt b3), (91, i32 (arithS 8 (R ((b).toNat)) (R ((c).toNat)))), (92, .pointer (some ((⟨b1, 0, none⟩ : Addr).add ((a).toNat))))]) hA [] c0 ?_
    clear hA fr; intro fr hA
    refine plan_mem (mSR (off := (a).toNat) (ad := (⟨b1, 0, none⟩ : Addr).add ((a).toNat)) (vc := [i32 (arithS 8 (R ((b).toNat)) (R ((c).toNat)))]) (l' := (regsL (upd R ((a).toNat) (arithS 8 (R ((b).toNat)) (R ((c).toNat)))) (pc + 4))) 4 hA hO (add_zero_off _ _) (regs_ble R (pc + 4) (by omega)) (setL_regs (by omega) _) ?_)
    clear hO; intro w17 hO
    refine ⟨(hO.sub [0, 1, 2, 3]), ?_⟩
    replace hA := hA.sb (e' := [(3, pt b1), (6, pt b2), (7, i64 0), (8, pt b3)])
    refine end_plan ?_
    refine inBlock_normal ?_
    refine then_normal ?_
    refine sR (l := (rg 0 5)) ?_
    refine ck (l := [0, 1]) (r := [2, 3, 4]) (e' := [(6, pt b2), (7, i64 0), (8, pt b3), (207, .agg (List.toArray (regsL (upd R ((a).toNat) (arithS 8 (R ((b).toNat)) (R ((c).toNat)))) (pc + 4)))), (208, .agg #[i64 0, i64 0, i64 0, i64 0, i64 0, i64 0, i64 0])]) hA [.agg (List.toArray (regsL (upd R ((a).toNat) (arithS 8 (R ((b).toNat)) (R ((c).toNat)))) (pc + 4)))] (cc (hO.ln 4 0 40 (regsL (upd R ((a).toNat) (arithS 8 (R ((b).toNat)) (R ((c).toNat)))) (pc + 4))) c0) ?_
    clear hA fr; intro fr hA
    refine wpOps_cons' (mS (off := 0) (vc := (regsL (upd R ((a).toNat) (arithS 8 (R ((b).toNat)) (R ((c).toNat)))) (pc + 4))) 3 hA hO ?_)
    clear hO; intro w18 hO
    replace hA := hA.sb (e' := [(6, pt b2), (7, i64 0), (8, pt b3), (208, .agg #[i64 0, i64 0, i64 0, i64 0, i64 0, i64 0, i64 0])])
    refine ck (l := [3]) (r := [4]) (e' := [(6, pt b2), (7, i64 0), (8, pt b3), (208, .agg #[i64 0, i64 0, i64 0, i64 0, i64 0, i64 0, i64 0])]) hA [] c0 ?_
    clear hA fr; intro fr hA
    refine wpOps_cons' (mS (off := 0) (vc := [i64 0, i64 0, i64 0, i64 0, i64 0, i64 0, i64 0]) 2 hA hO ?_)
    clear hO; intro w19 hO
    replace hA := hA.sb (e' := [(6, pt b2), (7, i64 0), (8, pt b3)])
    refine end_ops ?_
    refine then_normal ?_
    refine wp_ret ?_
    refine cR (cs := [some (⟨b2, 0, none⟩, 40), none, some (⟨b3, 0, none⟩, 43)]) (us := [.agg (List.toArray (regsL (upd R ((a).toNat) (arithS 8 (R ((b).toNat)) (R ((c).toNat)))) (pc + 4))), i64 0, .agg #[i64 0, i64 0, i64 0, i64 0, i64 0, i64 0, i64 0]]) hA [.agg (List.toArray (regsL (upd R ((a).toNat) (arithS 8 (R ((b).toNat)) (R ((c).toNat)))) (pc + 4))), .agg #[i64 0, i64 0, i64 0, i64 0, i64 0, i64 0, i64 0]] ⟨(hO.ln 3 0 40 (regsL (upd R ((a).toNat) (arithS 8 (R ((b).toNat)) (R ((c).toNat)))) (pc + 4))), (hO.ln 2 0 43 [i64 0, i64 0, i64 0, i64 0, i64 0, i64 0, i64 0]), trivial⟩ ?_
    have hF := hO.only; clear hA hO
    exact ⟨by simp_all [pack, execV, outV, noTrap, trapL, insV], hF⟩

theorem exec_9 (R : Nat → Int) (pc ld a b c v : Int) (sl : Value) (w : World) (hT : Tab w) (hR : RegsOk R) (hp : -1099511627776 < pc) (hp' : pc < 1099511627776) (ha : 0 ≤ a) (ha' : a ≤ 15) (hb : 0 ≤ b) (hb' : b ≤ 15) (hc : 0 ≤ c) (hc' : c ≤ 15) (hv : -32768 ≤ v) (hv' : v ≤ 32767) (hdec : ∀ w', Only none' w w' → Calls Tryd.prog 13 #[sl] w' fun e w2 => e = .returned (.tuple #[insV 9 a b c v, .int .i64 0]) ∧ Only none' w' w2) :
    Calls Tryd.prog 18 #[.agg (List.toArray (regsL R pc)), sl, i64 ld] w fun e w' => e = .returned (execV R pc ld 9 a b c v) ∧ Only none' w w' := by
  refine c_enter (args := [.agg (List.toArray (regsL R pc)), sl, i64 ld]) (m := 206) (n := 209) Tryd.func18 rfl (by kernel_rfl) (by kernel_rfl) fun fr hA => ?_
  have hO := Ow.nil Tryd.prog none' w
  have hRa := hR a.toNat; have hRb := hR b.toNat; have hRc := hR c.toNat; simp only [inK] at hRa hRb hRc
  refine sR (l := [0, 1, 2, 3]) ?_
  refine wpOps_cons' (mN (l := (regsL R pc)) (t := 40) (v := pt) (d := 3) hA hO ?_)
  clear hA hO fr; intro fr w1 b1 hA hO
  replace hA := hA.sb (e' := [(1, sl), (2, i64 ld), (3, pt b1)])
  refine wpOps_cons' (mN (l := [i32 0, i32 0, i32 0, i32 0, i32 0, i32 0, i32 0, i32 0, i32 0, i32 0, i32 0, i32 0, i32 0, i32 0, i32 0, i32 0, i64 0]) (t := 40) (v := pt) (d := 6) hA hO ?_)
  clear hA hO fr; intro fr w2 b2 hA hO
  refine ck (l := [2]) (r := [3]) (e' := [(1, sl), (2, i64 ld), (3, pt b1), (6, pt b2), (7, i64 0)]) hA [] c0 ?_
  clear hA fr; intro fr hA
  refine wpOps_cons' (mN (l := [i64 0, i64 0, i64 0, i64 0, i64 0, i64 0, i64 0]) (t := 43) (v := pt) (d := 8) hA hO ?_)
  clear hA hO fr; intro fr w3 b3 hA hO
  refine end_ops ?_
  refine then_normal ?_
  refine sR (l := (rg 0 8)) ?_
  refine ck (l := [0]) (r := (rg 1 7)) (e' := [(2, i64 ld), (3, pt b1), (6, pt b2), (7, i64 0), (8, pt b3), (18, sl)]) hA [] c0 ?_
  clear hA fr; intro fr hA
  refine wpOps_cons' (mK (f := 13) (args := [sl]) (d := (some 19)) (v := .tuple #[.agg #[i64 9, i64 a, i64 b, i64 c, i64 v], i64 0]) hA hO Tryd.func13 (hdec _ hO.only) ?_)
  clear hA hO fr; intro fr w4 hA hO
  replace hA := hA.sb (e' := [(2, i64 ld), (3, pt b1), (6, pt b2), (7, i64 0), (8, pt b3), (19, .tuple #[.agg #[i64 9, i64 a, i64 b, i64 c, i64 v], i64 0])])
  refine ck (l := [2, 3, 4]) (r := [5, 6, 7]) (e' := [(2, i64 ld), (3, pt b1), (6, pt b2), (7, i64 0), (8, pt b3), (20, .agg #[i64 9, i64 a, i64 b, i64 c, i64 v]), (21, i64 0)]) hA [] c0 ?_
  clear hA fr; intro fr hA
  refine wpOps_cons' (mN (l := [i64 0, i64 0, i64 0, i64 0, i64 0]) (t := 25) (v := pt) (d := 9) hA hO ?_)
  clear hA hO fr; intro fr w5 b4 hA hO
  refine wpOps_cons' (mS (off := 0) (vc := [i64 9, i64 a, i64 b, i64 c, i64 v]) 0 hA hO ?_)
  clear hO; intro w6 hO
  replace hA := hA.sb (e' := [(2, i64 ld), (3, pt b1), (6, pt b2), (7, i64 0), (8, pt b3), (9, pt b4), (21, i64 0)])
  refine ck (l := [7]) (r := []) (e' := [(2, i64 ld), (3, pt b1), (6, pt b2), (7, i64 0), (8, pt b3), (9, pt b4), (10, i64 0)]) hA [] c0 ?_
  clear hA fr; intro fr hA
  refine end_ops ?_
  refine then_normal ?_
  refine wp_seq ?_
  refine sC (e' := [(2, i64 ld), (3, pt b1), (6, pt b2), (7, i64 0), (8, pt b3), (9, pt b4), (23, bl false)]) 2 hA [] c0 ?_
  clear hA fr; intro fr hA
  refine cF hA ?_
  refine wp_skip ?_
  refine then_normal ?_
  refine wp_seq ?_
  refine sR (l := (rg 0 8)) ?_
  refine ck (l := [0, 1]) (r := (rg 2 6)) (e' := [(2, i64 ld), (3, pt b1), (6, pt b2), (7, i64 0), (8, pt b3), (9, pt b4), (27, .agg (List.toArray (regsL R pc))), (28, .agg #[i64 9, i64 a, i64 b, i64 c, i64 v])]) hA [.agg (List.toArray (regsL R pc)), .agg #[i64 9, i64 a, i64 b, i64 c, i64 v]] (cc (hO.ln 3 0 40 (regsL R pc)) (cc (hO.ln 0 0 25 [i64 9, i64 a, i64 b, i64 c, i64 v]) c0)) ?_
  clear hA fr; intro fr hA
  refine wpOps_cons' (mK (f := 36) (args := [.agg (List.toArray (regsL R pc)), .agg #[i64 9, i64 a, i64 b, i64 c, i64 v]]) (d := (some 29)) (v := .tuple #[i64 0, i64 0]) hA hO Tryd.func36 (place_any R pc 9 a b c v _ hR hb hb' (by omega) (by omega)) ?_)
  clear hA hO fr; intro fr w7 hA hO
  replace hA := hA.sb (e' := [(2, i64 ld), (3, pt b1), (6, pt b2), (7, i64 0), (8, pt b3), (9, pt b4), (29, .tuple #[i64 0, i64 0])])
  refine ck (l := (rg 3 5)) (r := []) (e' := [(2, i64 ld), (3, pt b1), (6, pt b2), (7, i64 0), (8, pt b3), (9, pt b4), (11, i64 0), (12, i64 0)]) hA [] c0 ?_
  clear hA fr; intro fr hA
  refine end_ops ?_
  refine then_normal ?_
  refine sC (e' := [(2, i64 ld), (3, pt b1), (6, pt b2), (7, i64 0), (8, pt b3), (9, pt b4), (39, bl false)]) 8 hA [] c0 ?_
  clear hA fr; intro fr hA
  refine cF hA ?_
  refine wp_skip ?_
  refine then_normal ?_
  refine wp_seq ?_
  refine sC (e' := [(2, i64 ld), (3, pt b1), (6, pt b2), (7, i64 0), (8, pt b3), (9, pt b4), (57, bl false)]) 16 hA [i64 9, i64 9] (cc (hO.l1 0 0 3 (i64 9)) (cc (hO.l1 0 0 3 (i64 9)) c0)) ?_
  clear hA fr; intro fr hA
  refine cF hA ?_
  refine wp_skip ?_
  refine then_normal ?_
  refine sR (l := [0, 1, 2]) ?_
  refine ck (l := [0]) (r := [1, 2]) (e' := [(2, i64 ld), (3, pt b1), (6, pt b2), (7, i64 0), (8, pt b3), (9, pt b4), (60, .agg (List.toArray (regsL R pc)))]) hA [.agg (List.toArray (regsL R pc))] (cc (hO.ln 3 0 40 (regsL R pc)) c0) ?_
  clear hA fr; intro fr hA
  refine wpOps_cons' (mN (l := [i32 0, i32 0, i32 0, i32 0, i32 0, i32 0, i32 0, i32 0, i32 0, i32 0, i32 0, i32 0, i32 0, i32 0, i32 0, i32 0, i64 0]) (t := 40) (v := pt) (d := 13) hA hO ?_)
  clear hA hO fr; intro fr w8 b5 hA hO
  refine wpOps_cons' (mS (off := 0) (vc := (regsL R pc)) 0 hA hO ?_)
  clear hO; intro w9 hO
  replace hA := hA.sb (e' := [(2, i64 ld), (3, pt b1), (6, pt b2), (7, i64 0), (8, pt b3), (9, pt b4), (13, pt b5)])
  refine end_ops ?_
  refine then_normal ?_
  refine sC (e' := [(2, i64 ld), (3, pt b1), (6, pt b2), (7, i64 0), (8, pt b3), (9, pt b4), (13, pt b5), (14, i64 ((pc + 4) + (4 * v)))]) 8 hA [i64 pc, bl true, i64 v, bl true, bl true] (cc (hO.l1 4 16 3 (i64 pc)) (cc ((inK_i64 (by omega) (by omega)) : inK .i64 (pc + 4)) (cc (hO.l1 1 4 3 (i64 v)) (cc ((inK_i64 (by omega) (by omega)) : inK .i64 (4 * v)) (cc ((inK_i64 (by omega) (by omega)) : inK .i64 ((pc + 4) + (4 * v))) c0))))) ?_
  clear hA fr; intro fr hA
  refine sR (l := (rg 0 5)) ?_
  refine ck (l := [0, 1, 2, 3]) (r := [4]) (e' := [(2, i64 ld), (3, pt b1), (6, pt b2), (7, i64 0), (8, pt b3), (9, pt b4), (13, pt b5), (14, i64 ((pc + 4) + (4 * v))), (70, i64 (pc + 4)), (71, pf b1 16)]) hA [i64 pc, bl true] (cc (hO.l1 4 16 3 (i64 pc)) (cc ((inK_i64 (by omega) (by omega)) : inK .i64 (pc + 4)) c0)) ?_
  clear hA fr; intro fr hA
  refine wpOps_cons' (mSR (off := 16) (ad := ⟨b1, 16, none⟩) (vc := [i64 (pc + 4)]) (l' := (regsL R (pc + 4))) 4 hA hO rfl (by kernel_rfl) (by kernel_rfl) ?_)
  clear hO; intro w10 hO
  replace hA := hA.sb (e' := [(2, i64 ld), (3, pt b1), (6, pt b2), (7, i64 0), (8, pt b3), (9, pt b4), (13, pt b5), (14, i64 ((pc + 4) + (4 * v)))])
  refine end_ops ?_
  refine then_normal ?_
  refine sC (e' := [(2, i64 ld), (3, pt b1), (6, pt b2), (7, i64 0), (8, pt b3), (9, pt b4), (13, pt b5), (14, i64 ((pc + 4) + (4 * v))), (15, .pointer (some ((⟨b1, 0, none⟩ : Addr).add ((a).toNat))))]) 5 hA [i64 a] (cc (hO.l1 1 1 3 (i64 a)) (cc (⟨by omega, by omega⟩ : (0 : Int) ≤ a ∧ a < ((16 : Nat) : Int)) c0)) ?_
  clear hA fr; intro fr hA
  refine wp_seq ?_
  refine sC (e' := [(2, i64 ld), (3, pt b1), (6, pt b2), (7, i64 0), (8, pt b3), (9, pt b4), (13, pt b5), (14, i64 ((pc + 4) + (4 * v))), (15, .pointer (some ((⟨b1, 0, none⟩ : Addr).add ((a).toNat)))), (77, i64 9)]) 2 hA [i64 9] (cc (hO.l1 1 0 3 (i64 9)) c0) ?_
  clear hA fr; intro fr hA
  refine wp_block ?_
  refine sC (e' := [(2, i64 ld), (3, pt b1), (6, pt b2), (7, i64 0), (8, pt b3), (9, pt b4), (13, pt b5), (14, i64 ((pc + 4) + (4 * v))), (15, .pointer (some ((⟨b1, 0, none⟩ : Addr).add ((a).toNat)))), (77, i64 9), (93, bl false)]) 2 hA [] c0 ?_
  clear hA fr; intro fr hA
  refine cF hA ?_
  refine sC (e' := [(2, i64 ld), (3, pt b1), (6, pt b2), (7, i64 0), (8, pt b3), (9, pt b4), (13, pt b5), (14, i64 ((pc + 4) + (4 * v))), (15, .pointer (some ((⟨b1, 0, none⟩ : Addr).add ((a).toNat)))), (77, i64 9), (100, bl false)]) 2 hA [] c0 ?_
  clear hA fr; intro fr hA
  refine cF hA ?_
  refine sC (e' := [(2, i64 ld), (3, pt b1), (6, pt b2), (7, i64 0), (8, pt b3), (9, pt b4), (13, pt b5), (14, i64 ((pc + 4) + (4 * v))), (15, .pointer (some ((⟨b1, 0, none⟩ : Addr).add ((a).toNat)))), (77, i64 9), (111, bl false)]) 2 hA [] c0 ?_
  clear hA fr; intro fr hA
  refine cF hA ?_
  refine sC (e' := [(2, i64 ld), (3, pt b1), (6, pt b2), (7, i64 0), (8, pt b3), (9, pt b4), (13, pt b5), (14, i64 ((pc + 4) + (4 * v))), (15, .pointer (some ((⟨b1, 0, none⟩ : Addr).add ((a).toNat)))), (77, i64 9), (124, bl false)]) 2 hA [] c0 ?_
  clear hA fr; intro fr hA
  refine cF hA ?_
  refine sC (e' := [(2, i64 ld), (3, pt b1), (6, pt b2), (7, i64 0), (8, pt b3), (9, pt b4), (13, pt b5), (14, i64 ((pc + 4) + (4 * v))), (15, .pointer (some ((⟨b1, 0, none⟩ : Addr).add ((a).toNat)))), (77, i64 9), (130, bl false)]) 2 hA [] c0 ?_
  clear hA fr; intro fr hA
  refine cF hA ?_
  refine sC (e' := [(3, pt b1), (6, pt b2), (7, i64 0), (8, pt b3), (9, pt b4), (13, pt b5), (14, i64 ((pc + 4) + (4 * v))), (15, .pointer (some ((⟨b1, 0, none⟩ : Addr).add ((a).toNat)))), (77, i64 9), (137, bl false)]) 2 hA [] c0 ?_
  clear hA fr; intro fr hA
  refine cF hA ?_
  refine sC (e' := [(3, pt b1), (6, pt b2), (7, i64 0), (8, pt b3), (9, pt b4), (13, pt b5), (14, i64 ((pc + 4) + (4 * v))), (15, .pointer (some ((⟨b1, 0, none⟩ : Addr).add ((a).toNat)))), (77, i64 9), (145, bl false)]) 2 hA [] c0 ?_
  clear hA fr; intro fr hA
  refine cF hA ?_
  refine sC (e' := [(3, pt b1), (6, pt b2), (7, i64 0), (8, pt b3), (9, pt b4), (13, pt b5), (14, i64 ((pc + 4) + (4 * v))), (15, .pointer (some ((⟨b1, 0, none⟩ : Addr).add ((a).toNat)))), (77, i64 9), (154, bl false)]) 2 hA [] c0 ?_
  clear hA fr; intro fr hA
  refine cF hA ?_
  refine sC (e' := [(3, pt b1), (6, pt b2), (7, i64 0), (8, pt b3), (9, pt b4), (13, pt b5), (14, i64 ((pc + 4) + (4 * v))), (15, .pointer (some ((⟨b1, 0, none⟩ : Addr).add ((a).toNat)))), (77, i64 9), (158, bl false)]) 2 hA [] c0 ?_
  clear hA fr; intro fr hA
  refine cF hA ?_
  refine sC (e' := [(3, pt b1), (6, pt b2), (7, i64 0), (8, pt b3), (9, pt b4), (13, pt b5), (14, i64 ((pc + 4) + (4 * v))), (15, .pointer (some ((⟨b1, 0, none⟩ : Addr).add ((a).toNat)))), (77, i64 9), (166, bl false)]) 2 hA [] c0 ?_
  clear hA fr; intro fr hA
  refine cF hA ?_
  refine sC (e' := [(3, pt b1), (6, pt b2), (7, i64 0), (8, pt b3), (9, pt b4), (13, pt b5), (15, .pointer (some ((⟨b1, 0, none⟩ : Addr).add ((a).toNat)))), (77, i64 9), (175, bl false)]) 2 hA [] c0 ?_
  clear hA fr; intro fr hA
  refine cF hA ?_
  refine sC (e' := [(3, pt b1), (6, pt b2), (7, i64 0), (8, pt b3), (9, pt b4), (13, pt b5), (15, .pointer (some ((⟨b1, 0, none⟩ : Addr).add ((a).toNat)))), (182, bl false)]) 2 hA [] c0 ?_
  clear hA fr; intro fr hA
  refine cF hA ?_
  have hS : Ow Tryd.prog none' w _ [(b5, 40, (regsL R pc)), (b4, 25, [i64 9, i64 a, i64 b, i64 c, i64 v]), (b3, 43, [i64 0, i64 0, i64 0, i64 0, i64 0, i64 0, i64 0]), (b2, 40, [i32 0, i32 0, i32 0, i32 0, i32 0, i32 0, i32 0, i32 0, i32 0, i32 0, i32 0, i32 0, i32 0, i32 0, i32 0, i32 0, i64 0])] := hO.sub [0, 1, 2, 3]
  refine rP [(0, true), (1, true), (2, true), (3, true), (4, true), (5, true), (6, true), (7, true), (8, true), (9, true), (10, true), (11, true), (12, true), (13, false), (14, true), (15, false)] hS ?_
  intro w11 ho; replace hO := hO.st ho; clear ho
  refine ckS (l := (rg 0 13)) (r := [(13, false), (14, true), (15, false)]) (e' := [(3, pt b1), (6, pt b2), (7, i64 0), (8, pt b3), (78, .pointer (some ((⟨b1, 0, none⟩ : Addr).add ((a).toNat)))), (80, i64 9), (85, i32 (R ((b).toNat))), (90, i32 (R ((c).toNat)))]) hA [i64 9, i64 b, i32 (R ((b).toNat)), i64 c, i32 (R ((c).toNat))] (cc (hS.s1 1 0 3 (i64 9)) (cc (hS.s1 1 2 3 (i64 b)) (cc (⟨by omega, by omega⟩ : (0 : Int) ≤ b ∧ b < ((16 : Nat) : Int)) (cc (hS.sx ((⟨b5, 0, none⟩ : Addr).add ((b).toNat)) 21 (i32 (R ((b).toNat))) fun _ hO => (ld_regs (hO.b 0) (by omega) (by kernel_rfl))) (cc (hS.s1 1 3 3 (i64 c)) (cc (⟨by omega, by omega⟩ : (0 : Int) ≤ c ∧ c < ((16 : Nat) : Int)) (cc (hS.sx ((⟨b5, 0, none⟩ : Addr).add ((c).toNat)) 21 (i32 (R ((c).toNat))) fun _ hO => (ld_regs (hO.b 0) (by omega) (by kernel_rfl))) c0))))))) ?_
  clear hA fr; intro fr hA
  refine plan_mem (mK (f := 37) (args := [i64 9, i32 (R ((b).toNat)), i32 (R ((c).toNat))]) (d := (some 91)) (v := i32 (arithS 9 (R ((b).toNat)) (R ((c).toNat)))) hA hO Tryd.func37 (arithmetic_any 9 (R ((b).toNat)) (R ((c).toNat)) _ (by omega)) ?_)
  clear hA hO fr; intro fr w12 hA hO
  refine ⟨(hO.sub [0, 1, 2, 3]), ?_⟩
  replace hA := hA.sb (e' := [(3, pt b1), (6, pt b2), (7, i64 0), (8, pt b3), (78, .pointer (some ((⟨b1, 0, none⟩ : Addr).add ((a).toNat)))), (91, i32 (arithS 9 (R ((b).toNat)) (R ((c).toNat))))])
  refine ckS (l := [14]) (r := [(15, false)]) (e' := [(3, pt b1), (6, pt b2), (7, i64 0), (8, pt b3), (91, i32 (arithS 9 (R ((b).toNat)) (R ((c).toNat)))), (92, .pointer (some ((⟨b1, 0, none⟩ : Addr).add ((a).toNat))))]) hA [] c0 ?_
  clear hA fr; intro fr hA
  refine plan_mem (mSR (off := (a).toNat) (ad := (⟨b1, 0, none⟩ : Addr).add ((a).toNat)) (vc := [i32 (arithS 9 (R ((b).toNat)) (R ((c).toNat)))]) (l' := (regsL (upd R ((a).toNat) (arithS 9 (R ((b).toNat)) (R ((c).toNat)))) (pc + 4))) 4 hA hO (add_zero_off _ _) (regs_ble R (pc + 4) (by omega)) (setL_regs (by omega) _) ?_)
  clear hO; intro w13 hO
  refine ⟨(hO.sub [0, 1, 2, 3]), ?_⟩
  replace hA := hA.sb (e' := [(3, pt b1), (6, pt b2), (7, i64 0), (8, pt b3)])
  refine end_plan ?_
  refine inBlock_normal ?_
  refine then_normal ?_
  refine sR (l := (rg 0 5)) ?_
  refine ck (l := [0, 1]) (r := [2, 3, 4]) (e' := [(6, pt b2), (7, i64 0), (8, pt b3), (207, .agg (List.toArray (regsL (upd R ((a).toNat) (arithS 9 (R ((b).toNat)) (R ((c).toNat)))) (pc + 4)))), (208, .agg #[i64 0, i64 0, i64 0, i64 0, i64 0, i64 0, i64 0])]) hA [.agg (List.toArray (regsL (upd R ((a).toNat) (arithS 9 (R ((b).toNat)) (R ((c).toNat)))) (pc + 4)))] (cc (hO.ln 4 0 40 (regsL (upd R ((a).toNat) (arithS 9 (R ((b).toNat)) (R ((c).toNat)))) (pc + 4))) c0) ?_
  clear hA fr; intro fr hA
  refine wpOps_cons' (mS (off := 0) (vc := (regsL (upd R ((a).toNat) (arithS 9 (R ((b).toNat)) (R ((c).toNat)))) (pc + 4))) 3 hA hO ?_)
  clear hO; intro w14 hO
  replace hA := hA.sb (e' := [(6, pt b2), (7, i64 0), (8, pt b3), (208, .agg #[i64 0, i64 0, i64 0, i64 0, i64 0, i64 0, i64 0])])
  refine ck (l := [3]) (r := [4]) (e' := [(6, pt b2), (7, i64 0), (8, pt b3), (208, .agg #[i64 0, i64 0, i64 0, i64 0, i64 0, i64 0, i64 0])]) hA [] c0 ?_
  clear hA fr; intro fr hA
  refine wpOps_cons' (mS (off := 0) (vc := [i64 0, i64 0, i64 0, i64 0, i64 0, i64 0, i64 0]) 2 hA hO ?_)
  clear hO; intro w15 hO
  replace hA := hA.sb (e' := [(6, pt b2), (7, i64 0), (8, pt b3)])
  refine end_ops ?_
  refine then_normal ?_
  refine wp_ret ?_
  refine cR (cs := [some (⟨b2, 0, none⟩, 40), none, some (⟨b3, 0, none⟩, 43)]) (us := [.agg (List.toArray (regsL (upd R ((a).toNat) (arithS 9 (R ((b).toNat)) (R ((c).toNat)))) (pc + 4))), i64 0, .agg #[i64 0, i64 0, i64 0, i64 0, i64 0, i64 0, i64 0]]) hA [.agg (List.toArray (regsL (upd R ((a).toNat) (arithS 9 (R ((b).toNat)) (R ((c).toNat)))) (pc + 4))), .agg #[i64 0, i64 0, i64 0, i64 0, i64 0, i64 0, i64 0]] ⟨(hO.ln 3 0 40 (regsL (upd R ((a).toNat) (arithS 9 (R ((b).toNat)) (R ((c).toNat)))) (pc + 4))), (hO.ln 2 0 43 [i64 0, i64 0, i64 0, i64 0, i64 0, i64 0, i64 0]), trivial⟩ ?_
  have hF := hO.only; clear hA hO
  exact ⟨by simp_all [pack, execV, outV, noTrap, trapL, insV], hF⟩

theorem exec_10 (R : Nat → Int) (pc ld a b c v : Int) (sl : Value) (w : World) (hT : Tab w) (hR : RegsOk R) (hp : -1099511627776 < pc) (hp' : pc < 1099511627776) (ha : 0 ≤ a) (ha' : a ≤ 15) (hb : 0 ≤ b) (hb' : b ≤ 15) (hc : 0 ≤ c) (hc' : c ≤ 15) (hv : -32768 ≤ v) (hv' : v ≤ 32767) (hdec : ∀ w', Only none' w w' → Calls Tryd.prog 13 #[sl] w' fun e w2 => e = .returned (.tuple #[insV 10 a b c v, .int .i64 0]) ∧ Only none' w' w2) :
    Calls Tryd.prog 18 #[.agg (List.toArray (regsL R pc)), sl, i64 ld] w fun e w' => e = .returned (execV R pc ld 10 a b c v) ∧ Only none' w w' := by
  refine c_enter (args := [.agg (List.toArray (regsL R pc)), sl, i64 ld]) (m := 206) (n := 209) Tryd.func18 rfl (by kernel_rfl) (by kernel_rfl) fun fr hA => ?_
  have hO := Ow.nil Tryd.prog none' w
  have hRa := hR a.toNat; have hRb := hR b.toNat; have hRc := hR c.toNat; simp only [inK] at hRa hRb hRc
  refine sR (l := [0, 1, 2, 3]) ?_
  refine wpOps_cons' (mN (l := (regsL R pc)) (t := 40) (v := pt) (d := 3) hA hO ?_)
  clear hA hO fr; intro fr w1 b1 hA hO
  replace hA := hA.sb (e' := [(1, sl), (2, i64 ld), (3, pt b1)])
  refine wpOps_cons' (mN (l := [i32 0, i32 0, i32 0, i32 0, i32 0, i32 0, i32 0, i32 0, i32 0, i32 0, i32 0, i32 0, i32 0, i32 0, i32 0, i32 0, i64 0]) (t := 40) (v := pt) (d := 6) hA hO ?_)
  clear hA hO fr; intro fr w2 b2 hA hO
  refine ck (l := [2]) (r := [3]) (e' := [(1, sl), (2, i64 ld), (3, pt b1), (6, pt b2), (7, i64 0)]) hA [] c0 ?_
  clear hA fr; intro fr hA
  refine wpOps_cons' (mN (l := [i64 0, i64 0, i64 0, i64 0, i64 0, i64 0, i64 0]) (t := 43) (v := pt) (d := 8) hA hO ?_)
  clear hA hO fr; intro fr w3 b3 hA hO
  refine end_ops ?_
  refine then_normal ?_
  refine sR (l := (rg 0 8)) ?_
  refine ck (l := [0]) (r := (rg 1 7)) (e' := [(2, i64 ld), (3, pt b1), (6, pt b2), (7, i64 0), (8, pt b3), (18, sl)]) hA [] c0 ?_
  clear hA fr; intro fr hA
  refine wpOps_cons' (mK (f := 13) (args := [sl]) (d := (some 19)) (v := .tuple #[.agg #[i64 10, i64 a, i64 b, i64 c, i64 v], i64 0]) hA hO Tryd.func13 (hdec _ hO.only) ?_)
  clear hA hO fr; intro fr w4 hA hO
  replace hA := hA.sb (e' := [(2, i64 ld), (3, pt b1), (6, pt b2), (7, i64 0), (8, pt b3), (19, .tuple #[.agg #[i64 10, i64 a, i64 b, i64 c, i64 v], i64 0])])
  refine ck (l := [2, 3, 4]) (r := [5, 6, 7]) (e' := [(2, i64 ld), (3, pt b1), (6, pt b2), (7, i64 0), (8, pt b3), (20, .agg #[i64 10, i64 a, i64 b, i64 c, i64 v]), (21, i64 0)]) hA [] c0 ?_
  clear hA fr; intro fr hA
  refine wpOps_cons' (mN (l := [i64 0, i64 0, i64 0, i64 0, i64 0]) (t := 25) (v := pt) (d := 9) hA hO ?_)
  clear hA hO fr; intro fr w5 b4 hA hO
  refine wpOps_cons' (mS (off := 0) (vc := [i64 10, i64 a, i64 b, i64 c, i64 v]) 0 hA hO ?_)
  clear hO; intro w6 hO
  replace hA := hA.sb (e' := [(2, i64 ld), (3, pt b1), (6, pt b2), (7, i64 0), (8, pt b3), (9, pt b4), (21, i64 0)])
  refine ck (l := [7]) (r := []) (e' := [(2, i64 ld), (3, pt b1), (6, pt b2), (7, i64 0), (8, pt b3), (9, pt b4), (10, i64 0)]) hA [] c0 ?_
  clear hA fr; intro fr hA
  refine end_ops ?_
  refine then_normal ?_
  refine wp_seq ?_
  refine sC (e' := [(2, i64 ld), (3, pt b1), (6, pt b2), (7, i64 0), (8, pt b3), (9, pt b4), (23, bl false)]) 2 hA [] c0 ?_
  clear hA fr; intro fr hA
  refine cF hA ?_
  refine wp_skip ?_
  refine then_normal ?_
  refine wp_seq ?_
  refine sR (l := (rg 0 8)) ?_
  refine ck (l := [0, 1]) (r := (rg 2 6)) (e' := [(2, i64 ld), (3, pt b1), (6, pt b2), (7, i64 0), (8, pt b3), (9, pt b4), (27, .agg (List.toArray (regsL R pc))), (28, .agg #[i64 10, i64 a, i64 b, i64 c, i64 v])]) hA [.agg (List.toArray (regsL R pc)), .agg #[i64 10, i64 a, i64 b, i64 c, i64 v]] (cc (hO.ln 3 0 40 (regsL R pc)) (cc (hO.ln 0 0 25 [i64 10, i64 a, i64 b, i64 c, i64 v]) c0)) ?_
  clear hA fr; intro fr hA
  refine wpOps_cons' (mK (f := 36) (args := [.agg (List.toArray (regsL R pc)), .agg #[i64 10, i64 a, i64 b, i64 c, i64 v]]) (d := (some 29)) (v := .tuple #[i64 0, i64 0]) hA hO Tryd.func36 (place_any R pc 10 a b c v _ hR hb hb' (by omega) (by omega)) ?_)
  clear hA hO fr; intro fr w7 hA hO
  replace hA := hA.sb (e' := [(2, i64 ld), (3, pt b1), (6, pt b2), (7, i64 0), (8, pt b3), (9, pt b4), (29, .tuple #[i64 0, i64 0])])
  refine ck (l := (rg 3 5)) (r := []) (e' := [(2, i64 ld), (3, pt b1), (6, pt b2), (7, i64 0), (8, pt b3), (9, pt b4), (11, i64 0), (12, i64 0)]) hA [] c0 ?_
  clear hA fr; intro fr hA
  refine end_ops ?_
  refine then_normal ?_
  refine sC (e' := [(2, i64 ld), (3, pt b1), (6, pt b2), (7, i64 0), (8, pt b3), (9, pt b4), (39, bl false)]) 8 hA [] c0 ?_
  clear hA fr; intro fr hA
  refine cF hA ?_
  refine wp_skip ?_
  refine then_normal ?_
  refine wp_seq ?_
  refine sC (e' := [(2, i64 ld), (3, pt b1), (6, pt b2), (7, i64 0), (8, pt b3), (9, pt b4), (57, bl false)]) 16 hA [i64 10, i64 10] (cc (hO.l1 0 0 3 (i64 10)) (cc (hO.l1 0 0 3 (i64 10)) c0)) ?_
  clear hA fr; intro fr hA
  refine cF hA ?_
  refine wp_skip ?_
  refine then_normal ?_
  refine sR (l := [0, 1, 2]) ?_
  refine ck (l := [0]) (r := [1, 2]) (e' := [(2, i64 ld), (3, pt b1), (6, pt b2), (7, i64 0), (8, pt b3), (9, pt b4), (60, .agg (List.toArray (regsL R pc)))]) hA [.agg (List.toArray (regsL R pc))] (cc (hO.ln 3 0 40 (regsL R pc)) c0) ?_
  clear hA fr; intro fr hA
  refine wpOps_cons' (mN (l := [i32 0, i32 0, i32 0, i32 0, i32 0, i32 0, i32 0, i32 0, i32 0, i32 0, i32 0, i32 0, i32 0, i32 0, i32 0, i32 0, i64 0]) (t := 40) (v := pt) (d := 13) hA hO ?_)
  clear hA hO fr; intro fr w8 b5 hA hO
  refine wpOps_cons' (mS (off := 0) (vc := (regsL R pc)) 0 hA hO ?_)
  clear hO; intro w9 hO
  replace hA := hA.sb (e' := [(2, i64 ld), (3, pt b1), (6, pt b2), (7, i64 0), (8, pt b3), (9, pt b4), (13, pt b5)])
  refine end_ops ?_
  refine then_normal ?_
  refine sC (e' := [(2, i64 ld), (3, pt b1), (6, pt b2), (7, i64 0), (8, pt b3), (9, pt b4), (13, pt b5), (14, i64 ((pc + 4) + (4 * v)))]) 8 hA [i64 pc, bl true, i64 v, bl true, bl true] (cc (hO.l1 4 16 3 (i64 pc)) (cc ((inK_i64 (by omega) (by omega)) : inK .i64 (pc + 4)) (cc (hO.l1 1 4 3 (i64 v)) (cc ((inK_i64 (by omega) (by omega)) : inK .i64 (4 * v)) (cc ((inK_i64 (by omega) (by omega)) : inK .i64 ((pc + 4) + (4 * v))) c0))))) ?_
  clear hA fr; intro fr hA
  refine sR (l := (rg 0 5)) ?_
  refine ck (l := [0, 1, 2, 3]) (r := [4]) (e' := [(2, i64 ld), (3, pt b1), (6, pt b2), (7, i64 0), (8, pt b3), (9, pt b4), (13, pt b5), (14, i64 ((pc + 4) + (4 * v))), (70, i64 (pc + 4)), (71, pf b1 16)]) hA [i64 pc, bl true] (cc (hO.l1 4 16 3 (i64 pc)) (cc ((inK_i64 (by omega) (by omega)) : inK .i64 (pc + 4)) c0)) ?_
  clear hA fr; intro fr hA
  refine wpOps_cons' (mSR (off := 16) (ad := ⟨b1, 16, none⟩) (vc := [i64 (pc + 4)]) (l' := (regsL R (pc + 4))) 4 hA hO rfl (by kernel_rfl) (by kernel_rfl) ?_)
  clear hO; intro w10 hO
  replace hA := hA.sb (e' := [(2, i64 ld), (3, pt b1), (6, pt b2), (7, i64 0), (8, pt b3), (9, pt b4), (13, pt b5), (14, i64 ((pc + 4) + (4 * v)))])
  refine end_ops ?_
  refine then_normal ?_
  refine sC (e' := [(2, i64 ld), (3, pt b1), (6, pt b2), (7, i64 0), (8, pt b3), (9, pt b4), (13, pt b5), (14, i64 ((pc + 4) + (4 * v))), (15, .pointer (some ((⟨b1, 0, none⟩ : Addr).add ((a).toNat))))]) 5 hA [i64 a] (cc (hO.l1 1 1 3 (i64 a)) (cc (⟨by omega, by omega⟩ : (0 : Int) ≤ a ∧ a < ((16 : Nat) : Int)) c0)) ?_
  clear hA fr; intro fr hA
  refine wp_seq ?_
  refine sC (e' := [(2, i64 ld), (3, pt b1), (6, pt b2), (7, i64 0), (8, pt b3), (9, pt b4), (13, pt b5), (14, i64 ((pc + 4) + (4 * v))), (15, .pointer (some ((⟨b1, 0, none⟩ : Addr).add ((a).toNat)))), (77, i64 10)]) 2 hA [i64 10] (cc (hO.l1 1 0 3 (i64 10)) c0) ?_
  clear hA fr; intro fr hA
  refine wp_block ?_
  refine sC (e' := [(2, i64 ld), (3, pt b1), (6, pt b2), (7, i64 0), (8, pt b3), (9, pt b4), (13, pt b5), (14, i64 ((pc + 4) + (4 * v))), (15, .pointer (some ((⟨b1, 0, none⟩ : Addr).add ((a).toNat)))), (77, i64 10), (93, bl false)]) 2 hA [] c0 ?_
  clear hA fr; intro fr hA
  refine cF hA ?_
  refine sC (e' := [(2, i64 ld), (3, pt b1), (6, pt b2), (7, i64 0), (8, pt b3), (9, pt b4), (13, pt b5), (14, i64 ((pc + 4) + (4 * v))), (15, .pointer (some ((⟨b1, 0, none⟩ : Addr).add ((a).toNat)))), (77, i64 10), (100, bl false)]) 2 hA [] c0 ?_
  clear hA fr; intro fr hA
  refine cF hA ?_
  refine sC (e' := [(2, i64 ld), (3, pt b1), (6, pt b2), (7, i64 0), (8, pt b3), (9, pt b4), (13, pt b5), (14, i64 ((pc + 4) + (4 * v))), (15, .pointer (some ((⟨b1, 0, none⟩ : Addr).add ((a).toNat)))), (77, i64 10), (111, bl false)]) 2 hA [] c0 ?_
  clear hA fr; intro fr hA
  refine cF hA ?_
  refine sC (e' := [(2, i64 ld), (3, pt b1), (6, pt b2), (7, i64 0), (8, pt b3), (9, pt b4), (13, pt b5), (14, i64 ((pc + 4) + (4 * v))), (15, .pointer (some ((⟨b1, 0, none⟩ : Addr).add ((a).toNat)))), (77, i64 10), (124, bl false)]) 2 hA [] c0 ?_
  clear hA fr; intro fr hA
  refine cF hA ?_
  refine sC (e' := [(2, i64 ld), (3, pt b1), (6, pt b2), (7, i64 0), (8, pt b3), (9, pt b4), (13, pt b5), (14, i64 ((pc + 4) + (4 * v))), (15, .pointer (some ((⟨b1, 0, none⟩ : Addr).add ((a).toNat)))), (77, i64 10), (130, bl false)]) 2 hA [] c0 ?_
  clear hA fr; intro fr hA
  refine cF hA ?_
  refine sC (e' := [(3, pt b1), (6, pt b2), (7, i64 0), (8, pt b3), (9, pt b4), (13, pt b5), (14, i64 ((pc + 4) + (4 * v))), (15, .pointer (some ((⟨b1, 0, none⟩ : Addr).add ((a).toNat)))), (77, i64 10), (137, bl false)]) 2 hA [] c0 ?_
  clear hA fr; intro fr hA
  refine cF hA ?_
  refine sC (e' := [(3, pt b1), (6, pt b2), (7, i64 0), (8, pt b3), (9, pt b4), (13, pt b5), (14, i64 ((pc + 4) + (4 * v))), (15, .pointer (some ((⟨b1, 0, none⟩ : Addr).add ((a).toNat)))), (77, i64 10), (145, bl false)]) 2 hA [] c0 ?_
  clear hA fr; intro fr hA
  refine cF hA ?_
  refine sC (e' := [(3, pt b1), (6, pt b2), (7, i64 0), (8, pt b3), (9, pt b4), (13, pt b5), (14, i64 ((pc + 4) + (4 * v))), (15, .pointer (some ((⟨b1, 0, none⟩ : Addr).add ((a).toNat)))), (77, i64 10), (154, bl false)]) 2 hA [] c0 ?_
  clear hA fr; intro fr hA
  refine cF hA ?_
  refine sC (e' := [(3, pt b1), (6, pt b2), (7, i64 0), (8, pt b3), (9, pt b4), (13, pt b5), (14, i64 ((pc + 4) + (4 * v))), (15, .pointer (some ((⟨b1, 0, none⟩ : Addr).add ((a).toNat)))), (77, i64 10), (158, bl false)]) 2 hA [] c0 ?_
  clear hA fr; intro fr hA
  refine cF hA ?_
  refine sC (e' := [(3, pt b1), (6, pt b2), (7, i64 0), (8, pt b3), (9, pt b4), (13, pt b5), (14, i64 ((pc + 4) + (4 * v))), (15, .pointer (some ((⟨b1, 0, none⟩ : Addr).add ((a).toNat)))), (77, i64 10), (166, bl false)]) 2 hA [] c0 ?_
  clear hA fr; intro fr hA
  refine cF hA ?_
  refine sC (e' := [(3, pt b1), (6, pt b2), (7, i64 0), (8, pt b3), (9, pt b4), (13, pt b5), (15, .pointer (some ((⟨b1, 0, none⟩ : Addr).add ((a).toNat)))), (77, i64 10), (175, bl false)]) 2 hA [] c0 ?_
  clear hA fr; intro fr hA
  refine cF hA ?_
  refine sC (e' := [(3, pt b1), (6, pt b2), (7, i64 0), (8, pt b3), (9, pt b4), (13, pt b5), (15, .pointer (some ((⟨b1, 0, none⟩ : Addr).add ((a).toNat)))), (182, bl false)]) 2 hA [] c0 ?_
  clear hA fr; intro fr hA
  refine cF hA ?_
  have hS : Ow Tryd.prog none' w _ [(b5, 40, (regsL R pc)), (b4, 25, [i64 10, i64 a, i64 b, i64 c, i64 v]), (b3, 43, [i64 0, i64 0, i64 0, i64 0, i64 0, i64 0, i64 0]), (b2, 40, [i32 0, i32 0, i32 0, i32 0, i32 0, i32 0, i32 0, i32 0, i32 0, i32 0, i32 0, i32 0, i32 0, i32 0, i32 0, i32 0, i64 0])] := hO.sub [0, 1, 2, 3]
  refine rP [(0, true), (1, true), (2, true), (3, true), (4, true), (5, true), (6, true), (7, true), (8, true), (9, true), (10, true), (11, true), (12, true), (13, false), (14, true), (15, false)] hS ?_
  intro w11 ho; replace hO := hO.st ho; clear ho
  refine ckS (l := (rg 0 13)) (r := [(13, false), (14, true), (15, false)]) (e' := [(3, pt b1), (6, pt b2), (7, i64 0), (8, pt b3), (78, .pointer (some ((⟨b1, 0, none⟩ : Addr).add ((a).toNat)))), (80, i64 10), (85, i32 (R ((b).toNat))), (90, i32 (R ((c).toNat)))]) hA [i64 10, i64 b, i32 (R ((b).toNat)), i64 c, i32 (R ((c).toNat))] (cc (hS.s1 1 0 3 (i64 10)) (cc (hS.s1 1 2 3 (i64 b)) (cc (⟨by omega, by omega⟩ : (0 : Int) ≤ b ∧ b < ((16 : Nat) : Int)) (cc (hS.sx ((⟨b5, 0, none⟩ : Addr).add ((b).toNat)) 21 (i32 (R ((b).toNat))) fun _ hO => (ld_regs (hO.b 0) (by omega) (by kernel_rfl))) (cc (hS.s1 1 3 3 (i64 c)) (cc (⟨by omega, by omega⟩ : (0 : Int) ≤ c ∧ c < ((16 : Nat) : Int)) (cc (hS.sx ((⟨b5, 0, none⟩ : Addr).add ((c).toNat)) 21 (i32 (R ((c).toNat))) fun _ hO => (ld_regs (hO.b 0) (by omega) (by kernel_rfl))) c0))))))) ?_
  clear hA fr; intro fr hA
  refine plan_mem (mK (f := 37) (args := [i64 10, i32 (R ((b).toNat)), i32 (R ((c).toNat))]) (d := (some 91)) (v := i32 (arithS 10 (R ((b).toNat)) (R ((c).toNat)))) hA hO Tryd.func37 (arithmetic_any 10 (R ((b).toNat)) (R ((c).toNat)) _ (by omega)) ?_)
  clear hA hO fr; intro fr w12 hA hO
  refine ⟨(hO.sub [0, 1, 2, 3]), ?_⟩
  replace hA := hA.sb (e' := [(3, pt b1), (6, pt b2), (7, i64 0), (8, pt b3), (78, .pointer (some ((⟨b1, 0, none⟩ : Addr).add ((a).toNat)))), (91, i32 (arithS 10 (R ((b).toNat)) (R ((c).toNat))))])
  refine ckS (l := [14]) (r := [(15, false)]) (e' := [(3, pt b1), (6, pt b2), (7, i64 0), (8, pt b3), (91, i32 (arithS 10 (R ((b).toNat)) (R ((c).toNat)))), (92, .pointer (some ((⟨b1, 0, none⟩ : Addr).add ((a).toNat))))]) hA [] c0 ?_
  clear hA fr; intro fr hA
  refine plan_mem (mSR (off := (a).toNat) (ad := (⟨b1, 0, none⟩ : Addr).add ((a).toNat)) (vc := [i32 (arithS 10 (R ((b).toNat)) (R ((c).toNat)))]) (l' := (regsL (upd R ((a).toNat) (arithS 10 (R ((b).toNat)) (R ((c).toNat)))) (pc + 4))) 4 hA hO (add_zero_off _ _) (regs_ble R (pc + 4) (by omega)) (setL_regs (by omega) _) ?_)
  clear hO; intro w13 hO
  refine ⟨(hO.sub [0, 1, 2, 3]), ?_⟩
  replace hA := hA.sb (e' := [(3, pt b1), (6, pt b2), (7, i64 0), (8, pt b3)])
  refine end_plan ?_
  refine inBlock_normal ?_
  refine then_normal ?_
  refine sR (l := (rg 0 5)) ?_
  refine ck (l := [0, 1]) (r := [2, 3, 4]) (e' := [(6, pt b2), (7, i64 0), (8, pt b3), (207, .agg (List.toArray (regsL (upd R ((a).toNat) (arithS 10 (R ((b).toNat)) (R ((c).toNat)))) (pc + 4)))), (208, .agg #[i64 0, i64 0, i64 0, i64 0, i64 0, i64 0, i64 0])]) hA [.agg (List.toArray (regsL (upd R ((a).toNat) (arithS 10 (R ((b).toNat)) (R ((c).toNat)))) (pc + 4)))] (cc (hO.ln 4 0 40 (regsL (upd R ((a).toNat) (arithS 10 (R ((b).toNat)) (R ((c).toNat)))) (pc + 4))) c0) ?_
  clear hA fr; intro fr hA
  refine wpOps_cons' (mS (off := 0) (vc := (regsL (upd R ((a).toNat) (arithS 10 (R ((b).toNat)) (R ((c).toNat)))) (pc + 4))) 3 hA hO ?_)
  clear hO; intro w14 hO
  replace hA := hA.sb (e' := [(6, pt b2), (7, i64 0), (8, pt b3), (208, .agg #[i64 0, i64 0, i64 0, i64 0, i64 0, i64 0, i64 0])])
  refine ck (l := [3]) (r := [4]) (e' := [(6, pt b2), (7, i64 0), (8, pt b3), (208, .agg #[i64 0, i64 0, i64 0, i64 0, i64 0, i64 0, i64 0])]) hA [] c0 ?_
  clear hA fr; intro fr hA
  refine wpOps_cons' (mS (off := 0) (vc := [i64 0, i64 0, i64 0, i64 0, i64 0, i64 0, i64 0]) 2 hA hO ?_)
  clear hO; intro w15 hO
  replace hA := hA.sb (e' := [(6, pt b2), (7, i64 0), (8, pt b3)])
  refine end_ops ?_
  refine then_normal ?_
  refine wp_ret ?_
  refine cR (cs := [some (⟨b2, 0, none⟩, 40), none, some (⟨b3, 0, none⟩, 43)]) (us := [.agg (List.toArray (regsL (upd R ((a).toNat) (arithS 10 (R ((b).toNat)) (R ((c).toNat)))) (pc + 4))), i64 0, .agg #[i64 0, i64 0, i64 0, i64 0, i64 0, i64 0, i64 0]]) hA [.agg (List.toArray (regsL (upd R ((a).toNat) (arithS 10 (R ((b).toNat)) (R ((c).toNat)))) (pc + 4))), .agg #[i64 0, i64 0, i64 0, i64 0, i64 0, i64 0, i64 0]] ⟨(hO.ln 3 0 40 (regsL (upd R ((a).toNat) (arithS 10 (R ((b).toNat)) (R ((c).toNat)))) (pc + 4))), (hO.ln 2 0 43 [i64 0, i64 0, i64 0, i64 0, i64 0, i64 0, i64 0]), trivial⟩ ?_
  have hF := hO.only; clear hA hO
  exact ⟨by simp_all [pack, execV, outV, noTrap, trapL, insV], hF⟩

theorem exec_11 (R : Nat → Int) (pc ld a b c v : Int) (sl : Value) (w : World) (hT : Tab w) (hR : RegsOk R) (hp : -1099511627776 < pc) (hp' : pc < 1099511627776) (ha : 0 ≤ a) (ha' : a ≤ 15) (hb : 0 ≤ b) (hb' : b ≤ 15) (hc : 0 ≤ c) (hc' : c ≤ 15) (hv : -32768 ≤ v) (hv' : v ≤ 32767) (hdec : ∀ w', Only none' w w' → Calls Tryd.prog 13 #[sl] w' fun e w2 => e = .returned (.tuple #[insV 11 a b c v, .int .i64 0]) ∧ Only none' w' w2) :
    Calls Tryd.prog 18 #[.agg (List.toArray (regsL R pc)), sl, i64 ld] w fun e w' => e = .returned (execV R pc ld 11 a b c v) ∧ Only none' w w' := by
  refine c_enter (args := [.agg (List.toArray (regsL R pc)), sl, i64 ld]) (m := 206) (n := 209) Tryd.func18 rfl (by kernel_rfl) (by kernel_rfl) fun fr hA => ?_
  have hO := Ow.nil Tryd.prog none' w
  have hRa := hR a.toNat; have hRb := hR b.toNat; have hRc := hR c.toNat; simp only [inK] at hRa hRb hRc
  refine sR (l := [0, 1, 2, 3]) ?_
  refine wpOps_cons' (mN (l := (regsL R pc)) (t := 40) (v := pt) (d := 3) hA hO ?_)
  clear hA hO fr; intro fr w1 b1 hA hO
  replace hA := hA.sb (e' := [(1, sl), (2, i64 ld), (3, pt b1)])
  refine wpOps_cons' (mN (l := [i32 0, i32 0, i32 0, i32 0, i32 0, i32 0, i32 0, i32 0, i32 0, i32 0, i32 0, i32 0, i32 0, i32 0, i32 0, i32 0, i64 0]) (t := 40) (v := pt) (d := 6) hA hO ?_)
  clear hA hO fr; intro fr w2 b2 hA hO
  refine ck (l := [2]) (r := [3]) (e' := [(1, sl), (2, i64 ld), (3, pt b1), (6, pt b2), (7, i64 0)]) hA [] c0 ?_
  clear hA fr; intro fr hA
  refine wpOps_cons' (mN (l := [i64 0, i64 0, i64 0, i64 0, i64 0, i64 0, i64 0]) (t := 43) (v := pt) (d := 8) hA hO ?_)
  clear hA hO fr; intro fr w3 b3 hA hO
  refine end_ops ?_
  refine then_normal ?_
  refine sR (l := (rg 0 8)) ?_
  refine ck (l := [0]) (r := (rg 1 7)) (e' := [(2, i64 ld), (3, pt b1), (6, pt b2), (7, i64 0), (8, pt b3), (18, sl)]) hA [] c0 ?_
  clear hA fr; intro fr hA
  refine wpOps_cons' (mK (f := 13) (args := [sl]) (d := (some 19)) (v := .tuple #[.agg #[i64 11, i64 a, i64 b, i64 c, i64 v], i64 0]) hA hO Tryd.func13 (hdec _ hO.only) ?_)
  clear hA hO fr; intro fr w4 hA hO
  replace hA := hA.sb (e' := [(2, i64 ld), (3, pt b1), (6, pt b2), (7, i64 0), (8, pt b3), (19, .tuple #[.agg #[i64 11, i64 a, i64 b, i64 c, i64 v], i64 0])])
  refine ck (l := [2, 3, 4]) (r := [5, 6, 7]) (e' := [(2, i64 ld), (3, pt b1), (6, pt b2), (7, i64 0), (8, pt b3), (20, .agg #[i64 11, i64 a, i64 b, i64 c, i64 v]), (21, i64 0)]) hA [] c0 ?_
  clear hA fr; intro fr hA
  refine wpOps_cons' (mN (l := [i64 0, i64 0, i64 0, i64 0, i64 0]) (t := 25) (v := pt) (d := 9) hA hO ?_)
  clear hA hO fr; intro fr w5 b4 hA hO
  refine wpOps_cons' (mS (off := 0) (vc := [i64 11, i64 a, i64 b, i64 c, i64 v]) 0 hA hO ?_)
  clear hO; intro w6 hO
  replace hA := hA.sb (e' := [(2, i64 ld), (3, pt b1), (6, pt b2), (7, i64 0), (8, pt b3), (9, pt b4), (21, i64 0)])
  refine ck (l := [7]) (r := []) (e' := [(2, i64 ld), (3, pt b1), (6, pt b2), (7, i64 0), (8, pt b3), (9, pt b4), (10, i64 0)]) hA [] c0 ?_
  clear hA fr; intro fr hA
  refine end_ops ?_
  refine then_normal ?_
  refine wp_seq ?_
  refine sC (e' := [(2, i64 ld), (3, pt b1), (6, pt b2), (7, i64 0), (8, pt b3), (9, pt b4), (23, bl false)]) 2 hA [] c0 ?_
  clear hA fr; intro fr hA
  refine cF hA ?_
  refine wp_skip ?_
  refine then_normal ?_
  refine wp_seq ?_
  refine sR (l := (rg 0 8)) ?_
  refine ck (l := [0, 1]) (r := (rg 2 6)) (e' := [(2, i64 ld), (3, pt b1), (6, pt b2), (7, i64 0), (8, pt b3), (9, pt b4), (27, .agg (List.toArray (regsL R pc))), (28, .agg #[i64 11, i64 a, i64 b, i64 c, i64 v])]) hA [.agg (List.toArray (regsL R pc)), .agg #[i64 11, i64 a, i64 b, i64 c, i64 v]] (cc (hO.ln 3 0 40 (regsL R pc)) (cc (hO.ln 0 0 25 [i64 11, i64 a, i64 b, i64 c, i64 v]) c0)) ?_
  clear hA fr; intro fr hA
  refine wpOps_cons' (mK (f := 36) (args := [.agg (List.toArray (regsL R pc)), .agg #[i64 11, i64 a, i64 b, i64 c, i64 v]]) (d := (some 29)) (v := .tuple #[i64 0, i64 0]) hA hO Tryd.func36 (place_any R pc 11 a b c v _ hR hb hb' (by omega) (by omega)) ?_)
  clear hA hO fr; intro fr w7 hA hO
  replace hA := hA.sb (e' := [(2, i64 ld), (3, pt b1), (6, pt b2), (7, i64 0), (8, pt b3), (9, pt b4), (29, .tuple #[i64 0, i64 0])])
  refine ck (l := (rg 3 5)) (r := []) (e' := [(2, i64 ld), (3, pt b1), (6, pt b2), (7, i64 0), (8, pt b3), (9, pt b4), (11, i64 0), (12, i64 0)]) hA [] c0 ?_
  clear hA fr; intro fr hA
  refine end_ops ?_
  refine then_normal ?_
  refine sC (e' := [(2, i64 ld), (3, pt b1), (6, pt b2), (7, i64 0), (8, pt b3), (9, pt b4), (39, bl false)]) 8 hA [] c0 ?_
  clear hA fr; intro fr hA
  refine cF hA ?_
  refine wp_skip ?_
  refine then_normal ?_
  refine wp_seq ?_
  refine sC (e' := [(2, i64 ld), (3, pt b1), (6, pt b2), (7, i64 0), (8, pt b3), (9, pt b4), (57, bl false)]) 16 hA [i64 11, i64 11] (cc (hO.l1 0 0 3 (i64 11)) (cc (hO.l1 0 0 3 (i64 11)) c0)) ?_
  clear hA fr; intro fr hA
  refine cF hA ?_
  refine wp_skip ?_
  refine then_normal ?_
  refine sR (l := [0, 1, 2]) ?_
  refine ck (l := [0]) (r := [1, 2]) (e' := [(2, i64 ld), (3, pt b1), (6, pt b2), (7, i64 0), (8, pt b3), (9, pt b4), (60, .agg (List.toArray (regsL R pc)))]) hA [.agg (List.toArray (regsL R pc))] (cc (hO.ln 3 0 40 (regsL R pc)) c0) ?_
  clear hA fr; intro fr hA
  refine wpOps_cons' (mN (l := [i32 0, i32 0, i32 0, i32 0, i32 0, i32 0, i32 0, i32 0, i32 0, i32 0, i32 0, i32 0, i32 0, i32 0, i32 0, i32 0, i64 0]) (t := 40) (v := pt) (d := 13) hA hO ?_)
  clear hA hO fr; intro fr w8 b5 hA hO
  refine wpOps_cons' (mS (off := 0) (vc := (regsL R pc)) 0 hA hO ?_)
  clear hO; intro w9 hO
  replace hA := hA.sb (e' := [(2, i64 ld), (3, pt b1), (6, pt b2), (7, i64 0), (8, pt b3), (9, pt b4), (13, pt b5)])
  refine end_ops ?_
  refine then_normal ?_
  refine sC (e' := [(2, i64 ld), (3, pt b1), (6, pt b2), (7, i64 0), (8, pt b3), (9, pt b4), (13, pt b5), (14, i64 ((pc + 4) + (4 * v)))]) 8 hA [i64 pc, bl true, i64 v, bl true, bl true] (cc (hO.l1 4 16 3 (i64 pc)) (cc ((inK_i64 (by omega) (by omega)) : inK .i64 (pc + 4)) (cc (hO.l1 1 4 3 (i64 v)) (cc ((inK_i64 (by omega) (by omega)) : inK .i64 (4 * v)) (cc ((inK_i64 (by omega) (by omega)) : inK .i64 ((pc + 4) + (4 * v))) c0))))) ?_
  clear hA fr; intro fr hA
  refine sR (l := (rg 0 5)) ?_
  refine ck (l := [0, 1, 2, 3]) (r := [4]) (e' := [(2, i64 ld), (3, pt b1), (6, pt b2), (7, i64 0), (8, pt b3), (9, pt b4), (13, pt b5), (14, i64 ((pc + 4) + (4 * v))), (70, i64 (pc + 4)), (71, pf b1 16)]) hA [i64 pc, bl true] (cc (hO.l1 4 16 3 (i64 pc)) (cc ((inK_i64 (by omega) (by omega)) : inK .i64 (pc + 4)) c0)) ?_
  clear hA fr; intro fr hA
  refine wpOps_cons' (mSR (off := 16) (ad := ⟨b1, 16, none⟩) (vc := [i64 (pc + 4)]) (l' := (regsL R (pc + 4))) 4 hA hO rfl (by kernel_rfl) (by kernel_rfl) ?_)
  clear hO; intro w10 hO
  replace hA := hA.sb (e' := [(2, i64 ld), (3, pt b1), (6, pt b2), (7, i64 0), (8, pt b3), (9, pt b4), (13, pt b5), (14, i64 ((pc + 4) + (4 * v)))])
  refine end_ops ?_
  refine then_normal ?_
  refine sC (e' := [(2, i64 ld), (3, pt b1), (6, pt b2), (7, i64 0), (8, pt b3), (9, pt b4), (13, pt b5), (14, i64 ((pc + 4) + (4 * v))), (15, .pointer (some ((⟨b1, 0, none⟩ : Addr).add ((a).toNat))))]) 5 hA [i64 a] (cc (hO.l1 1 1 3 (i64 a)) (cc (⟨by omega, by omega⟩ : (0 : Int) ≤ a ∧ a < ((16 : Nat) : Int)) c0)) ?_
  clear hA fr; intro fr hA
  refine wp_seq ?_
  refine sC (e' := [(2, i64 ld), (3, pt b1), (6, pt b2), (7, i64 0), (8, pt b3), (9, pt b4), (13, pt b5), (14, i64 ((pc + 4) + (4 * v))), (15, .pointer (some ((⟨b1, 0, none⟩ : Addr).add ((a).toNat)))), (77, i64 11)]) 2 hA [i64 11] (cc (hO.l1 1 0 3 (i64 11)) c0) ?_
  clear hA fr; intro fr hA
  refine wp_block ?_
  refine sC (e' := [(2, i64 ld), (3, pt b1), (6, pt b2), (7, i64 0), (8, pt b3), (9, pt b4), (13, pt b5), (14, i64 ((pc + 4) + (4 * v))), (15, .pointer (some ((⟨b1, 0, none⟩ : Addr).add ((a).toNat)))), (77, i64 11), (93, bl false)]) 2 hA [] c0 ?_
  clear hA fr; intro fr hA
  refine cF hA ?_
  refine sC (e' := [(2, i64 ld), (3, pt b1), (6, pt b2), (7, i64 0), (8, pt b3), (9, pt b4), (13, pt b5), (14, i64 ((pc + 4) + (4 * v))), (15, .pointer (some ((⟨b1, 0, none⟩ : Addr).add ((a).toNat)))), (77, i64 11), (100, bl false)]) 2 hA [] c0 ?_
  clear hA fr; intro fr hA
  refine cF hA ?_
  refine sC (e' := [(2, i64 ld), (3, pt b1), (6, pt b2), (7, i64 0), (8, pt b3), (9, pt b4), (13, pt b5), (14, i64 ((pc + 4) + (4 * v))), (15, .pointer (some ((⟨b1, 0, none⟩ : Addr).add ((a).toNat)))), (77, i64 11), (111, bl false)]) 2 hA [] c0 ?_
  clear hA fr; intro fr hA
  refine cF hA ?_
  refine sC (e' := [(2, i64 ld), (3, pt b1), (6, pt b2), (7, i64 0), (8, pt b3), (9, pt b4), (13, pt b5), (14, i64 ((pc + 4) + (4 * v))), (15, .pointer (some ((⟨b1, 0, none⟩ : Addr).add ((a).toNat)))), (77, i64 11), (124, bl false)]) 2 hA [] c0 ?_
  clear hA fr; intro fr hA
  refine cF hA ?_
  refine sC (e' := [(2, i64 ld), (3, pt b1), (6, pt b2), (7, i64 0), (8, pt b3), (9, pt b4), (13, pt b5), (14, i64 ((pc + 4) + (4 * v))), (15, .pointer (some ((⟨b1, 0, none⟩ : Addr).add ((a).toNat)))), (77, i64 11), (130, bl false)]) 2 hA [] c0 ?_
  clear hA fr; intro fr hA
  refine cF hA ?_
  refine sC (e' := [(3, pt b1), (6, pt b2), (7, i64 0), (8, pt b3), (9, pt b4), (13, pt b5), (14, i64 ((pc + 4) + (4 * v))), (15, .pointer (some ((⟨b1, 0, none⟩ : Addr).add ((a).toNat)))), (77, i64 11), (137, bl false)]) 2 hA [] c0 ?_
  clear hA fr; intro fr hA
  refine cF hA ?_
  refine sC (e' := [(3, pt b1), (6, pt b2), (7, i64 0), (8, pt b3), (9, pt b4), (13, pt b5), (14, i64 ((pc + 4) + (4 * v))), (15, .pointer (some ((⟨b1, 0, none⟩ : Addr).add ((a).toNat)))), (77, i64 11), (145, bl false)]) 2 hA [] c0 ?_
  clear hA fr; intro fr hA
  refine cF hA ?_
  refine sC (e' := [(3, pt b1), (6, pt b2), (7, i64 0), (8, pt b3), (9, pt b4), (13, pt b5), (14, i64 ((pc + 4) + (4 * v))), (15, .pointer (some ((⟨b1, 0, none⟩ : Addr).add ((a).toNat)))), (77, i64 11), (154, bl false)]) 2 hA [] c0 ?_
  clear hA fr; intro fr hA
  refine cF hA ?_
  refine sC (e' := [(3, pt b1), (6, pt b2), (7, i64 0), (8, pt b3), (9, pt b4), (13, pt b5), (14, i64 ((pc + 4) + (4 * v))), (15, .pointer (some ((⟨b1, 0, none⟩ : Addr).add ((a).toNat)))), (77, i64 11), (158, bl false)]) 2 hA [] c0 ?_
  clear hA fr; intro fr hA
  refine cF hA ?_
  refine sC (e' := [(3, pt b1), (6, pt b2), (7, i64 0), (8, pt b3), (9, pt b4), (13, pt b5), (14, i64 ((pc + 4) + (4 * v))), (15, .pointer (some ((⟨b1, 0, none⟩ : Addr).add ((a).toNat)))), (77, i64 11), (166, bl false)]) 2 hA [] c0 ?_
  clear hA fr; intro fr hA
  refine cF hA ?_
  refine sC (e' := [(3, pt b1), (6, pt b2), (7, i64 0), (8, pt b3), (9, pt b4), (13, pt b5), (15, .pointer (some ((⟨b1, 0, none⟩ : Addr).add ((a).toNat)))), (77, i64 11), (175, bl false)]) 2 hA [] c0 ?_
  clear hA fr; intro fr hA
  refine cF hA ?_
  refine sC (e' := [(3, pt b1), (6, pt b2), (7, i64 0), (8, pt b3), (9, pt b4), (13, pt b5), (15, .pointer (some ((⟨b1, 0, none⟩ : Addr).add ((a).toNat)))), (182, bl false)]) 2 hA [] c0 ?_
  clear hA fr; intro fr hA
  refine cF hA ?_
  have hS : Ow Tryd.prog none' w _ [(b5, 40, (regsL R pc)), (b4, 25, [i64 11, i64 a, i64 b, i64 c, i64 v]), (b3, 43, [i64 0, i64 0, i64 0, i64 0, i64 0, i64 0, i64 0]), (b2, 40, [i32 0, i32 0, i32 0, i32 0, i32 0, i32 0, i32 0, i32 0, i32 0, i32 0, i32 0, i32 0, i32 0, i32 0, i32 0, i32 0, i64 0])] := hO.sub [0, 1, 2, 3]
  refine rP [(0, true), (1, true), (2, true), (3, true), (4, true), (5, true), (6, true), (7, true), (8, true), (9, true), (10, true), (11, true), (12, true), (13, false), (14, true), (15, false)] hS ?_
  intro w11 ho; replace hO := hO.st ho; clear ho
  refine ckS (l := (rg 0 13)) (r := [(13, false), (14, true), (15, false)]) (e' := [(3, pt b1), (6, pt b2), (7, i64 0), (8, pt b3), (78, .pointer (some ((⟨b1, 0, none⟩ : Addr).add ((a).toNat)))), (80, i64 11), (85, i32 (R ((b).toNat))), (90, i32 (R ((c).toNat)))]) hA [i64 11, i64 b, i32 (R ((b).toNat)), i64 c, i32 (R ((c).toNat))] (cc (hS.s1 1 0 3 (i64 11)) (cc (hS.s1 1 2 3 (i64 b)) (cc (⟨by omega, by omega⟩ : (0 : Int) ≤ b ∧ b < ((16 : Nat) : Int)) (cc (hS.sx ((⟨b5, 0, none⟩ : Addr).add ((b).toNat)) 21 (i32 (R ((b).toNat))) fun _ hO => (ld_regs (hO.b 0) (by omega) (by kernel_rfl))) (cc (hS.s1 1 3 3 (i64 c)) (cc (⟨by omega, by omega⟩ : (0 : Int) ≤ c ∧ c < ((16 : Nat) : Int)) (cc (hS.sx ((⟨b5, 0, none⟩ : Addr).add ((c).toNat)) 21 (i32 (R ((c).toNat))) fun _ hO => (ld_regs (hO.b 0) (by omega) (by kernel_rfl))) c0))))))) ?_
  clear hA fr; intro fr hA
  refine plan_mem (mK (f := 37) (args := [i64 11, i32 (R ((b).toNat)), i32 (R ((c).toNat))]) (d := (some 91)) (v := i32 (arithS 11 (R ((b).toNat)) (R ((c).toNat)))) hA hO Tryd.func37 (arithmetic_any 11 (R ((b).toNat)) (R ((c).toNat)) _ (by omega)) ?_)
  clear hA hO fr; intro fr w12 hA hO
  refine ⟨(hO.sub [0, 1, 2, 3]), ?_⟩
  replace hA := hA.sb (e' := [(3, pt b1), (6, pt b2), (7, i64 0), (8, pt b3), (78, .pointer (some ((⟨b1, 0, none⟩ : Addr).add ((a).toNat)))), (91, i32 (arithS 11 (R ((b).toNat)) (R ((c).toNat))))])
  refine ckS (l := [14]) (r := [(15, false)]) (e' := [(3, pt b1), (6, pt b2), (7, i64 0), (8, pt b3), (91, i32 (arithS 11 (R ((b).toNat)) (R ((c).toNat)))), (92, .pointer (some ((⟨b1, 0, none⟩ : Addr).add ((a).toNat))))]) hA [] c0 ?_
  clear hA fr; intro fr hA
  refine plan_mem (mSR (off := (a).toNat) (ad := (⟨b1, 0, none⟩ : Addr).add ((a).toNat)) (vc := [i32 (arithS 11 (R ((b).toNat)) (R ((c).toNat)))]) (l' := (regsL (upd R ((a).toNat) (arithS 11 (R ((b).toNat)) (R ((c).toNat)))) (pc + 4))) 4 hA hO (add_zero_off _ _) (regs_ble R (pc + 4) (by omega)) (setL_regs (by omega) _) ?_)
  clear hO; intro w13 hO
  refine ⟨(hO.sub [0, 1, 2, 3]), ?_⟩
  replace hA := hA.sb (e' := [(3, pt b1), (6, pt b2), (7, i64 0), (8, pt b3)])
  refine end_plan ?_
  refine inBlock_normal ?_
  refine then_normal ?_
  refine sR (l := (rg 0 5)) ?_
  refine ck (l := [0, 1]) (r := [2, 3, 4]) (e' := [(6, pt b2), (7, i64 0), (8, pt b3), (207, .agg (List.toArray (regsL (upd R ((a).toNat) (arithS 11 (R ((b).toNat)) (R ((c).toNat)))) (pc + 4)))), (208, .agg #[i64 0, i64 0, i64 0, i64 0, i64 0, i64 0, i64 0])]) hA [.agg (List.toArray (regsL (upd R ((a).toNat) (arithS 11 (R ((b).toNat)) (R ((c).toNat)))) (pc + 4)))] (cc (hO.ln 4 0 40 (regsL (upd R ((a).toNat) (arithS 11 (R ((b).toNat)) (R ((c).toNat)))) (pc + 4))) c0) ?_
  clear hA fr; intro fr hA
  refine wpOps_cons' (mS (off := 0) (vc := (regsL (upd R ((a).toNat) (arithS 11 (R ((b).toNat)) (R ((c).toNat)))) (pc + 4))) 3 hA hO ?_)
  clear hO; intro w14 hO
  replace hA := hA.sb (e' := [(6, pt b2), (7, i64 0), (8, pt b3), (208, .agg #[i64 0, i64 0, i64 0, i64 0, i64 0, i64 0, i64 0])])
  refine ck (l := [3]) (r := [4]) (e' := [(6, pt b2), (7, i64 0), (8, pt b3), (208, .agg #[i64 0, i64 0, i64 0, i64 0, i64 0, i64 0, i64 0])]) hA [] c0 ?_
  clear hA fr; intro fr hA
  refine wpOps_cons' (mS (off := 0) (vc := [i64 0, i64 0, i64 0, i64 0, i64 0, i64 0, i64 0]) 2 hA hO ?_)
  clear hO; intro w15 hO
  replace hA := hA.sb (e' := [(6, pt b2), (7, i64 0), (8, pt b3)])
  refine end_ops ?_
  refine then_normal ?_
  refine wp_ret ?_
  refine cR (cs := [some (⟨b2, 0, none⟩, 40), none, some (⟨b3, 0, none⟩, 43)]) (us := [.agg (List.toArray (regsL (upd R ((a).toNat) (arithS 11 (R ((b).toNat)) (R ((c).toNat)))) (pc + 4))), i64 0, .agg #[i64 0, i64 0, i64 0, i64 0, i64 0, i64 0, i64 0]]) hA [.agg (List.toArray (regsL (upd R ((a).toNat) (arithS 11 (R ((b).toNat)) (R ((c).toNat)))) (pc + 4))), .agg #[i64 0, i64 0, i64 0, i64 0, i64 0, i64 0, i64 0]] ⟨(hO.ln 3 0 40 (regsL (upd R ((a).toNat) (arithS 11 (R ((b).toNat)) (R ((c).toNat)))) (pc + 4))), (hO.ln 2 0 43 [i64 0, i64 0, i64 0, i64 0, i64 0, i64 0, i64 0]), trivial⟩ ?_
  have hF := hO.only; clear hA hO
  exact ⟨by simp_all [pack, execV, outV, noTrap, trapL, insV], hF⟩

end Go.Proofs.YtcaokjdihhbkjaaDoor
