/- The layer cpu: walks of the reference: Exec. -/
import Derived.Test.YtcaokjdihhbkjaaDoorRvalue
set_option linter.unusedVariables false
set_option linter.unusedSimpArgs false
set_option maxRecDepth 10000
namespace Go.Proofs.YtcaokjdihhbkjaaDoor
open Go Go.RowKit Go.Proofs.Sx

theorem rexec_1 (R : Nat → Int) (pc ld a b c v : Int) (sl : Value) (w : World) (hT : Tab w) (hR : RegsOk R) (hp : -1099511627776 < pc) (hp' : pc < 1099511627776) (ha : 0 ≤ a) (ha' : a ≤ 15) (hb : 0 ≤ b) (hb' : b ≤ 15) (hc : -128 ≤ c) (hc' : c ≤ 127) (hv : -32768 ≤ v) (hv' : v ≤ 32767) (hdec : ∀ w', Only none' w w' → Calls Tryd.prog 14 #[sl] w' fun e w2 => e = .returned (.tuple #[insV 1 a b c v, .int .i64 0]) ∧ Only none' w' w2) :
    Calls Tryd.prog 23 #[.agg (List.toArray (regsL R pc)), sl, i64 ld] w fun e w' => e = .returned (execV R pc ld 1 a b c v) ∧ Only none' w w' := by
  refine c_enter (args := [.agg (List.toArray (regsL R pc)), sl, i64 ld]) (m := 226) (n := 229) Tryd.func23 rfl (by kernel_rfl) (by kernel_rfl) fun fr hA => ?_
  have hO := Ow.nil Tryd.prog none' w
  have hRa := hR a.toNat; have hRb := hR b.toNat; have hRc := hR c.toNat; simp only [inK] at hRa hRb hRc
  skip
  refine sR (l := [0, 1, 2, 3]) ?_
  refine wpOps_cons' (mN (l := (regsL R pc)) (t := 38) (v := pt) (d := 3) hA hO ?_)
  clear hA hO fr; intro fr w1 b1 hA hO
  replace hA := hA.sb (e' := [(1, sl), (2, i64 ld), (3, pt b1)])
  refine wpOps_cons' (mN (l := [i32 0, i32 0, i32 0, i32 0, i32 0, i32 0, i32 0, i32 0, i32 0, i32 0, i32 0, i32 0, i32 0, i32 0, i32 0, i32 0, i64 0]) (t := 38) (v := pt) (d := 6) hA hO ?_)
  clear hA hO fr; intro fr w2 b2 hA hO
  refine ck (l := [2]) (r := [3]) (e' := [(1, sl), (2, i64 ld), (3, pt b1), (6, pt b2), (7, i64 0)]) hA [] c0 ?_
  clear hA fr; intro fr hA
  refine wpOps_cons' (mN (l := [i64 0, i64 0, i64 0, i64 0, i64 0, i64 0, i64 0]) (t := 56) (v := pt) (d := 8) hA hO ?_)
  clear hA hO fr; intro fr w3 b3 hA hO
  refine end_ops ?_
  refine then_normal ?_
  refine sR (l := (rg 0 8)) ?_
  refine ck (l := [0]) (r := (rg 1 7)) (e' := [(2, i64 ld), (3, pt b1), (6, pt b2), (7, i64 0), (8, pt b3), (15, sl)]) hA [] c0 ?_
  clear hA fr; intro fr hA
  refine wpOps_cons' (mK (f := 14) (args := [sl]) (d := (some 16)) (v := .tuple #[.agg #[i64 1, i64 a, i64 b, i64 c, i64 v], i64 0]) hA hO Tryd.func14 (hdec _ hO.only) ?_)
  clear hA hO fr; intro fr w4 hA hO
  replace hA := hA.sb (e' := [(2, i64 ld), (3, pt b1), (6, pt b2), (7, i64 0), (8, pt b3), (16, .tuple #[.agg #[i64 1, i64 a, i64 b, i64 c, i64 v], i64 0])])
  refine ck (l := [2, 3, 4]) (r := [5, 6, 7]) (e' := [(2, i64 ld), (3, pt b1), (6, pt b2), (7, i64 0), (8, pt b3), (17, .agg #[i64 1, i64 a, i64 b, i64 c, i64 v]), (18, i64 0)]) hA [] c0 ?_
  clear hA fr; intro fr hA
  refine wpOps_cons' (mN (l := [i64 0, i64 0, i64 0, i64 0, i64 0]) (t := 29) (v := pt) (d := 9) hA hO ?_)
  clear hA hO fr; intro fr w5 b4 hA hO
  refine wpOps_cons' (mS (off := 0) (vc := [i64 1, i64 a, i64 b, i64 c, i64 v]) 0 hA hO ?_)
  clear hO; intro w6 hO
  replace hA := hA.sb (e' := [(2, i64 ld), (3, pt b1), (6, pt b2), (7, i64 0), (8, pt b3), (9, pt b4), (18, i64 0)])
  refine ck (l := [7]) (r := []) (e' := [(2, i64 ld), (3, pt b1), (6, pt b2), (7, i64 0), (8, pt b3), (9, pt b4), (10, i64 0)]) hA [] c0 ?_
  clear hA fr; intro fr hA
  refine end_ops ?_
  refine then_normal ?_
  refine wp_seq ?_
  refine sC (e' := [(2, i64 ld), (3, pt b1), (6, pt b2), (7, i64 0), (8, pt b3), (9, pt b4), (20, bl false)]) 2 hA [] c0 ?_
  clear hA fr; intro fr hA
  refine cF hA ?_
  refine wp_skip ?_
  refine then_normal ?_
  refine wp_seq ?_
  have hS := hO
  refine rP [(0, true), (1, true), (2, true), (3, true), (4, true), (5, true), (6, true), (7, true), (8, true), (9, true), (10, true), (11, true), (12, true), (13, true)] hS ?_
  intro w7 ho; replace hO := hO.st ho; clear ho
  refine ckS (l := (rg 0 14)) (r := []) (e' := [(2, i64 ld), (3, pt b1), (6, pt b2), (7, i64 0), (8, pt b3), (9, pt b4), (11, i64 (R ((a).toNat))), (12, i64 (R ((b).toNat)))]) hA [i64 a, i32 (R ((a).toNat)), bl true, i64 b, i32 (R ((b).toNat)), bl true] (cc (hS.s1 0 1 3 (i64 a)) (cc (⟨by omega, by omega⟩ : (0 : Int) ≤ a ∧ a < ((16 : Nat) : Int)) (cc (hS.sx ((⟨b1, 0, none⟩ : Addr).add ((a).toNat)) 21 (i32 (R ((a).toNat))) fun _ hO => (ld_regs (hO.b 3) (by omega) (by kernel_rfl))) (cc ((inK_up (by kernel_rfl) (hR _)) : inK .i64 (R ((a).toNat))) (cc (hS.s1 0 2 3 (i64 b)) (cc (⟨by omega, by omega⟩ : (0 : Int) ≤ b ∧ b < ((16 : Nat) : Int)) (cc (hS.sx ((⟨b1, 0, none⟩ : Addr).add ((b).toNat)) 21 (i32 (R ((b).toNat))) fun _ hO => (ld_regs (hO.b 3) (by omega) (by kernel_rfl))) (cc ((inK_up (by kernel_rfl) (hR _)) : inK .i64 (R ((b).toNat))) c0)))))))) ?_
  clear hA fr; intro fr hA
  refine end_plan ?_
  refine then_normal ?_
  refine sR (l := [0, 1, 2]) ?_
  refine ck (l := [0]) (r := [1, 2]) (e' := [(2, i64 ld), (3, pt b1), (6, pt b2), (7, i64 0), (8, pt b3), (9, pt b4), (11, i64 (R ((a).toNat))), (12, i64 (R ((b).toNat))), (35, .agg (List.toArray (regsL R pc)))]) hA [.agg (List.toArray (regsL R pc))] (cc (hO.ln 3 0 38 (regsL R pc)) c0) ?_
  clear hA fr; intro fr hA
  refine wpOps_cons' (mN (l := [i32 0, i32 0, i32 0, i32 0, i32 0, i32 0, i32 0, i32 0, i32 0, i32 0, i32 0, i32 0, i32 0, i32 0, i32 0, i32 0, i64 0]) (t := 38) (v := pt) (d := 13) hA hO ?_)
  clear hA hO fr; intro fr w8 b5 hA hO
  refine wpOps_cons' (mS (off := 0) (vc := (regsL R pc)) 0 hA hO ?_)
  clear hO; intro w9 hO
  replace hA := hA.sb (e' := [(2, i64 ld), (3, pt b1), (6, pt b2), (7, i64 0), (8, pt b3), (9, pt b4), (11, i64 (R ((a).toNat))), (12, i64 (R ((b).toNat))), (13, pt b5)])
  refine end_ops ?_
  refine then_normal ?_
  refine sR (l := (rg 0 5)) ?_
  refine ck (l := [0, 1, 2, 3]) (r := [4]) (e' := [(2, i64 ld), (3, pt b1), (6, pt b2), (7, i64 0), (8, pt b3), (9, pt b4), (11, i64 (R ((a).toNat))), (12, i64 (R ((b).toNat))), (13, pt b5), (38, i64 (pc + 4)), (39, pf b5 16)]) hA [i64 pc, bl true] (cc (hO.l1 0 16 3 (i64 pc)) (cc ((inK_i64 (by omega) (by omega)) : inK .i64 (pc + 4)) c0)) ?_
  clear hA fr; intro fr hA
  refine wpOps_cons' (mSR (off := 16) (ad := ⟨b5, 16, none⟩) (vc := [i64 (pc + 4)]) (l' := (regsL R (pc + 4))) 0 hA hO rfl (by kernel_rfl) (by kernel_rfl) ?_)
  clear hO; intro w10 hO
  replace hA := hA.sb (e' := [(2, i64 ld), (3, pt b1), (6, pt b2), (7, i64 0), (8, pt b3), (9, pt b4), (11, i64 (R ((a).toNat))), (12, i64 (R ((b).toNat))), (13, pt b5)])
  refine end_ops ?_
  refine then_normal ?_
  refine wp_seq ?_
  refine sC (e' := [(2, i64 ld), (3, pt b1), (6, pt b2), (7, i64 0), (8, pt b3), (9, pt b4), (11, i64 (R ((a).toNat))), (12, i64 (R ((b).toNat))), (13, pt b5), (41, i64 1)]) 2 hA [i64 1] (cc (hO.l1 1 0 3 (i64 1)) c0) ?_
  clear hA fr; intro fr hA
  refine wp_block ?_
  refine sC (e' := [(2, i64 ld), (3, pt b1), (6, pt b2), (7, i64 0), (8, pt b3), (9, pt b4), (11, i64 (R ((a).toNat))), (12, i64 (R ((b).toNat))), (13, pt b5), (41, i64 1), (57, bl true)]) 2 hA [] c0 ?_
  clear hA fr; intro fr hA
  refine cT hA ?_
  have hS : Ow Tryd.prog none' w _ [(b4, 29, [i64 1, i64 a, i64 b, i64 c, i64 v]), (b3, 56, [i64 0, i64 0, i64 0, i64 0, i64 0, i64 0, i64 0]), (b2, 38, [i32 0, i32 0, i32 0, i32 0, i32 0, i32 0, i32 0, i32 0, i32 0, i32 0, i32 0, i32 0, i32 0, i32 0, i32 0, i32 0, i64 0]), (b1, 38, (regsL R pc))] := hO.sub [1, 2, 3, 4]
  refine rP [(0, true), (1, true), (2, true), (3, true), (5, true), (4, false), (6, true), (7, false)] hS ?_
  intro w11 ho; replace hO := hO.st ho; clear ho
  refine ckS (l := [0, 1, 2, 3, 5]) (r := [(4, false), (6, true), (7, false)]) (e' := [(6, pt b2), (7, i64 0), (8, pt b3), (13, pt b5), (60, i64 a), (62, i64 v), (64, pt b5)]) hA [i64 a, i64 v] (cc (hS.s1 0 1 3 (i64 a)) (cc (hS.s1 0 4 3 (i64 v)) c0)) ?_
  clear hA fr; intro fr hA
  refine plan_mem (mK (f := 38) (args := [i64 v]) (d := (some 63)) (v := i32 v) hA hO Tryd.func38 (rs (word_any v _) (congrArg (Value.int .i32) ((inK_i32 (by omega) (by omega)).wrap))) ?_)
  clear hA hO fr; intro fr w12 hA hO
  refine ⟨(hO.sub [1, 2, 3, 4]), ?_⟩
  replace hA := hA.sb (e' := [(6, pt b2), (7, i64 0), (8, pt b3), (13, pt b5), (60, i64 a), (63, i32 v), (64, pt b5)])
  refine ckS (l := [6]) (r := [(7, false)]) (e' := [(6, pt b2), (7, i64 0), (8, pt b3), (13, pt b5), (63, i32 v), (65, .pointer (some ((⟨b5, 0, none⟩ : Addr).add ((a).toNat))))]) hA [] (cc (⟨by omega, by omega⟩ : (0 : Int) ≤ a ∧ a < ((16 : Nat) : Int)) c0) ?_
  clear hA fr; intro fr hA
  refine plan_mem (mSR (off := (a).toNat) (ad := (⟨b5, 0, none⟩ : Addr).add ((a).toNat)) (vc := [i32 v]) (l' := (regsL (upd R ((a).toNat) v) (pc + 4))) 0 hA hO (add_zero_off _ _) (regs_ble R (pc + 4) (by omega)) (setL_regs (by omega) _) ?_)
  clear hO; intro w13 hO
  refine ⟨(hO.sub [1, 2, 3, 4]), ?_⟩
  replace hA := hA.sb (e' := [(6, pt b2), (7, i64 0), (8, pt b3), (13, pt b5)])
  refine end_plan ?_
  refine inBlock_normal ?_
  refine then_normal ?_
  refine sR (l := (rg 0 5)) ?_
  refine ck (l := [0, 1]) (r := [2, 3, 4]) (e' := [(6, pt b2), (7, i64 0), (8, pt b3), (227, .agg (List.toArray (regsL (upd R ((a).toNat) v) (pc + 4)))), (228, .agg #[i64 0, i64 0, i64 0, i64 0, i64 0, i64 0, i64 0])]) hA [.agg (List.toArray (regsL (upd R ((a).toNat) v) (pc + 4)))] (cc (hO.ln 0 0 38 (regsL (upd R ((a).toNat) v) (pc + 4))) c0) ?_
  clear hA fr; intro fr hA
  refine wpOps_cons' (mS (off := 0) (vc := (regsL (upd R ((a).toNat) v) (pc + 4))) 3 hA hO ?_)
  clear hO; intro w14 hO
  replace hA := hA.sb (e' := [(6, pt b2), (7, i64 0), (8, pt b3), (228, .agg #[i64 0, i64 0, i64 0, i64 0, i64 0, i64 0, i64 0])])
  refine ck (l := [3]) (r := [4]) (e' := [(6, pt b2), (7, i64 0), (8, pt b3), (228, .agg #[i64 0, i64 0, i64 0, i64 0, i64 0, i64 0, i64 0])]) hA [] c0 ?_
  clear hA fr; intro fr hA
  refine wpOps_cons' (mS (off := 0) (vc := [i64 0, i64 0, i64 0, i64 0, i64 0, i64 0, i64 0]) 2 hA hO ?_)
  clear hO; intro w15 hO
  replace hA := hA.sb (e' := [(6, pt b2), (7, i64 0), (8, pt b3)])
  refine end_ops ?_
  refine then_normal ?_
  refine wp_ret ?_
  refine cR (cs := [some (⟨b2, 0, none⟩, 38), none, some (⟨b3, 0, none⟩, 56)]) (us := [.agg (List.toArray (regsL (upd R ((a).toNat) v) (pc + 4))), i64 0, .agg #[i64 0, i64 0, i64 0, i64 0, i64 0, i64 0, i64 0]]) hA [.agg (List.toArray (regsL (upd R ((a).toNat) v) (pc + 4))), .agg #[i64 0, i64 0, i64 0, i64 0, i64 0, i64 0, i64 0]] ⟨(hO.ln 3 0 38 (regsL (upd R ((a).toNat) v) (pc + 4))), (hO.ln 2 0 56 [i64 0, i64 0, i64 0, i64 0, i64 0, i64 0, i64 0]), trivial⟩ ?_
  have hF := hO.only; clear hA hO
  exact ⟨by simp_all [pack, execV, outV, noTrap, trapL, insV], hF⟩

theorem rexec_2 (R : Nat → Int) (pc ld a b c v : Int) (sl : Value) (w : World) (hT : Tab w) (hR : RegsOk R) (hp : -1099511627776 < pc) (hp' : pc < 1099511627776) (ha : 0 ≤ a) (ha' : a ≤ 15) (hb : 0 ≤ b) (hb' : b ≤ 15) (hc : -128 ≤ c) (hc' : c ≤ 127) (hv : -32768 ≤ v) (hv' : v ≤ 32767) (hdec : ∀ w', Only none' w w' → Calls Tryd.prog 14 #[sl] w' fun e w2 => e = .returned (.tuple #[insV 2 a b c v, .int .i64 0]) ∧ Only none' w' w2) :
    Calls Tryd.prog 23 #[.agg (List.toArray (regsL R pc)), sl, i64 ld] w fun e w' => e = .returned (execV R pc ld 2 a b c v) ∧ Only none' w w' := by
  refine c_enter (args := [.agg (List.toArray (regsL R pc)), sl, i64 ld]) (m := 226) (n := 229) Tryd.func23 rfl (by kernel_rfl) (by kernel_rfl) fun fr hA => ?_
  have hO := Ow.nil Tryd.prog none' w
  have hRa := hR a.toNat; have hRb := hR b.toNat; have hRc := hR c.toNat; simp only [inK] at hRa hRb hRc
  skip
  refine sR (l := [0, 1, 2, 3]) ?_
  refine wpOps_cons' (mN (l := (regsL R pc)) (t := 38) (v := pt) (d := 3) hA hO ?_)
  clear hA hO fr; intro fr w1 b1 hA hO
  replace hA := hA.sb (e' := [(1, sl), (2, i64 ld), (3, pt b1)])
  refine wpOps_cons' (mN (l := [i32 0, i32 0, i32 0, i32 0, i32 0, i32 0, i32 0, i32 0, i32 0, i32 0, i32 0, i32 0, i32 0, i32 0, i32 0, i32 0, i64 0]) (t := 38) (v := pt) (d := 6) hA hO ?_)
  clear hA hO fr; intro fr w2 b2 hA hO
  refine ck (l := [2]) (r := [3]) (e' := [(1, sl), (2, i64 ld), (3, pt b1), (6, pt b2), (7, i64 0)]) hA [] c0 ?_
  clear hA fr; intro fr hA
  refine wpOps_cons' (mN (l := [i64 0, i64 0, i64 0, i64 0, i64 0, i64 0, i64 0]) (t := 56) (v := pt) (d := 8) hA hO ?_)
  clear hA hO fr; intro fr w3 b3 hA hO
  refine end_ops ?_
  refine then_normal ?_
  refine sR (l := (rg 0 8)) ?_
  refine ck (l := [0]) (r := (rg 1 7)) (e' := [(2, i64 ld), (3, pt b1), (6, pt b2), (7, i64 0), (8, pt b3), (15, sl)]) hA [] c0 ?_
  clear hA fr; intro fr hA
  refine wpOps_cons' (mK (f := 14) (args := [sl]) (d := (some 16)) (v := .tuple #[.agg #[i64 2, i64 a, i64 b, i64 c, i64 v], i64 0]) hA hO Tryd.func14 (hdec _ hO.only) ?_)
  clear hA hO fr; intro fr w4 hA hO
  replace hA := hA.sb (e' := [(2, i64 ld), (3, pt b1), (6, pt b2), (7, i64 0), (8, pt b3), (16, .tuple #[.agg #[i64 2, i64 a, i64 b, i64 c, i64 v], i64 0])])
  refine ck (l := [2, 3, 4]) (r := [5, 6, 7]) (e' := [(2, i64 ld), (3, pt b1), (6, pt b2), (7, i64 0), (8, pt b3), (17, .agg #[i64 2, i64 a, i64 b, i64 c, i64 v]), (18, i64 0)]) hA [] c0 ?_
  clear hA fr; intro fr hA
  refine wpOps_cons' (mN (l := [i64 0, i64 0, i64 0, i64 0, i64 0]) (t := 29) (v := pt) (d := 9) hA hO ?_)
  clear hA hO fr; intro fr w5 b4 hA hO
  refine wpOps_cons' (mS (off := 0) (vc := [i64 2, i64 a, i64 b, i64 c, i64 v]) 0 hA hO ?_)
  clear hO; intro w6 hO
  replace hA := hA.sb (e' := [(2, i64 ld), (3, pt b1), (6, pt b2), (7, i64 0), (8, pt b3), (9, pt b4), (18, i64 0)])
  refine ck (l := [7]) (r := []) (e' := [(2, i64 ld), (3, pt b1), (6, pt b2), (7, i64 0), (8, pt b3), (9, pt b4), (10, i64 0)]) hA [] c0 ?_
  clear hA fr; intro fr hA
  refine end_ops ?_
  refine then_normal ?_
  refine wp_seq ?_
  refine sC (e' := [(2, i64 ld), (3, pt b1), (6, pt b2), (7, i64 0), (8, pt b3), (9, pt b4), (20, bl false)]) 2 hA [] c0 ?_
  clear hA fr; intro fr hA
  refine cF hA ?_
  refine wp_skip ?_
  refine then_normal ?_
  refine wp_seq ?_
  have hS := hO
  refine rP [(0, true), (1, true), (2, true), (3, true), (4, true), (5, true), (6, true), (7, true), (8, true), (9, true), (10, true), (11, true), (12, true), (13, true)] hS ?_
  intro w7 ho; replace hO := hO.st ho; clear ho
  refine ckS (l := (rg 0 14)) (r := []) (e' := [(2, i64 ld), (3, pt b1), (6, pt b2), (7, i64 0), (8, pt b3), (9, pt b4), (11, i64 (R ((a).toNat))), (12, i64 (R ((b).toNat)))]) hA [i64 a, i32 (R ((a).toNat)), bl true, i64 b, i32 (R ((b).toNat)), bl true] (cc (hS.s1 0 1 3 (i64 a)) (cc (⟨by omega, by omega⟩ : (0 : Int) ≤ a ∧ a < ((16 : Nat) : Int)) (cc (hS.sx ((⟨b1, 0, none⟩ : Addr).add ((a).toNat)) 21 (i32 (R ((a).toNat))) fun _ hO => (ld_regs (hO.b 3) (by omega) (by kernel_rfl))) (cc ((inK_up (by kernel_rfl) (hR _)) : inK .i64 (R ((a).toNat))) (cc (hS.s1 0 2 3 (i64 b)) (cc (⟨by omega, by omega⟩ : (0 : Int) ≤ b ∧ b < ((16 : Nat) : Int)) (cc (hS.sx ((⟨b1, 0, none⟩ : Addr).add ((b).toNat)) 21 (i32 (R ((b).toNat))) fun _ hO => (ld_regs (hO.b 3) (by omega) (by kernel_rfl))) (cc ((inK_up (by kernel_rfl) (hR _)) : inK .i64 (R ((b).toNat))) c0)))))))) ?_
  clear hA fr; intro fr hA
  refine end_plan ?_
  refine then_normal ?_
  refine sR (l := [0, 1, 2]) ?_
  refine ck (l := [0]) (r := [1, 2]) (e' := [(2, i64 ld), (3, pt b1), (6, pt b2), (7, i64 0), (8, pt b3), (9, pt b4), (11, i64 (R ((a).toNat))), (12, i64 (R ((b).toNat))), (35, .agg (List.toArray (regsL R pc)))]) hA [.agg (List.toArray (regsL R pc))] (cc (hO.ln 3 0 38 (regsL R pc)) c0) ?_
  clear hA fr; intro fr hA
  refine wpOps_cons' (mN (l := [i32 0, i32 0, i32 0, i32 0, i32 0, i32 0, i32 0, i32 0, i32 0, i32 0, i32 0, i32 0, i32 0, i32 0, i32 0, i32 0, i64 0]) (t := 38) (v := pt) (d := 13) hA hO ?_)
  clear hA hO fr; intro fr w8 b5 hA hO
  refine wpOps_cons' (mS (off := 0) (vc := (regsL R pc)) 0 hA hO ?_)
  clear hO; intro w9 hO
  replace hA := hA.sb (e' := [(2, i64 ld), (3, pt b1), (6, pt b2), (7, i64 0), (8, pt b3), (9, pt b4), (11, i64 (R ((a).toNat))), (12, i64 (R ((b).toNat))), (13, pt b5)])
  refine end_ops ?_
  refine then_normal ?_
  refine sR (l := (rg 0 5)) ?_
  refine ck (l := [0, 1, 2, 3]) (r := [4]) (e' := [(2, i64 ld), (3, pt b1), (6, pt b2), (7, i64 0), (8, pt b3), (9, pt b4), (11, i64 (R ((a).toNat))), (12, i64 (R ((b).toNat))), (13, pt b5), (38, i64 (pc + 4)), (39, pf b5 16)]) hA [i64 pc, bl true] (cc (hO.l1 0 16 3 (i64 pc)) (cc ((inK_i64 (by omega) (by omega)) : inK .i64 (pc + 4)) c0)) ?_
  clear hA fr; intro fr hA
  refine wpOps_cons' (mSR (off := 16) (ad := ⟨b5, 16, none⟩) (vc := [i64 (pc + 4)]) (l' := (regsL R (pc + 4))) 0 hA hO rfl (by kernel_rfl) (by kernel_rfl) ?_)
  clear hO; intro w10 hO
  replace hA := hA.sb (e' := [(2, i64 ld), (3, pt b1), (6, pt b2), (7, i64 0), (8, pt b3), (9, pt b4), (11, i64 (R ((a).toNat))), (12, i64 (R ((b).toNat))), (13, pt b5)])
  refine end_ops ?_
  refine then_normal ?_
  refine wp_seq ?_
  refine sC (e' := [(2, i64 ld), (3, pt b1), (6, pt b2), (7, i64 0), (8, pt b3), (9, pt b4), (11, i64 (R ((a).toNat))), (12, i64 (R ((b).toNat))), (13, pt b5), (41, i64 2)]) 2 hA [i64 2] (cc (hO.l1 1 0 3 (i64 2)) c0) ?_
  clear hA fr; intro fr hA
  refine wp_block ?_
  refine sC (e' := [(2, i64 ld), (3, pt b1), (6, pt b2), (7, i64 0), (8, pt b3), (9, pt b4), (11, i64 (R ((a).toNat))), (12, i64 (R ((b).toNat))), (13, pt b5), (41, i64 2), (57, bl false)]) 2 hA [] c0 ?_
  clear hA fr; intro fr hA
  refine cF hA ?_
  refine sC (e' := [(2, i64 ld), (3, pt b1), (6, pt b2), (7, i64 0), (8, pt b3), (9, pt b4), (11, i64 (R ((a).toNat))), (12, i64 (R ((b).toNat))), (13, pt b5), (41, i64 2), (66, bl true)]) 2 hA [] c0 ?_
  clear hA fr; intro fr hA
  refine cT hA ?_
  have hS : Ow Tryd.prog none' w _ [(b4, 29, [i64 2, i64 a, i64 b, i64 c, i64 v]), (b3, 56, [i64 0, i64 0, i64 0, i64 0, i64 0, i64 0, i64 0]), (b2, 38, [i32 0, i32 0, i32 0, i32 0, i32 0, i32 0, i32 0, i32 0, i32 0, i32 0, i32 0, i32 0, i32 0, i32 0, i32 0, i32 0, i64 0]), (b1, 38, (regsL R pc))] := hO.sub [1, 2, 3, 4]
  refine rP [(0, true), (1, true), (2, true), (3, true), (4, true), (5, true), (6, true), (8, true), (7, false), (9, true), (10, false)] hS ?_
  intro w11 ho; replace hO := hO.st ho; clear ho
  refine ckS (l := [0, 1, 2, 3, 4, 5, 6, 8]) (r := [(7, false), (9, true), (10, false)]) (e' := [(6, pt b2), (7, i64 0), (8, pt b3), (13, pt b5), (69, i64 a), (74, i64 ((R ((a).toNat)) + (65536 * v))), (76, pt b5)]) hA [i64 a, i64 v, bl true, bl true] (cc (hS.s1 0 1 3 (i64 a)) (cc (hS.s1 0 4 3 (i64 v)) (cc ((inK_i64 (by omega) (by omega)) : inK .i64 (65536 * v)) (cc ((inK_i64 (by omega) (by omega)) : inK .i64 ((R ((a).toNat)) + (65536 * v))) c0)))) ?_
  clear hA fr; intro fr hA
  refine plan_mem (mK (f := 38) (args := [i64 ((R ((a).toNat)) + (65536 * v))]) (d := (some 75)) (v := i32 (IntKind.i32.wrap (R a.toNat + v * 65536))) hA hO Tryd.func38 (rs (word_any ((R ((a).toNat)) + (65536 * v)) _) (congrArg (Value.int .i32) (congrArg IntKind.i32.wrap (by rw [Int.mul_comm])))) ?_)
  clear hA hO fr; intro fr w12 hA hO
  refine ⟨(hO.sub [1, 2, 3, 4]), ?_⟩
  replace hA := hA.sb (e' := [(6, pt b2), (7, i64 0), (8, pt b3), (13, pt b5), (69, i64 a), (75, i32 (IntKind.i32.wrap (R a.toNat + v * 65536))), (76, pt b5)])
  refine ckS (l := [9]) (r := [(10, false)]) (e' := [(6, pt b2), (7, i64 0), (8, pt b3), (13, pt b5), (75, i32 (IntKind.i32.wrap (R a.toNat + v * 65536))), (77, .pointer (some ((⟨b5, 0, none⟩ : Addr).add ((a).toNat))))]) hA [] (cc (⟨by omega, by omega⟩ : (0 : Int) ≤ a ∧ a < ((16 : Nat) : Int)) c0) ?_
  clear hA fr; intro fr hA
  refine plan_mem (mSR (off := (a).toNat) (ad := (⟨b5, 0, none⟩ : Addr).add ((a).toNat)) (vc := [i32 (IntKind.i32.wrap (R a.toNat + v * 65536))]) (l' := (regsL (upd R ((a).toNat) (IntKind.i32.wrap (R a.toNat + v * 65536))) (pc + 4))) 0 hA hO (add_zero_off _ _) (regs_ble R (pc + 4) (by omega)) (setL_regs (by omega) _) ?_)
  clear hO; intro w13 hO
  refine ⟨(hO.sub [1, 2, 3, 4]), ?_⟩
  replace hA := hA.sb (e' := [(6, pt b2), (7, i64 0), (8, pt b3), (13, pt b5)])
  refine end_plan ?_
  refine inBlock_normal ?_
  refine then_normal ?_
  refine sR (l := (rg 0 5)) ?_
  refine ck (l := [0, 1]) (r := [2, 3, 4]) (e' := [(6, pt b2), (7, i64 0), (8, pt b3), (227, .agg (List.toArray (regsL (upd R ((a).toNat) (IntKind.i32.wrap (R a.toNat + v * 65536))) (pc + 4)))), (228, .agg #[i64 0, i64 0, i64 0, i64 0, i64 0, i64 0, i64 0])]) hA [.agg (List.toArray (regsL (upd R ((a).toNat) (IntKind.i32.wrap (R a.toNat + v * 65536))) (pc + 4)))] (cc (hO.ln 0 0 38 (regsL (upd R ((a).toNat) (IntKind.i32.wrap (R a.toNat + v * 65536))) (pc + 4))) c0) ?_
  clear hA fr; intro fr hA
  refine wpOps_cons' (mS (off := 0) (vc := (regsL (upd R ((a).toNat) (IntKind.i32.wrap (R a.toNat + v * 65536))) (pc + 4))) 3 hA hO ?_)
  clear hO; intro w14 hO
  replace hA := hA.sb (e' := [(6, pt b2), (7, i64 0), (8, pt b3), (228, .agg #[i64 0, i64 0, i64 0, i64 0, i64 0, i64 0, i64 0])])
  refine ck (l := [3]) (r := [4]) (e' := [(6, pt b2), (7, i64 0), (8, pt b3), (228, .agg #[i64 0, i64 0, i64 0, i64 0, i64 0, i64 0, i64 0])]) hA [] c0 ?_
  clear hA fr; intro fr hA
  refine wpOps_cons' (mS (off := 0) (vc := [i64 0, i64 0, i64 0, i64 0, i64 0, i64 0, i64 0]) 2 hA hO ?_)
  clear hO; intro w15 hO
  replace hA := hA.sb (e' := [(6, pt b2), (7, i64 0), (8, pt b3)])
  refine end_ops ?_
  refine then_normal ?_
  refine wp_ret ?_
  refine cR (cs := [some (⟨b2, 0, none⟩, 38), none, some (⟨b3, 0, none⟩, 56)]) (us := [.agg (List.toArray (regsL (upd R ((a).toNat) (IntKind.i32.wrap (R a.toNat + v * 65536))) (pc + 4))), i64 0, .agg #[i64 0, i64 0, i64 0, i64 0, i64 0, i64 0, i64 0]]) hA [.agg (List.toArray (regsL (upd R ((a).toNat) (IntKind.i32.wrap (R a.toNat + v * 65536))) (pc + 4))), .agg #[i64 0, i64 0, i64 0, i64 0, i64 0, i64 0, i64 0]] ⟨(hO.ln 3 0 38 (regsL (upd R ((a).toNat) (IntKind.i32.wrap (R a.toNat + v * 65536))) (pc + 4))), (hO.ln 2 0 56 [i64 0, i64 0, i64 0, i64 0, i64 0, i64 0, i64 0]), trivial⟩ ?_
  have hF := hO.only; clear hA hO
  exact ⟨by simp_all [pack, execV, outV, noTrap, trapL, insV], hF⟩

theorem rexec_3 (R : Nat → Int) (pc ld a b c v : Int) (sl : Value) (w : World) (hT : Tab w) (hR : RegsOk R) (hp : -1099511627776 < pc) (hp' : pc < 1099511627776) (ha : 0 ≤ a) (ha' : a ≤ 15) (hb : 0 ≤ b) (hb' : b ≤ 15) (hc : -128 ≤ c) (hc' : c ≤ 127) (hv : -32768 ≤ v) (hv' : v ≤ 32767) (hdec : ∀ w', Only none' w w' → Calls Tryd.prog 14 #[sl] w' fun e w2 => e = .returned (.tuple #[insV 3 a b c v, .int .i64 0]) ∧ Only none' w' w2) :
    Calls Tryd.prog 23 #[.agg (List.toArray (regsL R pc)), sl, i64 ld] w fun e w' => e = .returned (execV R pc ld 3 a b c v) ∧ Only none' w w' := by
  refine c_enter (args := [.agg (List.toArray (regsL R pc)), sl, i64 ld]) (m := 226) (n := 229) Tryd.func23 rfl (by kernel_rfl) (by kernel_rfl) fun fr hA => ?_
  have hO := Ow.nil Tryd.prog none' w
  have hRa := hR a.toNat; have hRb := hR b.toNat; have hRc := hR c.toNat; simp only [inK] at hRa hRb hRc
  skip
  refine sR (l := [0, 1, 2, 3]) ?_
  refine wpOps_cons' (mN (l := (regsL R pc)) (t := 38) (v := pt) (d := 3) hA hO ?_)
  clear hA hO fr; intro fr w1 b1 hA hO
  replace hA := hA.sb (e' := [(1, sl), (2, i64 ld), (3, pt b1)])
  refine wpOps_cons' (mN (l := [i32 0, i32 0, i32 0, i32 0, i32 0, i32 0, i32 0, i32 0, i32 0, i32 0, i32 0, i32 0, i32 0, i32 0, i32 0, i32 0, i64 0]) (t := 38) (v := pt) (d := 6) hA hO ?_)
  clear hA hO fr; intro fr w2 b2 hA hO
  refine ck (l := [2]) (r := [3]) (e' := [(1, sl), (2, i64 ld), (3, pt b1), (6, pt b2), (7, i64 0)]) hA [] c0 ?_
  clear hA fr; intro fr hA
  refine wpOps_cons' (mN (l := [i64 0, i64 0, i64 0, i64 0, i64 0, i64 0, i64 0]) (t := 56) (v := pt) (d := 8) hA hO ?_)
  clear hA hO fr; intro fr w3 b3 hA hO
  refine end_ops ?_
  refine then_normal ?_
  refine sR (l := (rg 0 8)) ?_
  refine ck (l := [0]) (r := (rg 1 7)) (e' := [(2, i64 ld), (3, pt b1), (6, pt b2), (7, i64 0), (8, pt b3), (15, sl)]) hA [] c0 ?_
  clear hA fr; intro fr hA
  refine wpOps_cons' (mK (f := 14) (args := [sl]) (d := (some 16)) (v := .tuple #[.agg #[i64 3, i64 a, i64 b, i64 c, i64 v], i64 0]) hA hO Tryd.func14 (hdec _ hO.only) ?_)
  clear hA hO fr; intro fr w4 hA hO
  replace hA := hA.sb (e' := [(2, i64 ld), (3, pt b1), (6, pt b2), (7, i64 0), (8, pt b3), (16, .tuple #[.agg #[i64 3, i64 a, i64 b, i64 c, i64 v], i64 0])])
  refine ck (l := [2, 3, 4]) (r := [5, 6, 7]) (e' := [(2, i64 ld), (3, pt b1), (6, pt b2), (7, i64 0), (8, pt b3), (17, .agg #[i64 3, i64 a, i64 b, i64 c, i64 v]), (18, i64 0)]) hA [] c0 ?_
  clear hA fr; intro fr hA
  refine wpOps_cons' (mN (l := [i64 0, i64 0, i64 0, i64 0, i64 0]) (t := 29) (v := pt) (d := 9) hA hO ?_)
  clear hA hO fr; intro fr w5 b4 hA hO
  refine wpOps_cons' (mS (off := 0) (vc := [i64 3, i64 a, i64 b, i64 c, i64 v]) 0 hA hO ?_)
  clear hO; intro w6 hO
  replace hA := hA.sb (e' := [(2, i64 ld), (3, pt b1), (6, pt b2), (7, i64 0), (8, pt b3), (9, pt b4), (18, i64 0)])
  refine ck (l := [7]) (r := []) (e' := [(2, i64 ld), (3, pt b1), (6, pt b2), (7, i64 0), (8, pt b3), (9, pt b4), (10, i64 0)]) hA [] c0 ?_
  clear hA fr; intro fr hA
  refine end_ops ?_
  refine then_normal ?_
  refine wp_seq ?_
  refine sC (e' := [(2, i64 ld), (3, pt b1), (6, pt b2), (7, i64 0), (8, pt b3), (9, pt b4), (20, bl false)]) 2 hA [] c0 ?_
  clear hA fr; intro fr hA
  refine cF hA ?_
  refine wp_skip ?_
  refine then_normal ?_
  refine wp_seq ?_
  have hS := hO
  refine rP [(0, true), (1, true), (2, true), (3, true), (4, true), (5, true), (6, true), (7, true), (8, true), (9, true), (10, true), (11, true), (12, true), (13, true)] hS ?_
  intro w7 ho; replace hO := hO.st ho; clear ho
  refine ckS (l := (rg 0 14)) (r := []) (e' := [(2, i64 ld), (3, pt b1), (6, pt b2), (7, i64 0), (8, pt b3), (9, pt b4), (11, i64 (R ((a).toNat))), (12, i64 (R ((b).toNat)))]) hA [i64 a, i32 (R ((a).toNat)), bl true, i64 b, i32 (R ((b).toNat)), bl true] (cc (hS.s1 0 1 3 (i64 a)) (cc (⟨by omega, by omega⟩ : (0 : Int) ≤ a ∧ a < ((16 : Nat) : Int)) (cc (hS.sx ((⟨b1, 0, none⟩ : Addr).add ((a).toNat)) 21 (i32 (R ((a).toNat))) fun _ hO => (ld_regs (hO.b 3) (by omega) (by kernel_rfl))) (cc ((inK_up (by kernel_rfl) (hR _)) : inK .i64 (R ((a).toNat))) (cc (hS.s1 0 2 3 (i64 b)) (cc (⟨by omega, by omega⟩ : (0 : Int) ≤ b ∧ b < ((16 : Nat) : Int)) (cc (hS.sx ((⟨b1, 0, none⟩ : Addr).add ((b).toNat)) 21 (i32 (R ((b).toNat))) fun _ hO => (ld_regs (hO.b 3) (by omega) (by kernel_rfl))) (cc ((inK_up (by kernel_rfl) (hR _)) : inK .i64 (R ((b).toNat))) c0)))))))) ?_
  clear hA fr; intro fr hA
  refine end_plan ?_
  refine then_normal ?_
  refine sR (l := [0, 1, 2]) ?_
  refine ck (l := [0]) (r := [1, 2]) (e' := [(2, i64 ld), (3, pt b1), (6, pt b2), (7, i64 0), (8, pt b3), (9, pt b4), (11, i64 (R ((a).toNat))), (12, i64 (R ((b).toNat))), (35, .agg (List.toArray (regsL R pc)))]) hA [.agg (List.toArray (regsL R pc))] (cc (hO.ln 3 0 38 (regsL R pc)) c0) ?_
  clear hA fr; intro fr hA
  refine wpOps_cons' (mN (l := [i32 0, i32 0, i32 0, i32 0, i32 0, i32 0, i32 0, i32 0, i32 0, i32 0, i32 0, i32 0, i32 0, i32 0, i32 0, i32 0, i64 0]) (t := 38) (v := pt) (d := 13) hA hO ?_)
  clear hA hO fr; intro fr w8 b5 hA hO
  refine wpOps_cons' (mS (off := 0) (vc := (regsL R pc)) 0 hA hO ?_)
  clear hO; intro w9 hO
  replace hA := hA.sb (e' := [(2, i64 ld), (3, pt b1), (6, pt b2), (7, i64 0), (8, pt b3), (9, pt b4), (11, i64 (R ((a).toNat))), (12, i64 (R ((b).toNat))), (13, pt b5)])
  refine end_ops ?_
  refine then_normal ?_
  refine sR (l := (rg 0 5)) ?_
  refine ck (l := [0, 1, 2, 3]) (r := [4]) (e' := [(2, i64 ld), (3, pt b1), (6, pt b2), (7, i64 0), (8, pt b3), (9, pt b4), (11, i64 (R ((a).toNat))), (12, i64 (R ((b).toNat))), (13, pt b5), (38, i64 (pc + 4)), (39, pf b5 16)]) hA [i64 pc, bl true] (cc (hO.l1 0 16 3 (i64 pc)) (cc ((inK_i64 (by omega) (by omega)) : inK .i64 (pc + 4)) c0)) ?_
  clear hA fr; intro fr hA
  refine wpOps_cons' (mSR (off := 16) (ad := ⟨b5, 16, none⟩) (vc := [i64 (pc + 4)]) (l' := (regsL R (pc + 4))) 0 hA hO rfl (by kernel_rfl) (by kernel_rfl) ?_)
  clear hO; intro w10 hO
  replace hA := hA.sb (e' := [(2, i64 ld), (3, pt b1), (6, pt b2), (7, i64 0), (8, pt b3), (9, pt b4), (11, i64 (R ((a).toNat))), (12, i64 (R ((b).toNat))), (13, pt b5)])
  refine end_ops ?_
  refine then_normal ?_
  refine wp_seq ?_
  refine sC (e' := [(2, i64 ld), (3, pt b1), (6, pt b2), (7, i64 0), (8, pt b3), (9, pt b4), (11, i64 (R ((a).toNat))), (12, i64 (R ((b).toNat))), (13, pt b5), (41, i64 3)]) 2 hA [i64 3] (cc (hO.l1 1 0 3 (i64 3)) c0) ?_
  clear hA fr; intro fr hA
  refine wp_block ?_
  refine sC (e' := [(2, i64 ld), (3, pt b1), (6, pt b2), (7, i64 0), (8, pt b3), (9, pt b4), (11, i64 (R ((a).toNat))), (12, i64 (R ((b).toNat))), (13, pt b5), (41, i64 3), (57, bl false)]) 2 hA [] c0 ?_
  clear hA fr; intro fr hA
  refine cF hA ?_
  refine sC (e' := [(2, i64 ld), (3, pt b1), (6, pt b2), (7, i64 0), (8, pt b3), (9, pt b4), (11, i64 (R ((a).toNat))), (12, i64 (R ((b).toNat))), (13, pt b5), (41, i64 3), (66, bl false)]) 2 hA [] c0 ?_
  clear hA fr; intro fr hA
  refine cF hA ?_
  refine sC (e' := [(2, i64 ld), (3, pt b1), (6, pt b2), (7, i64 0), (8, pt b3), (9, pt b4), (11, i64 (R ((a).toNat))), (12, i64 (R ((b).toNat))), (13, pt b5), (41, i64 3), (78, bl true)]) 2 hA [] c0 ?_
  clear hA fr; intro fr hA
  refine cT hA ?_
  have hS : Ow Tryd.prog none' w _ [(b4, 29, [i64 3, i64 a, i64 b, i64 c, i64 v]), (b3, 56, [i64 0, i64 0, i64 0, i64 0, i64 0, i64 0, i64 0]), (b2, 38, [i32 0, i32 0, i32 0, i32 0, i32 0, i32 0, i32 0, i32 0, i32 0, i32 0, i32 0, i32 0, i32 0, i32 0, i32 0, i32 0, i64 0]), (b1, 38, (regsL R pc))] := hO.sub [1, 2, 3, 4]
  refine rP [(0, true), (1, true), (2, true), (3, true), (4, true), (5, true), (7, true), (6, false), (8, true), (9, false)] hS ?_
  intro w11 ho; replace hO := hO.st ho; clear ho
  refine ckS (l := [0, 1, 2, 3, 4, 5, 7]) (r := [(6, false), (8, true), (9, false)]) (e' := [(6, pt b2), (7, i64 0), (8, pt b3), (13, pt b5), (81, i64 a), (85, i64 ((R ((b).toNat)) + c)), (87, pt b5)]) hA [i64 a, i64 c, bl true] (cc (hS.s1 0 1 3 (i64 a)) (cc (hS.s1 0 3 3 (i64 c)) (cc ((inK_i64 (by omega) (by omega)) : inK .i64 ((R ((b).toNat)) + c)) c0))) ?_
  clear hA fr; intro fr hA
  refine plan_mem (mK (f := 38) (args := [i64 ((R ((b).toNat)) + c)]) (d := (some 86)) (v := i32 (IntKind.i32.wrap ((R ((b).toNat)) + c))) hA hO Tryd.func38 (word_any ((R ((b).toNat)) + c) _) ?_)
  clear hA hO fr; intro fr w12 hA hO
  refine ⟨(hO.sub [1, 2, 3, 4]), ?_⟩
  replace hA := hA.sb (e' := [(6, pt b2), (7, i64 0), (8, pt b3), (13, pt b5), (81, i64 a), (86, i32 (IntKind.i32.wrap ((R ((b).toNat)) + c))), (87, pt b5)])
  refine ckS (l := [8]) (r := [(9, false)]) (e' := [(6, pt b2), (7, i64 0), (8, pt b3), (13, pt b5), (86, i32 (IntKind.i32.wrap ((R ((b).toNat)) + c))), (88, .pointer (some ((⟨b5, 0, none⟩ : Addr).add ((a).toNat))))]) hA [] (cc (⟨by omega, by omega⟩ : (0 : Int) ≤ a ∧ a < ((16 : Nat) : Int)) c0) ?_
  clear hA fr; intro fr hA
  refine plan_mem (mSR (off := (a).toNat) (ad := (⟨b5, 0, none⟩ : Addr).add ((a).toNat)) (vc := [i32 (IntKind.i32.wrap ((R ((b).toNat)) + c))]) (l' := (regsL (upd R ((a).toNat) (IntKind.i32.wrap ((R ((b).toNat)) + c))) (pc + 4))) 0 hA hO (add_zero_off _ _) (regs_ble R (pc + 4) (by omega)) (setL_regs (by omega) _) ?_)
  clear hO; intro w13 hO
  refine ⟨(hO.sub [1, 2, 3, 4]), ?_⟩
  replace hA := hA.sb (e' := [(6, pt b2), (7, i64 0), (8, pt b3), (13, pt b5)])
  refine end_plan ?_
  refine inBlock_normal ?_
  refine then_normal ?_
  refine sR (l := (rg 0 5)) ?_
  refine ck (l := [0, 1]) (r := [2, 3, 4]) (e' := [(6, pt b2), (7, i64 0), (8, pt b3), (227, .agg (List.toArray (regsL (upd R ((a).toNat) (IntKind.i32.wrap ((R ((b).toNat)) + c))) (pc + 4)))), (228, .agg #[i64 0, i64 0, i64 0, i64 0, i64 0, i64 0, i64 0])]) hA [.agg (List.toArray (regsL (upd R ((a).toNat) (IntKind.i32.wrap ((R ((b).toNat)) + c))) (pc + 4)))] (cc (hO.ln 0 0 38 (regsL (upd R ((a).toNat) (IntKind.i32.wrap ((R ((b).toNat)) + c))) (pc + 4))) c0) ?_
  clear hA fr; intro fr hA
  refine wpOps_cons' (mS (off := 0) (vc := (regsL (upd R ((a).toNat) (IntKind.i32.wrap ((R ((b).toNat)) + c))) (pc + 4))) 3 hA hO ?_)
  clear hO; intro w14 hO
  replace hA := hA.sb (e' := [(6, pt b2), (7, i64 0), (8, pt b3), (228, .agg #[i64 0, i64 0, i64 0, i64 0, i64 0, i64 0, i64 0])])
  refine ck (l := [3]) (r := [4]) (e' := [(6, pt b2), (7, i64 0), (8, pt b3), (228, .agg #[i64 0, i64 0, i64 0, i64 0, i64 0, i64 0, i64 0])]) hA [] c0 ?_
  clear hA fr; intro fr hA
  refine wpOps_cons' (mS (off := 0) (vc := [i64 0, i64 0, i64 0, i64 0, i64 0, i64 0, i64 0]) 2 hA hO ?_)
  clear hO; intro w15 hO
  replace hA := hA.sb (e' := [(6, pt b2), (7, i64 0), (8, pt b3)])
  refine end_ops ?_
  refine then_normal ?_
  refine wp_ret ?_
  refine cR (cs := [some (⟨b2, 0, none⟩, 38), none, some (⟨b3, 0, none⟩, 56)]) (us := [.agg (List.toArray (regsL (upd R ((a).toNat) (IntKind.i32.wrap ((R ((b).toNat)) + c))) (pc + 4))), i64 0, .agg #[i64 0, i64 0, i64 0, i64 0, i64 0, i64 0, i64 0]]) hA [.agg (List.toArray (regsL (upd R ((a).toNat) (IntKind.i32.wrap ((R ((b).toNat)) + c))) (pc + 4))), .agg #[i64 0, i64 0, i64 0, i64 0, i64 0, i64 0, i64 0]] ⟨(hO.ln 3 0 38 (regsL (upd R ((a).toNat) (IntKind.i32.wrap ((R ((b).toNat)) + c))) (pc + 4))), (hO.ln 2 0 56 [i64 0, i64 0, i64 0, i64 0, i64 0, i64 0, i64 0]), trivial⟩ ?_
  have hF := hO.only; clear hA hO
  exact ⟨by simp_all [pack, execV, outV, noTrap, trapL, insV], hF⟩

theorem rexec_4 (R : Nat → Int) (pc ld a b c v : Int) (sl : Value) (w : World) (hT : Tab w) (hR : RegsOk R) (hp : -1099511627776 < pc) (hp' : pc < 1099511627776) (ha : 0 ≤ a) (ha' : a ≤ 15) (hb : 0 ≤ b) (hb' : b ≤ 15) (hc : 0 ≤ c) (hc' : c ≤ 15) (hv : -32768 ≤ v) (hv' : v ≤ 32767) (hdec : ∀ w', Only none' w w' → Calls Tryd.prog 14 #[sl] w' fun e w2 => e = .returned (.tuple #[insV 4 a b c v, .int .i64 0]) ∧ Only none' w' w2) :
    Calls Tryd.prog 23 #[.agg (List.toArray (regsL R pc)), sl, i64 ld] w fun e w' => e = .returned (execV R pc ld 4 a b c v) ∧ Only none' w w' := by
  refine c_enter (args := [.agg (List.toArray (regsL R pc)), sl, i64 ld]) (m := 226) (n := 229) Tryd.func23 rfl (by kernel_rfl) (by kernel_rfl) fun fr hA => ?_
  have hO := Ow.nil Tryd.prog none' w
  have hRa := hR a.toNat; have hRb := hR b.toNat; have hRc := hR c.toNat; simp only [inK] at hRa hRb hRc
  skip
  refine sR (l := [0, 1, 2, 3]) ?_
  refine wpOps_cons' (mN (l := (regsL R pc)) (t := 38) (v := pt) (d := 3) hA hO ?_)
  clear hA hO fr; intro fr w1 b1 hA hO
  replace hA := hA.sb (e' := [(1, sl), (2, i64 ld), (3, pt b1)])
  refine wpOps_cons' (mN (l := [i32 0, i32 0, i32 0, i32 0, i32 0, i32 0, i32 0, i32 0, i32 0, i32 0, i32 0, i32 0, i32 0, i32 0, i32 0, i32 0, i64 0]) (t := 38) (v := pt) (d := 6) hA hO ?_)
  clear hA hO fr; intro fr w2 b2 hA hO
  refine ck (l := [2]) (r := [3]) (e' := [(1, sl), (2, i64 ld), (3, pt b1), (6, pt b2), (7, i64 0)]) hA [] c0 ?_
  clear hA fr; intro fr hA
  refine wpOps_cons' (mN (l := [i64 0, i64 0, i64 0, i64 0, i64 0, i64 0, i64 0]) (t := 56) (v := pt) (d := 8) hA hO ?_)
  clear hA hO fr; intro fr w3 b3 hA hO
  refine end_ops ?_
  refine then_normal ?_
  refine sR (l := (rg 0 8)) ?_
  refine ck (l := [0]) (r := (rg 1 7)) (e' := [(2, i64 ld), (3, pt b1), (6, pt b2), (7, i64 0), (8, pt b3), (15, sl)]) hA [] c0 ?_
  clear hA fr; intro fr hA
  refine wpOps_cons' (mK (f := 14) (args := [sl]) (d := (some 16)) (v := .tuple #[.agg #[i64 4, i64 a, i64 b, i64 c, i64 v], i64 0]) hA hO Tryd.func14 (hdec _ hO.only) ?_)
  clear hA hO fr; intro fr w4 hA hO
  replace hA := hA.sb (e' := [(2, i64 ld), (3, pt b1), (6, pt b2), (7, i64 0), (8, pt b3), (16, .tuple #[.agg #[i64 4, i64 a, i64 b, i64 c, i64 v], i64 0])])
  refine ck (l := [2, 3, 4]) (r := [5, 6, 7]) (e' := [(2, i64 ld), (3, pt b1), (6, pt b2), (7, i64 0), (8, pt b3), (17, .agg #[i64 4, i64 a, i64 b, i64 c, i64 v]), (18, i64 0)]) hA [] c0 ?_
  clear hA fr; intro fr hA
  refine wpOps_cons' (mN (l := [i64 0, i64 0, i64 0, i64 0, i64 0]) (t := 29) (v := pt) (d := 9) hA hO ?_)
  clear hA hO fr; intro fr w5 b4 hA hO
  refine wpOps_cons' (mS (off := 0) (vc := [i64 4, i64 a, i64 b, i64 c, i64 v]) 0 hA hO ?_)
  clear hO; intro w6 hO
  replace hA := hA.sb (e' := [(2, i64 ld), (3, pt b1), (6, pt b2), (7, i64 0), (8, pt b3), (9, pt b4), (18, i64 0)])
  refine ck (l := [7]) (r := []) (e' := [(2, i64 ld), (3, pt b1), (6, pt b2), (7, i64 0), (8, pt b3), (9, pt b4), (10, i64 0)]) hA [] c0 ?_
  clear hA fr; intro fr hA
  refine end_ops ?_
  refine then_normal ?_
  refine wp_seq ?_
  refine sC (e' := [(2, i64 ld), (3, pt b1), (6, pt b2), (7, i64 0), (8, pt b3), (9, pt b4), (20, bl false)]) 2 hA [] c0 ?_
  clear hA fr; intro fr hA
  refine cF hA ?_
  refine wp_skip ?_
  refine then_normal ?_
  refine wp_seq ?_
  have hS := hO
  refine rP [(0, true), (1, true), (2, true), (3, true), (4, true), (5, true), (6, true), (7, true), (8, true), (9, true), (10, true), (11, true), (12, true), (13, true)] hS ?_
  intro w7 ho; replace hO := hO.st ho; clear ho
  refine ckS (l := (rg 0 14)) (r := []) (e' := [(2, i64 ld), (3, pt b1), (6, pt b2), (7, i64 0), (8, pt b3), (9, pt b4), (11, i64 (R ((a).toNat))), (12, i64 (R ((b).toNat)))]) hA [i64 a, i32 (R ((a).toNat)), bl true, i64 b, i32 (R ((b).toNat)), bl true] (cc (hS.s1 0 1 3 (i64 a)) (cc (⟨by omega, by omega⟩ : (0 : Int) ≤ a ∧ a < ((16 : Nat) : Int)) (cc (hS.sx ((⟨b1, 0, none⟩ : Addr).add ((a).toNat)) 21 (i32 (R ((a).toNat))) fun _ hO => (ld_regs (hO.b 3) (by omega) (by kernel_rfl))) (cc ((inK_up (by kernel_rfl) (hR _)) : inK .i64 (R ((a).toNat))) (cc (hS.s1 0 2 3 (i64 b)) (cc (⟨by omega, by omega⟩ : (0 : Int) ≤ b ∧ b < ((16 : Nat) : Int)) (cc (hS.sx ((⟨b1, 0, none⟩ : Addr).add ((b).toNat)) 21 (i32 (R ((b).toNat))) fun _ hO => (ld_regs (hO.b 3) (by omega) (by kernel_rfl))) (cc ((inK_up (by kernel_rfl) (hR _)) : inK .i64 (R ((b).toNat))) c0)))))))) ?_
  clear hA fr; intro fr hA
  refine end_plan ?_
  refine then_normal ?_
  refine sR (l := [0, 1, 2]) ?_
  refine ck (l := [0]) (r := [1, 2]) (e' := [(2, i64 ld), (3, pt b1), (6, pt b2), (7, i64 0), (8, pt b3), (9, pt b4), (11, i64 (R ((a).toNat))), (12, i64 (R ((b).toNat))), (35, .agg (List.toArray (regsL R pc)))]) hA [.agg (List.toArray (regsL R pc))] (cc (hO.ln 3 0 38 (regsL R pc)) c0) ?_
  clear hA fr; intro fr hA
  refine wpOps_cons' (mN (l := [i32 0, i32 0, i32 0, i32 0, i32 0, i32 0, i32 0, i32 0, i32 0, i32 0, i32 0, i32 0, i32 0, i32 0, i32 0, i32 0, i64 0]) (t := 38) (v := pt) (d := 13) hA hO ?_)
  clear hA hO fr; intro fr w8 b5 hA hO
  refine wpOps_cons' (mS (off := 0) (vc := (regsL R pc)) 0 hA hO ?_)
  clear hO; intro w9 hO
  replace hA := hA.sb (e' := [(2, i64 ld), (3, pt b1), (6, pt b2), (7, i64 0), (8, pt b3), (9, pt b4), (11, i64 (R ((a).toNat))), (12, i64 (R ((b).toNat))), (13, pt b5)])
  refine end_ops ?_
  refine then_normal ?_
  refine sR (l := (rg 0 5)) ?_
  refine ck (l := [0, 1, 2, 3]) (r := [4]) (e' := [(2, i64 ld), (3, pt b1), (6, pt b2), (7, i64 0), (8, pt b3), (9, pt b4), (11, i64 (R ((a).toNat))), (12, i64 (R ((b).toNat))), (13, pt b5), (38, i64 (pc + 4)), (39, pf b5 16)]) hA [i64 pc, bl true] (cc (hO.l1 0 16 3 (i64 pc)) (cc ((inK_i64 (by omega) (by omega)) : inK .i64 (pc + 4)) c0)) ?_
  clear hA fr; intro fr hA
  refine wpOps_cons' (mSR (off := 16) (ad := ⟨b5, 16, none⟩) (vc := [i64 (pc + 4)]) (l' := (regsL R (pc + 4))) 0 hA hO rfl (by kernel_rfl) (by kernel_rfl) ?_)
  clear hO; intro w10 hO
  replace hA := hA.sb (e' := [(2, i64 ld), (3, pt b1), (6, pt b2), (7, i64 0), (8, pt b3), (9, pt b4), (11, i64 (R ((a).toNat))), (12, i64 (R ((b).toNat))), (13, pt b5)])
  refine end_ops ?_
  refine then_normal ?_
  refine wp_seq ?_
  refine sC (e' := [(2, i64 ld), (3, pt b1), (6, pt b2), (7, i64 0), (8, pt b3), (9, pt b4), (11, i64 (R ((a).toNat))), (12, i64 (R ((b).toNat))), (13, pt b5), (41, i64 4)]) 2 hA [i64 4] (cc (hO.l1 1 0 3 (i64 4)) c0) ?_
  clear hA fr; intro fr hA
  refine wp_block ?_
  refine sC (e' := [(2, i64 ld), (3, pt b1), (6, pt b2), (7, i64 0), (8, pt b3), (9, pt b4), (11, i64 (R ((a).toNat))), (12, i64 (R ((b).toNat))), (13, pt b5), (41, i64 4), (57, bl false)]) 2 hA [] c0 ?_
  clear hA fr; intro fr hA
  refine cF hA ?_
  refine sC (e' := [(2, i64 ld), (3, pt b1), (6, pt b2), (7, i64 0), (8, pt b3), (9, pt b4), (11, i64 (R ((a).toNat))), (12, i64 (R ((b).toNat))), (13, pt b5), (41, i64 4), (66, bl false)]) 2 hA [] c0 ?_
  clear hA fr; intro fr hA
  refine cF hA ?_
  refine sC (e' := [(2, i64 ld), (3, pt b1), (6, pt b2), (7, i64 0), (8, pt b3), (9, pt b4), (11, i64 (R ((a).toNat))), (12, i64 (R ((b).toNat))), (13, pt b5), (41, i64 4), (78, bl false)]) 2 hA [] c0 ?_
  clear hA fr; intro fr hA
  refine cF hA ?_
  refine wp_seq ?_
  refine sC (e' := [(2, i64 ld), (3, pt b1), (6, pt b2), (7, i64 0), (8, pt b3), (9, pt b4), (11, i64 (R ((a).toNat))), (12, i64 (R ((b).toNat))), (13, pt b5), (41, i64 4), (89, bl false)]) 2 hA [] c0 ?_
  clear hA fr; intro fr hA
  refine cF hA ?_
  refine rC (e' := [(2, i64 ld), (3, pt b1), (6, pt b2), (7, i64 0), (8, pt b3), (9, pt b4), (11, i64 (R ((a).toNat))), (12, i64 (R ((b).toNat))), (13, pt b5), (41, i64 4), (89, bl false)]) 2 hA [] c0 ?_
  clear hA fr; intro fr hA
  refine then_normal ?_
  refine cF hA ?_
  refine wp_seq ?_
  refine sC (e' := [(2, i64 ld), (3, pt b1), (6, pt b2), (7, i64 0), (8, pt b3), (9, pt b4), (11, i64 (R ((a).toNat))), (12, i64 (R ((b).toNat))), (13, pt b5), (41, i64 4), (115, bl false)]) 2 hA [] c0 ?_
  clear hA fr; intro fr hA
  refine cF hA ?_
  refine rC (e' := [(2, i64 ld), (3, pt b1), (6, pt b2), (7, i64 0), (8, pt b3), (9, pt b4), (11, i64 (R ((a).toNat))), (12, i64 (R ((b).toNat))), (13, pt b5), (41, i64 4), (115, bl false)]) 2 hA [] c0 ?_
  clear hA fr; intro fr hA
  refine then_normal ?_
  refine cF hA ?_
  refine sC (e' := [(2, i64 ld), (3, pt b1), (6, pt b2), (7, i64 0), (8, pt b3), (9, pt b4), (11, i64 (R ((a).toNat))), (12, i64 (R ((b).toNat))), (13, pt b5), (41, i64 4), (138, bl false)]) 2 hA [] c0 ?_
  clear hA fr; intro fr hA
  refine cF hA ?_
  refine sC (e' := [(3, pt b1), (6, pt b2), (7, i64 0), (8, pt b3), (9, pt b4), (11, i64 (R ((a).toNat))), (12, i64 (R ((b).toNat))), (13, pt b5), (41, i64 4), (149, bl false)]) 2 hA [] c0 ?_
  clear hA fr; intro fr hA
  refine cF hA ?_
  refine sC (e' := [(3, pt b1), (6, pt b2), (7, i64 0), (8, pt b3), (9, pt b4), (11, i64 (R ((a).toNat))), (12, i64 (R ((b).toNat))), (13, pt b5), (41, i64 4), (157, bl false)]) 2 hA [] c0 ?_
  clear hA fr; intro fr hA
  refine cF hA ?_
  refine sC (e' := [(3, pt b1), (6, pt b2), (7, i64 0), (8, pt b3), (9, pt b4), (11, i64 (R ((a).toNat))), (12, i64 (R ((b).toNat))), (13, pt b5), (41, i64 4), (166, bl false)]) 2 hA [] c0 ?_
  clear hA fr; intro fr hA
  refine cF hA ?_
  refine sC (e' := [(3, pt b1), (6, pt b2), (7, i64 0), (8, pt b3), (9, pt b4), (11, i64 (R ((a).toNat))), (12, i64 (R ((b).toNat))), (13, pt b5), (41, i64 4), (177, bl false)]) 2 hA [] c0 ?_
  clear hA fr; intro fr hA
  refine cF hA ?_
  refine sC (e' := [(3, pt b1), (6, pt b2), (7, i64 0), (8, pt b3), (9, pt b4), (11, i64 (R ((a).toNat))), (12, i64 (R ((b).toNat))), (13, pt b5), (41, i64 4), (194, bl false)]) 2 hA [] c0 ?_
  clear hA fr; intro fr hA
  refine cF hA ?_
  refine sC (e' := [(3, pt b1), (6, pt b2), (7, i64 0), (8, pt b3), (9, pt b4), (12, i64 (R ((b).toNat))), (13, pt b5), (198, bl false)]) 2 hA [] c0 ?_
  clear hA fr; intro fr hA
  refine cF hA ?_
  have hS : Ow Tryd.prog none' w _ [(b4, 29, [i64 4, i64 a, i64 b, i64 c, i64 v]), (b3, 56, [i64 0, i64 0, i64 0, i64 0, i64 0, i64 0, i64 0]), (b2, 38, [i32 0, i32 0, i32 0, i32 0, i32 0, i32 0, i32 0, i32 0, i32 0, i32 0, i32 0, i32 0, i32 0, i32 0, i32 0, i32 0, i64 0]), (b1, 38, (regsL R pc))] := hO.sub [1, 2, 3, 4]
  refine rP [(0, true), (1, true), (2, true), (3, true), (4, true), (5, true), (6, true), (7, true), (8, true), (9, true), (10, true), (13, true), (11, false), (12, false), (14, true), (15, false)] hS ?_
  intro w11 ho; replace hO := hO.st ho; clear ho
  refine ckS (l := [0, 1, 2, 3, 4, 5, 6, 7, 8, 9, 10, 13]) (r := [(11, false), (12, false), (14, true), (15, false)]) (e' := [(6, pt b2), (7, i64 0), (8, pt b3), (13, pt b5), (43, i64 a), (45, i64 4), (46, i64 (R ((b).toNat))), (52, i64 (R ((c).toNat))), (55, pt b5)]) hA [i64 a, i64 4, i64 c, i32 (R ((c).toNat)), bl true] (cc (hS.s1 0 1 3 (i64 a)) (cc (hS.s1 0 0 3 (i64 4)) (cc (hS.s1 0 3 3 (i64 c)) (cc (⟨by omega, by omega⟩ : (0 : Int) ≤ c ∧ c < ((16 : Nat) : Int)) (cc (hS.sx ((⟨b1, 0, none⟩ : Addr).add ((c).toNat)) 21 (i32 (R ((c).toNat))) fun _ hO => (ld_regs (hO.b 3) (by omega) (by kernel_rfl))) (cc ((inK_up (by kernel_rfl) (hR _)) : inK .i64 (R ((c).toNat))) c0)))))) ?_
  clear hA fr; intro fr hA
  refine plan_mem (mK (f := 39) (args := [i64 4, i64 (R ((b).toNat)), i64 (R ((c).toNat))]) (d := (some 53)) (v := i64 ((R ((b).toNat)) + (R ((c).toNat)))) hA hO Tryd.func39 (value_4 (R ((b).toNat)) (R ((c).toNat)) _ (hR _) (hR _)) ?_)
  clear hA hO fr; intro fr w12 hA hO
  refine ⟨(hO.sub [1, 2, 3, 4]), ?_⟩
  replace hA := hA.sb (e' := [(6, pt b2), (7, i64 0), (8, pt b3), (13, pt b5), (43, i64 a), (53, i64 ((R ((b).toNat)) + (R ((c).toNat)))), (55, pt b5)])
  refine plan_mem (mK (f := 38) (args := [i64 ((R ((b).toNat)) + (R ((c).toNat)))]) (d := (some 54)) (v := i32 (arithS 4 (R ((b).toNat)) (R ((c).toNat)))) hA hO Tryd.func38 (rs (word_any ((R ((b).toNat)) + (R ((c).toNat))) _) (congrArg (Value.int .i32) (arith_4 _ _ (hR _)))) ?_)
  clear hA hO fr; intro fr w13 hA hO
  refine ⟨(hO.sub [1, 2, 3, 4]), ?_⟩
  replace hA := hA.sb (e' := [(6, pt b2), (7, i64 0), (8, pt b3), (13, pt b5), (43, i64 a), (54, i32 (arithS 4 (R ((b).toNat)) (R ((c).toNat)))), (55, pt b5)])
  refine ckS (l := [14]) (r := [(15, false)]) (e' := [(6, pt b2), (7, i64 0), (8, pt b3), (13, pt b5), (54, i32 (arithS 4 (R ((b).toNat)) (R ((c).toNat)))), (56, .pointer (some ((⟨b5, 0, none⟩ : Addr).add ((a).toNat))))]) hA [] (cc (⟨by omega, by omega⟩ : (0 : Int) ≤ a ∧ a < ((16 : Nat) : Int)) c0) ?_
  clear hA fr; intro fr hA
  refine plan_mem (mSR (off := (a).toNat) (ad := (⟨b5, 0, none⟩ : Addr).add ((a).toNat)) (vc := [i32 (arithS 4 (R ((b).toNat)) (R ((c).toNat)))]) (l' := (regsL (upd R ((a).toNat) (arithS 4 (R ((b).toNat)) (R ((c).toNat)))) (pc + 4))) 0 hA hO (add_zero_off _ _) (regs_ble R (pc + 4) (by omega)) (setL_regs (by omega) _) ?_)
  clear hO; intro w14 hO
  refine ⟨(hO.sub [1, 2, 3, 4]), ?_⟩
  replace hA := hA.sb (e' := [(6, pt b2), (7, i64 0), (8, pt b3), (13, pt b5)])
  refine end_plan ?_
  refine inBlock_normal ?_
  refine then_normal ?_
  refine sR (l := (rg 0 5)) ?_
  refine ck (l := [0, 1]) (r := [2, 3, 4]) (e' := [(6, pt b2), (7, i64 0), (8, pt b3), (227, .agg (List.toArray (regsL (upd R ((a).toNat) (arithS 4 (R ((b).toNat)) (R ((c).toNat)))) (pc + 4)))), (228, .agg #[i64 0, i64 0, i64 0, i64 0, i64 0, i64 0, i64 0])]) hA [.agg (List.toArray (regsL (upd R ((a).toNat) (arithS 4 (R ((b).toNat)) (R ((c).toNat)))) (pc + 4)))] (cc (hO.ln 0 0 38 (regsL (upd R ((a).toNat) (arithS 4 (R ((b).toNat)) (R ((c).toNat)))) (pc + 4))) c0) ?_
  clear hA fr; intro fr hA
  refine wpOps_cons' (mS (off := 0) (vc := (regsL (upd R ((a).toNat) (arithS 4 (R ((b).toNat)) (R ((c).toNat)))) (pc + 4))) 3 hA hO ?_)
  clear hO; intro w15 hO
  replace hA := hA.sb (e' := [(6, pt b2), (7, i64 0), (8, pt b3), (228, .agg #[i64 0, i64 0, i64 0, i64 0, i64 0, i64 0, i64 0])])
  refine ck (l := [3]) (r := [4]) (e' := [(6, pt b2), (7, i64 0), (8, pt b3), (228, .agg #[i64 0, i64 0, i64 0, i64 0, i64 0, i64 0, i64 0])]) hA [] c0 ?_
  clear hA fr; intro fr hA
  refine wpOps_cons' (mS (off := 0) (vc := [i64 0, i64 0, i64 0, i64 0, i64 0, i64 0, i64 0]) 2 hA hO ?_)
  clear hO; intro w16 hO
  replace hA := hA.sb (e' := [(6, pt b2), (7, i64 0), (8, pt b3)])
  refine end_ops ?_
  refine then_normal ?_
  refine wp_ret ?_
  refine cR (cs := [some (⟨b2, 0, none⟩, 38), none, some (⟨b3, 0, none⟩, 56)]) (us := [.agg (List.toArray (regsL (upd R ((a).toNat) (arithS 4 (R ((b).toNat)) (R ((c).toNat)))) (pc + 4))), i64 0, .agg #[i64 0, i64 0, i64 0, i64 0, i64 0, i64 0, i64 0]]) hA [.agg (List.toArray (regsL (upd R ((a).toNat) (arithS 4 (R ((b).toNat)) (R ((c).toNat)))) (pc + 4))), .agg #[i64 0, i64 0, i64 0, i64 0, i64 0, i64 0, i64 0]] ⟨(hO.ln 3 0 38 (regsL (upd R ((a).toNat) (arithS 4 (R ((b).toNat)) (R ((c).toNat)))) (pc + 4))), (hO.ln 2 0 56 [i64 0, i64 0, i64 0, i64 0, i64 0, i64 0, i64 0]), trivial⟩ ?_
  have hF := hO.only; clear hA hO
  exact ⟨by simp_all [pack, execV, outV, noTrap, trapL, insV], hF⟩

theorem rexec_5 (R : Nat → Int) (pc ld a b c v : Int) (sl : Value) (w : World) (hT : Tab w) (hR : RegsOk R) (hp : -1099511627776 < pc) (hp' : pc < 1099511627776) (ha : 0 ≤ a) (ha' : a ≤ 15) (hb : 0 ≤ b) (hb' : b ≤ 15) (hc : 0 ≤ c) (hc' : c ≤ 15) (hv : -32768 ≤ v) (hv' : v ≤ 32767) (hdec : ∀ w', Only none' w w' → Calls Tryd.prog 14 #[sl] w' fun e w2 => e = .returned (.tuple #[insV 5 a b c v, .int .i64 0]) ∧ Only none' w' w2) :
    Calls Tryd.prog 23 #[.agg (List.toArray (regsL R pc)), sl, i64 ld] w fun e w' => e = .returned (execV R pc ld 5 a b c v) ∧ Only none' w w' := by
  refine c_enter (args := [.agg (List.toArray (regsL R pc)), sl, i64 ld]) (m := 226) (n := 229) Tryd.func23 rfl (by kernel_rfl) (by kernel_rfl) fun fr hA => ?_
  have hO := Ow.nil Tryd.prog none' w
  have hRa := hR a.toNat; have hRb := hR b.toNat; have hRc := hR c.toNat; simp only [inK] at hRa hRb hRc
  skip
  refine sR (l := [0, 1, 2, 3]) ?_
  refine wpOps_cons' (mN (l := (regsL R pc)) (t := 38) (v := pt) (d := 3) hA hO ?_)
  clear hA hO fr; intro fr w1 b1 hA hO
  replace hA := hA.sb (e' := [(1, sl), (2, i64 ld), (3, pt b1)])
  refine wpOps_cons' (mN (l := [i32 0, i32 0, i32 0, i32 0, i32 0, i32 0, i32 0, i32 0, i32 0, i32 0, i32 0, i32 0, i32 0, i32 0, i32 0, i32 0, i64 0]) (t := 38) (v := pt) (d := 6) hA hO ?_)
  clear hA hO fr; intro fr w2 b2 hA hO
  refine ck (l := [2]) (r := [3]) (e' := [(1, sl), (2, i64 ld), (3, pt b1), (6, pt b2), (7, i64 0)]) hA [] c0 ?_
  clear hA fr; intro fr hA
  refine wpOps_cons' (mN (l := [i64 0, i64 0, i64 0, i64 0, i64 0, i64 0, i64 0]) (t := 56) (v := pt) (d := 8) hA hO ?_)
  clear hA hO fr; intro fr w3 b3 hA hO
  refine end_ops ?_
  refine then_normal ?_
  refine sR (l := (rg 0 8)) ?_
  refine ck (l := [0]) (r := (rg 1 7)) (e' := [(2, i64 ld), (3, pt b1), (6, pt b2), (7, i64 0), (8, pt b3), (15, sl)]) hA [] c0 ?_
  clear hA fr; intro fr hA
  refine wpOps_cons' (mK (f := 14) (args := [sl]) (d := (some 16)) (v := .tuple #[.agg #[i64 5, i64 a, i64 b, i64 c, i64 v], i64 0]) hA hO Tryd.func14 (hdec _ hO.only) ?_)
  clear hA hO fr; intro fr w4 hA hO
  replace hA := hA.sb (e' := [(2, i64 ld), (3, pt b1), (6, pt b2), (7, i64 0), (8, pt b3), (16, .tuple #[.agg #[i64 5, i64 a, i64 b, i64 c, i64 v], i64 0])])
  refine ck (l := [2, 3, 4]) (r := [5, 6, 7]) (e' := [(2, i64 ld), (3, pt b1), (6, pt b2), (7, i64 0), (8, pt b3), (17, .agg #[i64 5, i64 a, i64 b, i64 c, i64 v]), (18, i64 0)]) hA [] c0 ?_
  clear hA fr; intro fr hA
  refine wpOps_cons' (mN (l := [i64 0, i64 0, i64 0, i64 0, i64 0]) (t := 29) (v := pt) (d := 9) hA hO ?_)
  clear hA hO fr; intro fr w5 b4 hA hO
  refine wpOps_cons' (mS (off := 0) (vc := [i64 5, i64 a, i64 b, i64 c, i64 v]) 0 hA hO ?_)
  clear hO; intro w6 hO
  replace hA := hA.sb (e' := [(2, i64 ld), (3, pt b1), (6, pt b2), (7, i64 0), (8, pt b3), (9, pt b4), (18, i64 0)])
  refine ck (l := [7]) (r := []) (e' := [(2, i64 ld), (3, pt b1), (6, pt b2), (7, i64 0), (8, pt b3), (9, pt b4), (10, i64 0)]) hA [] c0 ?_
  clear hA fr; intro fr hA
  refine end_ops ?_
  refine then_normal ?_
  refine wp_seq ?_
  refine sC (e' := [(2, i64 ld), (3, pt b1), (6, pt b2), (7, i64 0), (8, pt b3), (9, pt b4), (20, bl false)]) 2 hA [] c0 ?_
  clear hA fr; intro fr hA
  refine cF hA ?_
  refine wp_skip ?_
  refine then_normal ?_
  refine wp_seq ?_
  have hS := hO
  refine rP [(0, true), (1, true), (2, true), (3, true), (4, true), (5, true), (6, true), (7, true), (8, true), (9, true), (10, true), (11, true), (12, true), (13, true)] hS ?_
  intro w7 ho; replace hO := hO.st ho; clear ho
  refine ckS (l := (rg 0 14)) (r := []) (e' := [(2, i64 ld), (3, pt b1), (6, pt b2), (7, i64 0), (8, pt b3), (9, pt b4), (11, i64 (R ((a).toNat))), (12, i64 (R ((b).toNat)))]) hA [i64 a, i32 (R ((a).toNat)), bl true, i64 b, i32 (R ((b).toNat)), bl true] (cc (hS.s1 0 1 3 (i64 a)) (cc (⟨by omega, by omega⟩ : (0 : Int) ≤ a ∧ a < ((16 : Nat) : Int)) (cc (hS.sx ((⟨b1, 0, none⟩ : Addr).add ((a).toNat)) 21 (i32 (R ((a).toNat))) fun _ hO => (ld_regs (hO.b 3) (by omega) (by kernel_rfl))) (cc ((inK_up (by kernel_rfl) (hR _)) : inK .i64 (R ((a).toNat))) (cc (hS.s1 0 2 3 (i64 b)) (cc (⟨by omega, by omega⟩ : (0 : Int) ≤ b ∧ b < ((16 : Nat) : Int)) (cc (hS.sx ((⟨b1, 0, none⟩ : Addr).add ((b).toNat)) 21 (i32 (R ((b).toNat))) fun _ hO => (ld_regs (hO.b 3) (by omega) (by kernel_rfl))) (cc ((inK_up (by kernel_rfl) (hR _)) : inK .i64 (R ((b).toNat))) c0)))))))) ?_
  clear hA fr; intro fr hA
  refine end_plan ?_
  refine then_normal ?_
  refine sR (l := [0, 1, 2]) ?_
  refine ck (l := [0]) (r := [1, 2]) (e' := [(2, i64 ld), (3, pt b1), (6, pt b2), (7, i64 0), (8, pt b3), (9, pt b4), (11, i64 (R ((a).toNat))), (12, i64 (R ((b).toNat))), (35, .agg (List.toArray (regsL R pc)))]) hA [.agg (List.toArray (regsL R pc))] (cc (hO.ln 3 0 38 (regsL R pc)) c0) ?_
  clear hA fr; intro fr hA
  refine wpOps_cons' (mN (l := [i32 0, i32 0, i32 0, i32 0, i32 0, i32 0, i32 0, i32 0, i32 0, i32 0, i32 0, i32 0, i32 0, i32 0, i32 0, i32 0, i64 0]) (t := 38) (v := pt) (d := 13) hA hO ?_)
  clear hA hO fr; intro fr w8 b5 hA hO
  refine wpOps_cons' (mS (off := 0) (vc := (regsL R pc)) 0 hA hO ?_)
  clear hO; intro w9 hO
  replace hA := hA.sb (e' := [(2, i64 ld), (3, pt b1), (6, pt b2), (7, i64 0), (8, pt b3), (9, pt b4), (11, i64 (R ((a).toNat))), (12, i64 (R ((b).toNat))), (13, pt b5)])
  refine end_ops ?_
  refine then_normal ?_
  refine sR (l := (rg 0 5)) ?_
  refine ck (l := [0, 1, 2, 3]) (r := [4]) (e' := [(2, i64 ld), (3, pt b1), (6, pt b2), (7, i64 0), (8, pt b3), (9, pt b4), (11, i64 (R ((a).toNat))), (12, i64 (R ((b).toNat))), (13, pt b5), (38, i64 (pc + 4)), (39, pf b5 16)]) hA [i64 pc, bl true] (cc (hO.l1 0 16 3 (i64 pc)) (cc ((inK_i64 (by omega) (by omega)) : inK .i64 (pc + 4)) c0)) ?_
  clear hA fr; intro fr hA
  refine wpOps_cons' (mSR (off := 16) (ad := ⟨b5, 16, none⟩) (vc := [i64 (pc + 4)]) (l' := (regsL R (pc + 4))) 0 hA hO rfl (by kernel_rfl) (by kernel_rfl) ?_)
  clear hO; intro w10 hO
  replace hA := hA.sb (e' := [(2, i64 ld), (3, pt b1), (6, pt b2), (7, i64 0), (8, pt b3), (9, pt b4), (11, i64 (R ((a).toNat))), (12, i64 (R ((b).toNat))), (13, pt b5)])
  refine end_ops ?_
  refine then_normal ?_
  refine wp_seq ?_
  refine sC (e' := [(2, i64 ld), (3, pt b1), (6, pt b2), (7, i64 0), (8, pt b3), (9, pt b4), (11, i64 (R ((a).toNat))), (12, i64 (R ((b).toNat))), (13, pt b5), (41, i64 5)]) 2 hA [i64 5] (cc (hO.l1 1 0 3 (i64 5)) c0) ?_
  clear hA fr; intro fr hA
  refine wp_block ?_
  refine sC (e' := [(2, i64 ld), (3, pt b1), (6, pt b2), (7, i64 0), (8, pt b3), (9, pt b4), (11, i64 (R ((a).toNat))), (12, i64 (R ((b).toNat))), (13, pt b5), (41, i64 5), (57, bl false)]) 2 hA [] c0 ?_
  clear hA fr; intro fr hA
  refine cF hA ?_
  refine sC (e' := [(2, i64 ld), (3, pt b1), (6, pt b2), (7, i64 0), (8, pt b3), (9, pt b4), (11, i64 (R ((a).toNat))), (12, i64 (R ((b).toNat))), (13, pt b5), (41, i64 5), (66, bl false)]) 2 hA [] c0 ?_
  clear hA fr; intro fr hA
  refine cF hA ?_
  refine sC (e' := [(2, i64 ld), (3, pt b1), (6, pt b2), (7, i64 0), (8, pt b3), (9, pt b4), (11, i64 (R ((a).toNat))), (12, i64 (R ((b).toNat))), (13, pt b5), (41, i64 5), (78, bl false)]) 2 hA [] c0 ?_
  clear hA fr; intro fr hA
  refine cF hA ?_
  refine wp_seq ?_
  refine sC (e' := [(2, i64 ld), (3, pt b1), (6, pt b2), (7, i64 0), (8, pt b3), (9, pt b4), (11, i64 (R ((a).toNat))), (12, i64 (R ((b).toNat))), (13, pt b5), (41, i64 5), (89, bl false)]) 2 hA [] c0 ?_
  clear hA fr; intro fr hA
  refine cF hA ?_
  refine rC (e' := [(2, i64 ld), (3, pt b1), (6, pt b2), (7, i64 0), (8, pt b3), (9, pt b4), (11, i64 (R ((a).toNat))), (12, i64 (R ((b).toNat))), (13, pt b5), (41, i64 5), (89, bl false)]) 2 hA [] c0 ?_
  clear hA fr; intro fr hA
  refine then_normal ?_
  refine cF hA ?_
  refine wp_seq ?_
  refine sC (e' := [(2, i64 ld), (3, pt b1), (6, pt b2), (7, i64 0), (8, pt b3), (9, pt b4), (11, i64 (R ((a).toNat))), (12, i64 (R ((b).toNat))), (13, pt b5), (41, i64 5), (115, bl false)]) 2 hA [] c0 ?_
  clear hA fr; intro fr hA
  refine cF hA ?_
  refine rC (e' := [(2, i64 ld), (3, pt b1), (6, pt b2), (7, i64 0), (8, pt b3), (9, pt b4), (11, i64 (R ((a).toNat))), (12, i64 (R ((b).toNat))), (13, pt b5), (41, i64 5), (115, bl false)]) 2 hA [] c0 ?_
  clear hA fr; intro fr hA
  refine then_normal ?_
  refine cF hA ?_
  refine sC (e' := [(2, i64 ld), (3, pt b1), (6, pt b2), (7, i64 0), (8, pt b3), (9, pt b4), (11, i64 (R ((a).toNat))), (12, i64 (R ((b).toNat))), (13, pt b5), (41, i64 5), (138, bl false)]) 2 hA [] c0 ?_
  clear hA fr; intro fr hA
  refine cF hA ?_
  refine sC (e' := [(3, pt b1), (6, pt b2), (7, i64 0), (8, pt b3), (9, pt b4), (11, i64 (R ((a).toNat))), (12, i64 (R ((b).toNat))), (13, pt b5), (41, i64 5), (149, bl false)]) 2 hA [] c0 ?_
  clear hA fr; intro fr hA
  refine cF hA ?_
  refine sC (e' := [(3, pt b1), (6, pt b2), (7, i64 0), (8, pt b3), (9, pt b4), (11, i64 (R ((a).toNat))), (12, i64 (R ((b).toNat))), (13, pt b5), (41, i64 5), (157, bl false)]) 2 hA [] c0 ?_
  clear hA fr; intro fr hA
  refine cF hA ?_
  refine sC (e' := [(3, pt b1), (6, pt b2), (7, i64 0), (8, pt b3), (9, pt b4), (11, i64 (R ((a).toNat))), (12, i64 (R ((b).toNat))), (13, pt b5), (41, i64 5), (166, bl false)]) 2 hA [] c0 ?_
  clear hA fr; intro fr hA
  refine cF hA ?_
  refine sC (e' := [(3, pt b1), (6, pt b2), (7, i64 0), (8, pt b3), (9, pt b4), (11, i64 (R ((a).toNat))), (12, i64 (R ((b).toNat))), (13, pt b5), (41, i64 5), (177, bl false)]) 2 hA [] c0 ?_
  clear hA fr; intro fr hA
  refine cF hA ?_
  refine sC (e' := [(3, pt b1), (6, pt b2), (7, i64 0), (8, pt b3), (9, pt b4), (11, i64 (R ((a).toNat))), (12, i64 (R ((b).toNat))), (13, pt b5), (41, i64 5), (194, bl false)]) 2 hA [] c0 ?_
  clear hA fr; intro fr hA
  refine cF hA ?_
  refine sC (e' := [(3, pt b1), (6, pt b2), (7, i64 0), (8, pt b3), (9, pt b4), (12, i64 (R ((b).toNat))), (13, pt b5), (198, bl false)]) 2 hA [] c0 ?_
  clear hA fr; intro fr hA
  refine cF hA ?_
  have hS : Ow Tryd.prog none' w _ [(b4, 29, [i64 5, i64 a, i64 b, i64 c, i64 v]), (b3, 56, [i64 0, i64 0, i64 0, i64 0, i64 0, i64 0, i64 0]), (b2, 38, [i32 0, i32 0, i32 0, i32 0, i32 0, i32 0, i32 0, i32 0, i32 0, i32 0, i32 0, i32 0, i32 0, i32 0, i32 0, i32 0, i64 0]), (b1, 38, (regsL R pc))] := hO.sub [1, 2, 3, 4]
  refine rP [(0, true), (1, true), (2, true), (3, true), (4, true), (5, true), (6, true), (7, true), (8, true), (9, true), (10, true), (13, true), (11, false), (12, false), (14, true), (15, false)] hS ?_
  intro w11 ho; replace hO := hO.st ho; clear ho
  refine ckS (l := [0, 1, 2, 3, 4, 5, 6, 7, 8, 9, 10, 13]) (r := [(11, false), (12, false), (14, true), (15, false)]) (e' := [(6, pt b2), (7, i64 0), (8, pt b3), (13, pt b5), (43, i64 a), (45, i64 5), (46, i64 (R ((b).toNat))), (52, i64 (R ((c).toNat))), (55, pt b5)]) hA [i64 a, i64 5, i64 c, i32 (R ((c).toNat)), bl true] (cc (hS.s1 0 1 3 (i64 a)) (cc (hS.s1 0 0 3 (i64 5)) (cc (hS.s1 0 3 3 (i64 c)) (cc (⟨by omega, by omega⟩ : (0 : Int) ≤ c ∧ c < ((16 : Nat) : Int)) (cc (hS.sx ((⟨b1, 0, none⟩ : Addr).add ((c).toNat)) 21 (i32 (R ((c).toNat))) fun _ hO => (ld_regs (hO.b 3) (by omega) (by kernel_rfl))) (cc ((inK_up (by kernel_rfl) (hR _)) : inK .i64 (R ((c).toNat))) c0)))))) ?_
  clear hA fr; intro fr hA
  refine plan_mem (mK (f := 39) (args := [i64 5, i64 (R ((b).toNat)), i64 (R ((c).toNat))]) (d := (some 53)) (v := i64 ((R ((b).toNat)) - (R ((c).toNat)))) hA hO Tryd.func39 (value_5 (R ((b).toNat)) (R ((c).toNat)) _ (hR _) (hR _)) ?_)
  clear hA hO fr; intro fr w12 hA hO
  refine ⟨(hO.sub [1, 2, 3, 4]), ?_⟩
  replace hA := hA.sb (e' := [(6, pt b2), (7, i64 0), (8, pt b3), (13, pt b5), (43, i64 a), (53, i64 ((R ((b).toNat)) - (R ((c).toNat)))), (55, pt b5)])
  refine plan_mem (mK (f := 38) (args := [i64 ((R ((b).toNat)) - (R ((c).toNat)))]) (d := (some 54)) (v := i32 (arithS 5 (R ((b).toNat)) (R ((c).toNat)))) hA hO Tryd.func38 (rs (word_any ((R ((b).toNat)) - (R ((c).toNat))) _) (congrArg (Value.int .i32) (arith_5 _ _ (hR _)))) ?_)
  clear hA hO fr; intro fr w13 hA hO
  refine ⟨(hO.sub [1, 2, 3, 4]), ?_⟩
  replace hA := hA.sb (e' := [(6, pt b2), (7, i64 0), (8, pt b3), (13, pt b5), (43, i64 a), (54, i32 (arithS 5 (R ((b).toNat)) (R ((c).toNat)))), (55, pt b5)])
  refine ckS (l := [14]) (r := [(15, false)]) (e' := [(6, pt b2), (7, i64 0), (8, pt b3), (13, pt b5), (54, i32 (arithS 5 (R ((b).toNat)) (R ((c).toNat)))), (56, .pointer (some ((⟨b5, 0, none⟩ : Addr).add ((a).toNat))))]) hA [] (cc (⟨by omega, by omega⟩ : (0 : Int) ≤ a ∧ a < ((16 : Nat) : Int)) c0) ?_
  clear hA fr; intro fr hA
  refine plan_mem (mSR (off := (a).toNat) (ad := (⟨b5, 0, none⟩ : Addr).add ((a).toNat)) (vc := [i32 (arithS 5 (R ((b).toNat)) (R ((c).toNat)))]) (l' := (regsL (upd R ((a).toNat) (arithS 5 (R ((b).toNat)) (R ((c).toNat)))) (pc + 4))) 0 hA hO (add_zero_off _ _) (regs_ble R (pc + 4) (by omega)) (setL_regs (by omega) _) ?_)
  clear hO; intro w14 hO
  refine ⟨(hO.sub [1, 2, 3, 4]), ?_⟩
  replace hA := hA.sb (e' := [(6, pt b2), (7, i64 0), (8, pt b3), (13, pt b5)])
  refine end_plan ?_
  refine inBlock_normal ?_
  refine then_normal ?_
  refine sR (l := (rg 0 5)) ?_
  refine ck (l := [0, 1]) (r := [2, 3, 4]) (e' := [(6, pt b2), (7, i64 0), (8, pt b3), (227, .agg (List.toArray (regsL (upd R ((a).toNat) (arithS 5 (R ((b).toNat)) (R ((c).toNat)))) (pc + 4)))), (228, .agg #[i64 0, i64 0, i64 0, i64 0, i64 0, i64 0, i64 0])]) hA [.agg (List.toArray (regsL (upd R ((a).toNat) (arithS 5 (R ((b).toNat)) (R ((c).toNat)))) (pc + 4)))] (cc (hO.ln 0 0 38 (regsL (upd R ((a).toNat) (arithS 5 (R ((b).toNat)) (R ((c).toNat)))) (pc + 4))) c0) ?_
  clear hA fr; intro fr hA
  refine wpOps_cons' (mS (off := 0) (vc := (regsL (upd R ((a).toNat) (arithS 5 (R ((b).toNat)) (R ((c).toNat)))) (pc + 4))) 3 hA hO ?_)
  clear hO; intro w15 hO
  replace hA := hA.sb (e' := [(6, pt b2), (7, i64 0), (8, pt b3), (228, .agg #[i64 0, i64 0, i64 0, i64 0, i64 0, i64 0, i64 0])])
  refine ck (l := [3]) (r := [4]) (e' := [(6, pt b2), (7, i64 0), (8, pt b3), (228, .agg #[i64 0, i64 0, i64 0, i64 0, i64 0, i64 0, i64 0])]) hA [] c0 ?_
  clear hA fr; intro fr hA
  refine wpOps_cons' (mS (off := 0) (vc := [i64 0, i64 0, i64 0, i64 0, i64 0, i64 0, i64 0]) 2 hA hO ?_)
  clear hO; intro w16 hO
  replace hA := hA.sb (e' := [(6, pt b2), (7, i64 0), (8, pt b3)])
  refine end_ops ?_
  refine then_normal ?_
  refine wp_ret ?_
  refine cR (cs := [some (⟨b2, 0, none⟩, 38), none, some (⟨b3, 0, none⟩, 56)]) (us := [.agg (List.toArray (regsL (upd R ((a).toNat) (arithS 5 (R ((b).toNat)) (R ((c).toNat)))) (pc + 4))), i64 0, .agg #[i64 0, i64 0, i64 0, i64 0, i64 0, i64 0, i64 0]]) hA [.agg (List.toArray (regsL (upd R ((a).toNat) (arithS 5 (R ((b).toNat)) (R ((c).toNat)))) (pc + 4))), .agg #[i64 0, i64 0, i64 0, i64 0, i64 0, i64 0, i64 0]] ⟨(hO.ln 3 0 38 (regsL (upd R ((a).toNat) (arithS 5 (R ((b).toNat)) (R ((c).toNat)))) (pc + 4))), (hO.ln 2 0 56 [i64 0, i64 0, i64 0, i64 0, i64 0, i64 0, i64 0]), trivial⟩ ?_
  have hF := hO.only; clear hA hO
  exact ⟨by simp_all [pack, execV, outV, noTrap, trapL, insV], hF⟩

theorem rexec_6 (R : Nat → Int) (pc ld a b c v : Int) (sl : Value) (w : World) (hT : Tab w) (hR : RegsOk R) (hp : -1099511627776 < pc) (hp' : pc < 1099511627776) (ha : 0 ≤ a) (ha' : a ≤ 15) (hb : 0 ≤ b) (hb' : b ≤ 15) (hc : 0 ≤ c) (hc' : c ≤ 15) (hv : -32768 ≤ v) (hv' : v ≤ 32767) (hdec : ∀ w', Only none' w w' → Calls Tryd.prog 14 #[sl] w' fun e w2 => e = .returned (.tuple #[insV 6 a b c v, .int .i64 0]) ∧ Only none' w' w2) :
    Calls Tryd.prog 23 #[.agg (List.toArray (regsL R pc)), sl, i64 ld] w fun e w' => e = .returned (execV R pc ld 6 a b c v) ∧ Only none' w w' := by
  refine c_enter (args := [.agg (List.toArray (regsL R pc)), sl, i64 ld]) (m := 226) (n := 229) Tryd.func23 rfl (by kernel_rfl) (by kernel_rfl) fun fr hA => ?_
  have hO := Ow.nil Tryd.prog none' w
  have hRa := hR a.toNat; have hRb := hR b.toNat; have hRc := hR c.toNat; simp only [inK] at hRa hRb hRc
  skip
  refine sR (l := [0, 1, 2, 3]) ?_
  refine wpOps_cons' (mN (l := (regsL R pc)) (t := 38) (v := pt) (d := 3) hA hO ?_)
  clear hA hO fr; intro fr w1 b1 hA hO
  replace hA := hA.sb (e' := [(1, sl), (2, i64 ld), (3, pt b1)])
  refine wpOps_cons' (mN (l := [i32 0, i32 0, i32 0, i32 0, i32 0, i32 0, i32 0, i32 0, i32 0, i32 0, i32 0, i32 0, i32 0, i32 0, i32 0, i32 0, i64 0]) (t := 38) (v := pt) (d := 6) hA hO ?_)
  clear hA hO fr; intro fr w2 b2 hA hO
  refine ck (l := [2]) (r := [3]) (e' := [(1, sl), (2, i64 ld), (3, pt b1), (6, pt b2), (7, i64 0)]) hA [] c0 ?_
  clear hA fr; intro fr hA
  refine wpOps_cons' (mN (l := [i64 0, i64 0, i64 0, i64 0, i64 0, i64 0, i64 0]) (t := 56) (v := pt) (d := 8) hA hO ?_)
  clear hA hO fr; intro fr w3 b3 hA hO
  refine end_ops ?_
  refine then_normal ?_
  refine sR (l := (rg 0 8)) ?_
  refine ck (l := [0]) (r := (rg 1 7)) (e' := [(2, i64 ld), (3, pt b1), (6, pt b2), (7, i64 0), (8, pt b3), (15, sl)]) hA [] c0 ?_
  clear hA fr; intro fr hA
  refine wpOps_cons' (mK (f := 14) (args := [sl]) (d := (some 16)) (v := .tuple #[.agg #[i64 6, i64 a, i64 b, i64 c, i64 v], i64 0]) hA hO Tryd.func14 (hdec _ hO.only) ?_)
  clear hA hO fr; intro fr w4 hA hO
  replace hA := hA.sb (e' := [(2, i64 ld), (3, pt b1), (6, pt b2), (7, i64 0), (8, pt b3), (16, .tuple #[.agg #[i64 6, i64 a, i64 b, i64 c, i64 v], i64 0])])
  refine ck (l := [2, 3, 4]) (r := [5, 6, 7]) (e' := [(2, i64 ld), (3, pt b1), (6, pt b2), (7, i64 0), (8, pt b3), (17, .agg #[i64 6, i64 a, i64 b, i64 c, i64 v]), (18, i64 0)]) hA [] c0 ?_
  clear hA fr; intro fr hA
  refine wpOps_cons' (mN (l := [i64 0, i64 0, i64 0, i64 0, i64 0]) (t := 29) (v := pt) (d := 9) hA hO ?_)
  clear hA hO fr; intro fr w5 b4 hA hO
  refine wpOps_cons' (mS (off := 0) (vc := [i64 6, i64 a, i64 b, i64 c, i64 v]) 0 hA hO ?_)
  clear hO; intro w6 hO
  replace hA := hA.sb (e' := [(2, i64 ld), (3, pt b1), (6, pt b2), (7, i64 0), (8, pt b3), (9, pt b4), (18, i64 0)])
  refine ck (l := [7]) (r := []) (e' := [(2, i64 ld), (3, pt b1), (6, pt b2), (7, i64 0), (8, pt b3), (9, pt b4), (10, i64 0)]) hA [] c0 ?_
  clear hA fr; intro fr hA
  refine end_ops ?_
  refine then_normal ?_
  refine wp_seq ?_
  refine sC (e' := [(2, i64 ld), (3, pt b1), (6, pt b2), (7, i64 0), (8, pt b3), (9, pt b4), (20, bl false)]) 2 hA [] c0 ?_
  clear hA fr; intro fr hA
  refine cF hA ?_
  refine wp_skip ?_
  refine then_normal ?_
  refine wp_seq ?_
  have hS := hO
  refine rP [(0, true), (1, true), (2, true), (3, true), (4, true), (5, true), (6, true), (7, true), (8, true), (9, true), (10, true), (11, true), (12, true), (13, true)] hS ?_
  intro w7 ho; replace hO := hO.st ho; clear ho
  refine ckS (l := (rg 0 14)) (r := []) (e' := [(2, i64 ld), (3, pt b1), (6, pt b2), (7, i64 0), (8, pt b3), (9, pt b4), (11, i64 (R ((a).toNat))), (12, i64 (R ((b).toNat)))]) hA [i64 a, i32 (R ((a).toNat)), bl true, i64 b, i32 (R ((b).toNat)), bl true] (cc (hS.s1 0 1 3 (i64 a)) (cc (⟨by omega, by omega⟩ : (0 : Int) ≤ a ∧ a < ((16 : Nat) : Int)) (cc (hS.sx ((⟨b1, 0, none⟩ : Addr).add ((a).toNat)) 21 (i32 (R ((a).toNat))) fun _ hO => (ld_regs (hO.b 3) (by omega) (by kernel_rfl))) (cc ((inK_up (by kernel_rfl) (hR _)) : inK .i64 (R ((a).toNat))) (cc (hS.s1 0 2 3 (i64 b)) (cc (⟨by omega, by omega⟩ : (0 : Int) ≤ b ∧ b < ((16 : Nat) : Int)) (cc (hS.sx ((⟨b1, 0, none⟩ : Addr).add ((b).toNat)) 21 (i32 (R ((b).toNat))) fun _ hO => (ld_regs (hO.b 3) (by omega) (by kernel_rfl))) (cc ((inK_up (by kernel_rfl) (hR _)) : inK .i64 (R ((b).toNat))) c0)))))))) ?_
  clear hA fr; intro fr hA
  refine end_plan ?_
  refine then_normal ?_
  refine sR (l := [0, 1, 2]) ?_
  refine ck (l := [0]) (r := [1, 2]) (e' := [(2, i64 ld), (3, pt b1), (6, pt b2), (7, i64 0), (8, pt b3), (9, pt b4), (11, i64 (R ((a).toNat))), (12, i64 (R ((b).toNat))), (35, .agg (List.toArray (regsL R pc)))]) hA [.agg (List.toArray (regsL R pc))] (cc (hO.ln 3 0 38 (regsL R pc)) c0) ?_
  clear hA fr; intro fr hA
  refine wpOps_cons' (mN (l := [i32 0, i32 0, i32 0, i32 0, i32 0, i32 0, i32 0, i32 0, i32 0, i32 0, i32 0, i32 0, i32 0, i32 0, i32 0, i32 0, i64 0]) (t := 38) (v := pt) (d := 13) hA hO ?_)
  clear hA hO fr; intro fr w8 b5 hA hO
  refine wpOps_cons' (mS (off := 0) (vc := (regsL R pc)) 0 hA hO ?_)
  clear hO; intro w9 hO
  replace hA := hA.sb (e' := [(2, i64 ld), (3, pt b1), (6, pt b2), (7, i64 0), (8, pt b3), (9, pt b4), (11, i64 (R ((a).toNat))), (12, i64 (R ((b).toNat))), (13, pt b5)])
  refine end_ops ?_
  refine then_normal ?_
  refine sR (l := (rg 0 5)) ?_
  refine ck (l := [0, 1, 2, 3]) (r := [4]) (e' := [(2, i64 ld), (3, pt b1), (6, pt b2), (7, i64 0), (8, pt b3), (9, pt b4), (11, i64 (R ((a).toNat))), (12, i64 (R ((b).toNat))), (13, pt b5), (38, i64 (pc + 4)), (39, pf b5 16)]) hA [i64 pc, bl true] (cc (hO.l1 0 16 3 (i64 pc)) (cc ((inK_i64 (by omega) (by omega)) : inK .i64 (pc + 4)) c0)) ?_
  clear hA fr; intro fr hA
  refine wpOps_cons' (mSR (off := 16) (ad := ⟨b5, 16, none⟩) (vc := [i64 (pc + 4)]) (l' := (regsL R (pc + 4))) 0 hA hO rfl (by kernel_rfl) (by kernel_rfl) ?_)
  clear hO; intro w10 hO
  replace hA := hA.sb (e' := [(2, i64 ld), (3, pt b1), (6, pt b2), (7, i64 0), (8, pt b3), (9, pt b4), (11, i64 (R ((a).toNat))), (12, i64 (R ((b).toNat))), (13, pt b5)])
  refine end_ops ?_
  refine then_normal ?_
  refine wp_seq ?_
  refine sC (e' := [(2, i64 ld), (3, pt b1), (6, pt b2), (7, i64 0), (8, pt b3), (9, pt b4), (11, i64 (R ((a).toNat))), (12, i64 (R ((b).toNat))), (13, pt b5), (41, i64 6)]) 2 hA [i64 6] (cc (hO.l1 1 0 3 (i64 6)) c0) ?_
  clear hA fr; intro fr hA
  refine wp_block ?_
  refine sC (e' := [(2, i64 ld), (3, pt b1), (6, pt b2), (7, i64 0), (8, pt b3), (9, pt b4), (11, i64 (R ((a).toNat))), (12, i64 (R ((b).toNat))), (13, pt b5), (41, i64 6), (57, bl false)]) 2 hA [] c0 ?_
  clear hA fr; intro fr hA
  refine cF hA ?_
  refine sC (e' := [(2, i64 ld), (3, pt b1), (6, pt b2), (7, i64 0), (8, pt b3), (9, pt b4), (11, i64 (R ((a).toNat))), (12, i64 (R ((b).toNat))), (13, pt b5), (41, i64 6), (66, bl false)]) 2 hA [] c0 ?_
  clear hA fr; intro fr hA
  refine cF hA ?_
  refine sC (e' := [(2, i64 ld), (3, pt b1), (6, pt b2), (7, i64 0), (8, pt b3), (9, pt b4), (11, i64 (R ((a).toNat))), (12, i64 (R ((b).toNat))), (13, pt b5), (41, i64 6), (78, bl false)]) 2 hA [] c0 ?_
  clear hA fr; intro fr hA
  refine cF hA ?_
  refine wp_seq ?_
  refine sC (e' := [(2, i64 ld), (3, pt b1), (6, pt b2), (7, i64 0), (8, pt b3), (9, pt b4), (11, i64 (R ((a).toNat))), (12, i64 (R ((b).toNat))), (13, pt b5), (41, i64 6), (89, bl false)]) 2 hA [] c0 ?_
  clear hA fr; intro fr hA
  refine cF hA ?_
  refine rC (e' := [(2, i64 ld), (3, pt b1), (6, pt b2), (7, i64 0), (8, pt b3), (9, pt b4), (11, i64 (R ((a).toNat))), (12, i64 (R ((b).toNat))), (13, pt b5), (41, i64 6), (89, bl false)]) 2 hA [] c0 ?_
  clear hA fr; intro fr hA
  refine then_normal ?_
  refine cF hA ?_
  refine wp_seq ?_
  refine sC (e' := [(2, i64 ld), (3, pt b1), (6, pt b2), (7, i64 0), (8, pt b3), (9, pt b4), (11, i64 (R ((a).toNat))), (12, i64 (R ((b).toNat))), (13, pt b5), (41, i64 6), (115, bl false)]) 2 hA [] c0 ?_
  clear hA fr; intro fr hA
  refine cF hA ?_
  refine rC (e' := [(2, i64 ld), (3, pt b1), (6, pt b2), (7, i64 0), (8, pt b3), (9, pt b4), (11, i64 (R ((a).toNat))), (12, i64 (R ((b).toNat))), (13, pt b5), (41, i64 6), (115, bl false)]) 2 hA [] c0 ?_
  clear hA fr; intro fr hA
  refine then_normal ?_
  refine cF hA ?_
  refine sC (e' := [(2, i64 ld), (3, pt b1), (6, pt b2), (7, i64 0), (8, pt b3), (9, pt b4), (11, i64 (R ((a).toNat))), (12, i64 (R ((b).toNat))), (13, pt b5), (41, i64 6), (138, bl false)]) 2 hA [] c0 ?_
  clear hA fr; intro fr hA
  refine cF hA ?_
  refine sC (e' := [(3, pt b1), (6, pt b2), (7, i64 0), (8, pt b3), (9, pt b4), (11, i64 (R ((a).toNat))), (12, i64 (R ((b).toNat))), (13, pt b5), (41, i64 6), (149, bl false)]) 2 hA [] c0 ?_
  clear hA fr; intro fr hA
  refine cF hA ?_
  refine sC (e' := [(3, pt b1), (6, pt b2), (7, i64 0), (8, pt b3), (9, pt b4), (11, i64 (R ((a).toNat))), (12, i64 (R ((b).toNat))), (13, pt b5), (41, i64 6), (157, bl false)]) 2 hA [] c0 ?_
  clear hA fr; intro fr hA
  refine cF hA ?_
  refine sC (e' := [(3, pt b1), (6, pt b2), (7, i64 0), (8, pt b3), (9, pt b4), (11, i64 (R ((a).toNat))), (12, i64 (R ((b).toNat))), (13, pt b5), (41, i64 6), (166, bl false)]) 2 hA [] c0 ?_
  clear hA fr; intro fr hA
  refine cF hA ?_
  refine sC (e' := [(3, pt b1), (6, pt b2), (7, i64 0), (8, pt b3), (9, pt b4), (11, i64 (R ((a).toNat))), (12, i64 (R ((b).toNat))), (13, pt b5), (41, i64 6), (177, bl false)]) 2 hA [] c0 ?_
  clear hA fr; intro fr hA
  refine cF hA ?_
  refine sC (e' := [(3, pt b1), (6, pt b2), (7, i64 0), (8, pt b3), (9, pt b4), (11, i64 (R ((a).toNat))), (12, i64 (R ((b).toNat))), (13, pt b5), (41, i64 6), (194, bl false)]) 2 hA [] c0 ?_
  clear hA fr; intro fr hA
  refine cF hA ?_
  refine sC (e' := [(3, pt b1), (6, pt b2), (7, i64 0), (8, pt b3), (9, pt b4), (12, i64 (R ((b).toNat))), (13, pt b5), (198, bl false)]) 2 hA [] c0 ?_
  clear hA fr; intro fr hA
  refine cF hA ?_
  have hS : Ow Tryd.prog none' w _ [(b4, 29, [i64 6, i64 a, i64 b, i64 c, i64 v]), (b3, 56, [i64 0, i64 0, i64 0, i64 0, i64 0, i64 0, i64 0]), (b2, 38, [i32 0, i32 0, i32 0, i32 0, i32 0, i32 0, i32 0, i32 0, i32 0, i32 0, i32 0, i32 0, i32 0, i32 0, i32 0, i32 0, i64 0]), (b1, 38, (regsL R pc))] := hO.sub [1, 2, 3, 4]
  refine rP [(0, true), (1, true), (2, true), (3, true), (4, true), (5, true), (6, true), (7, true), (8, true), (9, true), (10, true), (13, true), (11, false), (12, false), (14, true), (15, false)] hS ?_
  intro w11 ho; replace hO := hO.st ho; clear ho
  refine ckS (l := [0, 1, 2, 3, 4, 5, 6, 7, 8, 9, 10, 13]) (r := [(11, false), (12, false), (14, true), (15, false)]) (e' := [(6, pt b2), (7, i64 0), (8, pt b3), (13, pt b5), (43, i64 a), (45, i64 6), (46, i64 (R ((b).toNat))), (52, i64 (R ((c).toNat))), (55, pt b5)]) hA [i64 a, i64 6, i64 c, i32 (R ((c).toNat)), bl true] (cc (hS.s1 0 1 3 (i64 a)) (cc (hS.s1 0 0 3 (i64 6)) (cc (hS.s1 0 3 3 (i64 c)) (cc (⟨by omega, by omega⟩ : (0 : Int) ≤ c ∧ c < ((16 : Nat) : Int)) (cc (hS.sx ((⟨b1, 0, none⟩ : Addr).add ((c).toNat)) 21 (i32 (R ((c).toNat))) fun _ hO => (ld_regs (hO.b 3) (by omega) (by kernel_rfl))) (cc ((inK_up (by kernel_rfl) (hR _)) : inK .i64 (R ((c).toNat))) c0)))))) ?_
  clear hA fr; intro fr hA
  refine plan_mem (mK (f := 39) (args := [i64 6, i64 (R ((b).toNat)), i64 (R ((c).toNat))]) (d := (some 53)) (v := i64 ((R ((b).toNat)) * (R ((c).toNat)))) hA hO Tryd.func39 (value_6 (R ((b).toNat)) (R ((c).toNat)) _ (hR _) (hR _)) ?_)
  clear hA hO fr; intro fr w12 hA hO
  refine ⟨(hO.sub [1, 2, 3, 4]), ?_⟩
  replace hA := hA.sb (e' := [(6, pt b2), (7, i64 0), (8, pt b3), (13, pt b5), (43, i64 a), (53, i64 ((R ((b).toNat)) * (R ((c).toNat)))), (55, pt b5)])
  refine plan_mem (mK (f := 38) (args := [i64 ((R ((b).toNat)) * (R ((c).toNat)))]) (d := (some 54)) (v := i32 (arithS 6 (R ((b).toNat)) (R ((c).toNat)))) hA hO Tryd.func38 (rs (word_any ((R ((b).toNat)) * (R ((c).toNat))) _) (congrArg (Value.int .i32) (arith_6 _ _ (hR _)))) ?_)
  clear hA hO fr; intro fr w13 hA hO
  refine ⟨(hO.sub [1, 2, 3, 4]), ?_⟩
  replace hA := hA.sb (e' := [(6, pt b2), (7, i64 0), (8, pt b3), (13, pt b5), (43, i64 a), (54, i32 (arithS 6 (R ((b).toNat)) (R ((c).toNat)))), (55, pt b5)])
  refine ckS (l := [14]) (r := [(15, false)]) (e' := [(6, pt b2), (7, i64 0), (8, pt b3), (13, pt b5), (54, i32 (arithS 6 (R ((b).toNat)) (R ((c).toNat)))), (56, .pointer (some ((⟨b5, 0, none⟩ : Addr).add ((a).toNat))))]) hA [] (cc (⟨by omega, by omega⟩ : (0 : Int) ≤ a ∧ a < ((16 : Nat) : Int)) c0) ?_
  clear hA fr; intro fr hA
  refine plan_mem (mSR (off := (a).toNat) (ad := (⟨b5, 0, none⟩ : Addr).add ((a).toNat)) (vc := [i32 (arithS 6 (R ((b).toNat)) (R ((c).toNat)))]) (l' := (regsL (upd R ((a).toNat) (arithS 6 (R ((b).toNat)) (R ((c).toNat)))) (pc + 4))) 0 hA hO (add_zero_off _ _) (regs_ble R (pc + 4) (by omega)) (setL_regs (by omega) _) ?_)
  clear hO; intro w14 hO
  refine ⟨(hO.sub [1, 2, 3, 4]), ?_⟩
  replace hA := hA.sb (e' := [(6, pt b2), (7, i64 0), (8, pt b3), (13, pt b5)])
  refine end_plan ?_
  refine inBlock_normal ?_
  refine then_normal ?_
  refine sR (l := (rg 0 5)) ?_
  refine ck (l := [0, 1]) (r := [2, 3, 4]) (e' := [(6, pt b2), (7, i64 0), (8, pt b3), (227, .agg (List.toArray (regsL (upd R ((a).toNat) (arithS 6 (R ((b).toNat)) (R ((c).toNat)))) (pc + 4)))), (228, .agg #[i64 0, i64 0, i64 0, i64 0, i64 0, i64 0, i64 0])]) hA [.agg (List.toArray (regsL (upd R ((a).toNat) (arithS 6 (R ((b).toNat)) (R ((c).toNat)))) (pc + 4)))] (cc (hO.ln 0 0 38 (regsL (upd R ((a).toNat) (arithS 6 (R ((b).toNat)) (R ((c).toNat)))) (pc + 4))) c0) ?_
  clear hA fr; intro fr hA
  refine wpOps_cons' (mS (off := 0) (vc := (regsL (upd R ((a).toNat) (arithS 6 (R ((b).toNat)) (R ((c).toNat)))) (pc + 4))) 3 hA hO ?_)
  clear hO; intro w15 hO
  replace hA := hA.sb (e' := [(6, pt b2), (7, i64 0), (8, pt b3), (228, .agg #[i64 0, i64 0, i64 0, i64 0, i64 0, i64 0, i64 0])])
  refine ck (l := [3]) (r := [4]) (e' := [(6, pt b2), (7, i64 0), (8, pt b3), (228, .agg #[i64 0, i64 0, i64 0, i64 0, i64 0, i64 0, i64 0])]) hA [] c0 ?_
  clear hA fr; intro fr hA
  refine wpOps_cons' (mS (off := 0) (vc := [i64 0, i64 0, i64 0, i64 0, i64 0, i64 0, i64 0]) 2 hA hO ?_)
  clear hO; intro w16 hO
  replace hA := hA.sb (e' := [(6, pt b2), (7, i64 0), (8, pt b3)])
  refine end_ops ?_
  refine then_normal ?_
  refine wp_ret ?_
  refine cR (cs := [some (⟨b2, 0, none⟩, 38), none, some (⟨b3, 0, none⟩, 56)]) (us := [.agg (List.toArray (regsL (upd R ((a).toNat) (arithS 6 (R ((b).toNat)) (R ((c).toNat)))) (pc + 4))), i64 0, .agg #[i64 0, i64 0, i64 0, i64 0, i64 0, i64 0, i64 0]]) hA [.agg (List.toArray (regsL (upd R ((a).toNat) (arithS 6 (R ((b).toNat)) (R ((c).toNat)))) (pc + 4))), .agg #[i64 0, i64 0, i64 0, i64 0, i64 0, i64 0, i64 0]] ⟨(hO.ln 3 0 38 (regsL (upd R ((a).toNat) (arithS 6 (R ((b).toNat)) (R ((c).toNat)))) (pc + 4))), (hO.ln 2 0 56 [i64 0, i64 0, i64 0, i64 0, i64 0, i64 0, i64 0]), trivial⟩ ?_
  have hF := hO.only; clear hA hO
  exact ⟨by simp_all [pack, execV, outV, noTrap, trapL, insV], hF⟩

theorem rexec_7 (R : Nat → Int) (pc ld a b c v : Int) (sl : Value) (w : World) (hT : Tab w) (hR : RegsOk R) (hp : -1099511627776 < pc) (hp' : pc < 1099511627776) (ha : 0 ≤ a) (ha' : a ≤ 15) (hb : 0 ≤ b) (hb' : b ≤ 15) (hc : 0 ≤ c) (hc' : c ≤ 15) (hv : -32768 ≤ v) (hv' : v ≤ 32767) (hdec : ∀ w', Only none' w w' → Calls Tryd.prog 14 #[sl] w' fun e w2 => e = .returned (.tuple #[insV 7 a b c v, .int .i64 0]) ∧ Only none' w' w2) :
    Calls Tryd.prog 23 #[.agg (List.toArray (regsL R pc)), sl, i64 ld] w fun e w' => e = .returned (execV R pc ld 7 a b c v) ∧ Only none' w w' := by
  refine c_enter (args := [.agg (List.toArray (regsL R pc)), sl, i64 ld]) (m := 226) (n := 229) Tryd.func23 rfl (by kernel_rfl) (by kernel_rfl) fun fr hA => ?_
  have hO := Ow.nil Tryd.prog none' w
  have hRa := hR a.toNat; have hRb := hR b.toNat; have hRc := hR c.toNat; simp only [inK] at hRa hRb hRc
  skip
  refine sR (l := [0, 1, 2, 3]) ?_
  refine wpOps_cons' (mN (l := (regsL R pc)) (t := 38) (v := pt) (d := 3) hA hO ?_)
  clear hA hO fr; intro fr w1 b1 hA hO
  replace hA := hA.sb (e' := [(1, sl), (2, i64 ld), (3, pt b1)])
  refine wpOps_cons' (mN (l := [i32 0, i32 0, i32 0, i32 0, i32 0, i32 0, i32 0, i32 0, i32 0, i32 0, i32 0, i32 0, i32 0, i32 0, i32 0, i32 0, i64 0]) (t := 38) (v := pt) (d := 6) hA hO ?_)
  clear hA hO fr; intro fr w2 b2 hA hO
  refine ck (l := [2]) (r := [3]) (e' := [(1, sl), (2, i64 ld), (3, pt b1), (6, pt b2), (7, i64 0)]) hA [] c0 ?_
  clear hA fr; intro fr hA
  refine wpOps_cons' (mN (l := [i64 0, i64 0, i64 0, i64 0, i64 0, i64 0, i64 0]) (t := 56) (v := pt) (d := 8) hA hO ?_)
  clear hA hO fr; intro fr w3 b3 hA hO
  refine end_ops ?_
  refine then_normal ?_
  refine sR (l := (rg 0 8)) ?_
  refine ck (l := [0]) (r := (rg 1 7)) (e' := [(2, i64 ld), (3, pt b1), (6, pt b2), (7, i64 0), (8, pt b3), (15, sl)]) hA [] c0 ?_
  clear hA fr; intro fr hA
  refine wpOps_cons' (mK (f := 14) (args := [sl]) (d := (some 16)) (v := .tuple #[.agg #[i64 7, i64 a, i64 b, i64 c, i64 v], i64 0]) hA hO Tryd.func14 (hdec _ hO.only) ?_)
  clear hA hO fr; intro fr w4 hA hO
  replace hA := hA.sb (e' := [(2, i64 ld), (3, pt b1), (6, pt b2), (7, i64 0), (8, pt b3), (16, .tuple #[.agg #[i64 7, i64 a, i64 b, i64 c, i64 v], i64 0])])
  refine ck (l := [2, 3, 4]) (r := [5, 6, 7]) (e' := [(2, i64 ld), (3, pt b1), (6, pt b2), (7, i64 0), (8, pt b3), (17, .agg #[i64 7, i64 a, i64 b, i64 c, i64 v]), (18, i64 0)]) hA [] c0 ?_
  clear hA fr; intro fr hA
  refine wpOps_cons' (mN (l := [i64 0, i64 0, i64 0, i64 0, i64 0]) (t := 29) (v := pt) (d := 9) hA hO ?_)
  clear hA hO fr; intro fr w5 b4 hA hO
  refine wpOps_cons' (mS (off := 0) (vc := [i64 7, i64 a, i64 b, i64 c, i64 v]) 0 hA hO ?_)
  clear hO; intro w6 hO
  replace hA := hA.sb (e' := [(2, i64 ld), (3, pt b1), (6, pt b2), (7, i64 0), (8, pt b3), (9, pt b4), (18, i64 0)])
  refine ck (l := [7]) (r := []) (e' := [(2, i64 ld), (3, pt b1), (6, pt b2), (7, i64 0), (8, pt b3), (9, pt b4), (10, i64 0)]) hA [] c0 ?_
  clear hA fr; intro fr hA
  refine end_ops ?_
  refine then_normal ?_
  refine wp_seq ?_
  refine sC (e' := [(2, i64 ld), (3, pt b1), (6, pt b2), (7, i64 0), (8, pt b3), (9, pt b4), (20, bl false)]) 2 hA [] c0 ?_
  clear hA fr; intro fr hA
  refine cF hA ?_
  refine wp_skip ?_
  refine then_normal ?_
  refine wp_seq ?_
  have hS := hO
  refine rP [(0, true), (1, true), (2, true), (3, true), (4, true), (5, true), (6, true), (7, true), (8, true), (9, true), (10, true), (11, true), (12, true), (13, true)] hS ?_
  intro w7 ho; replace hO := hO.st ho; clear ho
  refine ckS (l := (rg 0 14)) (r := []) (e' := [(2, i64 ld), (3, pt b1), (6, pt b2), (7, i64 0), (8, pt b3), (9, pt b4), (11, i64 (R ((a).toNat))), (12, i64 (R ((b).toNat)))]) hA [i64 a, i32 (R ((a).toNat)), bl true, i64 b, i32 (R ((b).toNat)), bl true] (cc (hS.s1 0 1 3 (i64 a)) (cc (⟨by omega, by omega⟩ : (0 : Int) ≤ a ∧ a < ((16 : Nat) : Int)) (cc (hS.sx ((⟨b1, 0, none⟩ : Addr).add ((a).toNat)) 21 (i32 (R ((a).toNat))) fun _ hO => (ld_regs (hO.b 3) (by omega) (by kernel_rfl))) (cc ((inK_up (by kernel_rfl) (hR _)) : inK .i64 (R ((a).toNat))) (cc (hS.s1 0 2 3 (i64 b)) (cc (⟨by omega, by omega⟩ : (0 : Int) ≤ b ∧ b < ((16 : Nat) : Int)) (cc (hS.sx ((⟨b1, 0, none⟩ : Addr).add ((b).toNat)) 21 (i32 (R ((b).toNat))) fun _ hO => (ld_regs (hO.b 3) (by omega) (by kernel_rfl))) (cc ((inK_up (by kernel_rfl) (hR _)) : inK .i64 (R ((b).toNat))) c0)))))))) ?_
  clear hA fr; intro fr hA
  refine end_plan ?_
  refine then_normal ?_
  refine sR (l := [0, 1, 2]) ?_
  refine ck (l := [0]) (r := [1, 2]) (e' := [(2, i64 ld), (3, pt b1), (6, pt b2), (7, i64 0), (8, pt b3), (9, pt b4), (11, i64 (R ((a).toNat))), (12, i64 (R ((b).toNat))), (35, .agg (List.toArray (regsL R pc)))]) hA [.agg (List.toArray (regsL R pc))] (cc (hO.ln 3 0 38 (regsL R pc)) c0) ?_
  clear hA fr; intro fr hA
  refine wpOps_cons' (mN (l := [i32 0, i32 0, i32 0, i32 0, i32 0, i32 0, i32 0, i32 0, i32 0, i32 0, i32 0, i32 0, i32 0, i32 0, i32 0, i32 0, i64 0]) (t := 38) (v := pt) (d := 13) hA hO ?_)
  clear hA hO fr; intro fr w8 b5 hA hO
  refine wpOps_cons' (mS (off := 0) (vc := (regsL R pc)) 0 hA hO ?_)
  clear hO; intro w9 hO
  replace hA := hA.sb (e' := [(2, i64 ld), (3, pt b1), (6, pt b2), (7, i64 0), (8, pt b3), (9, pt b4), (11, i64 (R ((a).toNat))), (12, i64 (R ((b).toNat))), (13, pt b5)])
  refine end_ops ?_
  refine then_normal ?_
  refine sR (l := (rg 0 5)) ?_
  refine ck (l := [0, 1, 2, 3]) (r := [4]) (e' := [(2, i64 ld), (3, pt b1), (6, pt b2), (7, i64 0), (8, pt b3), (9, pt b4), (11, i64 (R ((a).toNat))), (12, i64 (R ((b).toNat))), (13, pt b5), (38, i64 (pc + 4)), (39, pf b5 16)]) hA [i64 pc, bl true] (cc (hO.l1 0 16 3 (i64 pc)) (cc ((inK_i64 (by omega) (by omega)) : inK .i64 (pc + 4)) c0)) ?_
  clear hA fr; intro fr hA
  refine wpOps_cons' (mSR (off := 16) (ad := ⟨b5, 16, none⟩) (vc := [i64 (pc + 4)]) (l' := (regsL R (pc + 4))) 0 hA hO rfl (by kernel_rfl) (by kernel_rfl) ?_)
  clear hO; intro w10 hO
  replace hA := hA.sb (e' := [(2, i64 ld), (3, pt b1), (6, pt b2), (7, i64 0), (8, pt b3), (9, pt b4), (11, i64 (R ((a).toNat))), (12, i64 (R ((b).toNat))), (13, pt b5)])
  refine end_ops ?_
  refine then_normal ?_
  refine wp_seq ?_
  refine sC (e' := [(2, i64 ld), (3, pt b1), (6, pt b2), (7, i64 0), (8, pt b3), (9, pt b4), (11, i64 (R ((a).toNat))), (12, i64 (R ((b).toNat))), (13, pt b5), (41, i64 7)]) 2 hA [i64 7] (cc (hO.l1 1 0 3 (i64 7)) c0) ?_
  clear hA fr; intro fr hA
  refine wp_block ?_
  refine sC (e' := [(2, i64 ld), (3, pt b1), (6, pt b2), (7, i64 0), (8, pt b3), (9, pt b4), (11, i64 (R ((a).toNat))), (12, i64 (R ((b).toNat))), (13, pt b5), (41, i64 7), (57, bl false)]) 2 hA [] c0 ?_
  clear hA fr; intro fr hA
  refine cF hA ?_
  refine sC (e' := [(2, i64 ld), (3, pt b1), (6, pt b2), (7, i64 0), (8, pt b3), (9, pt b4), (11, i64 (R ((a).toNat))), (12, i64 (R ((b).toNat))), (13, pt b5), (41, i64 7), (66, bl false)]) 2 hA [] c0 ?_
  clear hA fr; intro fr hA
  refine cF hA ?_
  refine sC (e' := [(2, i64 ld), (3, pt b1), (6, pt b2), (7, i64 0), (8, pt b3), (9, pt b4), (11, i64 (R ((a).toNat))), (12, i64 (R ((b).toNat))), (13, pt b5), (41, i64 7), (78, bl false)]) 2 hA [] c0 ?_
  clear hA fr; intro fr hA
  refine cF hA ?_
  refine wp_seq ?_
  refine sC (e' := [(2, i64 ld), (3, pt b1), (6, pt b2), (7, i64 0), (8, pt b3), (9, pt b4), (11, i64 (R ((a).toNat))), (12, i64 (R ((b).toNat))), (13, pt b5), (41, i64 7), (89, bl true)]) 2 hA [] c0 ?_
  clear hA fr; intro fr hA
  refine cT hA ?_
  refine wp_skip ?_
  refine then_normal ?_
  refine cT hA ?_
  refine wp_seq ?_
  refine sC (e' := [(3, pt b1), (6, pt b2), (7, i64 0), (8, pt b3), (9, pt b4), (12, i64 (R ((b).toNat))), (13, pt b5), (97, bl ((R ((c).toNat)) == 0))]) 6 hA [i64 c, i32 (R ((c).toNat))] (cc (hO.l1 1 3 3 (i64 c)) (cc (⟨by omega, by omega⟩ : (0 : Int) ≤ c ∧ c < ((16 : Nat) : Int)) (cc ((ld_regs (hO.b 4) (by omega) (by kernel_rfl)) : Ld Tryd.prog w10 ((⟨b1, 0, none⟩ : Addr).add ((c).toNat)) 21 (i32 (R ((c).toNat)))) c0))) ?_
  clear hA fr; intro fr hA
  rcases Bool.eq_false_or_eq_true ((R ((c).toNat)) == 0) with h1 | h1
  ·
    replace hA := hA.bool (f := fun z => [(3, pt b1), (6, pt b2), (7, i64 0), (8, pt b3), (9, pt b4), (12, i64 (R ((b).toNat))), (13, pt b5), (97, .bool z)]) h1
    have h1p := eq_of_beq h1
    refine cT hA ?_
    refine sR (l := (rg 0 5)) ?_
    refine ck (l := [0, 1]) (r := [2, 3, 4]) (e' := [(3, pt b1), (6, pt b2), (7, i64 0), (8, pt b3), (9, pt b4), (12, i64 (R ((b).toNat))), (13, pt b5), (98, .agg (List.toArray (regsL R pc))), (99, .agg #[i64 2, i64 2, i64 0, i64 0, i64 0, i64 0, i64 0])]) hA [.agg (List.toArray (regsL R pc))] (cc (hO.ln 4 0 38 (regsL R pc)) c0) ?_
    clear hA fr; intro fr hA
    refine wpOps_cons' (mS (off := 0) (vc := (regsL R pc)) 3 hA hO ?_)
    clear hO; intro w11 hO
    replace hA := hA.sb (e' := [(3, pt b1), (6, pt b2), (7, i64 0), (8, pt b3), (9, pt b4), (12, i64 (R ((b).toNat))), (13, pt b5), (99, .agg #[i64 2, i64 2, i64 0, i64 0, i64 0, i64 0, i64 0])])
    refine ck (l := [3]) (r := [4]) (e' := [(3, pt b1), (6, pt b2), (7, i64 0), (8, pt b3), (9, pt b4), (12, i64 (R ((b).toNat))), (13, pt b5), (99, .agg #[i64 2, i64 2, i64 0, i64 0, i64 0, i64 0, i64 0])]) hA [] c0 ?_
    clear hA fr; intro fr hA
    refine wpOps_cons' (mS (off := 0) (vc := [i64 2, i64 2, i64 0, i64 0, i64 0, i64 0, i64 0]) 2 hA hO ?_)
    clear hO; intro w12 hO
    replace hA := hA.sb (e' := [(3, pt b1), (6, pt b2), (7, i64 0), (8, pt b3), (9, pt b4), (12, i64 (R ((b).toNat))), (13, pt b5)])
    refine end_ops ?_
    refine then_normal ?_
    refine wp_ret ?_
    refine then_ret ?_
    refine inBlock_ret ?_
    refine then_ret ?_
    refine cR (cs := [some (⟨b2, 0, none⟩, 38), none, some (⟨b3, 0, none⟩, 56)]) (us := [.agg (List.toArray (regsL R pc)), i64 0, .agg #[i64 2, i64 2, i64 0, i64 0, i64 0, i64 0, i64 0]]) hA [.agg (List.toArray (regsL R pc)), .agg #[i64 2, i64 2, i64 0, i64 0, i64 0, i64 0, i64 0]] ⟨(hO.ln 3 0 38 (regsL R pc)), (hO.ln 2 0 56 [i64 2, i64 2, i64 0, i64 0, i64 0, i64 0, i64 0]), trivial⟩ ?_
    have hF := hO.only; clear hA hO
    exact ⟨by simp_all [pack, execV, outV, noTrap, trapL, insV], hF⟩
  ·
    replace hA := hA.bool (f := fun z => [(3, pt b1), (6, pt b2), (7, i64 0), (8, pt b3), (9, pt b4), (12, i64 (R ((b).toNat))), (13, pt b5), (97, .bool z)]) h1
    have h1p := ne_of_beq_false h1
    refine cF hA ?_
    refine wp_skip ?_
    refine then_normal ?_
    have hS : Ow Tryd.prog none' w _ [(b4, 29, [i64 7, i64 a, i64 b, i64 c, i64 v]), (b3, 56, [i64 0, i64 0, i64 0, i64 0, i64 0, i64 0, i64 0]), (b2, 38, [i32 0, i32 0, i32 0, i32 0, i32 0, i32 0, i32 0, i32 0, i32 0, i32 0, i32 0, i32 0, i32 0, i32 0, i32 0, i32 0, i64 0]), (b1, 38, (regsL R pc))] := hO.sub [1, 2, 3, 4]
    refine rP [(0, true), (1, true), (2, true), (3, true), (4, true), (5, true), (6, true), (7, true), (8, true), (9, true), (10, true), (13, true), (11, false), (12, false), (14, true), (15, false)] hS ?_
    intro w13 ho; replace hO := hO.st ho; clear ho
    refine ckS (l := [0, 1, 2, 3, 4, 5, 6, 7, 8, 9, 10, 13]) (r := [(11, false), (12, false), (14, true), (15, false)]) (e' := [(6, pt b2), (7, i64 0), (8, pt b3), (13, pt b5), (101, i64 a), (103, i64 7), (104, i64 (R ((b).toNat))), (110, i64 (R ((c).toNat))), (113, pt b5)]) hA [i64 a, i64 7, i64 c, i32 (R ((c).toNat)), bl true] (cc (hS.s1 0 1 3 (i64 a)) (cc (hS.s1 0 0 3 (i64 7)) (cc (hS.s1 0 3 3 (i64 c)) (cc (⟨by omega, by omega⟩ : (0 : Int) ≤ c ∧ c < ((16 : Nat) : Int)) (cc (hS.sx ((⟨b1, 0, none⟩ : Addr).add ((c).toNat)) 21 (i32 (R ((c).toNat))) fun _ hO => (ld_regs (hO.b 3) (by omega) (by kernel_rfl))) (cc ((inK_up (by kernel_rfl) (hR _)) : inK .i64 (R ((c).toNat))) c0)))))) ?_
    clear hA fr; intro fr hA
    refine plan_mem (mK (f := 39) (args := [i64 7, i64 (R ((b).toNat)), i64 (R ((c).toNat))]) (d := (some 111)) (v := i64 (IntKind.i64.wrap ((R ((b).toNat)).tdiv (R ((c).toNat))))) hA hO Tryd.func39 (value_7 (R ((b).toNat)) (R ((c).toNat)) _ (hR _) (hR _) (by assumption)) ?_)
    clear hA hO fr; intro fr w14 hA hO
    refine ⟨(hO.sub [1, 2, 3, 4]), ?_⟩
    replace hA := hA.sb (e' := [(6, pt b2), (7, i64 0), (8, pt b3), (13, pt b5), (101, i64 a), (111, i64 (IntKind.i64.wrap ((R ((b).toNat)).tdiv (R ((c).toNat))))), (113, pt b5)])
    refine plan_mem (mK (f := 38) (args := [i64 (IntKind.i64.wrap ((R ((b).toNat)).tdiv (R ((c).toNat))))]) (d := (some 112)) (v := i32 (arithS 7 (R ((b).toNat)) (R ((c).toNat)))) hA hO Tryd.func38 (rs (word_any (IntKind.i64.wrap ((R ((b).toNat)).tdiv (R ((c).toNat)))) _) (congrArg (Value.int .i32) (arith_7 _ _ (hR _)))) ?_)
    clear hA hO fr; intro fr w15 hA hO
    refine ⟨(hO.sub [1, 2, 3, 4]), ?_⟩
    replace hA := hA.sb (e' := [(6, pt b2), (7, i64 0), (8, pt b3), (13, pt b5), (101, i64 a), (112, i32 (arithS 7 (R ((b).toNat)) (R ((c).toNat)))), (113, pt b5)])
    refine ckS (l := [14]) (r := [(15, false)]) (e' := [(6, pt b2), (7, i64 0), (8, pt b3), (13, pt b5), (112, i32 (arithS 7 (R ((b).toNat)) (R ((c).toNat)))), (114, .pointer (some ((⟨b5, 0, none⟩ : Addr).add ((a).toNat))))]) hA [] (cc (⟨by omega, by omega⟩ : (0 : Int) ≤ a ∧ a < ((16 : Nat) : Int)) c0) ?_
    clear hA fr; intro fr hA
    refine plan_mem (mSR (off := (a).toNat) (ad := (⟨b5, 0, none⟩ : Addr).add ((a).toNat)) (vc := [i32 (arithS 7 (R ((b).toNat)) (R ((c).toNat)))]) (l' := (regsL (upd R ((a).toNat) (arithS 7 (R ((b).toNat)) (R ((c).toNat)))) (pc + 4))) 0 hA hO (add_zero_off _ _) (regs_ble R (pc + 4) (by omega)) (setL_regs (by omega) _) ?_)
    clear hO; intro w16 hO
    refine ⟨(hO.sub [1, 2, 3, 4]), ?_⟩
    replace hA := hA.sb (e' := [(6, pt b2), (7, i64 0), (8, pt b3), (13, pt b5)])
    refine end_plan ?_
    refine inBlock_normal ?_
    refine then_normal ?_
    refine sR (l := (rg 0 5)) ?_
    refine ck (l := [0, 1]) (r := [2, 3, 4]) (e' := [(6, pt b2), (7, i64 0), (8, pt b3), (227, .agg (List.toArray (regsL (upd R ((a).toNat) (arithS 7 (R ((b).toNat)) (R ((c).toNat)))) (pc + 4)))), (228, .agg #[i64 0, i64 0, i64 0, i64 0, i64 0, i64 0, i64 0])]) hA [.agg (List.toArray (regsL (upd R ((a).toNat) (arithS 7 (R ((b).toNat)) (R ((c).toNat)))) (pc + 4)))] (cc (hO.ln 0 0 38 (regsL (upd R ((a).toNat) (arithS 7 (R ((b).toNat)) (R ((c).toNat)))) (pc + 4))) c0) ?_
    clear hA fr; intro fr hA
    refine wpOps_cons' (mS (off := 0) (vc := (regsL (upd R ((a).toNat) (arithS 7 (R ((b).toNat)) (R ((c).toNat)))) (pc + 4))) 3 hA hO ?_)
    clear hO; intro w17 hO
    replace hA := hA.sb (e' := [(6, pt b2), (7, i64 0), (8, pt b3), (228, .agg #[i64 0, i64 0, i64 0, i64 0, i64 0, i64 0, i64 0])])
    refine ck (l := [3]) (r := [4]) (e' := [(6, pt b2), (7, i64 0), (8, pt b3), (228, .agg #[i64 0, i64 0, i64 0, i64 0, i64 0, i64 0, i64 0])]) hA [] c0 ?_
    clear hA fr; intro fr hA
    refine wpOps_cons' (mS (off := 0) (vc := [i64 0, i64 0, i64 0, i64 0, i64 0, i64 0, i64 0]) 2 hA hO ?_)
    clear hO; intro w18 hO
    replace hA := hA.sb (e' := [(6, pt b2), (7, i64 0), (8, pt b3)])
    refine end_ops ?_
    refine then_normal ?_
    refine wp_ret ?_
    refine cR (cs := [some (⟨b2, 0, none⟩, 38), none, some (⟨b3, 0, none⟩, 56)]) (us := [.agg (List.toArray (regsL (upd R ((a).toNat) (arithS 7 (R ((b).toNat)) (R ((c).toNat)))) (pc + 4))), i64 0, .agg #[i64 0, i64 0, i64 0, i64 0, i64 0, i64 0, i64 0]]) hA [.agg (List.toArray (regsL (upd R ((a).toNat) (arithS 7 (R ((b).toNat)) (R ((c).toNat)))) (pc + 4))), .agg #[i64 0, i64 0, i64 0, i64 0, i64 0, i64 0, i64 0]] ⟨(hO.ln 3 0 38 (regsL (upd R ((a).toNat) (arithS 7 (R ((b).toNat)) (R ((c).toNat)))) (pc + 4))), (hO.ln 2 0 56 [i64 0, i64 0, i64 0, i64 0, i64 0, i64 0, i64 0]), trivial⟩ ?_
    have hF := hO.only; clear hA hO
    exact ⟨by simp_all [pack, execV, outV, noTrap, trapL, insV], hF⟩

theorem rexec_8 (R : Nat → Int) (pc ld a b c v : Int) (sl : Value) (w : World) (hT : Tab w) (hR : RegsOk R) (hp : -1099511627776 < pc) (hp' : pc < 1099511627776) (ha : 0 ≤ a) (ha' : a ≤ 15) (hb : 0 ≤ b) (hb' : b ≤ 15) (hc : 0 ≤ c) (hc' : c ≤ 15) (hv : -32768 ≤ v) (hv' : v ≤ 32767) (hdec : ∀ w', Only none' w w' → Calls Tryd.prog 14 #[sl] w' fun e w2 => e = .returned (.tuple #[insV 8 a b c v, .int .i64 0]) ∧ Only none' w' w2) :
    Calls Tryd.prog 23 #[.agg (List.toArray (regsL R pc)), sl, i64 ld] w fun e w' => e = .returned (execV R pc ld 8 a b c v) ∧ Only none' w w' := by
  refine c_enter (args := [.agg (List.toArray (regsL R pc)), sl, i64 ld]) (m := 226) (n := 229) Tryd.func23 rfl (by kernel_rfl) (by kernel_rfl) fun fr hA => ?_
  have hO := Ow.nil Tryd.prog none' w
  have hRa := hR a.toNat; have hRb := hR b.toNat; have hRc := hR c.toNat; simp only [inK] at hRa hRb hRc
  skip
  refine sR (l := [0, 1, 2, 3]) ?_
  refine wpOps_cons' (mN (l := (regsL R pc)) (t := 38) (v := pt) (d := 3) hA hO ?_)
  clear hA hO fr; intro fr w1 b1 hA hO
  replace hA := hA.sb (e' := [(1, sl), (2, i64 ld), (3, pt b1)])
  refine wpOps_cons' (mN (l := [i32 0, i32 0, i32 0, i32 0, i32 0, i32 0, i32 0, i32 0, i32 0, i32 0, i32 0, i32 0, i32 0, i32 0, i32 0, i32 0, i64 0]) (t := 38) (v := pt) (d := 6) hA hO ?_)
  clear hA hO fr; intro fr w2 b2 hA hO
  refine ck (l := [2]) (r := [3]) (e' := [(1, sl), (2, i64 ld), (3, pt b1), (6, pt b2), (7, i64 0)]) hA [] c0 ?_
  clear hA fr; intro fr hA
  refine wpOps_cons' (mN (l := [i64 0, i64 0, i64 0, i64 0, i64 0, i64 0, i64 0]) (t := 56) (v := pt) (d := 8) hA hO ?_)
  clear hA hO fr; intro fr w3 b3 hA hO
  refine end_ops ?_
  refine then_normal ?_
  refine sR (l := (rg 0 8)) ?_
  refine ck (l := [0]) (r := (rg 1 7)) (e' := [(2, i64 ld), (3, pt b1), (6, pt b2), (7, i64 0), (8, pt b3), (15, sl)]) hA [] c0 ?_
  clear hA fr; intro fr hA
  refine wpOps_cons' (mK (f := 14) (args := [sl]) (d := (some 16)) (v := .tuple #[.agg #[i64 8, i64 a, i64 b, i64 c, i64 v], i64 0]) hA hO Tryd.func14 (hdec _ hO.only) ?_)
  clear hA hO fr; intro fr w4 hA hO
  replace hA := hA.sb (e' := [(2, i64 ld), (3, pt b1), (6, pt b2), (7, i64 0), (8, pt b3), (16, .tuple #[.agg #[i64 8, i64 a, i64 b, i64 c, i64 v], i64 0])])
  refine ck (l := [2, 3, 4]) (r := [5, 6, 7]) (e' := [(2, i64 ld), (3, pt b1), (6, pt b2), (7, i64 0), (8, pt b3), (17, .agg #[i64 8, i64 a, i64 b, i64 c, i64 v]), (18, i64 0)]) hA [] c0 ?_
  clear hA fr; intro fr hA
  refine wpOps_cons' (mN (l := [i64 0, i64 0, i64 0, i64 0, i64 0]) (t := 29) (v := pt) (d := 9) hA hO ?_)
  clear hA hO fr; intro fr w5 b4 hA hO
  refine wpOps_cons' (mS (off := 0) (vc := [i64 8, i64 a, i64 b, i64 c, i64 v]) 0 hA hO ?_)
  clear hO; intro w6 hO
  replace hA := hA.sb (e' := [(2, i64 ld), (3, pt b1), (6, pt b2), (7, i64 0), (8, pt b3), (9, pt b4), (18, i64 0)])
  refine ck (l := [7]) (r := []) (e' := [(2, i64 ld), (3, pt b1), (6, pt b2), (7, i64 0), (8, pt b3), (9, pt b4), (10, i64 0)]) hA [] c0 ?_
  clear hA fr; intro fr hA
  refine end_ops ?_
  refine then_normal ?_
  refine wp_seq ?_
  refine sC (e' := [(2, i64 ld), (3, pt b1), (6, pt b2), (7, i64 0), (8, pt b3), (9, pt b4), (20, bl false)]) 2 hA [] c0 ?_
  clear hA fr; intro fr hA
  refine cF hA ?_
  refine wp_skip ?_
  refine then_normal ?_
  refine wp_seq ?_
  have hS := hO
  refine rP [(0, true), (1, true), (2, true), (3, true), (4, true), (5, true), (6, true), (7, true), (8, true), (9, true), (10, true), (11, true), (12, true), (13, true)] hS ?_
  intro w7 ho; replace hO := hO.st ho; clear ho
  refine ckS (l := (rg 0 14)) (r := []) (e' := [(2, i64 ld), (3, pt b1), (6, pt b2), (7, i64 0), (8, pt b3), (9, pt b4), (11, i64 (R ((a).toNat))), (12, i64 (R ((b).toNat)))]) hA [i64 a, i32 (R ((a).toNat)), bl true, i64 b, i32 (R ((b).toNat)), bl true] (cc (hS.s1 0 1 3 (i64 a)) (cc (⟨by omega, by omega⟩ : (0 : Int) ≤ a ∧ a < ((16 : Nat) : Int)) (cc (hS.sx ((⟨b1, 0, none⟩ : Addr).add ((a).toNat)) 21 (i32 (R ((a).toNat))) fun _ hO => (ld_regs (hO.b 3) (by omega) (by kernel_rfl))) (cc ((inK_up (by kernel_rfl) (hR _)) : inK .i64 (R ((a).toNat))) (cc (hS.s1 0 2 3 (i64 b)) (cc (⟨by omega, by omega⟩ : (0 : Int) ≤ b ∧ b < ((16 : Nat) : Int)) (cc (hS.sx ((⟨b1, 0, none⟩ : Addr).add ((b).toNat)) 21 (i32 (R ((b).toNat))) fun _ hO => (ld_regs (hO.b 3) (by omega) (by kernel_rfl))) (cc ((inK_up (by kernel_rfl) (hR _)) : inK .i64 (R ((b).toNat))) c0)))))))) ?_
  clear hA fr; intro fr hA
  refine end_plan ?_
  refine then_normal ?_
  refine sR (l := [0, 1, 2]) ?_
  refine ck (l := [0]) (r := [1, 2]) (e' := [(2, i64 ld), (3, pt b1), (6, pt b2), (7, i64 0), (8, pt b3), (9, pt b4), (11, i64 (R ((a).toNat))), (12, i64 (R ((b).toNat))), (35, .agg (List.toArray (regsL R pc)))]) hA [.agg (List.toArray (regsL R pc))] (cc (hO.ln 3 0 38 (regsL R pc)) c0) ?_
  clear hA fr; intro fr hA
  refine wpOps_cons' (mN (l := [i32 0, i32 0, i32 0, i32 0, i32 0, i32 0, i32 0, i32 0, i32 0, i32 0, i32 0, i32 0, i32 0, i32 0, i32 0, i32 0, i64 0]) (t := 38) (v := pt) (d := 13) hA hO ?_)
  clear hA hO fr; intro fr w8 b5 hA hO
  refine wpOps_cons' (mS (off := 0) (vc := (regsL R pc)) 0 hA hO ?_)
  clear hO; intro w9 hO
  replace hA := hA.sb (e' := [(2, i64 ld), (3, pt b1), (6, pt b2), (7, i64 0), (8, pt b3), (9, pt b4), (11, i64 (R ((a).toNat))), (12, i64 (R ((b).toNat))), (13, pt b5)])
  refine end_ops ?_
  refine then_normal ?_
  refine sR (l := (rg 0 5)) ?_
  refine ck (l := [0, 1, 2, 3]) (r := [4]) (e' := [(2, i64 ld), (3, pt b1), (6, pt b2), (7, i64 0), (8, pt b3), (9, pt b4), (11, i64 (R ((a).toNat))), (12, i64 (R ((b).toNat))), (13, pt b5), (38, i64 (pc + 4)), (39, pf b5 16)]) hA [i64 pc, bl true] (cc (hO.l1 0 16 3 (i64 pc)) (cc ((inK_i64 (by omega) (by omega)) : inK .i64 (pc + 4)) c0)) ?_
  clear hA fr; intro fr hA
  refine wpOps_cons' (mSR (off := 16) (ad := ⟨b5, 16, none⟩) (vc := [i64 (pc + 4)]) (l' := (regsL R (pc + 4))) 0 hA hO rfl (by kernel_rfl) (by kernel_rfl) ?_)
  clear hO; intro w10 hO
  replace hA := hA.sb (e' := [(2, i64 ld), (3, pt b1), (6, pt b2), (7, i64 0), (8, pt b3), (9, pt b4), (11, i64 (R ((a).toNat))), (12, i64 (R ((b).toNat))), (13, pt b5)])
  refine end_ops ?_
  refine then_normal ?_
  refine wp_seq ?_
  refine sC (e' := [(2, i64 ld), (3, pt b1), (6, pt b2), (7, i64 0), (8, pt b3), (9, pt b4), (11, i64 (R ((a).toNat))), (12, i64 (R ((b).toNat))), (13, pt b5), (41, i64 8)]) 2 hA [i64 8] (cc (hO.l1 1 0 3 (i64 8)) c0) ?_
  clear hA fr; intro fr hA
  refine wp_block ?_
  refine sC (e' := [(2, i64 ld), (3, pt b1), (6, pt b2), (7, i64 0), (8, pt b3), (9, pt b4), (11, i64 (R ((a).toNat))), (12, i64 (R ((b).toNat))), (13, pt b5), (41, i64 8), (57, bl false)]) 2 hA [] c0 ?_
  clear hA fr; intro fr hA
  refine cF hA ?_
  refine sC (e' := [(2, i64 ld), (3, pt b1), (6, pt b2), (7, i64 0), (8, pt b3), (9, pt b4), (11, i64 (R ((a).toNat))), (12, i64 (R ((b).toNat))), (13, pt b5), (41, i64 8), (66, bl false)]) 2 hA [] c0 ?_
  clear hA fr; intro fr hA
  refine cF hA ?_
  refine sC (e' := [(2, i64 ld), (3, pt b1), (6, pt b2), (7, i64 0), (8, pt b3), (9, pt b4), (11, i64 (R ((a).toNat))), (12, i64 (R ((b).toNat))), (13, pt b5), (41, i64 8), (78, bl false)]) 2 hA [] c0 ?_
  clear hA fr; intro fr hA
  refine cF hA ?_
  refine wp_seq ?_
  refine sC (e' := [(2, i64 ld), (3, pt b1), (6, pt b2), (7, i64 0), (8, pt b3), (9, pt b4), (11, i64 (R ((a).toNat))), (12, i64 (R ((b).toNat))), (13, pt b5), (41, i64 8), (89, bl false)]) 2 hA [] c0 ?_
  clear hA fr; intro fr hA
  refine cF hA ?_
  refine rC (e' := [(2, i64 ld), (3, pt b1), (6, pt b2), (7, i64 0), (8, pt b3), (9, pt b4), (11, i64 (R ((a).toNat))), (12, i64 (R ((b).toNat))), (13, pt b5), (41, i64 8), (89, bl true)]) 2 hA [] c0 ?_
  clear hA fr; intro fr hA
  refine then_normal ?_
  refine cT hA ?_
  refine wp_seq ?_
  refine sC (e' := [(3, pt b1), (6, pt b2), (7, i64 0), (8, pt b3), (9, pt b4), (12, i64 (R ((b).toNat))), (13, pt b5), (97, bl ((R ((c).toNat)) == 0))]) 6 hA [i64 c, i32 (R ((c).toNat))] (cc (hO.l1 1 3 3 (i64 c)) (cc (⟨by omega, by omega⟩ : (0 : Int) ≤ c ∧ c < ((16 : Nat) : Int)) (cc ((ld_regs (hO.b 4) (by omega) (by kernel_rfl)) : Ld Tryd.prog w10 ((⟨b1, 0, none⟩ : Addr).add ((c).toNat)) 21 (i32 (R ((c).toNat)))) c0))) ?_
  clear hA fr; intro fr hA
  rcases Bool.eq_false_or_eq_true ((R ((c).toNat)) == 0) with h1 | h1
  ·
    replace hA := hA.bool (f := fun z => [(3, pt b1), (6, pt b2), (7, i64 0), (8, pt b3), (9, pt b4), (12, i64 (R ((b).toNat))), (13, pt b5), (97, .bool z)]) h1
    have h1p := eq_of_beq h1
    refine cT hA ?_
    refine sR (l := (rg 0 5)) ?_
    refine ck (l := [0, 1]) (r := [2, 3, 4]) (e' := [(3, pt b1), (6, pt b2), (7, i64 0), (8, pt b3), (9, pt b4), (12, i64 (R ((b).toNat))), (13, pt b5), (98, .agg (List.toArray (regsL R pc))), (99, .agg #[i64 2, i64 2, i64 0, i64 0, i64 0, i64 0, i64 0])]) hA [.agg (List.toArray (regsL R pc))] (cc (hO.ln 4 0 38 (regsL R pc)) c0) ?_
    clear hA fr; intro fr hA
    refine wpOps_cons' (mS (off := 0) (vc := (regsL R pc)) 3 hA hO ?_)
    clear hO; intro w11 hO
    replace hA := hA.sb (e' := [(3, pt b1), (6, pt b2), (7, i64 0), (8, pt b3), (9, pt b4), (12, i64 (R ((b).toNat))), (13, pt b5), (99, .agg #[i64 2, i64 2, i64 0, i64 0, i64 0, i64 0, i64 0])])
    refine ck (l := [3]) (r := [4]) (e' := [(3, pt b1), (6, pt b2), (7, i64 0), (8, pt b3), (9, pt b4), (12, i64 (R ((b).toNat))), (13, pt b5), (99, .agg #[i64 2, i64 2, i64 0, i64 0, i64 0, i64 0, i64 0])]) hA [] c0 ?_
    clear hA fr; intro fr hA
    refine wpOps_cons' (mS (off := 0) (vc := [i64 2, i64 2, i64 0, i64 0, i64 0, i64 0, i64 0]) 2 hA hO ?_)
    clear hO; intro w12 hO
    replace hA := hA.sb (e' := [(3, pt b1), (6, pt b2), (7, i64 0), (8, pt b3), (9, pt b4), (12, i64 (R ((b).toNat))), (13, pt b5)])
    refine end_ops ?_
    refine then_normal ?_
    refine wp_ret ?_
    refine then_ret ?_
    refine inBlock_ret ?_
    refine then_ret ?_
    refine cR (cs := [some (⟨b2, 0, none⟩, 38), none, some (⟨b3, 0, none⟩, 56)]) (us := [.agg (List.toArray (regsL R pc)), i64 0, .agg #[i64 2, i64 2, i64 0, i64 0, i64 0, i64 0, i64 0]]) hA [.agg (List.toArray (regsL R pc)), .agg #[i64 2, i64 2, i64 0, i64 0, i64 0, i64 0, i64 0]] ⟨(hO.ln 3 0 38 (regsL R pc)), (hO.ln 2 0 56 [i64 2, i64 2, i64 0, i64 0, i64 0, i64 0, i64 0]), trivial⟩ ?_
    have hF := hO.only; clear hA hO
    exact ⟨by simp_all [pack, execV, outV, noTrap, trapL, insV], hF⟩
  ·
    replace hA := hA.bool (f := fun z => [(3, pt b1), (6, pt b2), (7, i64 0), (8, pt b3), (9, pt b4), (12, i64 (R ((b).toNat))), (13, pt b5), (97, .bool z)]) h1
    have h1p := ne_of_beq_false h1
    refine cF hA ?_
    refine wp_skip ?_
    refine then_normal ?_
    have hS : Ow Tryd.prog none' w _ [(b4, 29, [i64 8, i64 a, i64 b, i64 c, i64 v]), (b3, 56, [i64 0, i64 0, i64 0, i64 0, i64 0, i64 0, i64 0]), (b2, 38, [i32 0, i32 0, i32 0, i32 0, i32 0, i32 0, i32 0, i32 0, i32 0, i32 0, i32 0, i32 0, i32 0, i32 0, i32 0, i32 0, i64 0]), (b1, 38, (regsL R pc))] := hO.sub [1, 2, 3, 4]
    refine rP [(0, true), (1, true), (2, true), (3, true), (4, true), (5, true), (6, true), (7, true), (8, true), (9, true), (10, true), (13, true), (11, false), (12, false), (14, true), (15, false)] hS ?_
    intro w13 ho; replace hO := hO.st ho; clear ho
    refine ckS (l := [0, 1, 2, 3, 4, 5, 6, 7, 8, 9, 10, 13]) (r := [(11, false), (12, false), (14, true), (15, false)]) (e' := [(6, pt b2), (7, i64 0), (8, pt b3), (13, pt b5), (101, i64 a), (103, i64 8), (104, i64 (R ((b).toNat))), (110, i64 (R ((c).toNat))), (113, pt b5)]) hA [i64 a, i64 8, i64 c, i32 (R ((c).toNat)), bl true] (cc (hS.s1 0 1 3 (i64 a)) (cc (hS.s1 0 0 3 (i64 8)) (cc (hS.s1 0 3 3 (i64 c)) (cc (⟨by omega, by omega⟩ : (0 : Int) ≤ c ∧ c < ((16 : Nat) : Int)) (cc (hS.sx ((⟨b1, 0, none⟩ : Addr).add ((c).toNat)) 21 (i32 (R ((c).toNat))) fun _ hO => (ld_regs (hO.b 3) (by omega) (by kernel_rfl))) (cc ((inK_up (by kernel_rfl) (hR _)) : inK .i64 (R ((c).toNat))) c0)))))) ?_
    clear hA fr; intro fr hA
    refine plan_mem (mK (f := 39) (args := [i64 8, i64 (R ((b).toNat)), i64 (R ((c).toNat))]) (d := (some 111)) (v := i64 ((R ((b).toNat)).tmod (R ((c).toNat)))) hA hO Tryd.func39 (value_8 (R ((b).toNat)) (R ((c).toNat)) _ (hR _) (hR _) (by assumption)) ?_)
    clear hA hO fr; intro fr w14 hA hO
    refine ⟨(hO.sub [1, 2, 3, 4]), ?_⟩
    replace hA := hA.sb (e' := [(6, pt b2), (7, i64 0), (8, pt b3), (13, pt b5), (101, i64 a), (111, i64 ((R ((b).toNat)).tmod (R ((c).toNat)))), (113, pt b5)])
    refine plan_mem (mK (f := 38) (args := [i64 ((R ((b).toNat)).tmod (R ((c).toNat)))]) (d := (some 112)) (v := i32 (arithS 8 (R ((b).toNat)) (R ((c).toNat)))) hA hO Tryd.func38 (rs (word_any ((R ((b).toNat)).tmod (R ((c).toNat))) _) (congrArg (Value.int .i32) (arith_8 _ _ (hR _)))) ?_)
    clear hA hO fr; intro fr w15 hA hO
    refine ⟨(hO.sub [1, 2, 3, 4]), ?_⟩
    replace hA := hA.sb (e' := [(6, pt b2), (7, i64 0), (8, pt b3), (13, pt b5), (101, i64 a), (112, i32 (arithS 8 (R ((b).toNat)) (R ((c).toNat)))), (113, pt b5)])
    refine ckS (l := [14]) (r := [(15, false)]) (e' := [(6, pt b2), (7, i64 0), (8, pt b3), (13, pt b5), (112, i32 (arithS 8 (R ((b).toNat)) (R ((c).toNat)))), (114, .pointer (some ((⟨b5, 0, none⟩ : Addr).add ((a).toNat))))]) hA [] (cc (⟨by omega, by omega⟩ : (0 : Int) ≤ a ∧ a < ((16 : Nat) : Int)) c0) ?_
    clear hA fr; intro fr hA
    refine plan_mem (mSR (off := (a).toNat) (ad := (⟨b5, 0, none⟩ : Addr).add ((a).toNat)) (vc := [i32 (arithS 8 (R ((b).toNat)) (R ((c).toNat)))]) (l' := (regsL (upd R ((a).toNat) (arithS 8 (R ((b).toNat)) (R ((c).toNat)))) (pc + 4))) 0 hA hO (add_zero_off _ _) (regs_ble R (pc + 4) (by omega)) (setL_regs (by omega) _) ?_)
    clear hO; intro w16 hO
    refine ⟨(hO.sub [1, 2, 3, 4]), ?_⟩
    replace hA := hA.sb (e' := [(6, pt b2), (7, i64 0), (8, pt b3), (13, pt b5)])
    refine end_plan ?_
    refine inBlock_normal ?_
    refine then_normal ?_
    refine sR (l := (rg 0 5)) ?_
    refine ck (l := [0, 1]) (r := [2, 3, 4]) (e' := [(6, pt b2), (7, i64 0), (8, pt b3), (227, .agg (List.toArray (regsL (upd R ((a).toNat) (arithS 8 (R ((b).toNat)) (R ((c).toNat)))) (pc + 4)))), (228, .agg #[i64 0, i64 0, i64 0, i64 0, i64 0, i64 0, i64 0])]) hA [.agg (List.toArray (regsL (upd R ((a).toNat) (arithS 8 (R ((b).toNat)) (R ((c).toNat)))) (pc + 4)))] (cc (hO.ln 0 0 38 (regsL (upd R ((a).toNat) (arithS 8 (R ((b).toNat)) (R ((c).toNat)))) (pc + 4))) c0) ?_
    clear hA fr; intro fr hA
    refine wpOps_cons' (mS (off := 0) (vc := (regsL (upd R ((a).toNat) (arithS 8 (R ((b).toNat)) (R ((c).toNat)))) (pc + 4))) 3 hA hO ?_)
    clear hO; intro w17 hO
    replace hA := hA.sb (e' := [(6, pt b2), (7, i64 0), (8, pt b3), (228, .agg #[i64 0, i64 0, i64 0, i64 0, i64 0, i64 0, i64 0])])
    refine ck (l := [3]) (r := [4]) (e' := [(6, pt b2), (7, i64 0), (8, pt b3), (228, .agg #[i64 0, i64 0, i64 0, i64 0, i64 0, i64 0, i64 0])]) hA [] c0 ?_
    clear hA fr; intro fr hA
    refine wpOps_cons' (mS (off := 0) (vc := [i64 0, i64 0, i64 0, i64 0, i64 0, i64 0, i64 0]) 2 hA hO ?_)
    clear hO; intro w18 hO
    replace hA := hA.sb (e' := [(6, pt b2), (7, i64 0), (8, pt b3)])
    refine end_ops ?_
    refine then_normal ?_
    refine wp_ret ?_
    refine cR (cs := [some (⟨b2, 0, none⟩, 38), none, some (⟨b3, 0, none⟩, 56)]) (us := [.agg (List.toArray (regsL (upd R ((a).toNat) (arithS 8 (R ((b).toNat)) (R ((c).toNat)))) (pc + 4))), i64 0, .agg #[i64 0, i64 0, i64 0, i64 0, i64 0, i64 0, i64 0]]) hA [.agg (List.toArray (regsL (upd R ((a).toNat) (arithS 8 (R ((b).toNat)) (R ((c).toNat)))) (pc + 4))), .agg #[i64 0, i64 0, i64 0, i64 0, i64 0, i64 0, i64 0]] ⟨(hO.ln 3 0 38 (regsL (upd R ((a).toNat) (arithS 8 (R ((b).toNat)) (R ((c).toNat)))) (pc + 4))), (hO.ln 2 0 56 [i64 0, i64 0, i64 0, i64 0, i64 0, i64 0, i64 0]), trivial⟩ ?_
    have hF := hO.only; clear hA hO
    exact ⟨by simp_all [pack, execV, outV, noTrap, trapL, insV], hF⟩

theorem rexec_9 (R : Nat → Int) (pc ld a b c v : Int) (sl : Value) (w : World) (hT : Tab w) (hR : RegsOk R) (hp : -1099511627776 < pc) (hp' : pc < 1099511627776) (ha : 0 ≤ a) (ha' : a ≤ 15) (hb : 0 ≤ b) (hb' : b ≤ 15) (hc : 0 ≤ c) (hc' : c ≤ 15) (hv : -32768 ≤ v) (hv' : v ≤ 32767) (hdec : ∀ w', Only none' w w' → Calls Tryd.prog 14 #[sl] w' fun e w2 => e = .returned (.tuple #[insV 9 a b c v, .int .i64 0]) ∧ Only none' w' w2) :
    Calls Tryd.prog 23 #[.agg (List.toArray (regsL R pc)), sl, i64 ld] w fun e w' => e = .returned (execV R pc ld 9 a b c v) ∧ Only none' w w' := by
  refine c_enter (args := [.agg (List.toArray (regsL R pc)), sl, i64 ld]) (m := 226) (n := 229) Tryd.func23 rfl (by kernel_rfl) (by kernel_rfl) fun fr hA => ?_
  have hO := Ow.nil Tryd.prog none' w
  have hRa := hR a.toNat; have hRb := hR b.toNat; have hRc := hR c.toNat; simp only [inK] at hRa hRb hRc
  skip
  refine sR (l := [0, 1, 2, 3]) ?_
  refine wpOps_cons' (mN (l := (regsL R pc)) (t := 38) (v := pt) (d := 3) hA hO ?_)
  clear hA hO fr; intro fr w1 b1 hA hO
  replace hA := hA.sb (e' := [(1, sl), (2, i64 ld), (3, pt b1)])
  refine wpOps_cons' (mN (l := [i32 0, i32 0, i32 0, i32 0, i32 0, i32 0, i32 0, i32 0, i32 0, i32 0, i32 0, i32 0, i32 0, i32 0, i32 0, i32 0, i64 0]) (t := 38) (v := pt) (d := 6) hA hO ?_)
  clear hA hO fr; intro fr w2 b2 hA hO
  refine ck (l := [2]) (r := [3]) (e' := [(1, sl), (2, i64 ld), (3, pt b1), (6, pt b2), (7, i64 0)]) hA [] c0 ?_
  clear hA fr; intro fr hA
  refine wpOps_cons' (mN (l := [i64 0, i64 0, i64 0, i64 0, i64 0, i64 0, i64 0]) (t := 56) (v := pt) (d := 8) hA hO ?_)
  clear hA hO fr; intro fr w3 b3 hA hO
  refine end_ops ?_
  refine then_normal ?_
  refine sR (l := (rg 0 8)) ?_
  refine ck (l := [0]) (r := (rg 1 7)) (e' := [(2, i64 ld), (3, pt b1), (6, pt b2), (7, i64 0), (8, pt b3), (15, sl)]) hA [] c0 ?_
  clear hA fr; intro fr hA
  refine wpOps_cons' (mK (f := 14) (args := [sl]) (d := (some 16)) (v := .tuple #[.agg #[i64 9, i64 a, i64 b, i64 c, i64 v], i64 0]) hA hO Tryd.func14 (hdec _ hO.only) ?_)
  clear hA hO fr; intro fr w4 hA hO
  replace hA := hA.sb (e' := [(2, i64 ld), (3, pt b1), (6, pt b2), (7, i64 0), (8, pt b3), (16, .tuple #[.agg #[i64 9, i64 a, i64 b, i64 c, i64 v], i64 0])])
  refine ck (l := [2, 3, 4]) (r := [5, 6, 7]) (e' := [(2, i64 ld), (3, pt b1), (6, pt b2), (7, i64 0), (8, pt b3), (17, .agg #[i64 9, i64 a, i64 b, i64 c, i64 v]), (18, i64 0)]) hA [] c0 ?_
  clear hA fr; intro fr hA
  refine wpOps_cons' (mN (l := [i64 0, i64 0, i64 0, i64 0, i64 0]) (t := 29) (v := pt) (d := 9) hA hO ?_)
  clear hA hO fr; intro fr w5 b4 hA hO
  refine wpOps_cons' (mS (off := 0) (vc := [i64 9, i64 a, i64 b, i64 c, i64 v]) 0 hA hO ?_)
  clear hO; intro w6 hO
  replace hA := hA.sb (e' := [(2, i64 ld), (3, pt b1), (6, pt b2), (7, i64 0), (8, pt b3), (9, pt b4), (18, i64 0)])
  refine ck (l := [7]) (r := []) (e' := [(2, i64 ld), (3, pt b1), (6, pt b2), (7, i64 0), (8, pt b3), (9, pt b4), (10, i64 0)]) hA [] c0 ?_
  clear hA fr; intro fr hA
  refine end_ops ?_
  refine then_normal ?_
  refine wp_seq ?_
  refine sC (e' := [(2, i64 ld), (3, pt b1), (6, pt b2), (7, i64 0), (8, pt b3), (9, pt b4), (20, bl false)]) 2 hA [] c0 ?_
  clear hA fr; intro fr hA
  refine cF hA ?_
  refine wp_skip ?_
  refine then_normal ?_
  refine wp_seq ?_
  have hS := hO
  refine rP [(0, true), (1, true), (2, true), (3, true), (4, true), (5, true), (6, true), (7, true), (8, true), (9, true), (10, true), (11, true), (12, true), (13, true)] hS ?_
  intro w7 ho; replace hO := hO.st ho; clear ho
  refine ckS (l := (rg 0 14)) (r := []) (e' := [(2, i64 ld), (3, pt b1), (6, pt b2), (7, i64 0), (8, pt b3), (9, pt b4), (11, i64 (R ((a).toNat))), (12, i64 (R ((b).toNat)))]) hA [i64 a, i32 (R ((a).toNat)), bl true, i64 b, i32 (R ((b).toNat)), bl true] (cc (hS.s1 0 1 3 (i64 a)) (cc (⟨by omega, by omega⟩ : (0 : Int) ≤ a ∧ a < ((16 : Nat) : Int)) (cc (hS.sx ((⟨b1, 0, none⟩ : Addr).add ((a).toNat)) 21 (i32 (R ((a).toNat))) fun _ hO => (ld_regs (hO.b 3) (by omega) (by kernel_rfl))) (cc ((inK_up (by kernel_rfl) (hR _)) : inK .i64 (R ((a).toNat))) (cc (hS.s1 0 2 3 (i64 b)) (cc (⟨by omega, by omega⟩ : (0 : Int) ≤ b ∧ b < ((16 : Nat) : Int)) (cc (hS.sx ((⟨b1, 0, none⟩ : Addr).add ((b).toNat)) 21 (i32 (R ((b).toNat))) fun _ hO => (ld_regs (hO.b 3) (by omega) (by kernel_rfl))) (cc ((inK_up (by kernel_rfl) (hR _)) : inK .i64 (R ((b).toNat))) c0)))))))) ?_
  clear hA fr; intro fr hA
  refine end_plan ?_
  refine then_normal ?_
  refine sR (l := [0, 1, 2]) ?_
  refine ck (l := [0]) (r := [1, 2]) (e' := [(2, i64 ld), (3, pt b1), (6, pt b2), (7, i64 0), (8, pt b3), (9, pt b4), (11, i64 (R ((a).toNat))), (12, i64 (R ((b).toNat))), (35, .agg (List.toArray (regsL R pc)))]) hA [.agg (List.toArray (regsL R pc))] (cc (hO.ln 3 0 38 (regsL R pc)) c0) ?_
  clear hA fr; intro fr hA
  refine wpOps_cons' (mN (l := [i32 0, i32 0, i32 0, i32 0, i32 0, i32 0, i32 0, i32 0, i32 0, i32 0, i32 0, i32 0, i32 0, i32 0, i32 0, i32 0, i64 0]) (t := 38) (v := pt) (d := 13) hA hO ?_)
  clear hA hO fr; intro fr w8 b5 hA hO
  refine wpOps_cons' (mS (off := 0) (vc := (regsL R pc)) 0 hA hO ?_)
  clear hO; intro w9 hO
  replace hA := hA.sb (e' := [(2, i64 ld), (3, pt b1), (6, pt b2), (7, i64 0), (8, pt b3), (9, pt b4), (11, i64 (R ((a).toNat))), (12, i64 (R ((b).toNat))), (13, pt b5)])
  refine end_ops ?_
  refine then_normal ?_
  refine sR (l := (rg 0 5)) ?_
  refine ck (l := [0, 1, 2, 3]) (r := [4]) (e' := [(2, i64 ld), (3, pt b1), (6, pt b2), (7, i64 0), (8, pt b3), (9, pt b4), (11, i64 (R ((a).toNat))), (12, i64 (R ((b).toNat))), (13, pt b5), (38, i64 (pc + 4)), (39, pf b5 16)]) hA [i64 pc, bl true] (cc (hO.l1 0 16 3 (i64 pc)) (cc ((inK_i64 (by omega) (by omega)) : inK .i64 (pc + 4)) c0)) ?_
  clear hA fr; intro fr hA
  refine wpOps_cons' (mSR (off := 16) (ad := ⟨b5, 16, none⟩) (vc := [i64 (pc + 4)]) (l' := (regsL R (pc + 4))) 0 hA hO rfl (by kernel_rfl) (by kernel_rfl) ?_)
  clear hO; intro w10 hO
  replace hA := hA.sb (e' := [(2, i64 ld), (3, pt b1), (6, pt b2), (7, i64 0), (8, pt b3), (9, pt b4), (11, i64 (R ((a).toNat))), (12, i64 (R ((b).toNat))), (13, pt b5)])
  refine end_ops ?_
  refine then_normal ?_
  refine wp_seq ?_
  refine sC (e' := [(2, i64 ld), (3, pt b1), (6, pt b2), (7, i64 0), (8, pt b3), (9, pt b4), (11, i64 (R ((a).toNat))), (12, i64 (R ((b).toNat))), (13, pt b5), (41, i64 9)]) 2 hA [i64 9] (cc (hO.l1 1 0 3 (i64 9)) c0) ?_
  clear hA fr; intro fr hA
  refine wp_block ?_
  refine sC (e' := [(2, i64 ld), (3, pt b1), (6, pt b2), (7, i64 0), (8, pt b3), (9, pt b4), (11, i64 (R ((a).toNat))), (12, i64 (R ((b).toNat))), (13, pt b5), (41, i64 9), (57, bl false)]) 2 hA [] c0 ?_
  clear hA fr; intro fr hA
  refine cF hA ?_
  refine sC (e' := [(2, i64 ld), (3, pt b1), (6, pt b2), (7, i64 0), (8, pt b3), (9, pt b4), (11, i64 (R ((a).toNat))), (12, i64 (R ((b).toNat))), (13, pt b5), (41, i64 9), (66, bl false)]) 2 hA [] c0 ?_
  clear hA fr; intro fr hA
  refine cF hA ?_
  refine sC (e' := [(2, i64 ld), (3, pt b1), (6, pt b2), (7, i64 0), (8, pt b3), (9, pt b4), (11, i64 (R ((a).toNat))), (12, i64 (R ((b).toNat))), (13, pt b5), (41, i64 9), (78, bl false)]) 2 hA [] c0 ?_
  clear hA fr; intro fr hA
  refine cF hA ?_
  refine wp_seq ?_
  refine sC (e' := [(2, i64 ld), (3, pt b1), (6, pt b2), (7, i64 0), (8, pt b3), (9, pt b4), (11, i64 (R ((a).toNat))), (12, i64 (R ((b).toNat))), (13, pt b5), (41, i64 9), (89, bl false)]) 2 hA [] c0 ?_
  clear hA fr; intro fr hA
  refine cF hA ?_
  refine rC (e' := [(2, i64 ld), (3, pt b1), (6, pt b2), (7, i64 0), (8, pt b3), (9, pt b4), (11, i64 (R ((a).toNat))), (12, i64 (R ((b).toNat))), (13, pt b5), (41, i64 9), (89, bl false)]) 2 hA [] c0 ?_
  clear hA fr; intro fr hA
  refine then_normal ?_
  refine cF hA ?_
  refine wp_seq ?_
  refine sC (e' := [(2, i64 ld), (3, pt b1), (6, pt b2), (7, i64 0), (8, pt b3), (9, pt b4), (11, i64 (R ((a).toNat))), (12, i64 (R ((b).toNat))), (13, pt b5), (41, i64 9), (115, bl false)]) 2 hA [] c0 ?_
  clear hA fr; intro fr hA
  refine cF hA ?_
  refine rC (e' := [(2, i64 ld), (3, pt b1), (6, pt b2), (7, i64 0), (8, pt b3), (9, pt b4), (11, i64 (R ((a).toNat))), (12, i64 (R ((b).toNat))), (13, pt b5), (41, i64 9), (115, bl false)]) 2 hA [] c0 ?_
  clear hA fr; intro fr hA
  refine then_normal ?_
  refine cF hA ?_
  refine sC (e' := [(2, i64 ld), (3, pt b1), (6, pt b2), (7, i64 0), (8, pt b3), (9, pt b4), (11, i64 (R ((a).toNat))), (12, i64 (R ((b).toNat))), (13, pt b5), (41, i64 9), (138, bl false)]) 2 hA [] c0 ?_
  clear hA fr; intro fr hA
  refine cF hA ?_
  refine sC (e' := [(3, pt b1), (6, pt b2), (7, i64 0), (8, pt b3), (9, pt b4), (11, i64 (R ((a).toNat))), (12, i64 (R ((b).toNat))), (13, pt b5), (41, i64 9), (149, bl false)]) 2 hA [] c0 ?_
  clear hA fr; intro fr hA
  refine cF hA ?_
  refine sC (e' := [(3, pt b1), (6, pt b2), (7, i64 0), (8, pt b3), (9, pt b4), (11, i64 (R ((a).toNat))), (12, i64 (R ((b).toNat))), (13, pt b5), (41, i64 9), (157, bl false)]) 2 hA [] c0 ?_
  clear hA fr; intro fr hA
  refine cF hA ?_
  refine sC (e' := [(3, pt b1), (6, pt b2), (7, i64 0), (8, pt b3), (9, pt b4), (11, i64 (R ((a).toNat))), (12, i64 (R ((b).toNat))), (13, pt b5), (41, i64 9), (166, bl false)]) 2 hA [] c0 ?_
  clear hA fr; intro fr hA
  refine cF hA ?_
  refine sC (e' := [(3, pt b1), (6, pt b2), (7, i64 0), (8, pt b3), (9, pt b4), (11, i64 (R ((a).toNat))), (12, i64 (R ((b).toNat))), (13, pt b5), (41, i64 9), (177, bl false)]) 2 hA [] c0 ?_
  clear hA fr; intro fr hA
  refine cF hA ?_
  refine sC (e' := [(3, pt b1), (6, pt b2), (7, i64 0), (8, pt b3), (9, pt b4), (11, i64 (R ((a).toNat))), (12, i64 (R ((b).toNat))), (13, pt b5), (41, i64 9), (194, bl false)]) 2 hA [] c0 ?_
  clear hA fr; intro fr hA
  refine cF hA ?_
  refine sC (e' := [(3, pt b1), (6, pt b2), (7, i64 0), (8, pt b3), (9, pt b4), (12, i64 (R ((b).toNat))), (13, pt b5), (198, bl false)]) 2 hA [] c0 ?_
  clear hA fr; intro fr hA
  refine cF hA ?_
  have hS : Ow Tryd.prog none' w _ [(b4, 29, [i64 9, i64 a, i64 b, i64 c, i64 v]), (b3, 56, [i64 0, i64 0, i64 0, i64 0, i64 0, i64 0, i64 0]), (b2, 38, [i32 0, i32 0, i32 0, i32 0, i32 0, i32 0, i32 0, i32 0, i32 0, i32 0, i32 0, i32 0, i32 0, i32 0, i32 0, i32 0, i64 0]), (b1, 38, (regsL R pc))] := hO.sub [1, 2, 3, 4]
  refine rP [(0, true), (1, true), (2, true), (3, true), (4, true), (5, true), (6, true), (7, true), (8, true), (9, true), (10, true), (13, true), (11, false), (12, false), (14, true), (15, false)] hS ?_
  intro w11 ho; replace hO := hO.st ho; clear ho
  refine ckS (l := [0, 1, 2, 3, 4, 5, 6, 7, 8, 9, 10, 13]) (r := [(11, false), (12, false), (14, true), (15, false)]) (e' := [(6, pt b2), (7, i64 0), (8, pt b3), (13, pt b5), (43, i64 a), (45, i64 9), (46, i64 (R ((b).toNat))), (52, i64 (R ((c).toNat))), (55, pt b5)]) hA [i64 a, i64 9, i64 c, i32 (R ((c).toNat)), bl true] (cc (hS.s1 0 1 3 (i64 a)) (cc (hS.s1 0 0 3 (i64 9)) (cc (hS.s1 0 3 3 (i64 c)) (cc (⟨by omega, by omega⟩ : (0 : Int) ≤ c ∧ c < ((16 : Nat) : Int)) (cc (hS.sx ((⟨b1, 0, none⟩ : Addr).add ((c).toNat)) 21 (i32 (R ((c).toNat))) fun _ hO => (ld_regs (hO.b 3) (by omega) (by kernel_rfl))) (cc ((inK_up (by kernel_rfl) (hR _)) : inK .i64 (R ((c).toNat))) c0)))))) ?_
  clear hA fr; intro fr hA
  refine plan_mem (mK (f := 39) (args := [i64 9, i64 (R ((b).toNat)), i64 (R ((c).toNat))]) (d := (some 53)) (v := i64 (bsum fAnd (R ((b).toNat)) (R ((c).toNat)) 32)) hA hO Tryd.func39 (value_9 (R ((b).toNat)) (R ((c).toNat)) _ (hR _) (hR _)) ?_)
  clear hA hO fr; intro fr w12 hA hO
  refine ⟨(hO.sub [1, 2, 3, 4]), ?_⟩
  replace hA := hA.sb (e' := [(6, pt b2), (7, i64 0), (8, pt b3), (13, pt b5), (43, i64 a), (53, i64 (bsum fAnd (R ((b).toNat)) (R ((c).toNat)) 32)), (55, pt b5)])
  refine plan_mem (mK (f := 38) (args := [i64 (bsum fAnd (R ((b).toNat)) (R ((c).toNat)) 32)]) (d := (some 54)) (v := i32 (arithS 9 (R ((b).toNat)) (R ((c).toNat)))) hA hO Tryd.func38 (rs (word_any (bsum fAnd (R ((b).toNat)) (R ((c).toNat)) 32) _) (congrArg (Value.int .i32) (arith_9 _ _ (hR _)))) ?_)
  clear hA hO fr; intro fr w13 hA hO
  refine ⟨(hO.sub [1, 2, 3, 4]), ?_⟩
  replace hA := hA.sb (e' := [(6, pt b2), (7, i64 0), (8, pt b3), (13, pt b5), (43, i64 a), (54, i32 (arithS 9 (R ((b).toNat)) (R ((c).toNat)))), (55, pt b5)])
  refine ckS (l := [14]) (r := [(15, false)]) (e' := [(6, pt b2), (7, i64 0), (8, pt b3), (13, pt b5), (54, i32 (arithS 9 (R ((b).toNat)) (R ((c).toNat)))), (56, .pointer (some ((⟨b5, 0, none⟩ : Addr).add ((a).toNat))))]) hA [] (cc (⟨by omega, by omega⟩ : (0 : Int) ≤ a ∧ a < ((16 : Nat) : Int)) c0) ?_
  clear hA fr; intro fr hA
  refine plan_mem (mSR (off := (a).toNat) (ad := (⟨b5, 0, none⟩ : Addr).add ((a).toNat)) (vc := [i32 (arithS 9 (R ((b).toNat)) (R ((c).toNat)))]) (l' := (regsL (upd R ((a).toNat) (arithS 9 (R ((b).toNat)) (R ((c).toNat)))) (pc + 4))) 0 hA hO (add_zero_off _ _) (regs_ble R (pc + 4) (by omega)) (setL_regs (by omega) _) ?_)
  clear hO; intro w14 hO
  refine ⟨(hO.sub [1, 2, 3, 4]), ?_⟩
  replace hA := hA.sb (e' := [(6, pt b2), (7, i64 0), (8, pt b3), (13, pt b5)])
  refine end_plan ?_
  refine inBlock_normal ?_
  refine then_normal ?_
  refine sR (l := (rg 0 5)) ?_
  refine ck (l := [0, 1]) (r := [2, 3, 4]) (e' := [(6, pt b2), (7, i64 0), (8, pt b3), (227, .agg (List.toArray (regsL (upd R ((a).toNat) (arithS 9 (R ((b).toNat)) (R ((c).toNat)))) (pc + 4)))), (228, .agg #[i64 0, i64 0, i64 0, i64 0, i64 0, i64 0, i64 0])]) hA [.agg (List.toArray (regsL (upd R ((a).toNat) (arithS 9 (R ((b).toNat)) (R ((c).toNat)))) (pc + 4)))] (cc (hO.ln 0 0 38 (regsL (upd R ((a).toNat) (arithS 9 (R ((b).toNat)) (R ((c).toNat)))) (pc + 4))) c0) ?_
  clear hA fr; intro fr hA
  refine wpOps_cons' (mS (off := 0) (vc := (regsL (upd R ((a).toNat) (arithS 9 (R ((b).toNat)) (R ((c).toNat)))) (pc + 4))) 3 hA hO ?_)
  clear hO; intro w15 hO
  replace hA := hA.sb (e' := [(6, pt b2), (7, i64 0), (8, pt b3), (228, .agg #[i64 0, i64 0, i64 0, i64 0, i64 0, i64 0, i64 0])])
  refine ck (l := [3]) (r := [4]) (e' := [(6, pt b2), (7, i64 0), (8, pt b3), (228, .agg #[i64 0, i64 0, i64 0, i64 0, i64 0, i64 0, i64 0])]) hA [] c0 ?_
  clear hA fr; intro fr hA
  refine wpOps_cons' (mS (off := 0) (vc := [i64 0, i64 0, i64 0, i64 0, i64 0, i64 0, i64 0]) 2 hA hO ?_)
  clear hO; intro w16 hO
  replace hA := hA.sb (e' := [(6, pt b2), (7, i64 0), (8, pt b3)])
  refine end_ops ?_
  refine then_normal ?_
  refine wp_ret ?_
  refine cR (cs := [some (⟨b2, 0, none⟩, 38), none, some (⟨b3, 0, none⟩, 56)]) (us := [.agg (List.toArray (regsL (upd R ((a).toNat) (arithS 9 (R ((b).toNat)) (R ((c).toNat)))) (pc + 4))), i64 0, .agg #[i64 0, i64 0, i64 0, i64 0, i64 0, i64 0, i64 0]]) hA [.agg (List.toArray (regsL (upd R ((a).toNat) (arithS 9 (R ((b).toNat)) (R ((c).toNat)))) (pc + 4))), .agg #[i64 0, i64 0, i64 0, i64 0, i64 0, i64 0, i64 0]] ⟨(hO.ln 3 0 38 (regsL (upd R ((a).toNat) (arithS 9 (R ((b).toNat)) (R ((c).toNat)))) (pc + 4))), (hO.ln 2 0 56 [i64 0, i64 0, i64 0, i64 0, i64 0, i64 0, i64 0]), trivial⟩ ?_
  have hF := hO.only; clear hA hO
  exact ⟨by simp_all [pack, execV, outV, noTrap, trapL, insV], hF⟩

theorem rexec_10 (R : Nat → Int) (pc ld a b c v : Int) (sl : Value) (w : World) (hT : Tab w) (hR : RegsOk R) (hp : -1099511627776 < pc) (hp' : pc < 1099511627776) (ha : 0 ≤ a) (ha' : a ≤ 15) (hb : 0 ≤ b) (hb' : b ≤ 15) (hc : 0 ≤ c) (hc' : c ≤ 15) (hv : -32768 ≤ v) (hv' : v ≤ 32767) (hdec : ∀ w', Only none' w w' → Calls Tryd.prog 14 #[sl] w' fun e w2 => e = .returned (.tuple #[insV 10 a b c v, .int .i64 0]) ∧ Only none' w' w2) :
    Calls Tryd.prog 23 #[.agg (List.toArray (regsL R pc)), sl, i64 ld] w fun e w' => e = .returned (execV R pc ld 10 a b c v) ∧ Only none' w w' := by
  refine c_enter (args := [.agg (List.toArray (regsL R pc)), sl, i64 ld]) (m := 226) (n := 229) Tryd.func23 rfl (by kernel_rfl) (by kernel_rfl) fun fr hA => ?_
  have hO := Ow.nil Tryd.prog none' w
  have hRa := hR a.toNat; have hRb := hR b.toNat; have hRc := hR c.toNat; simp only [inK] at hRa hRb hRc
  skip
  refine sR (l := [0, 1, 2, 3]) ?_
  refine wpOps_cons' (mN (l := (regsL R pc)) (t := 38) (v := pt) (d := 3) hA hO ?_)
  clear hA hO fr; intro fr w1 b1 hA hO
  replace hA := hA.sb (e' := [(1, sl), (2, i64 ld), (3, pt b1)])
  refine wpOps_cons' (mN (l := [i32 0, i32 0, i32 0, i32 0, i32 0, i32 0, i32 0, i32 0, i32 0, i32 0, i32 0, i32 0, i32 0, i32 0, i32 0, i32 0, i64 0]) (t := 38) (v := pt) (d := 6) hA hO ?_)
  clear hA hO fr; intro fr w2 b2 hA hO
  refine ck (l := [2]) (r := [3]) (e' := [(1, sl), (2, i64 ld), (3, pt b1), (6, pt b2), (7, i64 0)]) hA [] c0 ?_
  clear hA fr; intro fr hA
  refine wpOps_cons' (mN (l := [i64 0, i64 0, i64 0, i64 0, i64 0, i64 0, i64 0]) (t := 56) (v := pt) (d := 8) hA hO ?_)
  clear hA hO fr; intro fr w3 b3 hA hO
  refine end_ops ?_
  refine then_normal ?_
  refine sR (l := (rg 0 8)) ?_
  refine ck (l := [0]) (r := (rg 1 7)) (e' := [(2, i64 ld), (3, pt b1), (6, pt b2), (7, i64 0), (8, pt b3), (15, sl)]) hA [] c0 ?_
  clear hA fr; intro fr hA
  refine wpOps_cons' (mK (f := 14) (args := [sl]) (d := (some 16)) (v := .tuple #[.agg #[i64 10, i64 a, i64 b, i64 c, i64 v], i64 0]) hA hO Tryd.func14 (hdec _ hO.only) ?_)
  clear hA hO fr; intro fr w4 hA hO
  replace hA := hA.sb (e' := [(2, i64 ld), (3, pt b1), (6, pt b2), (7, i64 0), (8, pt b3), (16, .tuple #[.agg #[i64 10, i64 a, i64 b, i64 c, i64 v], i64 0])])
  refine ck (l := [2, 3, 4]) (r := [5, 6, 7]) (e' := [(2, i64 ld), (3, pt b1), (6, pt b2), (7, i64 0), (8, pt b3), (17, .agg #[i64 10, i64 a, i64 b, i64 c, i64 v]), (18, i64 0)]) hA [] c0 ?_
  clear hA fr; intro fr hA
  refine wpOps_cons' (mN (l := [i64 0, i64 0, i64 0, i64 0, i64 0]) (t := 29) (v := pt) (d := 9) hA hO ?_)
  clear hA hO fr; intro fr w5 b4 hA hO
  refine wpOps_cons' (mS (off := 0) (vc := [i64 10, i64 a, i64 b, i64 c, i64 v]) 0 hA hO ?_)
  clear hO; intro w6 hO
  replace hA := hA.sb (e' := [(2, i64 ld), (3, pt b1), (6, pt b2), (7, i64 0), (8, pt b3), (9, pt b4), (18, i64 0)])
  refine ck (l := [7]) (r := []) (e' := [(2, i64 ld), (3, pt b1), (6, pt b2), (7, i64 0), (8, pt b3), (9, pt b4), (10, i64 0)]) hA [] c0 ?_
  clear hA fr; intro fr hA
  refine end_ops ?_
  refine then_normal ?_
  refine wp_seq ?_
  refine sC (e' := [(2, i64 ld), (3, pt b1), (6, pt b2), (7, i64 0), (8, pt b3), (9, pt b4), (20, bl false)]) 2 hA [] c0 ?_
  clear hA fr; intro fr hA
  refine cF hA ?_
  refine wp_skip ?_
  refine then_normal ?_
  refine wp_seq ?_
  have hS := hO
  refine rP [(0, true), (1, true), (2, true), (3, true), (4, true), (5, true), (6, true), (7, true), (8, true), (9, true), (10, true), (11, true), (12, true), (13, true)] hS ?_
  intro w7 ho; replace hO := hO.st ho; clear ho
  refine ckS (l := (rg 0 14)) (r := []) (e' := [(2, i64 ld), (3, pt b1), (6, pt b2), (7, i64 0), (8, pt b3), (9, pt b4), (11, i64 (R ((a).toNat))), (12, i64 (R ((b).toNat)))]) hA [i64 a, i32 (R ((a).toNat)), bl true, i64 b, i32 (R ((b).toNat)), bl true] (cc (hS.s1 0 1 3 (i64 a)) (cc (⟨by omega, by omega⟩ : (0 : Int) ≤ a ∧ a < ((16 : Nat) : Int)) (cc (hS.sx ((⟨b1, 0, none⟩ : Addr).add ((a).toNat)) 21 (i32 (R ((a).toNat))) fun _ hO => (ld_regs (hO.b 3) (by omega) (by kernel_rfl))) (cc ((inK_up (by kernel_rfl) (hR _)) : inK .i64 (R ((a).toNat))) (cc (hS.s1 0 2 3 (i64 b)) (cc (⟨by omega, by omega⟩ : (0 : Int) ≤ b ∧ b < ((16 : Nat) : Int)) (cc (hS.sx ((⟨b1, 0, none⟩ : Addr).add ((b).toNat)) 21 (i32 (R ((b).toNat))) fun _ hO => (ld_regs (hO.b 3) (by omega) (by kernel_rfl))) (cc ((inK_up (by kernel_rfl) (hR _)) : inK .i64 (R ((b).toNat))) c0)))))))) ?_
  clear hA fr; intro fr hA
  refine end_plan ?_
  refine then_normal ?_
  refine sR (l := [0, 1, 2]) ?_
  refine ck (l := [0]) (r := [1, 2]) (e' := [(2, i64 ld), (3, pt b1), (6, pt b2), (7, i64 0), (8, pt b3), (9, pt b4), (11, i64 (R ((a).toNat))), (12, i64 (R ((b).toNat))), (35, .agg (List.toArray (regsL R pc)))]) hA [.agg (List.toArray (regsL R pc))] (cc (hO.ln 3 0 38 (regsL R pc)) c0) ?_
  clear hA fr; intro fr hA
  refine wpOps_cons' (mN (l := [i32 0, i32 0, i32 0, i32 0, i32 0, i32 0, i32 0, i32 0, i32 0, i32 0, i32 0, i32 0, i32 0, i32 0, i32 0, i32 0, i64 0]) (t := 38) (v := pt) (d := 13) hA hO ?_)
  clear hA hO fr; intro fr w8 b5 hA hO
  refine wpOps_cons' (mS (off := 0) (vc := (regsL R pc)) 0 hA hO ?_)
  clear hO; intro w9 hO
  replace hA := hA.sb (e' := [(2, i64 ld), (3, pt b1), (6, pt b2), (7, i64 0), (8, pt b3), (9, pt b4), (11, i64 (R ((a).toNat))), (12, i64 (R ((b).toNat))), (13, pt b5)])
  refine end_ops ?_
  refine then_normal ?_
  refine sR (l := (rg 0 5)) ?_
  refine ck (l := [0, 1, 2, 3]) (r := [4]) (e' := [(2, i64 ld), (3, pt b1), (6, pt b2), (7, i64 0), (8, pt b3), (9, pt b4), (11, i64 (R ((a).toNat))), (12, i64 (R ((b).toNat))), (13, pt b5), (38, i64 (pc + 4)), (39, pf b5 16)]) hA [i64 pc, bl true] (cc (hO.l1 0 16 3 (i64 pc)) (cc ((inK_i64 (by omega) (by omega)) : inK .i64 (pc + 4)) c0)) ?_
  clear hA fr; intro fr hA
  refine wpOps_cons' (mSR (off := 16) (ad := ⟨b5, 16, none⟩) (vc := [i64 (pc + 4)]) (l' := (regsL R (pc + 4))) 0 hA hO rfl (by kernel_rfl) (by kernel_rfl) ?_)
  clear hO; intro w10 hO
  replace hA := hA.sb (e' := [(2, i64 ld), (3, pt b1), (6, pt b2), (7, i64 0), (8, pt b3), (9, pt b4), (11, i64 (R ((a).toNat))), (12, i64 (R ((b).toNat))), (13, pt b5)])
  refine end_ops ?_
  refine then_normal ?_
  refine wp_seq ?_
  refine sC (e' := [(2, i64 ld), (3, pt b1), (6, pt b2), (7, i64 0), (8, pt b3), (9, pt b4), (11, i64 (R ((a).toNat))), (12, i64 (R ((b).toNat))), (13, pt b5), (41, i64 10)]) 2 hA [i64 10] (cc (hO.l1 1 0 3 (i64 10)) c0) ?_
  clear hA fr; intro fr hA
  refine wp_block ?_
  refine sC (e' := [(2, i64 ld), (3, pt b1), (6, pt b2), (7, i64 0), (8, pt b3), (9, pt b4), (11, i64 (R ((a).toNat))), (12, i64 (R ((b).toNat))), (13, pt b5), (41, i64 10), (57, bl false)]) 2 hA [] c0 ?_
  clear hA fr; intro fr hA
  refine cF hA ?_
  refine sC (e' := [(2, i64 ld), (3, pt b1), (6, pt b2), (7, i64 0), (8, pt b3), (9, pt b4), (11, i64 (R ((a).toNat))), (12, i64 (R ((b).toNat))), (13, pt b5), (41, i64 10), (66, bl false)]) 2 hA [] c0 ?_
  clear hA fr; intro fr hA
  refine cF hA ?_
  refine sC (e' := [(2, i64 ld), (3, pt b1), (6, pt b2), (7, i64 0), (8, pt b3), (9, pt b4), (11, i64 (R ((a).toNat))), (12, i64 (R ((b).toNat))), (13, pt b5), (41, i64 10), (78, bl false)]) 2 hA [] c0 ?_
  clear hA fr; intro fr hA
  refine cF hA ?_
  refine wp_seq ?_
  refine sC (e' := [(2, i64 ld), (3, pt b1), (6, pt b2), (7, i64 0), (8, pt b3), (9, pt b4), (11, i64 (R ((a).toNat))), (12, i64 (R ((b).toNat))), (13, pt b5), (41, i64 10), (89, bl false)]) 2 hA [] c0 ?_
  clear hA fr; intro fr hA
  refine cF hA ?_
  refine rC (e' := [(2, i64 ld), (3, pt b1), (6, pt b2), (7, i64 0), (8, pt b3), (9, pt b4), (11, i64 (R ((a).toNat))), (12, i64 (R ((b).toNat))), (13, pt b5), (41, i64 10), (89, bl false)]) 2 hA [] c0 ?_
  clear hA fr; intro fr hA
  refine then_normal ?_
  refine cF hA ?_
  refine wp_seq ?_
  refine sC (e' := [(2, i64 ld), (3, pt b1), (6, pt b2), (7, i64 0), (8, pt b3), (9, pt b4), (11, i64 (R ((a).toNat))), (12, i64 (R ((b).toNat))), (13, pt b5), (41, i64 10), (115, bl false)]) 2 hA [] c0 ?_
  clear hA fr; intro fr hA
  refine cF hA ?_
  refine rC (e' := [(2, i64 ld), (3, pt b1), (6, pt b2), (7, i64 0), (8, pt b3), (9, pt b4), (11, i64 (R ((a).toNat))), (12, i64 (R ((b).toNat))), (13, pt b5), (41, i64 10), (115, bl false)]) 2 hA [] c0 ?_
  clear hA fr; intro fr hA
  refine then_normal ?_
  refine cF hA ?_
  refine sC (e' := [(2, i64 ld), (3, pt b1), (6, pt b2), (7, i64 0), (8, pt b3), (9, pt b4), (11, i64 (R ((a).toNat))), (12, i64 (R ((b).toNat))), (13, pt b5), (41, i64 10), (138, bl false)]) 2 hA [] c0 ?_
  clear hA fr; intro fr hA
  refine cF hA ?_
  refine sC (e' := [(3, pt b1), (6, pt b2), (7, i64 0), (8, pt b3), (9, pt b4), (11, i64 (R ((a).toNat))), (12, i64 (R ((b).toNat))), (13, pt b5), (41, i64 10), (149, bl false)]) 2 hA [] c0 ?_
  clear hA fr; intro fr hA
  refine cF hA ?_
  refine sC (e' := [(3, pt b1), (6, pt b2), (7, i64 0), (8, pt b3), (9, pt b4), (11, i64 (R ((a).toNat))), (12, i64 (R ((b).toNat))), (13, pt b5), (41, i64 10), (157, bl false)]) 2 hA [] c0 ?_
  clear hA fr; intro fr hA
  refine cF hA ?_
  refine sC (e' := [(3, pt b1), (6, pt b2), (7, i64 0), (8, pt b3), (9, pt b4), (11, i64 (R ((a).toNat))), (12, i64 (R ((b).toNat))), (13, pt b5), (41, i64 10), (166, bl false)]) 2 hA [] c0 ?_
  clear hA fr; intro fr hA
  refine cF hA ?_
  refine sC (e' := [(3, pt b1), (6, pt b2), (7, i64 0), (8, pt b3), (9, pt b4), (11, i64 (R ((a).toNat))), (12, i64 (R ((b).toNat))), (13, pt b5), (41, i64 10), (177, bl false)]) 2 hA [] c0 ?_
  clear hA fr; intro fr hA
  refine cF hA ?_
  refine sC (e' := [(3, pt b1), (6, pt b2), (7, i64 0), (8, pt b3), (9, pt b4), (11, i64 (R ((a).toNat))), (12, i64 (R ((b).toNat))), (13, pt b5), (41, i64 10), (194, bl false)]) 2 hA [] c0 ?_
  clear hA fr; intro fr hA
  refine cF hA ?_
  refine sC (e' := [(3, pt b1), (6, pt b2), (7, i64 0), (8, pt b3), (9, pt b4), (12, i64 (R ((b).toNat))), (13, pt b5), (198, bl false)]) 2 hA [] c0 ?_
  clear hA fr; intro fr hA
  refine cF hA ?_
  have hS : Ow Tryd.prog none' w _ [(b4, 29, [i64 10, i64 a, i64 b, i64 c, i64 v]), (b3, 56, [i64 0, i64 0, i64 0, i64 0, i64 0, i64 0, i64 0]), (b2, 38, [i32 0, i32 0, i32 0, i32 0, i32 0, i32 0, i32 0, i32 0, i32 0, i32 0, i32 0, i32 0, i32 0, i32 0, i32 0, i32 0, i64 0]), (b1, 38, (regsL R pc))] := hO.sub [1, 2, 3, 4]
  refine rP [(0, true), (1, true), (2, true), (3, true), (4, true), (5, true), (6, true), (7, true), (8, true), (9, true), (10, true), (13, true), (11, false), (12, false), (14, true), (15, false)] hS ?_
  intro w11 ho; replace hO := hO.st ho; clear ho
  refine ckS (l := [0, 1, 2, 3, 4, 5, 6, 7, 8, 9, 10, 13]) (r := [(11, false), (12, false), (14, true), (15, false)]) (e' := [(6, pt b2), (7, i64 0), (8, pt b3), (13, pt b5), (43, i64 a), (45, i64 10), (46, i64 (R ((b).toNat))), (52, i64 (R ((c).toNat))), (55, pt b5)]) hA [i64 a, i64 10, i64 c, i32 (R ((c).toNat)), bl true] (cc (hS.s1 0 1 3 (i64 a)) (cc (hS.s1 0 0 3 (i64 10)) (cc (hS.s1 0 3 3 (i64 c)) (cc (⟨by omega, by omega⟩ : (0 : Int) ≤ c ∧ c < ((16 : Nat) : Int)) (cc (hS.sx ((⟨b1, 0, none⟩ : Addr).add ((c).toNat)) 21 (i32 (R ((c).toNat))) fun _ hO => (ld_regs (hO.b 3) (by omega) (by kernel_rfl))) (cc ((inK_up (by kernel_rfl) (hR _)) : inK .i64 (R ((c).toNat))) c0)))))) ?_
  clear hA fr; intro fr hA
  refine plan_mem (mK (f := 39) (args := [i64 10, i64 (R ((b).toNat)), i64 (R ((c).toNat))]) (d := (some 53)) (v := i64 (bsum fOr (R ((b).toNat)) (R ((c).toNat)) 32)) hA hO Tryd.func39 (value_10 (R ((b).toNat)) (R ((c).toNat)) _ (hR _) (hR _)) ?_)
  clear hA hO fr; intro fr w12 hA hO
  refine ⟨(hO.sub [1, 2, 3, 4]), ?_⟩
  replace hA := hA.sb (e' := [(6, pt b2), (7, i64 0), (8, pt b3), (13, pt b5), (43, i64 a), (53, i64 (bsum fOr (R ((b).toNat)) (R ((c).toNat)) 32)), (55, pt b5)])
  refine plan_mem (mK (f := 38) (args := [i64 (bsum fOr (R ((b).toNat)) (R ((c).toNat)) 32)]) (d := (some 54)) (v := i32 (arithS 10 (R ((b).toNat)) (R ((c).toNat)))) hA hO Tryd.func38 (rs (word_any (bsum fOr (R ((b).toNat)) (R ((c).toNat)) 32) _) (congrArg (Value.int .i32) (arith_10 _ _ (hR _)))) ?_)
  clear hA hO fr; intro fr w13 hA hO
  refine ⟨(hO.sub [1, 2, 3, 4]), ?_⟩
  replace hA := hA.sb (e' := [(6, pt b2), (7, i64 0), (8, pt b3), (13, pt b5), (43, i64 a), (54, i32 (arithS 10 (R ((b).toNat)) (R ((c).toNat)))), (55, pt b5)])
  refine ckS (l := [14]) (r := [(15, false)]) (e' := [(6, pt b2), (7, i64 0), (8, pt b3), (13, pt b5), (54, i32 (arithS 10 (R ((b).toNat)) (R ((c).toNat)))), (56, .pointer (some ((⟨b5, 0, none⟩ : Addr).add ((a).toNat))))]) hA [] (cc (⟨by omega, by omega⟩ : (0 : Int) ≤ a ∧ a < ((16 : Nat) : Int)) c0) ?_
  clear hA fr; intro fr hA
  refine plan_mem (mSR (off := (a).toNat) (ad := (⟨b5, 0, none⟩ : Addr).add ((a).toNat)) (vc := [i32 (arithS 10 (R ((b).toNat)) (R ((c).toNat)))]) (l' := (regsL (upd R ((a).toNat) (arithS 10 (R ((b).toNat)) (R ((c).toNat)))) (pc + 4))) 0 hA hO (add_zero_off _ _) (regs_ble R (pc + 4) (by omega)) (setL_regs (by omega) _) ?_)
  clear hO; intro w14 hO
  refine ⟨(hO.sub [1, 2, 3, 4]), ?_⟩
  replace hA := hA.sb (e' := [(6, pt b2), (7, i64 0), (8, pt b3), (13, pt b5)])
  refine end_plan ?_
  refine inBlock_normal ?_
  refine then_normal ?_
  refine sR (l := (rg 0 5)) ?_
  refine ck (l := [0, 1]) (r := [2, 3, 4]) (e' := [(6, pt b2), (7, i64 0), (8, pt b3), (227, .agg (List.toArray (regsL (upd R ((a).toNat) (arithS 10 (R ((b).toNat)) (R ((c).toNat)))) (pc + 4)))), (228, .agg #[i64 0, i64 0, i64 0, i64 0, i64 0, i64 0, i64 0])]) hA [.agg (List.toArray (regsL (upd R ((a).toNat) (arithS 10 (R ((b).toNat)) (R ((c).toNat)))) (pc + 4)))] (cc (hO.ln 0 0 38 (regsL (upd R ((a).toNat) (arithS 10 (R ((b).toNat)) (R ((c).toNat)))) (pc + 4))) c0) ?_
  clear hA fr; intro fr hA
  refine wpOps_cons' (mS (off := 0) (vc := (regsL (upd R ((a).toNat) (arithS 10 (R ((b).toNat)) (R ((c).toNat)))) (pc + 4))) 3 hA hO ?_)
  clear hO; intro w15 hO
  replace hA := hA.sb (e' := [(6, pt b2), (7, i64 0), (8, pt b3), (228, .agg #[i64 0, i64 0, i64 0, i64 0, i64 0, i64 0, i64 0])])
  refine ck (l := [3]) (r := [4]) (e' := [(6, pt b2), (7, i64 0), (8, pt b3), (228, .agg #[i64 0, i64 0, i64 0, i64 0, i64 0, i64 0, i64 0])]) hA [] c0 ?_
  clear hA fr; intro fr hA
  refine wpOps_cons' (mS (off := 0) (vc := [i64 0, i64 0, i64 0, i64 0, i64 0, i64 0, i64 0]) 2 hA hO ?_)
  clear hO; intro w16 hO
  replace hA := hA.sb (e' := [(6, pt b2), (7, i64 0), (8, pt b3)])
  refine end_ops ?_
  refine then_normal ?_
  refine wp_ret ?_
  refine cR (cs := [some (⟨b2, 0, none⟩, 38), none, some (⟨b3, 0, none⟩, 56)]) (us := [.agg (List.toArray (regsL (upd R ((a).toNat) (arithS 10 (R ((b).toNat)) (R ((c).toNat)))) (pc + 4))), i64 0, .agg #[i64 0, i64 0, i64 0, i64 0, i64 0, i64 0, i64 0]]) hA [.agg (List.toArray (regsL (upd R ((a).toNat) (arithS 10 (R ((b).toNat)) (R ((c).toNat)))) (pc + 4))), .agg #[i64 0, i64 0, i64 0, i64 0, i64 0, i64 0, i64 0]] ⟨(hO.ln 3 0 38 (regsL (upd R ((a).toNat) (arithS 10 (R ((b).toNat)) (R ((c).toNat)))) (pc + 4))), (hO.ln 2 0 56 [i64 0, i64 0, i64 0, i64 0, i64 0, i64 0, i64 0]), trivial⟩ ?_
  have hF := hO.only; clear hA hO
  exact ⟨by simp_all [pack, execV, outV, noTrap, trapL, insV], hF⟩

theorem rexec_11 (R : Nat → Int) (pc ld a b c v : Int) (sl : Value) (w : World) (hT : Tab w) (hR : RegsOk R) (hp : -1099511627776 < pc) (hp' : pc < 1099511627776) (ha : 0 ≤ a) (ha' : a ≤ 15) (hb : 0 ≤ b) (hb' : b ≤ 15) (hc : 0 ≤ c) (hc' : c ≤ 15) (hv : -32768 ≤ v) (hv' : v ≤ 32767) (hdec : ∀ w', Only none' w w' → Calls Tryd.prog 14 #[sl] w' fun e w2 => e = .returned (.tuple #[insV 11 a b c v, .int .i64 0]) ∧ Only none' w' w2) :
    Calls Tryd.prog 23 #[.agg (List.toArray (regsL R pc)), sl, i64 ld] w fun e w' => e = .returned (execV R pc ld 11 a b c v) ∧ Only none' w w' := by
  refine c_enter (args := [.agg (List.toArray (regsL R pc)), sl, i64 ld]) (m := 226) (n := 229) Tryd.func23 rfl (by kernel_rfl) (by kernel_rfl) fun fr hA => ?_
  have hO := Ow.nil Tryd.prog none' w
  have hRa := hR a.toNat; have hRb := hR b.toNat; have hRc := hR c.toNat; simp only [inK] at hRa hRb hRc
  skip
  refine sR (l := [0, 1, 2, 3]) ?_
  refine wpOps_cons' (mN (l := (regsL R pc)) (t := 38) (v := pt) (d := 3) hA hO ?_)
  clear hA hO fr; intro fr w1 b1 hA hO
  replace hA := hA.sb (e' := [(1, sl), (2, i64 ld), (3, pt b1)])
  refine wpOps_cons' (mN (l := [i32 0, i32 0, i32 0, i32 0, i32 0, i32 0, i32 0, i32 0, i32 0, i32 0, i32 0, i32 0, i32 0, i32 0, i32 0, i32 0, i64 0]) (t := 38) (v := pt) (d := 6) hA hO ?_)
  clear hA hO fr; intro fr w2 b2 hA hO
  refine ck (l := [2]) (r := [3]) (e' := [(1, sl), (2, i64 ld), (3, pt b1), (6, pt b2), (7, i64 0)]) hA [] c0 ?_
  clear hA fr; intro fr hA
  refine wpOps_cons' (mN (l := [i64 0, i64 0, i64 0, i64 0, i64 0, i64 0, i64 0]) (t := 56) (v := pt) (d := 8) hA hO ?_)
  clear hA hO fr; intro fr w3 b3 hA hO
  refine end_ops ?_
  refine then_normal ?_
  refine sR (l := (rg 0 8)) ?_
  refine ck (l := [0]) (r := (rg 1 7)) (e' := [(2, i64 ld), (3, pt b1), (6, pt b2), (7, i64 0), (8, pt b3), (15, sl)]) hA [] c0 ?_
  clear hA fr; intro fr hA
  refine wpOps_cons' (mK (f := 14) (args := [sl]) (d := (some 16)) (v := .tuple #[.agg #[i64 11, i64 a, i64 b, i64 c, i64 v], i64 0]) hA hO Tryd.func14 (hdec _ hO.only) ?_)
  clear hA hO fr; intro fr w4 hA hO
  replace hA := hA.sb (e' := [(2, i64 ld), (3, pt b1), (6, pt b2), (7, i64 0), (8, pt b3), (16, .tuple #[.agg #[i64 11, i64 a, i64 b, i64 c, i64 v], i64 0])])
  refine ck (l := [2, 3, 4]) (r := [5, 6, 7]) (e' := [(2, i64 ld), (3, pt b1), (6, pt b2), (7, i64 0), (8, pt b3), (17, .agg #[i64 11, i64 a, i64 b, i64 c, i64 v]), (18, i64 0)]) hA [] c0 ?_
  clear hA fr; intro fr hA
  refine wpOps_cons' (mN (l := [i64 0, i64 0, i64 0, i64 0, i64 0]) (t := 29) (v := pt) (d := 9) hA hO ?_)
  clear hA hO fr; intro fr w5 b4 hA hO
  refine wpOps_cons' (mS (off := 0) (vc := [i64 11, i64 a, i64 b, i64 c, i64 v]) 0 hA hO ?_)
  clear hO; intro w6 hO
  replace hA := hA.sb (e' := [(2, i64 ld), (3, pt b1), (6, pt b2), (7, i64 0), (8, pt b3), (9, pt b4), (18, i64 0)])
  refine ck (l := [7]) (r := []) (e' := [(2, i64 ld), (3, pt b1), (6, pt b2), (7, i64 0), (8, pt b3), (9, pt b4), (10, i64 0)]) hA [] c0 ?_
  clear hA fr; intro fr hA
  refine end_ops ?_
  refine then_normal ?_
  refine wp_seq ?_
  refine sC (e' := [(2, i64 ld), (3, pt b1), (6, pt b2), (7, i64 0), (8, pt b3), (9, pt b4), (20, bl false)]) 2 hA [] c0 ?_
  clear hA fr; intro fr hA
  refine cF hA ?_
  refine wp_skip ?_
  refine then_normal ?_
  refine wp_seq ?_
  have hS := hO
  refine rP [(0, true), (1, true), (2, true), (3, true), (4, true), (5, true), (6, true), (7, true), (8, true), (9, true), (10, true), (11, true), (12, true), (13, true)] hS ?_
  intro w7 ho; replace hO := hO.st ho; clear ho
  refine ckS (l := (rg 0 14)) (r := []) (e' := [(2, i64 ld), (3, pt b1), (6, pt b2), (7, i64 0), (8, pt b3), (9, pt b4), (11, i64 (R ((a).toNat))), (12, i64 (R ((b).toNat)))]) hA [i64 a, i32 (R ((a).toNat)), bl true, i64 b, i32 (R ((b).toNat)), bl true] (cc (hS.s1 0 1 3 (i64 a)) (cc (⟨by omega, by omega⟩ : (0 : Int) ≤ a ∧ a < ((16 : Nat) : Int)) (cc (hS.sx ((⟨b1, 0, none⟩ : Addr).add ((a).toNat)) 21 (i32 (R ((a).toNat))) fun _ hO => (ld_regs (hO.b 3) (by omega) (by kernel_rfl))) (cc ((inK_up (by kernel_rfl) (hR _)) : inK .i64 (R ((a).toNat))) (cc (hS.s1 0 2 3 (i64 b)) (cc (⟨by omega, by omega⟩ : (0 : Int) ≤ b ∧ b < ((16 : Nat) : Int)) (cc (hS.sx ((⟨b1, 0, none⟩ : Addr).add ((b).toNat)) 21 (i32 (R ((b).toNat))) fun _ hO => (ld_regs (hO.b 3) (by omega) (by kernel_rfl))) (cc ((inK_up (by kernel_rfl) (hR _)) : inK .i64 (R ((b).toNat))) c0)))))))) ?_
  clear hA fr; intro fr hA
  refine end_plan ?_
  refine then_normal ?_
  refine sR (l := [0, 1, 2]) ?_
  refine ck (l := [0]) (r := [1, 2]) (e' := [(2, i64 ld), (3, pt b1), (6, pt b2), (7, i64 0), (8, pt b3), (9, pt b4), (11, i64 (R ((a).toNat))), (12, i64 (R ((b).toNat))), (35, .agg (List.toArray (regsL R pc)))]) hA [.agg (List.toArray (regsL R pc))] (cc (hO.ln 3 0 38 (regsL R pc)) c0) ?_
  clear hA fr; intro fr hA
  refine wpOps_cons' (mN (l := [i32 0, i32 0, i32 0, i32 0, i32 0, i32 0, i32 0, i32 0, i32 0, i32 0, i32 0, i32 0, i32 0, i32 0, i32 0, i32 0, i64 0]) (t := 38) (v := pt) (d := 13) hA hO ?_)
  clear hA hO fr; intro fr w8 b5 hA hO
  refine wpOps_cons' (mS (off := 0) (vc := (regsL R pc)) 0 hA hO ?_)
  clear hO; intro w9 hO
  replace hA := hA.sb (e' := [(2, i64 ld), (3, pt b1), (6, pt b2), (7, i64 0), (8, pt b3), (9, pt b4), (11, i64 (R ((a).toNat))), (12, i64 (R ((b).toNat))), (13, pt b5)])
  refine end_ops ?_
  refine then_normal ?_
  refine sR (l := (rg 0 5)) ?_
  refine ck (l := [0, 1, 2, 3]) (r := [4]) (e' := [(2, i64 ld), (3, pt b1), (6, pt b2), (7, i64 0), (8, pt b3), (9, pt b4), (11, i64 (R ((a).toNat))), (12, i64 (R ((b).toNat))), (13, pt b5), (38, i64 (pc + 4)), (39, pf b5 16)]) hA [i64 pc, bl true] (cc (hO.l1 0 16 3 (i64 pc)) (cc ((inK_i64 (by omega) (by omega)) : inK .i64 (pc + 4)) c0)) ?_
  clear hA fr; intro fr hA
  refine wpOps_cons' (mSR (off := 16) (ad := ⟨b5, 16, none⟩) (vc := [i64 (pc + 4)]) (l' := (regsL R (pc + 4))) 0 hA hO rfl (by kernel_rfl) (by kernel_rfl) ?_)
  clear hO; intro w10 hO
  replace hA := hA.sb (e' := [(2, i64 ld), (3, pt b1), (6, pt b2), (7, i64 0), (8, pt b3), (9, pt b4), (11, i64 (R ((a).toNat))), (12, i64 (R ((b).toNat))), (13, pt b5)])
  refine end_ops ?_
  refine then_normal ?_
  refine wp_seq ?_
  refine sC (e' := [(2, i64 ld), (3, pt b1), (6, pt b2), (7, i64 0), (8, pt b3), (9, pt b4), (11, i64 (R ((a).toNat))), (12, i64 (R ((b).toNat))), (13, pt b5), (41, i64 11)]) 2 hA [i64 11] (cc (hO.l1 1 0 3 (i64 11)) c0) ?_
  clear hA fr; intro fr hA
  refine wp_block ?_
  refine sC (e' := [(2, i64 ld), (3, pt b1), (6, pt b2), (7, i64 0), (8, pt b3), (9, pt b4), (11, i64 (R ((a).toNat))), (12, i64 (R ((b).toNat))), (13, pt b5), (41, i64 11), (57, bl false)]) 2 hA [] c0 ?_
  clear hA fr; intro fr hA
  refine cF hA ?_
  refine sC (e' := [(2, i64 ld), (3, pt b1), (6, pt b2), (7, i64 0), (8, pt b3), (9, pt b4), (11, i64 (R ((a).toNat))), (12, i64 (R ((b).toNat))), (13, pt b5), (41, i64 11), (66, bl false)]) 2 hA [] c0 ?_
  clear hA fr; intro fr hA
  refine cF hA ?_
  refine sC (e' := [(2, i64 ld), (3, pt b1), (6, pt b2), (7, i64 0), (8, pt b3), (9, pt b4), (11, i64 (R ((a).toNat))), (12, i64 (R ((b).toNat))), (13, pt b5), (41, i64 11), (78, bl false)]) 2 hA [] c0 ?_
  clear hA fr; intro fr hA
  refine cF hA ?_
  refine wp_seq ?_
  refine sC (e' := [(2, i64 ld), (3, pt b1), (6, pt b2), (7, i64 0), (8, pt b3), (9, pt b4), (11, i64 (R ((a).toNat))), (12, i64 (R ((b).toNat))), (13, pt b5), (41, i64 11), (89, bl false)]) 2 hA [] c0 ?_
  clear hA fr; intro fr hA
  refine cF hA ?_
  refine rC (e' := [(2, i64 ld), (3, pt b1), (6, pt b2), (7, i64 0), (8, pt b3), (9, pt b4), (11, i64 (R ((a).toNat))), (12, i64 (R ((b).toNat))), (13, pt b5), (41, i64 11), (89, bl false)]) 2 hA [] c0 ?_
  clear hA fr; intro fr hA
  refine then_normal ?_
  refine cF hA ?_
  refine wp_seq ?_
  refine sC (e' := [(2, i64 ld), (3, pt b1), (6, pt b2), (7, i64 0), (8, pt b3), (9, pt b4), (11, i64 (R ((a).toNat))), (12, i64 (R ((b).toNat))), (13, pt b5), (41, i64 11), (115, bl false)]) 2 hA [] c0 ?_
  clear hA fr; intro fr hA
  refine cF hA ?_
  refine rC (e' := [(2, i64 ld), (3, pt b1), (6, pt b2), (7, i64 0), (8, pt b3), (9, pt b4), (11, i64 (R ((a).toNat))), (12, i64 (R ((b).toNat))), (13, pt b5), (41, i64 11), (115, bl false)]) 2 hA [] c0 ?_
  clear hA fr; intro fr hA
  refine then_normal ?_
  refine cF hA ?_
  refine sC (e' := [(2, i64 ld), (3, pt b1), (6, pt b2), (7, i64 0), (8, pt b3), (9, pt b4), (11, i64 (R ((a).toNat))), (12, i64 (R ((b).toNat))), (13, pt b5), (41, i64 11), (138, bl false)]) 2 hA [] c0 ?_
  clear hA fr; intro fr hA
  refine cF hA ?_
  refine sC (e' := [(3, pt b1), (6, pt b2), (7, i64 0), (8, pt b3), (9, pt b4), (11, i64 (R ((a).toNat))), (12, i64 (R ((b).toNat))), (13, pt b5), (41, i64 11), (149, bl false)]) 2 hA [] c0 ?_
  clear hA fr; intro fr hA
  refine cF hA ?_
  refine sC (e' := [(3, pt b1), (6, pt b2), (7, i64 0), (8, pt b3), (9, pt b4), (11, i64 (R ((a).toNat))), (12, i64 (R ((b).toNat))), (13, pt b5), (41, i64 11), (157, bl false)]) 2 hA [] c0 ?_
  clear hA fr; intro fr hA
  refine cF hA ?_
  refine sC (e' := [(3, pt b1), (6, pt b2), (7, i64 0), (8, pt b3), (9, pt b4), (11, i64 (R ((a).toNat))), (12, i64 (R ((b).toNat))), (13, pt b5), (41, i64 11), (166, bl false)]) 2 hA [] c0 ?_
  clear hA fr; intro fr hA
  refine cF hA ?_
  refine sC (e' := [(3, pt b1), (6, pt b2), (7, i64 0), (8, pt b3), (9, pt b4), (11, i64 (R ((a).toNat))), (12, i64 (R ((b).toNat))), (13, pt b5), (41, i64 11), (177, bl false)]) 2 hA [] c0 ?_
  clear hA fr; intro fr hA
  refine cF hA ?_
  refine sC (e' := [(3, pt b1), (6, pt b2), (7, i64 0), (8, pt b3), (9, pt b4), (11, i64 (R ((a).toNat))), (12, i64 (R ((b).toNat))), (13, pt b5), (41, i64 11), (194, bl false)]) 2 hA [] c0 ?_
  clear hA fr; intro fr hA
  refine cF hA ?_
  refine sC (e' := [(3, pt b1), (6, pt b2), (7, i64 0), (8, pt b3), (9, pt b4), (12, i64 (R ((b).toNat))), (13, pt b5), (198, bl false)]) 2 hA [] c0 ?_
  clear hA fr; intro fr hA
  refine cF hA ?_
  have hS : Ow Tryd.prog none' w _ [(b4, 29, [i64 11, i64 a, i64 b, i64 c, i64 v]), (b3, 56, [i64 0, i64 0, i64 0, i64 0, i64 0, i64 0, i64 0]), (b2, 38, [i32 0, i32 0, i32 0, i32 0, i32 0, i32 0, i32 0, i32 0, i32 0, i32 0, i32 0, i32 0, i32 0, i32 0, i32 0, i32 0, i64 0]), (b1, 38, (regsL R pc))] := hO.sub [1, 2, 3, 4]
  refine rP [(0, true), (1, true), (2, true), (3, true), (4, true), (5, true), (6, true), (7, true), (8, true), (9, true), (10, true), (13, true), (11, false), (12, false), (14, true), (15, false)] hS ?_
  intro w11 ho; replace hO := hO.st ho; clear ho
  refine ckS (l := [0, 1, 2, 3, 4, 5, 6, 7, 8, 9, 10, 13]) (r := [(11, false), (12, false), (14, true), (15, false)]) (e' := [(6, pt b2), (7, i64 0), (8, pt b3), (13, pt b5), (43, i64 a), (45, i64 11), (46, i64 (R ((b).toNat))), (52, i64 (R ((c).toNat))), (55, pt b5)]) hA [i64 a, i64 11, i64 c, i32 (R ((c).toNat)), bl true] (cc (hS.s1 0 1 3 (i64 a)) (cc (hS.s1 0 0 3 (i64 11)) (cc (hS.s1 0 3 3 (i64 c)) (cc (⟨by omega, by omega⟩ : (0 : Int) ≤ c ∧ c < ((16 : Nat) : Int)) (cc (hS.sx ((⟨b1, 0, none⟩ : Addr).add ((c).toNat)) 21 (i32 (R ((c).toNat))) fun _ hO => (ld_regs (hO.b 3) (by omega) (by kernel_rfl))) (cc ((inK_up (by kernel_rfl) (hR _)) : inK .i64 (R ((c).toNat))) c0)))))) ?_
  clear hA fr; intro fr hA
  refine plan_mem (mK (f := 39) (args := [i64 11, i64 (R ((b).toNat)), i64 (R ((c).toNat))]) (d := (some 53)) (v := i64 (bsum fXor (R ((b).toNat)) (R ((c).toNat)) 32)) hA hO Tryd.func39 (value_11 (R ((b).toNat)) (R ((c).toNat)) _ (hR _) (hR _)) ?_)
  clear hA hO fr; intro fr w12 hA hO
  refine ⟨(hO.sub [1, 2, 3, 4]), ?_⟩
  replace hA := hA.sb (e' := [(6, pt b2), (7, i64 0), (8, pt b3), (13, pt b5), (43, i64 a), (53, i64 (bsum fXor (R ((b).toNat)) (R ((c).toNat)) 32)), (55, pt b5)])
  refine plan_mem (mK (f := 38) (args := [i64 (bsum fXor (R ((b).toNat)) (R ((c).toNat)) 32)]) (d := (some 54)) (v := i32 (arithS 11 (R ((b).toNat)) (R ((c).toNat)))) hA hO Tryd.func38 (rs (word_any (bsum fXor (R ((b).toNat)) (R ((c).toNat)) 32) _) (congrArg (Value.int .i32) (arith_11 _ _ (hR _)))) ?_)
  clear hA hO fr; intro fr w13 hA hO
  refine ⟨(hO.sub [1, 2, 3, 4]), ?_⟩
  replace hA := hA.sb (e' := [(6, pt b2), (7, i64 0), (8, pt b3), (13, pt b5), (43, i64 a), (54, i32 (arithS 11 (R ((b).toNat)) (R ((c).toNat)))), (55, pt b5)])
  refine ckS (l := [14]) (r := [(15, false)]) (e' := [(6, pt b2), (7, i64 0), (8, pt b3), (13, pt b5), (54, i32 (arithS 11 (R ((b).toNat)) (R ((c).toNat)))), (56, .pointer (some ((⟨b5, 0, none⟩ : Addr).add ((a).toNat))))]) hA [] (cc (⟨by omega, by omega⟩ : (0 : Int) ≤ a ∧ a < ((16 : Nat) : Int)) c0) ?_
  clear hA fr; intro fr hA
  refine plan_mem (mSR (off := (a).toNat) (ad := (⟨b5, 0, none⟩ : Addr).add ((a).toNat)) (vc := [i32 (arithS 11 (R ((b).toNat)) (R ((c).toNat)))]) (l' := (regsL (upd R ((a).toNat) (arithS 11 (R ((b).toNat)) (R ((c).toNat)))) (pc + 4))) 0 hA hO (add_zero_off _ _) (regs_ble R (pc + 4) (by omega)) (setL_regs (by omega) _) ?_)
  clear hO; intro w14 hO
  refine ⟨(hO.sub [1, 2, 3, 4]), ?_⟩
  replace hA := hA.sb (e' := [(6, pt b2), (7, i64 0), (8, pt b3), (13, pt b5)])
  refine end_plan ?_
  refine inBlock_normal ?_
  refine then_normal ?_
  refine sR (l := (rg 0 5)) ?_
  refine ck (l := [0, 1]) (r := [2, 3, 4]) (e' := [(6, pt b2), (7, i64 0), (8, pt b3), (227, .agg (List.toArray (regsL (upd R ((a).toNat) (arithS 11 (R ((b).toNat)) (R ((c).toNat)))) (pc + 4)))), (228, .agg #[i64 0, i64 0, i64 0, i64 0, i64 0, i64 0, i64 0])]) hA [.agg (List.toArray (regsL (upd R ((a).toNat) (arithS 11 (R ((b).toNat)) (R ((c).toNat)))) (pc + 4)))] (cc (hO.ln 0 0 38 (regsL (upd R ((a).toNat) (arithS 11 (R ((b).toNat)) (R ((c).toNat)))) (pc + 4))) c0) ?_
  clear hA fr; intro fr hA
  refine wpOps_cons' (mS (off := 0) (vc := (regsL (upd R ((a).toNat) (arithS 11 (R ((b).toNat)) (R ((c).toNat)))) (pc + 4))) 3 hA hO ?_)
  clear hO; intro w15 hO
  replace hA := hA.sb (e' := [(6, pt b2), (7, i64 0), (8, pt b3), (228, .agg #[i64 0, i64 0, i64 0, i64 0, i64 0, i64 0, i64 0])])
  refine ck (l := [3]) (r := [4]) (e' := [(6, pt b2), (7, i64 0), (8, pt b3), (228, .agg #[i64 0, i64 0, i64 0, i64 0, i64 0, i64 0, i64 0])]) hA [] c0 ?_
  clear hA fr; intro fr hA
  refine wpOps_cons' (mS (off := 0) (vc := [i64 0, i64 0, i64 0, i64 0, i64 0, i64 0, i64 0]) 2 hA hO ?_)
  clear hO; intro w16 hO
  replace hA := hA.sb (e' := [(6, pt b2), (7, i64 0), (8, pt b3)])
  refine end_ops ?_
  refine then_normal ?_
  refine wp_ret ?_
  refine cR (cs := [some (⟨b2, 0, none⟩, 38), none, some (⟨b3, 0, none⟩, 56)]) (us := [.agg (List.toArray (regsL (upd R ((a).toNat) (arithS 11 (R ((b).toNat)) (R ((c).toNat)))) (pc + 4))), i64 0, .agg #[i64 0, i64 0, i64 0, i64 0, i64 0, i64 0, i64 0]]) hA [.agg (List.toArray (regsL (upd R ((a).toNat) (arithS 11 (R ((b).toNat)) (R ((c).toNat)))) (pc + 4))), .agg #[i64 0, i64 0, i64 0, i64 0, i64 0, i64 0, i64 0]] ⟨(hO.ln 3 0 38 (regsL (upd R ((a).toNat) (arithS 11 (R ((b).toNat)) (R ((c).toNat)))) (pc + 4))), (hO.ln 2 0 56 [i64 0, i64 0, i64 0, i64 0, i64 0, i64 0, i64 0]), trivial⟩ ?_
  have hF := hO.only; clear hA hO
  exact ⟨by simp_all [pack, execV, outV, noTrap, trapL, insV], hF⟩

end Go.Proofs.YtcaokjdihhbkjaaDoor
