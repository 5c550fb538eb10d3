/- The layer cpu: walks of the reference: Exec. -/
import Derived.Test.YtcaokjdihhbkjaaDoorRvalue
set_option linter.unusedVariables false
set_option linter.unusedSimpArgs false
set_option maxRecDepth 10000
namespace Go.Proofs.YtcaokjdihhbkjaaDoor
open Go Go.RowKit Go.Proofs.Sx

theorem rexec_12 (R : Nat → Int) (pc ld a b c v : Int) (sl : Value) (w : World) (hT : Tab w) (hR : RegsOk R) (hp : -1099511627776 < pc) (hp' : pc < 1099511627776) (ha : 0 ≤ a) (ha' : a ≤ 15) (hb : 0 ≤ b) (hb' : b ≤ 15) (hc : 0 ≤ c) (hc' : c ≤ 15) (hv : -32768 ≤ v) (hv' : v ≤ 32767) (hdec : ∀ w', Only none' w w' → Calls Tryd.prog 14 #[sl] w' fun e w2 => e = .returned (.tuple #[insV 12 a b c v, .int .i64 0]) ∧ Only none' w' w2) :
    Calls Tryd.prog 23 #[.agg (List.toArray (regsL R pc)), sl, i64 ld] w fun e w' => e = .returned (execV R pc ld 12 a b c v) ∧ Only none' w w' := by
  refine c_enter (args := [.agg (List.toArray (regsL R pc)), sl, i64 ld]) (m := 226) (n := 229) Tryd.func23 rfl (by kernel_rfl) (by kernel_rfl) fun fr hA => ?_
  have hO := Ow.nil Tryd.prog none' w
  have hRa := hR a.toNat; have hRb := hR b.toNat; have hRc := hR c.toNat; simp only [inK] at hRa hRb hRc
  skip
  refine sR (l := [0, 1, 2, 3]) ?_
  refine wpOps_cons' (mN (l := (regsL R pc)) (t := 38) (v := pt) (d := 3) hA hO ?_)
  clear hA hO fr; intro fr w1 b1 hA hO
  replace hA := hA.sb (e' := [(1, sl), (2, i64 ld), (3, pt b1)])
  refine wpOps_cons' (mN (l := [i32 0, i32 0, i32 0, i32 0, i32 0, i32 0, i32 0, i32 0, i32 0, i32 0, i32 0, i32 0, i32 0, i32 0, i32 0, i32 0, i64 0]) (t := 38) (v := pt) (d := 6) hA hO ?_)
  clear hA hO fr; intro fr w2 b2 hA hO
  refine ck (l := [2]) (r := [3]) (e' := [(1, sl), (2, i64 ld), (3, pt b1), (6, pt b2), (7, i64 0)]) hA [] c0 ?_
  clear hA fr; intro fr hA
  refine wpOps_cons' (mN (l := [i64 0, i64 0, i64 0, i64 0, i64 0, i64 0, i64 0]) (t := 56) (v := pt) (d := 8) hA hO ?_)
  clear hA hO fr; intro fr w3 b3 hA hO
  refine end_ops ?_
  refine then_normal ?_
  refine sR (l := (rg 0 8)) ?_
  refine ck (l := [0]) (r := (rg 1 7)) (e' := [(2, i64 ld), (3, pt b1), (6, pt b2), (7, i64 0), (8, pt b3), (15, sl)]) hA [] c0 ?_
  clear hA fr; intro fr hA
  refine wpOps_cons' (mK (f := 14) (args := [sl]) (d := (some 16)) (v := .tuple #[.agg #[i64 12, i64 a, i64 b, i64 c, i64 v], i64 0]) hA hO Tryd.func14 (hdec _ hO.only) ?_)
  clear hA hO fr; intro fr w4 hA hO
  replace hA := hA.sb (e' := [(2, i64 ld), (3, pt b1), (6, pt b2), (7, i64 0), (8, pt b3), (16, .tuple #[.agg #[i64 12, i64 a, i64 b, i64 c, i64 v], i64 0])])
  refine ck (l := [2, 3, 4]) (r := [5, 6, 7]) (e' := [(2, i64 ld), (3, pt b1), (6, pt b2), (7, i64 0), (8, pt b3), (17, .agg #[i64 12, i64 a, i64 b, i64 c, i64 v]), (18, i64 0)]) hA [] c0 ?_
  clear hA fr; intro fr hA
  refine wpOps_cons' (mN (l := [i64 0, i64 0, i64 0, i64 0, i64 0]) (t := 29) (v := pt) (d := 9) hA hO ?_)
  clear hA hO fr; intro fr w5 b4 hA hO
  refine wpOps_cons' (mS (off := 0) (vc := [i64 12, i64 a, i64 b, i64 c, i64 v]) 0 hA hO ?_)
  clear hO; intro w6 hO
  replace hA := hA.sb (e' := [(2, i64 ld), (3, pt b1), (6, pt b2), (7, i64 0), (8, pt b3), (9, pt b4), (18, i64 0)])
  refine ck (l := [7]) (r := []) (e' := [(2, i64 ld), (3, pt b1), (6, pt b2), (7, i64 0), (8, pt b3), (9, pt b4), (10, i64 0)]) hA [] c0 ?_
  clear hA fr; intro fr hA
  refine end_ops ?_
  refine then_normal ?_
  refine wp_seq ?_
  refine sC (e' := [(2, i64 ld), (3, pt b1), (6, pt b2), (7, i64 0), (8, pt b3), (9, pt b4), (20, bl false)]) 2 hA [] c0 ?_
  clear hA fr; intro fr hA
  refine cF hA ?_
  refine wp_skip ?_
  refine then_normal ?_
  refine wp_seq ?_
  have hS := hO
  refine rP [(0, true), (1, true), (2, true), (3, true), (4, true), (5, true), (6, true), (7, true), (8, true), (9, true), (10, true), (11, true), (12, true), (13, true)] hS ?_
  intro w7 ho; replace hO := hO.st ho; clear ho
  refine ckS (l := (rg 0 14)) (r := []) (e' := [(2, i64 ld), (3, pt b1), (6, pt b2), (7, i64 0), (8, pt b3), (9, pt b4), (11, i64 (R ((a).toNat))), (12, i64 (R ((b).toNat)))]) hA [i64 a, i32 (R ((a).toNat)), bl true, i64 b, i32 (R ((b).toNat)), bl true] (cc (hS.s1 0 1 3 (i64 a)) (cc (⟨by omega, by omega⟩ : (0 : Int) ≤ a ∧ a < ((16 : Nat) : Int)) (cc (hS.sx ((⟨b1, 0, none⟩ : Addr).add ((a).toNat)) 21 (i32 (R ((a).toNat))) fun _ hO => (ld_regs (hO.b 3) (by omega) (by kernel_rfl))) (cc ((inK_up (by kernel_rfl) (hR _)) : inK .i64 (R ((a).toNat))) (cc (hS.s1 0 2 3 (i64 b)) (cc (⟨by omega, by omega⟩ : (0 : Int) ≤ b ∧ b < ((16 : Nat) : Int)) (cc (hS.sx ((⟨b1, 0, none⟩ : Addr).add ((b).toNat)) 21 (i32 (R ((b).toNat))) fun _ hO => (ld_regs (hO.b 3) (by omega) (by kernel_rfl))) (cc ((inK_up (by kernel_rfl) (hR _)) : inK .i64 (R ((b).toNat))) c0)))))))) ?_
  clear hA fr; intro fr hA
  refine end_plan ?_
  refine then_normal ?_
  refine sR (l := [0, 1, 2]) ?_
  refine ck (l := [0]) (r := [1, 2]) (e' := [(2, i64 ld), (3, pt b1), (6, pt b2), (7, i64 0), (8, pt b3), (9, pt b4), (11, i64 (R ((a).toNat))), (12, i64 (R ((b).toNat))), (35, .agg (List.toArray (regsL R pc)))]) hA [.agg (List.toArray (regsL R pc))] (cc (hO.ln 3 0 38 (regsL R pc)) c0) ?_
  clear hA fr; intro fr hA
  refine wpOps_cons' (mN (l := [i32 0, i32 0, i32 0, i32 0, i32 0, i32 0, i32 0, i32 0, i32 0, i32 0, i32 0, i32 0, i32 0, i32 0, i32 0, i32 0, i64 0]) (t := 38) (v := pt) (d := 13) hA hO ?_)
  clear hA hO fr; intro fr w8 b5 hA hO
  refine wpOps_cons' (mS (off := 0) (vc := (regsL R pc)) 0 hA hO ?_)
  clear hO; intro w9 hO
  replace hA := hA.sb (e' := [(2, i64 ld), (3, pt b1), (6, pt b2), (7, i64 0), (8, pt b3), (9, pt b4), (11, i64 (R ((a).toNat))), (12, i64 (R ((b).toNat))), (13, pt b5)])
  refine end_ops ?_
  refine then_normal ?_
  refine sR (l := (rg 0 5)) ?_
  refine ck (l := [0, 1, 2, 3]) (r := [4]) (e' := [(2, i64 ld), (3, pt b1), (6, pt b2), (7, i64 0), (8, pt b3), (9, pt b4), (11, i64 (R ((a).toNat))), (12, i64 (R ((b).toNat))), (13, pt b5), (38, i64 (pc + 4)), (39, pf b5 16)]) hA [i64 pc, bl true] (cc (hO.l1 0 16 3 (i64 pc)) (cc ((inK_i64 (by omega) (by omega)) : inK .i64 (pc + 4)) c0)) ?_
  clear hA fr; intro fr hA
  refine wpOps_cons' (mSR (off := 16) (ad := ⟨b5, 16, none⟩) (vc := [i64 (pc + 4)]) (l' := (regsL R (pc + 4))) 0 hA hO rfl (by kernel_rfl) (by kernel_rfl) ?_)
  clear hO; intro w10 hO
  replace hA := hA.sb (e' := [(2, i64 ld), (3, pt b1), (6, pt b2), (7, i64 0), (8, pt b3), (9, pt b4), (11, i64 (R ((a).toNat))), (12, i64 (R ((b).toNat))), (13, pt b5)])
  refine end_ops ?_
  refine then_normal ?_
  refine wp_seq ?_
  refine sC (e' := [(2, i64 ld), (3, pt b1), (6, pt b2), (7, i64 0), (8, pt b3), (9, pt b4), (11, i64 (R ((a).toNat))), (12, i64 (R ((b).toNat))), (13, pt b5), (41, i64 12)]) 2 hA [i64 12] (cc (hO.l1 1 0 3 (i64 12)) c0) ?_
  clear hA fr; intro fr hA
  refine wp_block ?_
  refine sC (e' := [(2, i64 ld), (3, pt b1), (6, pt b2), (7, i64 0), (8, pt b3), (9, pt b4), (11, i64 (R ((a).toNat))), (12, i64 (R ((b).toNat))), (13, pt b5), (41, i64 12), (57, bl false)]) 2 hA [] c0 ?_
  clear hA fr; intro fr hA
  refine cF hA ?_
  refine sC (e' := [(2, i64 ld), (3, pt b1), (6, pt b2), (7, i64 0), (8, pt b3), (9, pt b4), (11, i64 (R ((a).toNat))), (12, i64 (R ((b).toNat))), (13, pt b5), (41, i64 12), (66, bl false)]) 2 hA [] c0 ?_
  clear hA fr; intro fr hA
  refine cF hA ?_
  refine sC (e' := [(2, i64 ld), (3, pt b1), (6, pt b2), (7, i64 0), (8, pt b3), (9, pt b4), (11, i64 (R ((a).toNat))), (12, i64 (R ((b).toNat))), (13, pt b5), (41, i64 12), (78, bl false)]) 2 hA [] c0 ?_
  clear hA fr; intro fr hA
  refine cF hA ?_
  refine wp_seq ?_
  refine sC (e' := [(2, i64 ld), (3, pt b1), (6, pt b2), (7, i64 0), (8, pt b3), (9, pt b4), (11, i64 (R ((a).toNat))), (12, i64 (R ((b).toNat))), (13, pt b5), (41, i64 12), (89, bl false)]) 2 hA [] c0 ?_
  clear hA fr; intro fr hA
  refine cF hA ?_
  refine rC (e' := [(2, i64 ld), (3, pt b1), (6, pt b2), (7, i64 0), (8, pt b3), (9, pt b4), (11, i64 (R ((a).toNat))), (12, i64 (R ((b).toNat))), (13, pt b5), (41, i64 12), (89, bl false)]) 2 hA [] c0 ?_
  clear hA fr; intro fr hA
  refine then_normal ?_
  refine cF hA ?_
  refine wp_seq ?_
  refine sC (e' := [(2, i64 ld), (3, pt b1), (6, pt b2), (7, i64 0), (8, pt b3), (9, pt b4), (11, i64 (R ((a).toNat))), (12, i64 (R ((b).toNat))), (13, pt b5), (41, i64 12), (115, bl false)]) 2 hA [] c0 ?_
  clear hA fr; intro fr hA
  refine cF hA ?_
  refine rC (e' := [(2, i64 ld), (3, pt b1), (6, pt b2), (7, i64 0), (8, pt b3), (9, pt b4), (11, i64 (R ((a).toNat))), (12, i64 (R ((b).toNat))), (13, pt b5), (41, i64 12), (115, bl false)]) 2 hA [] c0 ?_
  clear hA fr; intro fr hA
  refine then_normal ?_
  refine cF hA ?_
  refine sC (e' := [(2, i64 ld), (3, pt b1), (6, pt b2), (7, i64 0), (8, pt b3), (9, pt b4), (11, i64 (R ((a).toNat))), (12, i64 (R ((b).toNat))), (13, pt b5), (41, i64 12), (138, bl false)]) 2 hA [] c0 ?_
  clear hA fr; intro fr hA
  refine cF hA ?_
  refine sC (e' := [(3, pt b1), (6, pt b2), (7, i64 0), (8, pt b3), (9, pt b4), (11, i64 (R ((a).toNat))), (12, i64 (R ((b).toNat))), (13, pt b5), (41, i64 12), (149, bl false)]) 2 hA [] c0 ?_
  clear hA fr; intro fr hA
  refine cF hA ?_
  refine sC (e' := [(3, pt b1), (6, pt b2), (7, i64 0), (8, pt b3), (9, pt b4), (11, i64 (R ((a).toNat))), (12, i64 (R ((b).toNat))), (13, pt b5), (41, i64 12), (157, bl false)]) 2 hA [] c0 ?_
  clear hA fr; intro fr hA
  refine cF hA ?_
  refine sC (e' := [(3, pt b1), (6, pt b2), (7, i64 0), (8, pt b3), (9, pt b4), (11, i64 (R ((a).toNat))), (12, i64 (R ((b).toNat))), (13, pt b5), (41, i64 12), (166, bl false)]) 2 hA [] c0 ?_
  clear hA fr; intro fr hA
  refine cF hA ?_
  refine sC (e' := [(3, pt b1), (6, pt b2), (7, i64 0), (8, pt b3), (9, pt b4), (11, i64 (R ((a).toNat))), (12, i64 (R ((b).toNat))), (13, pt b5), (41, i64 12), (177, bl false)]) 2 hA [] c0 ?_
  clear hA fr; intro fr hA
  refine cF hA ?_
  refine sC (e' := [(3, pt b1), (6, pt b2), (7, i64 0), (8, pt b3), (9, pt b4), (11, i64 (R ((a).toNat))), (12, i64 (R ((b).toNat))), (13, pt b5), (41, i64 12), (194, bl false)]) 2 hA [] c0 ?_
  clear hA fr; intro fr hA
  refine cF hA ?_
  refine sC (e' := [(3, pt b1), (6, pt b2), (7, i64 0), (8, pt b3), (9, pt b4), (12, i64 (R ((b).toNat))), (13, pt b5), (198, bl false)]) 2 hA [] c0 ?_
  clear hA fr; intro fr hA
  refine cF hA ?_
  have hS : Ow Tryd.prog none' w _ [(b4, 29, [i64 12, i64 a, i64 b, i64 c, i64 v]), (b3, 56, [i64 0, i64 0, i64 0, i64 0, i64 0, i64 0, i64 0]), (b2, 38, [i32 0, i32 0, i32 0, i32 0, i32 0, i32 0, i32 0, i32 0, i32 0, i32 0, i32 0, i32 0, i32 0, i32 0, i32 0, i32 0, i64 0]), (b1, 38, (regsL R pc))] := hO.sub [1, 2, 3, 4]
  refine rP [(0, true), (1, true), (2, true), (3, true), (4, true), (5, true), (6, true), (7, true), (8, true), (9, true), (10, true), (13, true), (11, false), (12, false), (14, true), (15, false)] hS ?_
  intro w11 ho; replace hO := hO.st ho; clear ho
  refine ckS (l := [0, 1, 2, 3, 4, 5, 6, 7, 8, 9, 10, 13]) (r := [(11, false), (12, false), (14, true), (15, false)]) (e' := [(6, pt b2), (7, i64 0), (8, pt b3), (13, pt b5), (43, i64 a), (45, i64 12), (46, i64 (R ((b).toNat))), (52, i64 (R ((c).toNat))), (55, pt b5)]) hA [i64 a, i64 12, i64 c, i32 (R ((c).toNat)), bl true] (cc (hS.s1 0 1 3 (i64 a)) (cc (hS.s1 0 0 3 (i64 12)) (cc (hS.s1 0 3 3 (i64 c)) (cc (⟨by omega, by omega⟩ : (0 : Int) ≤ c ∧ c < ((16 : Nat) : Int)) (cc (hS.sx ((⟨b1, 0, none⟩ : Addr).add ((c).toNat)) 21 (i32 (R ((c).toNat))) fun _ hO => (ld_regs (hO.b 3) (by omega) (by kernel_rfl))) (cc ((inK_up (by kernel_rfl) (hR _)) : inK .i64 (R ((c).toNat))) c0)))))) ?_
  clear hA fr; intro fr hA
  refine plan_mem (mK (f := 39) (args := [i64 12, i64 (R ((b).toNat)), i64 (R ((c).toNat))]) (d := (some 53)) (v := i64 (cond (decide ((R ((b).toNat)) < (R ((c).toNat)))) 1 0)) hA hO Tryd.func39 (value_12 (R ((b).toNat)) (R ((c).toNat)) _ (hR _) (hR _)) ?_)
  clear hA hO fr; intro fr w12 hA hO
  refine ⟨(hO.sub [1, 2, 3, 4]), ?_⟩
  replace hA := hA.sb (e' := [(6, pt b2), (7, i64 0), (8, pt b3), (13, pt b5), (43, i64 a), (53, i64 (cond (decide ((R ((b).toNat)) < (R ((c).toNat)))) 1 0)), (55, pt b5)])
  refine plan_mem (mK (f := 38) (args := [i64 (cond (decide ((R ((b).toNat)) < (R ((c).toNat)))) 1 0)]) (d := (some 54)) (v := i32 (arithS 12 (R ((b).toNat)) (R ((c).toNat)))) hA hO Tryd.func38 (rs (word_any (cond (decide ((R ((b).toNat)) < (R ((c).toNat)))) 1 0) _) (congrArg (Value.int .i32) (arith_12 _ _ (hR _)))) ?_)
  clear hA hO fr; intro fr w13 hA hO
  refine ⟨(hO.sub [1, 2, 3, 4]), ?_⟩
  replace hA := hA.sb (e' := [(6, pt b2), (7, i64 0), (8, pt b3), (13, pt b5), (43, i64 a), (54, i32 (arithS 12 (R ((b).toNat)) (R ((c).toNat)))), (55, pt b5)])
  refine ckS (l := [14]) (r := [(15, false)]) (e' := [(6, pt b2), (7, i64 0), (8, pt b3), (13, pt b5), (54, i32 (arithS 12 (R ((b).toNat)) (R ((c).toNat)))), (56, .pointer (some ((⟨b5, 0, none⟩ : Addr).add ((a).toNat))))]) hA [] (cc (⟨by omega, by omega⟩ : (0 : Int) ≤ a ∧ a < ((16 : Nat) : Int)) c0) ?_
  clear hA fr; intro fr hA
  refine plan_mem (mSR (off := (a).toNat) (ad := (⟨b5, 0, none⟩ : Addr).add ((a).toNat)) (vc := [i32 (arithS 12 (R ((b).toNat)) (R ((c).toNat)))]) (l' := (regsL (upd R ((a).toNat) (arithS 12 (R ((b).toNat)) (R ((c).toNat)))) (pc + 4))) 0 hA hO (add_zero_off _ _) (regs_ble R (pc + 4) (by omega)) (setL_regs (by omega) _) ?_)
  clear hO; intro w14 hO
  refine ⟨(hO.sub [1, 2, 3, 4]), ?_⟩
  replace hA := hA.sb (e' := [(6, pt b2), (7, i64 0), (8, pt b3), (13, pt b5)])
  refine end_plan ?_
  refine inBlock_normal ?_
  refine then_normal ?_
  refine sR (l := (rg 0 5)) ?_
  refine ck (l := [0, 1]) (r := [2, 3, 4]) (e' := [(6, pt b2), (7, i64 0), (8, pt b3), (227, .agg (List.toArray (regsL (upd R ((a).toNat) (arithS 12 (R ((b).toNat)) (R ((c).toNat)))) (pc + 4)))), (228, .agg #[i64 0, i64 0, i64 0, i64 0, i64 0, i64 0, i64 0])]) hA [.agg (List.toArray (regsL (upd R ((a).toNat) (arithS 12 (R ((b).toNat)) (R ((c).toNat)))) (pc + 4)))] (cc (hO.ln 0 0 38 (regsL (upd R ((a).toNat) (arithS 12 (R ((b).toNat)) (R ((c).toNat)))) (pc + 4))) c0) ?_
  clear hA fr; intro fr hA
  refine wpOps_cons' (mS (off := 0) (vc := (regsL (upd R ((a).toNat) (arithS 12 (R ((b).toNat)) (R ((c).toNat)))) (pc + 4))) 3 hA hO ?_)
  clear hO; intro w15 hO
  replace hA := hA.sb (e' := [(6, pt b2), (7, i64 0), (8, pt b3), (228, .agg #[i64 0, i64 0, i64 0, i64 0, i64 0, i64 0, i64 0])])
  refine ck (l := [3]) (r := [4]) (e' := [(6, pt b2), (7, i64 0), (8, pt b3), (228, .agg #[i64 0, i64 0, i64 0, i64 0, i64 0, i64 0, i64 0])]) hA [] c0 ?_
  clear hA fr; intro fr hA
  refine wpOps_cons' (mS (off := 0) (vc := [i64 0, i64 0, i64 0, i64 0, i64 0, i64 0, i64 0]) 2 hA hO ?_)
  clear hO; intro w16 hO
  replace hA := hA.sb (e' := [(6, pt b2), (7, i64 0), (8, pt b3)])
  refine end_ops ?_
  refine then_normal ?_
  refine wp_ret ?_
  refine cR (cs := [some (⟨b2, 0, none⟩, 38), none, some (⟨b3, 0, none⟩, 56)]) (us := [.agg (List.toArray (regsL (upd R ((a).toNat) (arithS 12 (R ((b).toNat)) (R ((c).toNat)))) (pc + 4))), i64 0, .agg #[i64 0, i64 0, i64 0, i64 0, i64 0, i64 0, i64 0]]) hA [.agg (List.toArray (regsL (upd R ((a).toNat) (arithS 12 (R ((b).toNat)) (R ((c).toNat)))) (pc + 4))), .agg #[i64 0, i64 0, i64 0, i64 0, i64 0, i64 0, i64 0]] ⟨(hO.ln 3 0 38 (regsL (upd R ((a).toNat) (arithS 12 (R ((b).toNat)) (R ((c).toNat)))) (pc + 4))), (hO.ln 2 0 56 [i64 0, i64 0, i64 0, i64 0, i64 0, i64 0, i64 0]), trivial⟩ ?_
  have hF := hO.only; clear hA hO
  exact ⟨by simp_all [pack, execV, outV, noTrap, trapL, insV], hF⟩

theorem rexec_13 (R : Nat → Int) (pc ld a b c v : Int) (sl : Value) (w : World) (hT : Tab w) (hR : RegsOk R) (hp : -1099511627776 < pc) (hp' : pc < 1099511627776) (ha : 0 ≤ a) (ha' : a ≤ 15) (hb : 0 ≤ b) (hb' : b ≤ 15) (hc : 0 ≤ c) (hc' : c ≤ 15) (hv : -32768 ≤ v) (hv' : v ≤ 32767) (hdec : ∀ w', Only none' w w' → Calls Tryd.prog 14 #[sl] w' fun e w2 => e = .returned (.tuple #[insV 13 a b c v, .int .i64 0]) ∧ Only none' w' w2) :
    Calls Tryd.prog 23 #[.agg (List.toArray (regsL R pc)), sl, i64 ld] w fun e w' => e = .returned (execV R pc ld 13 a b c v) ∧ Only none' w w' := by
  refine c_enter (args := [.agg (List.toArray (regsL R pc)), sl, i64 ld]) (m := 226) (n := 229) Tryd.func23 rfl (by kernel_rfl) (by kernel_rfl) fun fr hA => ?_
  have hO := Ow.nil Tryd.prog none' w
  have hRa := hR a.toNat; have hRb := hR b.toNat; have hRc := hR c.toNat; simp only [inK] at hRa hRb hRc
  skip
  refine sR (l := [0, 1, 2, 3]) ?_
  refine wpOps_cons' (mN (l := (regsL R pc)) (t := 38) (v := pt) (d := 3) hA hO ?_)
  clear hA hO fr; intro fr w1 b1 hA hO
  replace hA := hA.sb (e' := [(1, sl), (2, i64 ld), (3, pt b1)])
  refine wpOps_cons' (mN (l := [i32 0, i32 0, i32 0, i32 0, i32 0, i32 0, i32 0, i32 0, i32 0, i32 0, i32 0, i32 0, i32 0, i32 0, i32 0, i32 0, i64 0]) (t := 38) (v := pt) (d := 6) hA hO ?_)
  clear hA hO fr; intro fr w2 b2 hA hO
  refine ck (l := [2]) (r := [3]) (e' := [(1, sl), (2, i64 ld), (3, pt b1), (6, pt b2), (7, i64 0)]) hA [] c0 ?_
  clear hA fr; intro fr hA
  refine wpOps_cons' (mN (l := [i64 0, i64 0, i64 0, i64 0, i64 0, i64 0, i64 0]) (t := 56) (v := pt) (d := 8) hA hO ?_)
  clear hA hO fr; intro fr w3 b3 hA hO
  refine end_ops ?_
  refine then_normal ?_
  refine sR (l := (rg 0 8)) ?_
  refine ck (l := [0]) (r := (rg 1 7)) (e' := [(2, i64 ld), (3, pt b1), (6, pt b2), (7, i64 0), (8, pt b3), (15, sl)]) hA [] c0 ?_
  clear hA fr; intro fr hA
  refine wpOps_cons' (mK (f := 14) (args := [sl]) (d := (some 16)) (v := .tuple #[.agg #[i64 13, i64 a, i64 b, i64 c, i64 v], i64 0]) hA hO Tryd.func14 (hdec _ hO.only) ?_)
  clear hA hO fr; intro fr w4 hA hO
  replace hA := hA.sb (e' := [(2, i64 ld), (3, pt b1), (6, pt b2), (7, i64 0), (8, pt b3), (16, .tuple #[.agg #[i64 13, i64 a, i64 b, i64 c, i64 v], i64 0])])
  refine ck (l := [2, 3, 4]) (r := [5, 6, 7]) (e' := [(2, i64 ld), (3, pt b1), (6, pt b2), (7, i64 0), (8, pt b3), (17, .agg #[i64 13, i64 a, i64 b, i64 c, i64 v]), (18, i64 0)]) hA [] c0 ?_
  clear hA fr; intro fr hA
  refine wpOps_cons' (mN (l := [i64 0, i64 0, i64 0, i64 0, i64 0]) (t := 29) (v := pt) (d := 9) hA hO ?_)
  clear hA hO fr; intro fr w5 b4 hA hO
  refine wpOps_cons' (mS (off := 0) (vc := [i64 13, i64 a, i64 b, i64 c, i64 v]) 0 hA hO ?_)
  clear hO; intro w6 hO
  replace hA := hA.sb (e' := [(2, i64 ld), (3, pt b1), (6, pt b2), (7, i64 0), (8, pt b3), (9, pt b4), (18, i64 0)])
  refine ck (l := [7]) (r := []) (e' := [(2, i64 ld), (3, pt b1), (6, pt b2), (7, i64 0), (8, pt b3), (9, pt b4), (10, i64 0)]) hA [] c0 ?_
  clear hA fr; intro fr hA
  refine end_ops ?_
  refine then_normal ?_
  refine wp_seq ?_
  refine sC (e' := [(2, i64 ld), (3, pt b1), (6, pt b2), (7, i64 0), (8, pt b3), (9, pt b4), (20, bl false)]) 2 hA [] c0 ?_
  clear hA fr; intro fr hA
  refine cF hA ?_
  refine wp_skip ?_
  refine then_normal ?_
  refine wp_seq ?_
  have hS := hO
  refine rP [(0, true), (1, true), (2, true), (3, true), (4, true), (5, true), (6, true), (7, true), (8, true), (9, true), (10, true), (11, true), (12, true), (13, true)] hS ?_
  intro w7 ho; replace hO := hO.st ho; clear ho
  refine ckS (l := (rg 0 14)) (r := []) (e' := [(2, i64 ld), (3, pt b1), (6, pt b2), (7, i64 0), (8, pt b3), (9, pt b4), (11, i64 (R ((a).toNat))), (12, i64 (R ((b).toNat)))]) hA [i64 a, i32 (R ((a).toNat)), bl true, i64 b, i32 (R ((b).toNat)), bl true] (cc (hS.s1 0 1 3 (i64 a)) (cc (⟨by omega, by omega⟩ : (0 : Int) ≤ a ∧ a < ((16 : Nat) : Int)) (cc (hS.sx ((⟨b1, 0, none⟩ : Addr).add ((a).toNat)) 21 (i32 (R ((a).toNat))) fun _ hO => (ld_regs (hO.b 3) (by omega) (by kernel_rfl))) (cc ((inK_up (by kernel_rfl) (hR _)) : inK .i64 (R ((a).toNat))) (cc (hS.s1 0 2 3 (i64 b)) (cc (⟨by omega, by omega⟩ : (0 : Int) ≤ b ∧ b < ((16 : Nat) : Int)) (cc (hS.sx ((⟨b1, 0, none⟩ : Addr).add ((b).toNat)) 21 (i32 (R ((b).toNat))) fun _ hO => (ld_regs (hO.b 3) (by omega) (by kernel_rfl))) (cc ((inK_up (by kernel_rfl) (hR _)) : inK .i64 (R ((b).toNat))) c0)))))))) ?_
  clear hA fr; intro fr hA
  refine end_plan ?_
  refine then_normal ?_
  refine sR (l := [0, 1, 2]) ?_
  refine ck (l := [0]) (r := [1, 2]) (e' := [(2, i64 ld), (3, pt b1), (6, pt b2), (7, i64 0), (8, pt b3), (9, pt b4), (11, i64 (R ((a).toNat))), (12, i64 (R ((b).toNat))), (35, .agg (List.toArray (regsL R pc)))]) hA [.agg (List.toArray (regsL R pc))] (cc (hO.ln 3 0 38 (regsL R pc)) c0) ?_
  clear hA fr; intro fr hA
  refine wpOps_cons' (mN (l := [i32 0, i32 0, i32 0, i32 0, i32 0, i32 0, i32 0, i32 0, i32 0, i32 0, i32 0, i32 0, i32 0, i32 0, i32 0, i32 0, i64 0]) (t := 38) (v := pt) (d := 13) hA hO ?_)
  clear hA hO fr; intro fr w8 b5 hA hO
  refine wpOps_cons' (mS (off := 0) (vc := (regsL R pc)) 0 hA hO ?_)
  clear hO; intro w9 hO
  replace hA := hA.sb (e' := [(2, i64 ld), (3, pt b1), (6, pt b2), (7, i64 0), (8, pt b3), (9, pt b4), (11, i64 (R ((a).toNat))), (12, i64 (R ((b).toNat))), (13, pt b5)])
  refine end_ops ?_
  refine then_normal ?_
  refine sR (l := (rg 0 5)) ?_
  refine ck (l := [0, 1, 2, 3]) (r := [4]) (e' := [(2, i64 ld), (3, pt b1), (6, pt b2), (7, i64 0), (8, pt b3), (9, pt b4), (11, i64 (R ((a).toNat))), (12, i64 (R ((b).toNat))), (13, pt b5), (38, i64 (pc + 4)), (39, pf b5 16)]) hA [i64 pc, bl true] (cc (hO.l1 0 16 3 (i64 pc)) (cc ((inK_i64 (by omega) (by omega)) : inK .i64 (pc + 4)) c0)) ?_
  clear hA fr; intro fr hA
  refine wpOps_cons' (mSR (off := 16) (ad := ⟨b5, 16, none⟩) (vc := [i64 (pc + 4)]) (l' := (regsL R (pc + 4))) 0 hA hO rfl (by kernel_rfl) (by kernel_rfl) ?_)
  clear hO; intro w10 hO
  replace hA := hA.sb (e' := [(2, i64 ld), (3, pt b1), (6, pt b2), (7, i64 0), (8, pt b3), (9, pt b4), (11, i64 (R ((a).toNat))), (12, i64 (R ((b).toNat))), (13, pt b5)])
  refine end_ops ?_
  refine then_normal ?_
  refine wp_seq ?_
  refine sC (e' := [(2, i64 ld), (3, pt b1), (6, pt b2), (7, i64 0), (8, pt b3), (9, pt b4), (11, i64 (R ((a).toNat))), (12, i64 (R ((b).toNat))), (13, pt b5), (41, i64 13)]) 2 hA [i64 13] (cc (hO.l1 1 0 3 (i64 13)) c0) ?_
  clear hA fr; intro fr hA
  refine wp_block ?_
  refine sC (e' := [(2, i64 ld), (3, pt b1), (6, pt b2), (7, i64 0), (8, pt b3), (9, pt b4), (11, i64 (R ((a).toNat))), (12, i64 (R ((b).toNat))), (13, pt b5), (41, i64 13), (57, bl false)]) 2 hA [] c0 ?_
  clear hA fr; intro fr hA
  refine cF hA ?_
  refine sC (e' := [(2, i64 ld), (3, pt b1), (6, pt b2), (7, i64 0), (8, pt b3), (9, pt b4), (11, i64 (R ((a).toNat))), (12, i64 (R ((b).toNat))), (13, pt b5), (41, i64 13), (66, bl false)]) 2 hA [] c0 ?_
  clear hA fr; intro fr hA
  refine cF hA ?_
  refine sC (e' := [(2, i64 ld), (3, pt b1), (6, pt b2), (7, i64 0), (8, pt b3), (9, pt b4), (11, i64 (R ((a).toNat))), (12, i64 (R ((b).toNat))), (13, pt b5), (41, i64 13), (78, bl false)]) 2 hA [] c0 ?_
  clear hA fr; intro fr hA
  refine cF hA ?_
  refine wp_seq ?_
  refine sC (e' := [(2, i64 ld), (3, pt b1), (6, pt b2), (7, i64 0), (8, pt b3), (9, pt b4), (11, i64 (R ((a).toNat))), (12, i64 (R ((b).toNat))), (13, pt b5), (41, i64 13), (89, bl false)]) 2 hA [] c0 ?_
  clear hA fr; intro fr hA
  refine cF hA ?_
  refine rC (e' := [(2, i64 ld), (3, pt b1), (6, pt b2), (7, i64 0), (8, pt b3), (9, pt b4), (11, i64 (R ((a).toNat))), (12, i64 (R ((b).toNat))), (13, pt b5), (41, i64 13), (89, bl false)]) 2 hA [] c0 ?_
  clear hA fr; intro fr hA
  refine then_normal ?_
  refine cF hA ?_
  refine wp_seq ?_
  refine sC (e' := [(2, i64 ld), (3, pt b1), (6, pt b2), (7, i64 0), (8, pt b3), (9, pt b4), (11, i64 (R ((a).toNat))), (12, i64 (R ((b).toNat))), (13, pt b5), (41, i64 13), (115, bl false)]) 2 hA [] c0 ?_
  clear hA fr; intro fr hA
  refine cF hA ?_
  refine rC (e' := [(2, i64 ld), (3, pt b1), (6, pt b2), (7, i64 0), (8, pt b3), (9, pt b4), (11, i64 (R ((a).toNat))), (12, i64 (R ((b).toNat))), (13, pt b5), (41, i64 13), (115, bl false)]) 2 hA [] c0 ?_
  clear hA fr; intro fr hA
  refine then_normal ?_
  refine cF hA ?_
  refine sC (e' := [(2, i64 ld), (3, pt b1), (6, pt b2), (7, i64 0), (8, pt b3), (9, pt b4), (11, i64 (R ((a).toNat))), (12, i64 (R ((b).toNat))), (13, pt b5), (41, i64 13), (138, bl false)]) 2 hA [] c0 ?_
  clear hA fr; intro fr hA
  refine cF hA ?_
  refine sC (e' := [(3, pt b1), (6, pt b2), (7, i64 0), (8, pt b3), (9, pt b4), (11, i64 (R ((a).toNat))), (12, i64 (R ((b).toNat))), (13, pt b5), (41, i64 13), (149, bl false)]) 2 hA [] c0 ?_
  clear hA fr; intro fr hA
  refine cF hA ?_
  refine sC (e' := [(3, pt b1), (6, pt b2), (7, i64 0), (8, pt b3), (9, pt b4), (11, i64 (R ((a).toNat))), (12, i64 (R ((b).toNat))), (13, pt b5), (41, i64 13), (157, bl false)]) 2 hA [] c0 ?_
  clear hA fr; intro fr hA
  refine cF hA ?_
  refine sC (e' := [(3, pt b1), (6, pt b2), (7, i64 0), (8, pt b3), (9, pt b4), (11, i64 (R ((a).toNat))), (12, i64 (R ((b).toNat))), (13, pt b5), (41, i64 13), (166, bl false)]) 2 hA [] c0 ?_
  clear hA fr; intro fr hA
  refine cF hA ?_
  refine sC (e' := [(3, pt b1), (6, pt b2), (7, i64 0), (8, pt b3), (9, pt b4), (11, i64 (R ((a).toNat))), (12, i64 (R ((b).toNat))), (13, pt b5), (41, i64 13), (177, bl false)]) 2 hA [] c0 ?_
  clear hA fr; intro fr hA
  refine cF hA ?_
  refine sC (e' := [(3, pt b1), (6, pt b2), (7, i64 0), (8, pt b3), (9, pt b4), (11, i64 (R ((a).toNat))), (12, i64 (R ((b).toNat))), (13, pt b5), (41, i64 13), (194, bl false)]) 2 hA [] c0 ?_
  clear hA fr; intro fr hA
  refine cF hA ?_
  refine sC (e' := [(3, pt b1), (6, pt b2), (7, i64 0), (8, pt b3), (9, pt b4), (12, i64 (R ((b).toNat))), (13, pt b5), (198, bl false)]) 2 hA [] c0 ?_
  clear hA fr; intro fr hA
  refine cF hA ?_
  have hS : Ow Tryd.prog none' w _ [(b4, 29, [i64 13, i64 a, i64 b, i64 c, i64 v]), (b3, 56, [i64 0, i64 0, i64 0, i64 0, i64 0, i64 0, i64 0]), (b2, 38, [i32 0, i32 0, i32 0, i32 0, i32 0, i32 0, i32 0, i32 0, i32 0, i32 0, i32 0, i32 0, i32 0, i32 0, i32 0, i32 0, i64 0]), (b1, 38, (regsL R pc))] := hO.sub [1, 2, 3, 4]
  refine rP [(0, true), (1, true), (2, true), (3, true), (4, true), (5, true), (6, true), (7, true), (8, true), (9, true), (10, true), (13, true), (11, false), (12, false), (14, true), (15, false)] hS ?_
  intro w11 ho; replace hO := hO.st ho; clear ho
  refine ckS (l := [0, 1, 2, 3, 4, 5, 6, 7, 8, 9, 10, 13]) (r := [(11, false), (12, false), (14, true), (15, false)]) (e' := [(6, pt b2), (7, i64 0), (8, pt b3), (13, pt b5), (43, i64 a), (45, i64 13), (46, i64 (R ((b).toNat))), (52, i64 (R ((c).toNat))), (55, pt b5)]) hA [i64 a, i64 13, i64 c, i32 (R ((c).toNat)), bl true] (cc (hS.s1 0 1 3 (i64 a)) (cc (hS.s1 0 0 3 (i64 13)) (cc (hS.s1 0 3 3 (i64 c)) (cc (⟨by omega, by omega⟩ : (0 : Int) ≤ c ∧ c < ((16 : Nat) : Int)) (cc (hS.sx ((⟨b1, 0, none⟩ : Addr).add ((c).toNat)) 21 (i32 (R ((c).toNat))) fun _ hO => (ld_regs (hO.b 3) (by omega) (by kernel_rfl))) (cc ((inK_up (by kernel_rfl) (hR _)) : inK .i64 (R ((c).toNat))) c0)))))) ?_
  clear hA fr; intro fr hA
  refine plan_mem (mK (f := 39) (args := [i64 13, i64 (R ((b).toNat)), i64 (R ((c).toNat))]) (d := (some 53)) (v := i64 (cond ((R ((b).toNat)) == (R ((c).toNat))) 1 0)) hA hO Tryd.func39 (value_13 (R ((b).toNat)) (R ((c).toNat)) _ (hR _) (hR _)) ?_)
  clear hA hO fr; intro fr w12 hA hO
  refine ⟨(hO.sub [1, 2, 3, 4]), ?_⟩
  replace hA := hA.sb (e' := [(6, pt b2), (7, i64 0), (8, pt b3), (13, pt b5), (43, i64 a), (53, i64 (cond ((R ((b).toNat)) == (R ((c).toNat))) 1 0)), (55, pt b5)])
  refine plan_mem (mK (f := 38) (args := [i64 (cond ((R ((b).toNat)) == (R ((c).toNat))) 1 0)]) (d := (some 54)) (v := i32 (arithS 13 (R ((b).toNat)) (R ((c).toNat)))) hA hO Tryd.func38 (rs (word_any (cond ((R ((b).toNat)) == (R ((c).toNat))) 1 0) _) (congrArg (Value.int .i32) (arith_13 _ _ (hR _)))) ?_)
  clear hA hO fr; intro fr w13 hA hO
  refine ⟨(hO.sub [1, 2, 3, 4]), ?_⟩
  replace hA := hA.sb (e' := [(6, pt b2), (7, i64 0), (8, pt b3), (13, pt b5), (43, i64 a), (54, i32 (arithS 13 (R ((b).toNat)) (R ((c).toNat)))), (55, pt b5)])
  refine ckS (l := [14]) (r := [(15, false)]) (e' := [(6, pt b2), (7, i64 0), (8, pt b3), (13, pt b5), (54, i32 (arithS 13 (R ((b).toNat)) (R ((c).toNat)))), (56, .pointer (some ((⟨b5, 0, none⟩ : Addr).add ((a).toNat))))]) hA [] (cc (⟨by omega, by omega⟩ : (0 : Int) ≤ a ∧ a < ((16 : Nat) : Int)) c0) ?_
  clear hA fr; intro fr hA
  refine plan_mem (mSR (off := (a).toNat) (ad := (⟨b5, 0, none⟩ : Addr).add ((a).toNat)) (vc := [i32 (arithS 13 (R ((b).toNat)) (R ((c).toNat)))]) (l' := (regsL (upd R ((a).toNat) (arithS 13 (R ((b).toNat)) (R ((c).toNat)))) (pc + 4))) 0 hA hO (add_zero_off _ _) (regs_ble R (pc + 4) (by omega)) (setL_regs (by omega) _) ?_)
  clear hO; intro w14 hO
  refine ⟨(hO.sub [1, 2, 3, 4]), ?_⟩
  replace hA := hA.sb (e' := [(6, pt b2), (7, i64 0), (8, pt b3), (13, pt b5)])
  refine end_plan ?_
  refine inBlock_normal ?_
  refine then_normal ?_
  refine sR (l := (rg 0 5)) ?_
  refine ck (l := [0, 1]) (r := [2, 3, 4]) (e' := [(6, pt b2), (7, i64 0), (8, pt b3), (227, .agg (List.toArray (regsL (upd R ((a).toNat) (arithS 13 (R ((b).toNat)) (R ((c).toNat)))) (pc + 4)))), (228, .agg #[i64 0, i64 0, i64 0, i64 0, i64 0, i64 0, i64 0])]) hA [.agg (List.toArray (regsL (upd R ((a).toNat) (arithS 13 (R ((b).toNat)) (R ((c).toNat)))) (pc + 4)))] (cc (hO.ln 0 0 38 (regsL (upd R ((a).toNat) (arithS 13 (R ((b).toNat)) (R ((c).toNat)))) (pc + 4))) c0) ?_
  clear hA fr; intro fr hA
  refine wpOps_cons' (mS (off := 0) (vc := (regsL (upd R ((a).toNat) (arithS 13 (R ((b).toNat)) (R ((c).toNat)))) (pc + 4))) 3 hA hO ?_)
  clear hO; intro w15 hO
  replace hA := hA.sb (e' := [(6, pt b2), (7, i64 0), (8, pt b3), (228, .agg #[i64 0, i64 0, i64 0, i64 0, i64 0, i64 0, i64 0])])
  refine ck (l := [3]) (r := [4]) (e' := [(6, pt b2), (7, i64 0), (8, pt b3), (228, .agg #[i64 0, i64 0, i64 0, i64 0, i64 0, i64 0, i64 0])]) hA [] c0 ?_
  clear hA fr; intro fr hA
  refine wpOps_cons' (mS (off := 0) (vc := [i64 0, i64 0, i64 0, i64 0, i64 0, i64 0, i64 0]) 2 hA hO ?_)
  clear hO; intro w16 hO
  replace hA := hA.sb (e' := [(6, pt b2), (7, i64 0), (8, pt b3)])
  refine end_ops ?_
  refine then_normal ?_
  refine wp_ret ?_
  refine cR (cs := [some (⟨b2, 0, none⟩, 38), none, some (⟨b3, 0, none⟩, 56)]) (us := [.agg (List.toArray (regsL (upd R ((a).toNat) (arithS 13 (R ((b).toNat)) (R ((c).toNat)))) (pc + 4))), i64 0, .agg #[i64 0, i64 0, i64 0, i64 0, i64 0, i64 0, i64 0]]) hA [.agg (List.toArray (regsL (upd R ((a).toNat) (arithS 13 (R ((b).toNat)) (R ((c).toNat)))) (pc + 4))), .agg #[i64 0, i64 0, i64 0, i64 0, i64 0, i64 0, i64 0]] ⟨(hO.ln 3 0 38 (regsL (upd R ((a).toNat) (arithS 13 (R ((b).toNat)) (R ((c).toNat)))) (pc + 4))), (hO.ln 2 0 56 [i64 0, i64 0, i64 0, i64 0, i64 0, i64 0, i64 0]), trivial⟩ ?_
  have hF := hO.only; clear hA hO
  exact ⟨by simp_all [pack, execV, outV, noTrap, trapL, insV], hF⟩

theorem rexec_14 (R : Nat → Int) (pc ld a b c v : Int) (sl : Value) (w : World) (hT : Tab w) (hR : RegsOk R) (hp : -1099511627776 < pc) (hp' : pc < 1099511627776) (ha : 0 ≤ a) (ha' : a ≤ 15) (hb : 0 ≤ b) (hb' : b ≤ 15) (hc : -128 ≤ c) (hc' : c ≤ 127) (hv : -32768 ≤ v) (hv' : v ≤ 32767) (hdec : ∀ w', Only none' w w' → Calls Tryd.prog 14 #[sl] w' fun e w2 => e = .returned (.tuple #[insV 14 a b c v, .int .i64 0]) ∧ Only none' w' w2) :
    Calls Tryd.prog 23 #[.agg (List.toArray (regsL R pc)), sl, i64 ld] w fun e w' => e = .returned (execV R pc ld 14 a b c v) ∧ Only none' w w' := by
  refine c_enter (args := [.agg (List.toArray (regsL R pc)), sl, i64 ld]) (m := 226) (n := 229) Tryd.func23 rfl (by kernel_rfl) (by kernel_rfl) fun fr hA => ?_
  have hO := Ow.nil Tryd.prog none' w
  have hRa := hR a.toNat; have hRb := hR b.toNat; have hRc := hR c.toNat; simp only [inK] at hRa hRb hRc
  skip
  refine sR (l := [0, 1, 2, 3]) ?_
  refine wpOps_cons' (mN (l := (regsL R pc)) (t := 38) (v := pt) (d := 3) hA hO ?_)
  clear hA hO fr; intro fr w1 b1 hA hO
  replace hA := hA.sb (e' := [(1, sl), (2, i64 ld), (3, pt b1)])
  refine wpOps_cons' (mN (l := [i32 0, i32 0, i32 0, i32 0, i32 0, i32 0, i32 0, i32 0, i32 0, i32 0, i32 0, i32 0, i32 0, i32 0, i32 0, i32 0, i64 0]) (t := 38) (v := pt) (d := 6) hA hO ?_)
  clear hA hO fr; intro fr w2 b2 hA hO
  refine ck (l := [2]) (r := [3]) (e' := [(1, sl), (2, i64 ld), (3, pt b1), (6, pt b2), (7, i64 0)]) hA [] c0 ?_
  clear hA fr; intro fr hA
  refine wpOps_cons' (mN (l := [i64 0, i64 0, i64 0, i64 0, i64 0, i64 0, i64 0]) (t := 56) (v := pt) (d := 8) hA hO ?_)
  clear hA hO fr; intro fr w3 b3 hA hO
  refine end_ops ?_
  refine then_normal ?_
  refine sR (l := (rg 0 8)) ?_
  refine ck (l := [0]) (r := (rg 1 7)) (e' := [(2, i64 ld), (3, pt b1), (6, pt b2), (7, i64 0), (8, pt b3), (15, sl)]) hA [] c0 ?_
  clear hA fr; intro fr hA
  refine wpOps_cons' (mK (f := 14) (args := [sl]) (d := (some 16)) (v := .tuple #[.agg #[i64 14, i64 a, i64 b, i64 c, i64 v], i64 0]) hA hO Tryd.func14 (hdec _ hO.only) ?_)
  clear hA hO fr; intro fr w4 hA hO
  replace hA := hA.sb (e' := [(2, i64 ld), (3, pt b1), (6, pt b2), (7, i64 0), (8, pt b3), (16, .tuple #[.agg #[i64 14, i64 a, i64 b, i64 c, i64 v], i64 0])])
  refine ck (l := [2, 3, 4]) (r := [5, 6, 7]) (e' := [(2, i64 ld), (3, pt b1), (6, pt b2), (7, i64 0), (8, pt b3), (17, .agg #[i64 14, i64 a, i64 b, i64 c, i64 v]), (18, i64 0)]) hA [] c0 ?_
  clear hA fr; intro fr hA
  refine wpOps_cons' (mN (l := [i64 0, i64 0, i64 0, i64 0, i64 0]) (t := 29) (v := pt) (d := 9) hA hO ?_)
  clear hA hO fr; intro fr w5 b4 hA hO
  refine wpOps_cons' (mS (off := 0) (vc := [i64 14, i64 a, i64 b, i64 c, i64 v]) 0 hA hO ?_)
  clear hO; intro w6 hO
  replace hA := hA.sb (e' := [(2, i64 ld), (3, pt b1), (6, pt b2), (7, i64 0), (8, pt b3), (9, pt b4), (18, i64 0)])
  refine ck (l := [7]) (r := []) (e' := [(2, i64 ld), (3, pt b1), (6, pt b2), (7, i64 0), (8, pt b3), (9, pt b4), (10, i64 0)]) hA [] c0 ?_
  clear hA fr; intro fr hA
  refine end_ops ?_
  refine then_normal ?_
  refine wp_seq ?_
  refine sC (e' := [(2, i64 ld), (3, pt b1), (6, pt b2), (7, i64 0), (8, pt b3), (9, pt b4), (20, bl false)]) 2 hA [] c0 ?_
  clear hA fr; intro fr hA
  refine cF hA ?_
  refine wp_skip ?_
  refine then_normal ?_
  refine wp_seq ?_
  have hS := hO
  refine rP [(0, true), (1, true), (2, true), (3, true), (4, true), (5, true), (6, true), (7, true), (8, true), (9, true), (10, true), (11, true), (12, true), (13, true)] hS ?_
  intro w7 ho; replace hO := hO.st ho; clear ho
  refine ckS (l := (rg 0 14)) (r := []) (e' := [(2, i64 ld), (3, pt b1), (6, pt b2), (7, i64 0), (8, pt b3), (9, pt b4), (11, i64 (R ((a).toNat))), (12, i64 (R ((b).toNat)))]) hA [i64 a, i32 (R ((a).toNat)), bl true, i64 b, i32 (R ((b).toNat)), bl true] (cc (hS.s1 0 1 3 (i64 a)) (cc (⟨by omega, by omega⟩ : (0 : Int) ≤ a ∧ a < ((16 : Nat) : Int)) (cc (hS.sx ((⟨b1, 0, none⟩ : Addr).add ((a).toNat)) 21 (i32 (R ((a).toNat))) fun _ hO => (ld_regs (hO.b 3) (by omega) (by kernel_rfl))) (cc ((inK_up (by kernel_rfl) (hR _)) : inK .i64 (R ((a).toNat))) (cc (hS.s1 0 2 3 (i64 b)) (cc (⟨by omega, by omega⟩ : (0 : Int) ≤ b ∧ b < ((16 : Nat) : Int)) (cc (hS.sx ((⟨b1, 0, none⟩ : Addr).add ((b).toNat)) 21 (i32 (R ((b).toNat))) fun _ hO => (ld_regs (hO.b 3) (by omega) (by kernel_rfl))) (cc ((inK_up (by kernel_rfl) (hR _)) : inK .i64 (R ((b).toNat))) c0)))))))) ?_
  clear hA fr; intro fr hA
  refine end_plan ?_
  refine then_normal ?_
  refine sR (l := [0, 1, 2]) ?_
  refine ck (l := [0]) (r := [1, 2]) (e' := [(2, i64 ld), (3, pt b1), (6, pt b2), (7, i64 0), (8, pt b3), (9, pt b4), (11, i64 (R ((a).toNat))), (12, i64 (R ((b).toNat))), (35, .agg (List.toArray (regsL R pc)))]) hA [.agg (List.toArray (regsL R pc))] (cc (hO.ln 3 0 38 (regsL R pc)) c0) ?_
  clear hA fr; intro fr hA
  refine wpOps_cons' (mN (l := [i32 0, i32 0, i32 0, i32 0, i32 0, i32 0, i32 0, i32 0, i32 0, i32 0, i32 0, i32 0, i32 0, i32 0, i32 0, i32 0, i64 0]) (t := 38) (v := pt) (d := 13) hA hO ?_)
  clear hA hO fr; intro fr w8 b5 hA hO
  refine wpOps_cons' (mS (off := 0) (vc := (regsL R pc)) 0 hA hO ?_)
  clear hO; intro w9 hO
  replace hA := hA.sb (e' := [(2, i64 ld), (3, pt b1), (6, pt b2), (7, i64 0), (8, pt b3), (9, pt b4), (11, i64 (R ((a).toNat))), (12, i64 (R ((b).toNat))), (13, pt b5)])
  refine end_ops ?_
  refine then_normal ?_
  refine sR (l := (rg 0 5)) ?_
  refine ck (l := [0, 1, 2, 3]) (r := [4]) (e' := [(2, i64 ld), (3, pt b1), (6, pt b2), (7, i64 0), (8, pt b3), (9, pt b4), (11, i64 (R ((a).toNat))), (12, i64 (R ((b).toNat))), (13, pt b5), (38, i64 (pc + 4)), (39, pf b5 16)]) hA [i64 pc, bl true] (cc (hO.l1 0 16 3 (i64 pc)) (cc ((inK_i64 (by omega) (by omega)) : inK .i64 (pc + 4)) c0)) ?_
  clear hA fr; intro fr hA
  refine wpOps_cons' (mSR (off := 16) (ad := ⟨b5, 16, none⟩) (vc := [i64 (pc + 4)]) (l' := (regsL R (pc + 4))) 0 hA hO rfl (by kernel_rfl) (by kernel_rfl) ?_)
  clear hO; intro w10 hO
  replace hA := hA.sb (e' := [(2, i64 ld), (3, pt b1), (6, pt b2), (7, i64 0), (8, pt b3), (9, pt b4), (11, i64 (R ((a).toNat))), (12, i64 (R ((b).toNat))), (13, pt b5)])
  refine end_ops ?_
  refine then_normal ?_
  refine wp_seq ?_
  refine sC (e' := [(2, i64 ld), (3, pt b1), (6, pt b2), (7, i64 0), (8, pt b3), (9, pt b4), (11, i64 (R ((a).toNat))), (12, i64 (R ((b).toNat))), (13, pt b5), (41, i64 14)]) 2 hA [i64 14] (cc (hO.l1 1 0 3 (i64 14)) c0) ?_
  clear hA fr; intro fr hA
  refine wp_block ?_
  refine sC (e' := [(2, i64 ld), (3, pt b1), (6, pt b2), (7, i64 0), (8, pt b3), (9, pt b4), (11, i64 (R ((a).toNat))), (12, i64 (R ((b).toNat))), (13, pt b5), (41, i64 14), (57, bl false)]) 2 hA [] c0 ?_
  clear hA fr; intro fr hA
  refine cF hA ?_
  refine sC (e' := [(2, i64 ld), (3, pt b1), (6, pt b2), (7, i64 0), (8, pt b3), (9, pt b4), (11, i64 (R ((a).toNat))), (12, i64 (R ((b).toNat))), (13, pt b5), (41, i64 14), (66, bl false)]) 2 hA [] c0 ?_
  clear hA fr; intro fr hA
  refine cF hA ?_
  refine sC (e' := [(2, i64 ld), (3, pt b1), (6, pt b2), (7, i64 0), (8, pt b3), (9, pt b4), (11, i64 (R ((a).toNat))), (12, i64 (R ((b).toNat))), (13, pt b5), (41, i64 14), (78, bl false)]) 2 hA [] c0 ?_
  clear hA fr; intro fr hA
  refine cF hA ?_
  refine wp_seq ?_
  refine sC (e' := [(2, i64 ld), (3, pt b1), (6, pt b2), (7, i64 0), (8, pt b3), (9, pt b4), (11, i64 (R ((a).toNat))), (12, i64 (R ((b).toNat))), (13, pt b5), (41, i64 14), (89, bl false)]) 2 hA [] c0 ?_
  clear hA fr; intro fr hA
  refine cF hA ?_
  refine rC (e' := [(2, i64 ld), (3, pt b1), (6, pt b2), (7, i64 0), (8, pt b3), (9, pt b4), (11, i64 (R ((a).toNat))), (12, i64 (R ((b).toNat))), (13, pt b5), (41, i64 14), (89, bl false)]) 2 hA [] c0 ?_
  clear hA fr; intro fr hA
  refine then_normal ?_
  refine cF hA ?_
  refine wp_seq ?_
  refine sC (e' := [(2, i64 ld), (3, pt b1), (6, pt b2), (7, i64 0), (8, pt b3), (9, pt b4), (11, i64 (R ((a).toNat))), (12, i64 (R ((b).toNat))), (13, pt b5), (41, i64 14), (115, bl true)]) 2 hA [] c0 ?_
  clear hA fr; intro fr hA
  refine cT hA ?_
  refine wp_skip ?_
  refine then_normal ?_
  refine cT hA ?_
  refine wp_seq ?_
  refine sC (e' := [(2, i64 ld), (3, pt b1), (6, pt b2), (7, i64 0), (8, pt b3), (9, pt b4), (11, i64 (R ((a).toNat))), (13, pt b5), (123, bl ((((R ((b).toNat)) + c).tmod 4) != 0))]) 6 hA [i64 c, bl true, bl false] (cc (hO.l1 1 3 3 (i64 c)) (cc ((inK_i64 (by omega) (by omega)) : inK .i64 ((R ((b).toNat)) + c)) (cc (by omega : 4 ≠ (0 : Int)) c0))) ?_
  clear hA fr; intro fr hA
  rcases Bool.eq_false_or_eq_true ((((R ((b).toNat)) + c).tmod 4) != 0) with h1 | h1
  ·
    replace hA := hA.bool (f := fun z => [(2, i64 ld), (3, pt b1), (6, pt b2), (7, i64 0), (8, pt b3), (9, pt b4), (11, i64 (R ((a).toNat))), (13, pt b5), (123, .bool z)]) h1
    have h1p := ne_of_bne h1
    refine cT hA ?_
    refine sR (l := (rg 0 5)) ?_
    refine ck (l := [0, 1]) (r := [2, 3, 4]) (e' := [(2, i64 ld), (6, pt b2), (7, i64 0), (8, pt b3), (9, pt b4), (11, i64 (R ((a).toNat))), (13, pt b5), (124, .agg (List.toArray (regsL R pc))), (125, .agg #[i64 2, i64 3, i64 0, i64 0, i64 0, i64 0, i64 0])]) hA [.agg (List.toArray (regsL R pc))] (cc (hO.ln 4 0 38 (regsL R pc)) c0) ?_
    clear hA fr; intro fr hA
    refine wpOps_cons' (mS (off := 0) (vc := (regsL R pc)) 3 hA hO ?_)
    clear hO; intro w11 hO
    replace hA := hA.sb (e' := [(2, i64 ld), (6, pt b2), (7, i64 0), (8, pt b3), (9, pt b4), (11, i64 (R ((a).toNat))), (13, pt b5), (125, .agg #[i64 2, i64 3, i64 0, i64 0, i64 0, i64 0, i64 0])])
    refine ck (l := [3]) (r := [4]) (e' := [(2, i64 ld), (6, pt b2), (7, i64 0), (8, pt b3), (9, pt b4), (11, i64 (R ((a).toNat))), (13, pt b5), (125, .agg #[i64 2, i64 3, i64 0, i64 0, i64 0, i64 0, i64 0])]) hA [] c0 ?_
    clear hA fr; intro fr hA
    refine wpOps_cons' (mS (off := 0) (vc := [i64 2, i64 3, i64 0, i64 0, i64 0, i64 0, i64 0]) 2 hA hO ?_)
    clear hO; intro w12 hO
    replace hA := hA.sb (e' := [(2, i64 ld), (6, pt b2), (7, i64 0), (8, pt b3), (9, pt b4), (11, i64 (R ((a).toNat))), (13, pt b5)])
    refine end_ops ?_
    refine then_normal ?_
    refine wp_ret ?_
    refine then_ret ?_
    refine inBlock_ret ?_
    refine then_ret ?_
    refine cR (cs := [some (⟨b2, 0, none⟩, 38), none, some (⟨b3, 0, none⟩, 56)]) (us := [.agg (List.toArray (regsL R pc)), i64 0, .agg #[i64 2, i64 3, i64 0, i64 0, i64 0, i64 0, i64 0]]) hA [.agg (List.toArray (regsL R pc)), .agg #[i64 2, i64 3, i64 0, i64 0, i64 0, i64 0, i64 0]] ⟨(hO.ln 3 0 38 (regsL R pc)), (hO.ln 2 0 56 [i64 2, i64 3, i64 0, i64 0, i64 0, i64 0, i64 0]), trivial⟩ ?_
    have hF := hO.only; clear hA hO
    exact ⟨by simp_all [pack, execV, outV, noTrap, trapL, insV], hF⟩
  ·
    replace hA := hA.bool (f := fun z => [(2, i64 ld), (3, pt b1), (6, pt b2), (7, i64 0), (8, pt b3), (9, pt b4), (11, i64 (R ((a).toNat))), (13, pt b5), (123, .bool z)]) h1
    have h1p := eq_of_bne_false h1
    refine cF hA ?_
    refine wp_skip ?_
    refine then_normal ?_
    refine wp_seq ?_
    refine sC (e' := [(2, i64 ld), (6, pt b2), (7, i64 0), (8, pt b3), (9, pt b4), (11, i64 (R ((a).toNat))), (13, pt b5), (128, bl false)]) 3 hA [i64 14] (cc (hO.l1 1 0 3 (i64 14)) c0) ?_
    clear hA fr; intro fr hA
    refine cF hA ?_
    refine wp_skip ?_
    refine then_normal ?_
    have hS : Ow Tryd.prog none' w _ [(b4, 29, [i64 14, i64 a, i64 b, i64 c, i64 v]), (b3, 56, [i64 0, i64 0, i64 0, i64 0, i64 0, i64 0, i64 0]), (b2, 38, [i32 0, i32 0, i32 0, i32 0, i32 0, i32 0, i32 0, i32 0, i32 0, i32 0, i32 0, i32 0, i32 0, i32 0, i32 0, i32 0, i64 0]), (b1, 38, (regsL R pc))] := hO.sub [1, 2, 3, 4]
    refine rP [(0, true), (1, true), (2, true), (4, true), (3, false), (5, true), (6, false)] hS ?_
    intro w13 ho; replace hO := hO.st ho; clear ho
    refine ckS (l := [0, 1, 2, 4]) (r := [(3, false), (5, true), (6, false)]) (e' := [(6, pt b2), (7, i64 0), (8, pt b3), (13, pt b5), (133, i64 a), (134, i64 ld), (136, pt b5)]) hA [i64 a] (cc (hS.s1 0 1 3 (i64 a)) c0) ?_
    clear hA fr; intro fr hA
    refine plan_mem (mK (f := 38) (args := [i64 ld]) (d := (some 135)) (v := i32 (IntKind.i32.wrap ld)) hA hO Tryd.func38 (word_any ld _) ?_)
    clear hA hO fr; intro fr w14 hA hO
    refine ⟨(hO.sub [1, 2, 3, 4]), ?_⟩
    replace hA := hA.sb (e' := [(6, pt b2), (7, i64 0), (8, pt b3), (13, pt b5), (133, i64 a), (135, i32 (IntKind.i32.wrap ld)), (136, pt b5)])
    refine ckS (l := [5]) (r := [(6, false)]) (e' := [(6, pt b2), (7, i64 0), (8, pt b3), (13, pt b5), (135, i32 (IntKind.i32.wrap ld)), (137, .pointer (some ((⟨b5, 0, none⟩ : Addr).add ((a).toNat))))]) hA [] (cc (⟨by omega, by omega⟩ : (0 : Int) ≤ a ∧ a < ((16 : Nat) : Int)) c0) ?_
    clear hA fr; intro fr hA
    refine plan_mem (mSR (off := (a).toNat) (ad := (⟨b5, 0, none⟩ : Addr).add ((a).toNat)) (vc := [i32 (IntKind.i32.wrap ld)]) (l' := (regsL (upd R ((a).toNat) (IntKind.i32.wrap ld)) (pc + 4))) 0 hA hO (add_zero_off _ _) (regs_ble R (pc + 4) (by omega)) (setL_regs (by omega) _) ?_)
    clear hO; intro w15 hO
    refine ⟨(hO.sub [1, 2, 3, 4]), ?_⟩
    replace hA := hA.sb (e' := [(6, pt b2), (7, i64 0), (8, pt b3), (13, pt b5)])
    refine end_plan ?_
    refine inBlock_normal ?_
    refine then_normal ?_
    refine sR (l := (rg 0 5)) ?_
    refine ck (l := [0, 1]) (r := [2, 3, 4]) (e' := [(6, pt b2), (7, i64 0), (8, pt b3), (227, .agg (List.toArray (regsL (upd R ((a).toNat) (IntKind.i32.wrap ld)) (pc + 4)))), (228, .agg #[i64 0, i64 0, i64 0, i64 0, i64 0, i64 0, i64 0])]) hA [.agg (List.toArray (regsL (upd R ((a).toNat) (IntKind.i32.wrap ld)) (pc + 4)))] (cc (hO.ln 0 0 38 (regsL (upd R ((a).toNat) (IntKind.i32.wrap ld)) (pc + 4))) c0) ?_
    clear hA fr; intro fr hA
    refine wpOps_cons' (mS (off := 0) (vc := (regsL (upd R ((a).toNat) (IntKind.i32.wrap ld)) (pc + 4))) 3 hA hO ?_)
    clear hO; intro w16 hO
    replace hA := hA.sb (e' := [(6, pt b2), (7, i64 0), (8, pt b3), (228, .agg #[i64 0, i64 0, i64 0, i64 0, i64 0, i64 0, i64 0])])
    refine ck (l := [3]) (r := [4]) (e' := [(6, pt b2), (7, i64 0), (8, pt b3), (228, .agg #[i64 0, i64 0, i64 0, i64 0, i64 0, i64 0, i64 0])]) hA [] c0 ?_
    clear hA fr; intro fr hA
    refine wpOps_cons' (mS (off := 0) (vc := [i64 0, i64 0, i64 0, i64 0, i64 0, i64 0, i64 0]) 2 hA hO ?_)
    clear hO; intro w17 hO
    replace hA := hA.sb (e' := [(6, pt b2), (7, i64 0), (8, pt b3)])
    refine end_ops ?_
    refine then_normal ?_
    refine wp_ret ?_
    refine cR (cs := [some (⟨b2, 0, none⟩, 38), none, some (⟨b3, 0, none⟩, 56)]) (us := [.agg (List.toArray (regsL (upd R ((a).toNat) (IntKind.i32.wrap ld)) (pc + 4))), i64 0, .agg #[i64 0, i64 0, i64 0, i64 0, i64 0, i64 0, i64 0]]) hA [.agg (List.toArray (regsL (upd R ((a).toNat) (IntKind.i32.wrap ld)) (pc + 4))), .agg #[i64 0, i64 0, i64 0, i64 0, i64 0, i64 0, i64 0]] ⟨(hO.ln 3 0 38 (regsL (upd R ((a).toNat) (IntKind.i32.wrap ld)) (pc + 4))), (hO.ln 2 0 56 [i64 0, i64 0, i64 0, i64 0, i64 0, i64 0, i64 0]), trivial⟩ ?_
    have hF := hO.only; clear hA hO
    exact ⟨by simp_all [pack, execV, outV, noTrap, trapL, insV], hF⟩

theorem rexec_15 (R : Nat → Int) (pc ld a b c v : Int) (sl : Value) (w : World) (hT : Tab w) (hR : RegsOk R) (hp : -1099511627776 < pc) (hp' : pc < 1099511627776) (ha : 0 ≤ a) (ha' : a ≤ 15) (hb : 0 ≤ b) (hb' : b ≤ 15) (hc : -128 ≤ c) (hc' : c ≤ 127) (hv : -32768 ≤ v) (hv' : v ≤ 32767) (hdec : ∀ w', Only none' w w' → Calls Tryd.prog 14 #[sl] w' fun e w2 => e = .returned (.tuple #[insV 15 a b c v, .int .i64 0]) ∧ Only none' w' w2) :
    Calls Tryd.prog 23 #[.agg (List.toArray (regsL R pc)), sl, i64 ld] w fun e w' => e = .returned (execV R pc ld 15 a b c v) ∧ Only none' w w' := by
  refine c_enter (args := [.agg (List.toArray (regsL R pc)), sl, i64 ld]) (m := 226) (n := 229) Tryd.func23 rfl (by kernel_rfl) (by kernel_rfl) fun fr hA => ?_
  have hO := Ow.nil Tryd.prog none' w
  have hRa := hR a.toNat; have hRb := hR b.toNat; have hRc := hR c.toNat; simp only [inK] at hRa hRb hRc
  skip
  refine sR (l := [0, 1, 2, 3]) ?_
  refine wpOps_cons' (mN (l := (regsL R pc)) (t := 38) (v := pt) (d := 3) hA hO ?_)
  clear hA hO fr; intro fr w1 b1 hA hO
  replace hA := hA.sb (e' := [(1, sl), (2, i64 ld), (3, pt b1)])
  refine wpOps_cons' (mN (l := [i32 0, i32 0, i32 0, i32 0, i32 0, i32 0, i32 0, i32 0, i32 0, i32 0, i32 0, i32 0, i32 0, i32 0, i32 0, i32 0, i64 0]) (t := 38) (v := pt) (d := 6) hA hO ?_)
  clear hA hO fr; intro fr w2 b2 hA hO
  refine ck (l := [2]) (r := [3]) (e' := [(1, sl), (2, i64 ld), (3, pt b1), (6, pt b2), (7, i64 0)]) hA [] c0 ?_
  clear hA fr; intro fr hA
  refine wpOps_cons' (mN (l := [i64 0, i64 0, i64 0, i64 0, i64 0, i64 0, i64 0]) (t := 56) (v := pt) (d := 8) hA hO ?_)
  clear hA hO fr; intro fr w3 b3 hA hO
  refine end_ops ?_
  refine then_normal ?_
  refine sR (l := (rg 0 8)) ?_
  refine ck (l := [0]) (r := (rg 1 7)) (e' := [(2, i64 ld), (3, pt b1), (6, pt b2), (7, i64 0), (8, pt b3), (15, sl)]) hA [] c0 ?_
  clear hA fr; intro fr hA
  refine wpOps_cons' (mK (f := 14) (args := [sl]) (d := (some 16)) (v := .tuple #[.agg #[i64 15, i64 a, i64 b, i64 c, i64 v], i64 0]) hA hO Tryd.func14 (hdec _ hO.only) ?_)
  clear hA hO fr; intro fr w4 hA hO
  replace hA := hA.sb (e' := [(2, i64 ld), (3, pt b1), (6, pt b2), (7, i64 0), (8, pt b3), (16, .tuple #[.agg #[i64 15, i64 a, i64 b, i64 c, i64 v], i64 0])])
  refine ck (l := [2, 3, 4]) (r := [5, 6, 7]) (e' := [(2, i64 ld), (3, pt b1), (6, pt b2), (7, i64 0), (8, pt b3), (17, .agg #[i64 15, i64 a, i64 b, i64 c, i64 v]), (18, i64 0)]) hA [] c0 ?_
  clear hA fr; intro fr hA
  refine wpOps_cons' (mN (l := [i64 0, i64 0, i64 0, i64 0, i64 0]) (t := 29) (v := pt) (d := 9) hA hO ?_)
  clear hA hO fr; intro fr w5 b4 hA hO
  refine wpOps_cons' (mS (off := 0) (vc := [i64 15, i64 a, i64 b, i64 c, i64 v]) 0 hA hO ?_)
  clear hO; intro w6 hO
  replace hA := hA.sb (e' := [(2, i64 ld), (3, pt b1), (6, pt b2), (7, i64 0), (8, pt b3), (9, pt b4), (18, i64 0)])
  refine ck (l := [7]) (r := []) (e' := [(2, i64 ld), (3, pt b1), (6, pt b2), (7, i64 0), (8, pt b3), (9, pt b4), (10, i64 0)]) hA [] c0 ?_
  clear hA fr; intro fr hA
  refine end_ops ?_
  refine then_normal ?_
  refine wp_seq ?_
  refine sC (e' := [(2, i64 ld), (3, pt b1), (6, pt b2), (7, i64 0), (8, pt b3), (9, pt b4), (20, bl false)]) 2 hA [] c0 ?_
  clear hA fr; intro fr hA
  refine cF hA ?_
  refine wp_skip ?_
  refine then_normal ?_
  refine wp_seq ?_
  have hS := hO
  refine rP [(0, true), (1, true), (2, true), (3, true), (4, true), (5, true), (6, true), (7, true), (8, true), (9, true), (10, true), (11, true), (12, true), (13, true)] hS ?_
  intro w7 ho; replace hO := hO.st ho; clear ho
  refine ckS (l := (rg 0 14)) (r := []) (e' := [(2, i64 ld), (3, pt b1), (6, pt b2), (7, i64 0), (8, pt b3), (9, pt b4), (11, i64 (R ((a).toNat))), (12, i64 (R ((b).toNat)))]) hA [i64 a, i32 (R ((a).toNat)), bl true, i64 b, i32 (R ((b).toNat)), bl true] (cc (hS.s1 0 1 3 (i64 a)) (cc (⟨by omega, by omega⟩ : (0 : Int) ≤ a ∧ a < ((16 : Nat) : Int)) (cc (hS.sx ((⟨b1, 0, none⟩ : Addr).add ((a).toNat)) 21 (i32 (R ((a).toNat))) fun _ hO => (ld_regs (hO.b 3) (by omega) (by kernel_rfl))) (cc ((inK_up (by kernel_rfl) (hR _)) : inK .i64 (R ((a).toNat))) (cc (hS.s1 0 2 3 (i64 b)) (cc (⟨by omega, by omega⟩ : (0 : Int) ≤ b ∧ b < ((16 : Nat) : Int)) (cc (hS.sx ((⟨b1, 0, none⟩ : Addr).add ((b).toNat)) 21 (i32 (R ((b).toNat))) fun _ hO => (ld_regs (hO.b 3) (by omega) (by kernel_rfl))) (cc ((inK_up (by kernel_rfl) (hR _)) : inK .i64 (R ((b).toNat))) c0)))))))) ?_
  clear hA fr; intro fr hA
  refine end_plan ?_
  refine then_normal ?_
  refine sR (l := [0, 1, 2]) ?_
  refine ck (l := [0]) (r := [1, 2]) (e' := [(2, i64 ld), (3, pt b1), (6, pt b2), (7, i64 0), (8, pt b3), (9, pt b4), (11, i64 (R ((a).toNat))), (12, i64 (R ((b).toNat))), (35, .agg (List.toArray (regsL R pc)))]) hA [.agg (List.toArray (regsL R pc))] (cc (hO.ln 3 0 38 (regsL R pc)) c0) ?_
  clear hA fr; intro fr hA
  refine wpOps_cons' (mN (l := [i32 0, i32 0, i32 0, i32 0, i32 0, i32 0, i32 0, i32 0, i32 0, i32 0, i32 0, i32 0, i32 0, i32 0, i32 0, i32 0, i64 0]) (t := 38) (v := pt) (d := 13) hA hO ?_)
  clear hA hO fr; intro fr w8 b5 hA hO
  refine wpOps_cons' (mS (off := 0) (vc := (regsL R pc)) 0 hA hO ?_)
  clear hO; intro w9 hO
  replace hA := hA.sb (e' := [(2, i64 ld), (3, pt b1), (6, pt b2), (7, i64 0), (8, pt b3), (9, pt b4), (11, i64 (R ((a).toNat))), (12, i64 (R ((b).toNat))), (13, pt b5)])
  refine end_ops ?_
  refine then_normal ?_
  refine sR (l := (rg 0 5)) ?_
  refine ck (l := [0, 1, 2, 3]) (r := [4]) (e' := [(2, i64 ld), (3, pt b1), (6, pt b2), (7, i64 0), (8, pt b3), (9, pt b4), (11, i64 (R ((a).toNat))), (12, i64 (R ((b).toNat))), (13, pt b5), (38, i64 (pc + 4)), (39, pf b5 16)]) hA [i64 pc, bl true] (cc (hO.l1 0 16 3 (i64 pc)) (cc ((inK_i64 (by omega) (by omega)) : inK .i64 (pc + 4)) c0)) ?_
  clear hA fr; intro fr hA
  refine wpOps_cons' (mSR (off := 16) (ad := ⟨b5, 16, none⟩) (vc := [i64 (pc + 4)]) (l' := (regsL R (pc + 4))) 0 hA hO rfl (by kernel_rfl) (by kernel_rfl) ?_)
  clear hO; intro w10 hO
  replace hA := hA.sb (e' := [(2, i64 ld), (3, pt b1), (6, pt b2), (7, i64 0), (8, pt b3), (9, pt b4), (11, i64 (R ((a).toNat))), (12, i64 (R ((b).toNat))), (13, pt b5)])
  refine end_ops ?_
  refine then_normal ?_
  refine wp_seq ?_
  refine sC (e' := [(2, i64 ld), (3, pt b1), (6, pt b2), (7, i64 0), (8, pt b3), (9, pt b4), (11, i64 (R ((a).toNat))), (12, i64 (R ((b).toNat))), (13, pt b5), (41, i64 15)]) 2 hA [i64 15] (cc (hO.l1 1 0 3 (i64 15)) c0) ?_
  clear hA fr; intro fr hA
  refine wp_block ?_
  refine sC (e' := [(2, i64 ld), (3, pt b1), (6, pt b2), (7, i64 0), (8, pt b3), (9, pt b4), (11, i64 (R ((a).toNat))), (12, i64 (R ((b).toNat))), (13, pt b5), (41, i64 15), (57, bl false)]) 2 hA [] c0 ?_
  clear hA fr; intro fr hA
  refine cF hA ?_
  refine sC (e' := [(2, i64 ld), (3, pt b1), (6, pt b2), (7, i64 0), (8, pt b3), (9, pt b4), (11, i64 (R ((a).toNat))), (12, i64 (R ((b).toNat))), (13, pt b5), (41, i64 15), (66, bl false)]) 2 hA [] c0 ?_
  clear hA fr; intro fr hA
  refine cF hA ?_
  refine sC (e' := [(2, i64 ld), (3, pt b1), (6, pt b2), (7, i64 0), (8, pt b3), (9, pt b4), (11, i64 (R ((a).toNat))), (12, i64 (R ((b).toNat))), (13, pt b5), (41, i64 15), (78, bl false)]) 2 hA [] c0 ?_
  clear hA fr; intro fr hA
  refine cF hA ?_
  refine wp_seq ?_
  refine sC (e' := [(2, i64 ld), (3, pt b1), (6, pt b2), (7, i64 0), (8, pt b3), (9, pt b4), (11, i64 (R ((a).toNat))), (12, i64 (R ((b).toNat))), (13, pt b5), (41, i64 15), (89, bl false)]) 2 hA [] c0 ?_
  clear hA fr; intro fr hA
  refine cF hA ?_
  refine rC (e' := [(2, i64 ld), (3, pt b1), (6, pt b2), (7, i64 0), (8, pt b3), (9, pt b4), (11, i64 (R ((a).toNat))), (12, i64 (R ((b).toNat))), (13, pt b5), (41, i64 15), (89, bl false)]) 2 hA [] c0 ?_
  clear hA fr; intro fr hA
  refine then_normal ?_
  refine cF hA ?_
  refine wp_seq ?_
  refine sC (e' := [(2, i64 ld), (3, pt b1), (6, pt b2), (7, i64 0), (8, pt b3), (9, pt b4), (11, i64 (R ((a).toNat))), (12, i64 (R ((b).toNat))), (13, pt b5), (41, i64 15), (115, bl false)]) 2 hA [] c0 ?_
  clear hA fr; intro fr hA
  refine cF hA ?_
  refine rC (e' := [(2, i64 ld), (3, pt b1), (6, pt b2), (7, i64 0), (8, pt b3), (9, pt b4), (11, i64 (R ((a).toNat))), (12, i64 (R ((b).toNat))), (13, pt b5), (41, i64 15), (115, bl true)]) 2 hA [] c0 ?_
  clear hA fr; intro fr hA
  refine then_normal ?_
  refine cT hA ?_
  refine wp_seq ?_
  refine sC (e' := [(2, i64 ld), (3, pt b1), (6, pt b2), (7, i64 0), (8, pt b3), (9, pt b4), (11, i64 (R ((a).toNat))), (13, pt b5), (123, bl ((((R ((b).toNat)) + c).tmod 4) != 0))]) 6 hA [i64 c, bl true, bl false] (cc (hO.l1 1 3 3 (i64 c)) (cc ((inK_i64 (by omega) (by omega)) : inK .i64 ((R ((b).toNat)) + c)) (cc (by omega : 4 ≠ (0 : Int)) c0))) ?_
  clear hA fr; intro fr hA
  rcases Bool.eq_false_or_eq_true ((((R ((b).toNat)) + c).tmod 4) != 0) with h1 | h1
  ·
    replace hA := hA.bool (f := fun z => [(2, i64 ld), (3, pt b1), (6, pt b2), (7, i64 0), (8, pt b3), (9, pt b4), (11, i64 (R ((a).toNat))), (13, pt b5), (123, .bool z)]) h1
    have h1p := ne_of_bne h1
    refine cT hA ?_
    refine sR (l := (rg 0 5)) ?_
    refine ck (l := [0, 1]) (r := [2, 3, 4]) (e' := [(2, i64 ld), (6, pt b2), (7, i64 0), (8, pt b3), (9, pt b4), (11, i64 (R ((a).toNat))), (13, pt b5), (124, .agg (List.toArray (regsL R pc))), (125, .agg #[i64 2, i64 3, i64 0, i64 0, i64 0, i64 0, i64 0])]) hA [.agg (List.toArray (regsL R pc))] (cc (hO.ln 4 0 38 (regsL R pc)) c0) ?_
    clear hA fr; intro fr hA
    refine wpOps_cons' (mS (off := 0) (vc := (regsL R pc)) 3 hA hO ?_)
    clear hO; intro w11 hO
    replace hA := hA.sb (e' := [(2, i64 ld), (6, pt b2), (7, i64 0), (8, pt b3), (9, pt b4), (11, i64 (R ((a).toNat))), (13, pt b5), (125, .agg #[i64 2, i64 3, i64 0, i64 0, i64 0, i64 0, i64 0])])
    refine ck (l := [3]) (r := [4]) (e' := [(2, i64 ld), (6, pt b2), (7, i64 0), (8, pt b3), (9, pt b4), (11, i64 (R ((a).toNat))), (13, pt b5), (125, .agg #[i64 2, i64 3, i64 0, i64 0, i64 0, i64 0, i64 0])]) hA [] c0 ?_
    clear hA fr; intro fr hA
    refine wpOps_cons' (mS (off := 0) (vc := [i64 2, i64 3, i64 0, i64 0, i64 0, i64 0, i64 0]) 2 hA hO ?_)
    clear hO; intro w12 hO
    replace hA := hA.sb (e' := [(2, i64 ld), (6, pt b2), (7, i64 0), (8, pt b3), (9, pt b4), (11, i64 (R ((a).toNat))), (13, pt b5)])
    refine end_ops ?_
    refine then_normal ?_
    refine wp_ret ?_
    refine then_ret ?_
    refine inBlock_ret ?_
    refine then_ret ?_
    refine cR (cs := [some (⟨b2, 0, none⟩, 38), none, some (⟨b3, 0, none⟩, 56)]) (us := [.agg (List.toArray (regsL R pc)), i64 0, .agg #[i64 2, i64 3, i64 0, i64 0, i64 0, i64 0, i64 0]]) hA [.agg (List.toArray (regsL R pc)), .agg #[i64 2, i64 3, i64 0, i64 0, i64 0, i64 0, i64 0]] ⟨(hO.ln 3 0 38 (regsL R pc)), (hO.ln 2 0 56 [i64 2, i64 3, i64 0, i64 0, i64 0, i64 0, i64 0]), trivial⟩ ?_
    have hF := hO.only; clear hA hO
    exact ⟨by simp_all [pack, execV, outV, noTrap, trapL, insV], hF⟩
  ·
    replace hA := hA.bool (f := fun z => [(2, i64 ld), (3, pt b1), (6, pt b2), (7, i64 0), (8, pt b3), (9, pt b4), (11, i64 (R ((a).toNat))), (13, pt b5), (123, .bool z)]) h1
    have h1p := eq_of_bne_false h1
    refine cF hA ?_
    refine wp_skip ?_
    refine then_normal ?_
    refine wp_seq ?_
    refine sC (e' := [(2, i64 ld), (6, pt b2), (7, i64 0), (8, pt b3), (9, pt b4), (11, i64 (R ((a).toNat))), (13, pt b5), (128, bl true)]) 3 hA [i64 15] (cc (hO.l1 1 0 3 (i64 15)) c0) ?_
    clear hA fr; intro fr hA
    refine cT hA ?_
    refine sR (l := (rg 0 6)) ?_
    refine ck (l := [0, 1, 2]) (r := [3, 4, 5]) (e' := [(2, i64 ld), (6, pt b2), (7, i64 0), (8, pt b3), (9, pt b4), (13, pt b5), (129, .agg (List.toArray (regsL R (pc + 4)))), (130, i64 (R ((a).toNat))), (131, .agg #[i64 0, i64 0, i64 0, i64 0, i64 0, i64 0, i64 0])]) hA [.agg (List.toArray (regsL R (pc + 4)))] (cc (hO.ln 0 0 38 (regsL R (pc + 4))) c0) ?_
    clear hA fr; intro fr hA
    refine wpOps_cons' (mS (off := 0) (vc := (regsL R (pc + 4))) 3 hA hO ?_)
    clear hO; intro w13 hO
    replace hA := hA.sb (e' := [(2, i64 ld), (6, pt b2), (7, i64 0), (8, pt b3), (9, pt b4), (13, pt b5), (130, i64 (R ((a).toNat))), (131, .agg #[i64 0, i64 0, i64 0, i64 0, i64 0, i64 0, i64 0])])
    refine ck (l := [4]) (r := [5]) (e' := [(2, i64 ld), (6, pt b2), (7, i64 (R ((a).toNat))), (8, pt b3), (9, pt b4), (13, pt b5), (131, .agg #[i64 0, i64 0, i64 0, i64 0, i64 0, i64 0, i64 0])]) hA [] c0 ?_
    clear hA fr; intro fr hA
    refine wpOps_cons' (mS (off := 0) (vc := [i64 0, i64 0, i64 0, i64 0, i64 0, i64 0, i64 0]) 2 hA hO ?_)
    clear hO; intro w14 hO
    replace hA := hA.sb (e' := [(2, i64 ld), (6, pt b2), (7, i64 (R ((a).toNat))), (8, pt b3), (9, pt b4), (13, pt b5)])
    refine end_ops ?_
    refine then_normal ?_
    refine wp_ret ?_
    refine then_ret ?_
    refine inBlock_ret ?_
    refine then_ret ?_
    refine cR (cs := [some (⟨b2, 0, none⟩, 38), none, some (⟨b3, 0, none⟩, 56)]) (us := [.agg (List.toArray (regsL R (pc + 4))), i64 (R ((a).toNat)), .agg #[i64 0, i64 0, i64 0, i64 0, i64 0, i64 0, i64 0]]) hA [.agg (List.toArray (regsL R (pc + 4))), .agg #[i64 0, i64 0, i64 0, i64 0, i64 0, i64 0, i64 0]] ⟨(hO.ln 3 0 38 (regsL R (pc + 4))), (hO.ln 2 0 56 [i64 0, i64 0, i64 0, i64 0, i64 0, i64 0, i64 0]), trivial⟩ ?_
    have hF := hO.only; clear hA hO
    exact ⟨by simp_all [pack, execV, outV, noTrap, trapL, insV], hF⟩

theorem rexec_16 (R : Nat → Int) (pc ld a b c v : Int) (sl : Value) (w : World) (hT : Tab w) (hR : RegsOk R) (hp : -1099511627776 < pc) (hp' : pc < 1099511627776) (ha : 0 ≤ a) (ha' : a ≤ 15) (hb : 0 ≤ b) (hb' : b ≤ 15) (hc : -128 ≤ c) (hc' : c ≤ 127) (hv : -32768 ≤ v) (hv' : v ≤ 32767) (hdec : ∀ w', Only none' w w' → Calls Tryd.prog 14 #[sl] w' fun e w2 => e = .returned (.tuple #[insV 16 a b c v, .int .i64 0]) ∧ Only none' w' w2) :
    Calls Tryd.prog 23 #[.agg (List.toArray (regsL R pc)), sl, i64 ld] w fun e w' => e = .returned (execV R pc ld 16 a b c v) ∧ Only none' w w' := by
  refine c_enter (args := [.agg (List.toArray (regsL R pc)), sl, i64 ld]) (m := 226) (n := 229) Tryd.func23 rfl (by kernel_rfl) (by kernel_rfl) fun fr hA => ?_
  have hO := Ow.nil Tryd.prog none' w
  have hRa := hR a.toNat; have hRb := hR b.toNat; have hRc := hR c.toNat; simp only [inK] at hRa hRb hRc
  have t1 := Int.lt_tmod_of_pos ld (b := 256) (by decide); have t2 := Int.tmod_lt_of_pos ld (b := 256) (by decide)
  refine sR (l := [0, 1, 2, 3]) ?_
  refine wpOps_cons' (mN (l := (regsL R pc)) (t := 38) (v := pt) (d := 3) hA hO ?_)
  clear hA hO fr; intro fr w1 b1 hA hO
  replace hA := hA.sb (e' := [(1, sl), (2, i64 ld), (3, pt b1)])
  refine wpOps_cons' (mN (l := [i32 0, i32 0, i32 0, i32 0, i32 0, i32 0, i32 0, i32 0, i32 0, i32 0, i32 0, i32 0, i32 0, i32 0, i32 0, i32 0, i64 0]) (t := 38) (v := pt) (d := 6) hA hO ?_)
  clear hA hO fr; intro fr w2 b2 hA hO
  refine ck (l := [2]) (r := [3]) (e' := [(1, sl), (2, i64 ld), (3, pt b1), (6, pt b2), (7, i64 0)]) hA [] c0 ?_
  clear hA fr; intro fr hA
  refine wpOps_cons' (mN (l := [i64 0, i64 0, i64 0, i64 0, i64 0, i64 0, i64 0]) (t := 56) (v := pt) (d := 8) hA hO ?_)
  clear hA hO fr; intro fr w3 b3 hA hO
  refine end_ops ?_
  refine then_normal ?_
  refine sR (l := (rg 0 8)) ?_
  refine ck (l := [0]) (r := (rg 1 7)) (e' := [(2, i64 ld), (3, pt b1), (6, pt b2), (7, i64 0), (8, pt b3), (15, sl)]) hA [] c0 ?_
  clear hA fr; intro fr hA
  refine wpOps_cons' (mK (f := 14) (args := [sl]) (d := (some 16)) (v := .tuple #[.agg #[i64 16, i64 a, i64 b, i64 c, i64 v], i64 0]) hA hO Tryd.func14 (hdec _ hO.only) ?_)
  clear hA hO fr; intro fr w4 hA hO
  replace hA := hA.sb (e' := [(2, i64 ld), (3, pt b1), (6, pt b2), (7, i64 0), (8, pt b3), (16, .tuple #[.agg #[i64 16, i64 a, i64 b, i64 c, i64 v], i64 0])])
  refine ck (l := [2, 3, 4]) (r := [5, 6, 7]) (e' := [(2, i64 ld), (3, pt b1), (6, pt b2), (7, i64 0), (8, pt b3), (17, .agg #[i64 16, i64 a, i64 b, i64 c, i64 v]), (18, i64 0)]) hA [] c0 ?_
  clear hA fr; intro fr hA
  refine wpOps_cons' (mN (l := [i64 0, i64 0, i64 0, i64 0, i64 0]) (t := 29) (v := pt) (d := 9) hA hO ?_)
  clear hA hO fr; intro fr w5 b4 hA hO
  refine wpOps_cons' (mS (off := 0) (vc := [i64 16, i64 a, i64 b, i64 c, i64 v]) 0 hA hO ?_)
  clear hO; intro w6 hO
  replace hA := hA.sb (e' := [(2, i64 ld), (3, pt b1), (6, pt b2), (7, i64 0), (8, pt b3), (9, pt b4), (18, i64 0)])
  refine ck (l := [7]) (r := []) (e' := [(2, i64 ld), (3, pt b1), (6, pt b2), (7, i64 0), (8, pt b3), (9, pt b4), (10, i64 0)]) hA [] c0 ?_
  clear hA fr; intro fr hA
  refine end_ops ?_
  refine then_normal ?_
  refine wp_seq ?_
  refine sC (e' := [(2, i64 ld), (3, pt b1), (6, pt b2), (7, i64 0), (8, pt b3), (9, pt b4), (20, bl false)]) 2 hA [] c0 ?_
  clear hA fr; intro fr hA
  refine cF hA ?_
  refine wp_skip ?_
  refine then_normal ?_
  refine wp_seq ?_
  have hS := hO
  refine rP [(0, true), (1, true), (2, true), (3, true), (4, true), (5, true), (6, true), (7, true), (8, true), (9, true), (10, true), (11, true), (12, true), (13, true)] hS ?_
  intro w7 ho; replace hO := hO.st ho; clear ho
  refine ckS (l := (rg 0 14)) (r := []) (e' := [(2, i64 ld), (3, pt b1), (6, pt b2), (7, i64 0), (8, pt b3), (9, pt b4), (11, i64 (R ((a).toNat))), (12, i64 (R ((b).toNat)))]) hA [i64 a, i32 (R ((a).toNat)), bl true, i64 b, i32 (R ((b).toNat)), bl true] (cc (hS.s1 0 1 3 (i64 a)) (cc (⟨by omega, by omega⟩ : (0 : Int) ≤ a ∧ a < ((16 : Nat) : Int)) (cc (hS.sx ((⟨b1, 0, none⟩ : Addr).add ((a).toNat)) 21 (i32 (R ((a).toNat))) fun _ hO => (ld_regs (hO.b 3) (by omega) (by kernel_rfl))) (cc ((inK_up (by kernel_rfl) (hR _)) : inK .i64 (R ((a).toNat))) (cc (hS.s1 0 2 3 (i64 b)) (cc (⟨by omega, by omega⟩ : (0 : Int) ≤ b ∧ b < ((16 : Nat) : Int)) (cc (hS.sx ((⟨b1, 0, none⟩ : Addr).add ((b).toNat)) 21 (i32 (R ((b).toNat))) fun _ hO => (ld_regs (hO.b 3) (by omega) (by kernel_rfl))) (cc ((inK_up (by kernel_rfl) (hR _)) : inK .i64 (R ((b).toNat))) c0)))))))) ?_
  clear hA fr; intro fr hA
  refine end_plan ?_
  refine then_normal ?_
  refine sR (l := [0, 1, 2]) ?_
  refine ck (l := [0]) (r := [1, 2]) (e' := [(2, i64 ld), (3, pt b1), (6, pt b2), (7, i64 0), (8, pt b3), (9, pt b4), (11, i64 (R ((a).toNat))), (12, i64 (R ((b).toNat))), (35, .agg (List.toArray (regsL R pc)))]) hA [.agg (List.toArray (regsL R pc))] (cc (hO.ln 3 0 38 (regsL R pc)) c0) ?_
  clear hA fr; intro fr hA
  refine wpOps_cons' (mN (l := [i32 0, i32 0, i32 0, i32 0, i32 0, i32 0, i32 0, i32 0, i32 0, i32 0, i32 0, i32 0, i32 0, i32 0, i32 0, i32 0, i64 0]) (t := 38) (v := pt) (d := 13) hA hO ?_)
  clear hA hO fr; intro fr w8 b5 hA hO
  refine wpOps_cons' (mS (off := 0) (vc := (regsL R pc)) 0 hA hO ?_)
  clear hO; intro w9 hO
  replace hA := hA.sb (e' := [(2, i64 ld), (3, pt b1), (6, pt b2), (7, i64 0), (8, pt b3), (9, pt b4), (11, i64 (R ((a).toNat))), (12, i64 (R ((b).toNat))), (13, pt b5)])
  refine end_ops ?_
  refine then_normal ?_
  refine sR (l := (rg 0 5)) ?_
  refine ck (l := [0, 1, 2, 3]) (r := [4]) (e' := [(2, i64 ld), (3, pt b1), (6, pt b2), (7, i64 0), (8, pt b3), (9, pt b4), (11, i64 (R ((a).toNat))), (12, i64 (R ((b).toNat))), (13, pt b5), (38, i64 (pc + 4)), (39, pf b5 16)]) hA [i64 pc, bl true] (cc (hO.l1 0 16 3 (i64 pc)) (cc ((inK_i64 (by omega) (by omega)) : inK .i64 (pc + 4)) c0)) ?_
  clear hA fr; intro fr hA
  refine wpOps_cons' (mSR (off := 16) (ad := ⟨b5, 16, none⟩) (vc := [i64 (pc + 4)]) (l' := (regsL R (pc + 4))) 0 hA hO rfl (by kernel_rfl) (by kernel_rfl) ?_)
  clear hO; intro w10 hO
  replace hA := hA.sb (e' := [(2, i64 ld), (3, pt b1), (6, pt b2), (7, i64 0), (8, pt b3), (9, pt b4), (11, i64 (R ((a).toNat))), (12, i64 (R ((b).toNat))), (13, pt b5)])
  refine end_ops ?_
  refine then_normal ?_
  refine wp_seq ?_
  refine sC (e' := [(2, i64 ld), (3, pt b1), (6, pt b2), (7, i64 0), (8, pt b3), (9, pt b4), (11, i64 (R ((a).toNat))), (12, i64 (R ((b).toNat))), (13, pt b5), (41, i64 16)]) 2 hA [i64 16] (cc (hO.l1 1 0 3 (i64 16)) c0) ?_
  clear hA fr; intro fr hA
  refine wp_block ?_
  refine sC (e' := [(2, i64 ld), (3, pt b1), (6, pt b2), (7, i64 0), (8, pt b3), (9, pt b4), (11, i64 (R ((a).toNat))), (12, i64 (R ((b).toNat))), (13, pt b5), (41, i64 16), (57, bl false)]) 2 hA [] c0 ?_
  clear hA fr; intro fr hA
  refine cF hA ?_
  refine sC (e' := [(2, i64 ld), (3, pt b1), (6, pt b2), (7, i64 0), (8, pt b3), (9, pt b4), (11, i64 (R ((a).toNat))), (12, i64 (R ((b).toNat))), (13, pt b5), (41, i64 16), (66, bl false)]) 2 hA [] c0 ?_
  clear hA fr; intro fr hA
  refine cF hA ?_
  refine sC (e' := [(2, i64 ld), (3, pt b1), (6, pt b2), (7, i64 0), (8, pt b3), (9, pt b4), (11, i64 (R ((a).toNat))), (12, i64 (R ((b).toNat))), (13, pt b5), (41, i64 16), (78, bl false)]) 2 hA [] c0 ?_
  clear hA fr; intro fr hA
  refine cF hA ?_
  refine wp_seq ?_
  refine sC (e' := [(2, i64 ld), (3, pt b1), (6, pt b2), (7, i64 0), (8, pt b3), (9, pt b4), (11, i64 (R ((a).toNat))), (12, i64 (R ((b).toNat))), (13, pt b5), (41, i64 16), (89, bl false)]) 2 hA [] c0 ?_
  clear hA fr; intro fr hA
  refine cF hA ?_
  refine rC (e' := [(2, i64 ld), (3, pt b1), (6, pt b2), (7, i64 0), (8, pt b3), (9, pt b4), (11, i64 (R ((a).toNat))), (12, i64 (R ((b).toNat))), (13, pt b5), (41, i64 16), (89, bl false)]) 2 hA [] c0 ?_
  clear hA fr; intro fr hA
  refine then_normal ?_
  refine cF hA ?_
  refine wp_seq ?_
  refine sC (e' := [(2, i64 ld), (3, pt b1), (6, pt b2), (7, i64 0), (8, pt b3), (9, pt b4), (11, i64 (R ((a).toNat))), (12, i64 (R ((b).toNat))), (13, pt b5), (41, i64 16), (115, bl false)]) 2 hA [] c0 ?_
  clear hA fr; intro fr hA
  refine cF hA ?_
  refine rC (e' := [(2, i64 ld), (3, pt b1), (6, pt b2), (7, i64 0), (8, pt b3), (9, pt b4), (11, i64 (R ((a).toNat))), (12, i64 (R ((b).toNat))), (13, pt b5), (41, i64 16), (115, bl false)]) 2 hA [] c0 ?_
  clear hA fr; intro fr hA
  refine then_normal ?_
  refine cF hA ?_
  refine sC (e' := [(2, i64 ld), (3, pt b1), (6, pt b2), (7, i64 0), (8, pt b3), (9, pt b4), (11, i64 (R ((a).toNat))), (12, i64 (R ((b).toNat))), (13, pt b5), (41, i64 16), (138, bl true)]) 2 hA [] c0 ?_
  clear hA fr; intro fr hA
  refine cT hA ?_
  have hS : Ow Tryd.prog none' w _ [(b4, 29, [i64 16, i64 a, i64 b, i64 c, i64 v]), (b3, 56, [i64 0, i64 0, i64 0, i64 0, i64 0, i64 0, i64 0]), (b2, 38, [i32 0, i32 0, i32 0, i32 0, i32 0, i32 0, i32 0, i32 0, i32 0, i32 0, i32 0, i32 0, i32 0, i32 0, i32 0, i32 0, i64 0]), (b1, 38, (regsL R pc))] := hO.sub [1, 2, 3, 4]
  refine rP [(0, true), (1, true), (2, true), (3, true), (4, true), (5, true), (7, true), (6, false), (8, true), (9, false)] hS ?_
  intro w11 ho; replace hO := hO.st ho; clear ho
  refine ckS (l := [0, 1, 2, 3, 4, 5, 7]) (r := [(6, false), (8, true), (9, false)]) (e' := [(6, pt b2), (7, i64 0), (8, pt b3), (13, pt b5), (141, i64 a), (145, i64 (((ld.tmod 256) + 256).tmod 256)), (147, pt b5)]) hA [i64 a, bl false, bl true, bl false] (cc (hS.s1 0 1 3 (i64 a)) (cc (by omega : 256 ≠ (0 : Int)) (cc ((inK_i64 (by omega) (by omega)) : inK .i64 ((ld.tmod 256) + 256)) (cc (by omega : 256 ≠ (0 : Int)) c0)))) ?_
  clear hA fr; intro fr hA
  refine plan_mem (mK (f := 38) (args := [i64 (((ld.tmod 256) + 256).tmod 256)]) (d := (some 146)) (v := i32 (IntKind.u8.wrap ld)) hA hO Tryd.func38 (rs (word_any (((ld.tmod 256) + 256).tmod 256) _) (congrArg (Value.int .i32) ((congrArg IntKind.i32.wrap (tmod_byte _)).trans (u8_i32 _)))) ?_)
  clear hA hO fr; intro fr w12 hA hO
  refine ⟨(hO.sub [1, 2, 3, 4]), ?_⟩
  replace hA := hA.sb (e' := [(6, pt b2), (7, i64 0), (8, pt b3), (13, pt b5), (141, i64 a), (146, i32 (IntKind.u8.wrap ld)), (147, pt b5)])
  refine ckS (l := [8]) (r := [(9, false)]) (e' := [(6, pt b2), (7, i64 0), (8, pt b3), (13, pt b5), (146, i32 (IntKind.u8.wrap ld)), (148, .pointer (some ((⟨b5, 0, none⟩ : Addr).add ((a).toNat))))]) hA [] (cc (⟨by omega, by omega⟩ : (0 : Int) ≤ a ∧ a < ((16 : Nat) : Int)) c0) ?_
  clear hA fr; intro fr hA
  refine plan_mem (mSR (off := (a).toNat) (ad := (⟨b5, 0, none⟩ : Addr).add ((a).toNat)) (vc := [i32 (IntKind.u8.wrap ld)]) (l' := (regsL (upd R ((a).toNat) (IntKind.u8.wrap ld)) (pc + 4))) 0 hA hO (add_zero_off _ _) (regs_ble R (pc + 4) (by omega)) (setL_regs (by omega) _) ?_)
  clear hO; intro w13 hO
  refine ⟨(hO.sub [1, 2, 3, 4]), ?_⟩
  replace hA := hA.sb (e' := [(6, pt b2), (7, i64 0), (8, pt b3), (13, pt b5)])
  refine end_plan ?_
  refine inBlock_normal ?_
  refine then_normal ?_
  refine sR (l := (rg 0 5)) ?_
  refine ck (l := [0, 1]) (r := [2, 3, 4]) (e' := [(6, pt b2), (7, i64 0), (8, pt b3), (227, .agg (List.toArray (regsL (upd R ((a).toNat) (IntKind.u8.wrap ld)) (pc + 4)))), (228, .agg #[i64 0, i64 0, i64 0, i64 0, i64 0, i64 0, i64 0])]) hA [.agg (List.toArray (regsL (upd R ((a).toNat) (IntKind.u8.wrap ld)) (pc + 4)))] (cc (hO.ln 0 0 38 (regsL (upd R ((a).toNat) (IntKind.u8.wrap ld)) (pc + 4))) c0) ?_
  clear hA fr; intro fr hA
  refine wpOps_cons' (mS (off := 0) (vc := (regsL (upd R ((a).toNat) (IntKind.u8.wrap ld)) (pc + 4))) 3 hA hO ?_)
  clear hO; intro w14 hO
  replace hA := hA.sb (e' := [(6, pt b2), (7, i64 0), (8, pt b3), (228, .agg #[i64 0, i64 0, i64 0, i64 0, i64 0, i64 0, i64 0])])
  refine ck (l := [3]) (r := [4]) (e' := [(6, pt b2), (7, i64 0), (8, pt b3), (228, .agg #[i64 0, i64 0, i64 0, i64 0, i64 0, i64 0, i64 0])]) hA [] c0 ?_
  clear hA fr; intro fr hA
  refine wpOps_cons' (mS (off := 0) (vc := [i64 0, i64 0, i64 0, i64 0, i64 0, i64 0, i64 0]) 2 hA hO ?_)
  clear hO; intro w15 hO
  replace hA := hA.sb (e' := [(6, pt b2), (7, i64 0), (8, pt b3)])
  refine end_ops ?_
  refine then_normal ?_
  refine wp_ret ?_
  refine cR (cs := [some (⟨b2, 0, none⟩, 38), none, some (⟨b3, 0, none⟩, 56)]) (us := [.agg (List.toArray (regsL (upd R ((a).toNat) (IntKind.u8.wrap ld)) (pc + 4))), i64 0, .agg #[i64 0, i64 0, i64 0, i64 0, i64 0, i64 0, i64 0]]) hA [.agg (List.toArray (regsL (upd R ((a).toNat) (IntKind.u8.wrap ld)) (pc + 4))), .agg #[i64 0, i64 0, i64 0, i64 0, i64 0, i64 0, i64 0]] ⟨(hO.ln 3 0 38 (regsL (upd R ((a).toNat) (IntKind.u8.wrap ld)) (pc + 4))), (hO.ln 2 0 56 [i64 0, i64 0, i64 0, i64 0, i64 0, i64 0, i64 0]), trivial⟩ ?_
  have hF := hO.only; clear hA hO
  exact ⟨by simp_all [pack, execV, outV, noTrap, trapL, insV], hF⟩

theorem rexec_17 (R : Nat → Int) (pc ld a b c v : Int) (sl : Value) (w : World) (hT : Tab w) (hR : RegsOk R) (hp : -1099511627776 < pc) (hp' : pc < 1099511627776) (ha : 0 ≤ a) (ha' : a ≤ 15) (hb : 0 ≤ b) (hb' : b ≤ 15) (hc : -128 ≤ c) (hc' : c ≤ 127) (hv : -32768 ≤ v) (hv' : v ≤ 32767) (hdec : ∀ w', Only none' w w' → Calls Tryd.prog 14 #[sl] w' fun e w2 => e = .returned (.tuple #[insV 17 a b c v, .int .i64 0]) ∧ Only none' w' w2) :
    Calls Tryd.prog 23 #[.agg (List.toArray (regsL R pc)), sl, i64 ld] w fun e w' => e = .returned (execV R pc ld 17 a b c v) ∧ Only none' w w' := by
  refine c_enter (args := [.agg (List.toArray (regsL R pc)), sl, i64 ld]) (m := 226) (n := 229) Tryd.func23 rfl (by kernel_rfl) (by kernel_rfl) fun fr hA => ?_
  have hO := Ow.nil Tryd.prog none' w
  have hRa := hR a.toNat; have hRb := hR b.toNat; have hRc := hR c.toNat; simp only [inK] at hRa hRb hRc
  have t1 := Int.lt_tmod_of_pos (R a.toNat) (b := 256) (by decide); have t2 := Int.tmod_lt_of_pos (R a.toNat) (b := 256) (by decide)
  refine sR (l := [0, 1, 2, 3]) ?_
  refine wpOps_cons' (mN (l := (regsL R pc)) (t := 38) (v := pt) (d := 3) hA hO ?_)
  clear hA hO fr; intro fr w1 b1 hA hO
  replace hA := hA.sb (e' := [(1, sl), (2, i64 ld), (3, pt b1)])
  refine wpOps_cons' (mN (l := [i32 0, i32 0, i32 0, i32 0, i32 0, i32 0, i32 0, i32 0, i32 0, i32 0, i32 0, i32 0, i32 0, i32 0, i32 0, i32 0, i64 0]) (t := 38) (v := pt) (d := 6) hA hO ?_)
  clear hA hO fr; intro fr w2 b2 hA hO
  refine ck (l := [2]) (r := [3]) (e' := [(1, sl), (2, i64 ld), (3, pt b1), (6, pt b2), (7, i64 0)]) hA [] c0 ?_
  clear hA fr; intro fr hA
  refine wpOps_cons' (mN (l := [i64 0, i64 0, i64 0, i64 0, i64 0, i64 0, i64 0]) (t := 56) (v := pt) (d := 8) hA hO ?_)
  clear hA hO fr; intro fr w3 b3 hA hO
  refine end_ops ?_
  refine then_normal ?_
  refine sR (l := (rg 0 8)) ?_
  refine ck (l := [0]) (r := (rg 1 7)) (e' := [(2, i64 ld), (3, pt b1), (6, pt b2), (7, i64 0), (8, pt b3), (15, sl)]) hA [] c0 ?_
  clear hA fr; intro fr hA
  refine wpOps_cons' (mK (f := 14) (args := [sl]) (d := (some 16)) (v := .tuple #[.agg #[i64 17, i64 a, i64 b, i64 c, i64 v], i64 0]) hA hO Tryd.func14 (hdec _ hO.only) ?_)
  clear hA hO fr; intro fr w4 hA hO
  replace hA := hA.sb (e' := [(2, i64 ld), (3, pt b1), (6, pt b2), (7, i64 0), (8, pt b3), (16, .tuple #[.agg #[i64 17, i64 a, i64 b, i64 c, i64 v], i64 0])])
  refine ck (l := [2, 3, 4]) (r := [5, 6, 7]) (e' := [(2, i64 ld), (3, pt b1), (6, pt b2), (7, i64 0), (8, pt b3), (17, .agg #[i64 17, i64 a, i64 b, i64 c, i64 v]), (18, i64 0)]) hA [] c0 ?_
  clear hA fr; intro fr hA
  refine wpOps_cons' (mN (l := [i64 0, i64 0, i64 0, i64 0, i64 0]) (t := 29) (v := pt) (d := 9) hA hO ?_)
  clear hA hO fr; intro fr w5 b4 hA hO
  refine wpOps_cons' (mS (off := 0) (vc := [i64 17, i64 a, i64 b, i64 c, i64 v]) 0 hA hO ?_)
  clear hO; intro w6 hO
  replace hA := hA.sb (e' := [(2, i64 ld), (3, pt b1), (6, pt b2), (7, i64 0), (8, pt b3), (9, pt b4), (18, i64 0)])
  refine ck (l := [7]) (r := []) (e' := [(2, i64 ld), (3, pt b1), (6, pt b2), (7, i64 0), (8, pt b3), (9, pt b4), (10, i64 0)]) hA [] c0 ?_
  clear hA fr; intro fr hA
  refine end_ops ?_
  refine then_normal ?_
  refine wp_seq ?_
  refine sC (e' := [(2, i64 ld), (3, pt b1), (6, pt b2), (7, i64 0), (8, pt b3), (9, pt b4), (20, bl false)]) 2 hA [] c0 ?_
  clear hA fr; intro fr hA
  refine cF hA ?_
  refine wp_skip ?_
  refine then_normal ?_
  refine wp_seq ?_
  have hS := hO
  refine rP [(0, true), (1, true), (2, true), (3, true), (4, true), (5, true), (6, true), (7, true), (8, true), (9, true), (10, true), (11, true), (12, true), (13, true)] hS ?_
  intro w7 ho; replace hO := hO.st ho; clear ho
  refine ckS (l := (rg 0 14)) (r := []) (e' := [(2, i64 ld), (3, pt b1), (6, pt b2), (7, i64 0), (8, pt b3), (9, pt b4), (11, i64 (R ((a).toNat))), (12, i64 (R ((b).toNat)))]) hA [i64 a, i32 (R ((a).toNat)), bl true, i64 b, i32 (R ((b).toNat)), bl true] (cc (hS.s1 0 1 3 (i64 a)) (cc (⟨by omega, by omega⟩ : (0 : Int) ≤ a ∧ a < ((16 : Nat) : Int)) (cc (hS.sx ((⟨b1, 0, none⟩ : Addr).add ((a).toNat)) 21 (i32 (R ((a).toNat))) fun _ hO => (ld_regs (hO.b 3) (by omega) (by kernel_rfl))) (cc ((inK_up (by kernel_rfl) (hR _)) : inK .i64 (R ((a).toNat))) (cc (hS.s1 0 2 3 (i64 b)) (cc (⟨by omega, by omega⟩ : (0 : Int) ≤ b ∧ b < ((16 : Nat) : Int)) (cc (hS.sx ((⟨b1, 0, none⟩ : Addr).add ((b).toNat)) 21 (i32 (R ((b).toNat))) fun _ hO => (ld_regs (hO.b 3) (by omega) (by kernel_rfl))) (cc ((inK_up (by kernel_rfl) (hR _)) : inK .i64 (R ((b).toNat))) c0)))))))) ?_
  clear hA fr; intro fr hA
  refine end_plan ?_
  refine then_normal ?_
  refine sR (l := [0, 1, 2]) ?_
  refine ck (l := [0]) (r := [1, 2]) (e' := [(2, i64 ld), (3, pt b1), (6, pt b2), (7, i64 0), (8, pt b3), (9, pt b4), (11, i64 (R ((a).toNat))), (12, i64 (R ((b).toNat))), (35, .agg (List.toArray (regsL R pc)))]) hA [.agg (List.toArray (regsL R pc))] (cc (hO.ln 3 0 38 (regsL R pc)) c0) ?_
  clear hA fr; intro fr hA
  refine wpOps_cons' (mN (l := [i32 0, i32 0, i32 0, i32 0, i32 0, i32 0, i32 0, i32 0, i32 0, i32 0, i32 0, i32 0, i32 0, i32 0, i32 0, i32 0, i64 0]) (t := 38) (v := pt) (d := 13) hA hO ?_)
  clear hA hO fr; intro fr w8 b5 hA hO
  refine wpOps_cons' (mS (off := 0) (vc := (regsL R pc)) 0 hA hO ?_)
  clear hO; intro w9 hO
  replace hA := hA.sb (e' := [(2, i64 ld), (3, pt b1), (6, pt b2), (7, i64 0), (8, pt b3), (9, pt b4), (11, i64 (R ((a).toNat))), (12, i64 (R ((b).toNat))), (13, pt b5)])
  refine end_ops ?_
  refine then_normal ?_
  refine sR (l := (rg 0 5)) ?_
  refine ck (l := [0, 1, 2, 3]) (r := [4]) (e' := [(2, i64 ld), (3, pt b1), (6, pt b2), (7, i64 0), (8, pt b3), (9, pt b4), (11, i64 (R ((a).toNat))), (12, i64 (R ((b).toNat))), (13, pt b5), (38, i64 (pc + 4)), (39, pf b5 16)]) hA [i64 pc, bl true] (cc (hO.l1 0 16 3 (i64 pc)) (cc ((inK_i64 (by omega) (by omega)) : inK .i64 (pc + 4)) c0)) ?_
  clear hA fr; intro fr hA
  refine wpOps_cons' (mSR (off := 16) (ad := ⟨b5, 16, none⟩) (vc := [i64 (pc + 4)]) (l' := (regsL R (pc + 4))) 0 hA hO rfl (by kernel_rfl) (by kernel_rfl) ?_)
  clear hO; intro w10 hO
  replace hA := hA.sb (e' := [(2, i64 ld), (3, pt b1), (6, pt b2), (7, i64 0), (8, pt b3), (9, pt b4), (11, i64 (R ((a).toNat))), (12, i64 (R ((b).toNat))), (13, pt b5)])
  refine end_ops ?_
  refine then_normal ?_
  refine wp_seq ?_
  refine sC (e' := [(2, i64 ld), (3, pt b1), (6, pt b2), (7, i64 0), (8, pt b3), (9, pt b4), (11, i64 (R ((a).toNat))), (12, i64 (R ((b).toNat))), (13, pt b5), (41, i64 17)]) 2 hA [i64 17] (cc (hO.l1 1 0 3 (i64 17)) c0) ?_
  clear hA fr; intro fr hA
  refine wp_block ?_
  refine sC (e' := [(2, i64 ld), (3, pt b1), (6, pt b2), (7, i64 0), (8, pt b3), (9, pt b4), (11, i64 (R ((a).toNat))), (12, i64 (R ((b).toNat))), (13, pt b5), (41, i64 17), (57, bl false)]) 2 hA [] c0 ?_
  clear hA fr; intro fr hA
  refine cF hA ?_
  refine sC (e' := [(2, i64 ld), (3, pt b1), (6, pt b2), (7, i64 0), (8, pt b3), (9, pt b4), (11, i64 (R ((a).toNat))), (12, i64 (R ((b).toNat))), (13, pt b5), (41, i64 17), (66, bl false)]) 2 hA [] c0 ?_
  clear hA fr; intro fr hA
  refine cF hA ?_
  refine sC (e' := [(2, i64 ld), (3, pt b1), (6, pt b2), (7, i64 0), (8, pt b3), (9, pt b4), (11, i64 (R ((a).toNat))), (12, i64 (R ((b).toNat))), (13, pt b5), (41, i64 17), (78, bl false)]) 2 hA [] c0 ?_
  clear hA fr; intro fr hA
  refine cF hA ?_
  refine wp_seq ?_
  refine sC (e' := [(2, i64 ld), (3, pt b1), (6, pt b2), (7, i64 0), (8, pt b3), (9, pt b4), (11, i64 (R ((a).toNat))), (12, i64 (R ((b).toNat))), (13, pt b5), (41, i64 17), (89, bl false)]) 2 hA [] c0 ?_
  clear hA fr; intro fr hA
  refine cF hA ?_
  refine rC (e' := [(2, i64 ld), (3, pt b1), (6, pt b2), (7, i64 0), (8, pt b3), (9, pt b4), (11, i64 (R ((a).toNat))), (12, i64 (R ((b).toNat))), (13, pt b5), (41, i64 17), (89, bl false)]) 2 hA [] c0 ?_
  clear hA fr; intro fr hA
  refine then_normal ?_
  refine cF hA ?_
  refine wp_seq ?_
  refine sC (e' := [(2, i64 ld), (3, pt b1), (6, pt b2), (7, i64 0), (8, pt b3), (9, pt b4), (11, i64 (R ((a).toNat))), (12, i64 (R ((b).toNat))), (13, pt b5), (41, i64 17), (115, bl false)]) 2 hA [] c0 ?_
  clear hA fr; intro fr hA
  refine cF hA ?_
  refine rC (e' := [(2, i64 ld), (3, pt b1), (6, pt b2), (7, i64 0), (8, pt b3), (9, pt b4), (11, i64 (R ((a).toNat))), (12, i64 (R ((b).toNat))), (13, pt b5), (41, i64 17), (115, bl false)]) 2 hA [] c0 ?_
  clear hA fr; intro fr hA
  refine then_normal ?_
  refine cF hA ?_
  refine sC (e' := [(2, i64 ld), (3, pt b1), (6, pt b2), (7, i64 0), (8, pt b3), (9, pt b4), (11, i64 (R ((a).toNat))), (12, i64 (R ((b).toNat))), (13, pt b5), (41, i64 17), (138, bl false)]) 2 hA [] c0 ?_
  clear hA fr; intro fr hA
  refine cF hA ?_
  refine sC (e' := [(3, pt b1), (6, pt b2), (7, i64 0), (8, pt b3), (9, pt b4), (11, i64 (R ((a).toNat))), (12, i64 (R ((b).toNat))), (13, pt b5), (41, i64 17), (149, bl true)]) 2 hA [] c0 ?_
  clear hA fr; intro fr hA
  refine cT hA ?_
  refine sR (l := (rg 0 9)) ?_
  refine ck (l := (rg 0 6)) (r := [6, 7, 8]) (e' := [(6, pt b2), (7, i64 0), (8, pt b3), (13, pt b5), (151, .agg (List.toArray (regsL R (pc + 4)))), (155, i64 ((((R ((a).toNat)).tmod 256) + 256).tmod 256)), (156, .agg #[i64 0, i64 0, i64 0, i64 0, i64 0, i64 0, i64 0])]) hA [.agg (List.toArray (regsL R (pc + 4))), bl false, bl true, bl false] (cc (hO.ln 0 0 38 (regsL R (pc + 4))) (cc (by omega : 256 ≠ (0 : Int)) (cc ((inK_i64 (by omega) (by omega)) : inK .i64 (((R ((a).toNat)).tmod 256) + 256)) (cc (by omega : 256 ≠ (0 : Int)) c0)))) ?_
  clear hA fr; intro fr hA
  replace hA := hA.int (f := fun z => [(6, pt b2), (7, i64 0), (8, pt b3), (13, pt b5), (151, .agg (List.toArray (regsL R (pc + 4)))), (155, .int .i64 z), (156, .agg #[i64 0, i64 0, i64 0, i64 0, i64 0, i64 0, i64 0])]) (tmod_byte _ : (((R ((a).toNat)).tmod 256) + 256).tmod 256 = IntKind.u8.wrap (R a.toNat))
  refine wpOps_cons' (mS (off := 0) (vc := (regsL R (pc + 4))) 3 hA hO ?_)
  clear hO; intro w11 hO
  replace hA := hA.sb (e' := [(6, pt b2), (7, i64 0), (8, pt b3), (13, pt b5), (155, i64 (IntKind.u8.wrap (R a.toNat))), (156, .agg #[i64 0, i64 0, i64 0, i64 0, i64 0, i64 0, i64 0])])
  refine ck (l := [7]) (r := [8]) (e' := [(6, pt b2), (7, i64 (IntKind.u8.wrap (R a.toNat))), (8, pt b3), (13, pt b5), (156, .agg #[i64 0, i64 0, i64 0, i64 0, i64 0, i64 0, i64 0])]) hA [] c0 ?_
  clear hA fr; intro fr hA
  refine wpOps_cons' (mS (off := 0) (vc := [i64 0, i64 0, i64 0, i64 0, i64 0, i64 0, i64 0]) 2 hA hO ?_)
  clear hO; intro w12 hO
  replace hA := hA.sb (e' := [(6, pt b2), (7, i64 (IntKind.u8.wrap (R a.toNat))), (8, pt b3), (13, pt b5)])
  refine end_ops ?_
  refine then_normal ?_
  refine wp_ret ?_
  refine inBlock_ret ?_
  refine then_ret ?_
  refine cR (cs := [some (⟨b2, 0, none⟩, 38), none, some (⟨b3, 0, none⟩, 56)]) (us := [.agg (List.toArray (regsL R (pc + 4))), i64 (IntKind.u8.wrap (R a.toNat)), .agg #[i64 0, i64 0, i64 0, i64 0, i64 0, i64 0, i64 0]]) hA [.agg (List.toArray (regsL R (pc + 4))), .agg #[i64 0, i64 0, i64 0, i64 0, i64 0, i64 0, i64 0]] ⟨(hO.ln 3 0 38 (regsL R (pc + 4))), (hO.ln 2 0 56 [i64 0, i64 0, i64 0, i64 0, i64 0, i64 0, i64 0]), trivial⟩ ?_
  have hF := hO.only; clear hA hO
  exact ⟨by simp_all [pack, execV, outV, noTrap, trapL, insV], hF⟩

theorem rexec_18 (R : Nat → Int) (pc ld a b c v : Int) (sl : Value) (w : World) (hT : Tab w) (hR : RegsOk R) (hp : -1099511627776 < pc) (hp' : pc < 1099511627776) (ha : 0 ≤ a) (ha' : a ≤ 15) (hb : 0 ≤ b) (hb' : b ≤ 15) (hc : -128 ≤ c) (hc' : c ≤ 127) (hv : -32768 ≤ v) (hv' : v ≤ 32767) (hdec : ∀ w', Only none' w w' → Calls Tryd.prog 14 #[sl] w' fun e w2 => e = .returned (.tuple #[insV 18 a b c v, .int .i64 0]) ∧ Only none' w' w2) :
    Calls Tryd.prog 23 #[.agg (List.toArray (regsL R pc)), sl, i64 ld] w fun e w' => e = .returned (execV R pc ld 18 a b c v) ∧ Only none' w w' := by
  refine c_enter (args := [.agg (List.toArray (regsL R pc)), sl, i64 ld]) (m := 226) (n := 229) Tryd.func23 rfl (by kernel_rfl) (by kernel_rfl) fun fr hA => ?_
  have hO := Ow.nil Tryd.prog none' w
  have hRa := hR a.toNat; have hRb := hR b.toNat; have hRc := hR c.toNat; simp only [inK] at hRa hRb hRc
  skip
  refine sR (l := [0, 1, 2, 3]) ?_
  refine wpOps_cons' (mN (l := (regsL R pc)) (t := 38) (v := pt) (d := 3) hA hO ?_)
  clear hA hO fr; intro fr w1 b1 hA hO
  replace hA := hA.sb (e' := [(1, sl), (2, i64 ld), (3, pt b1)])
  refine wpOps_cons' (mN (l := [i32 0, i32 0, i32 0, i32 0, i32 0, i32 0, i32 0, i32 0, i32 0, i32 0, i32 0, i32 0, i32 0, i32 0, i32 0, i32 0, i64 0]) (t := 38) (v := pt) (d := 6) hA hO ?_)
  clear hA hO fr; intro fr w2 b2 hA hO
  refine ck (l := [2]) (r := [3]) (e' := [(1, sl), (2, i64 ld), (3, pt b1), (6, pt b2), (7, i64 0)]) hA [] c0 ?_
  clear hA fr; intro fr hA
  refine wpOps_cons' (mN (l := [i64 0, i64 0, i64 0, i64 0, i64 0, i64 0, i64 0]) (t := 56) (v := pt) (d := 8) hA hO ?_)
  clear hA hO fr; intro fr w3 b3 hA hO
  refine end_ops ?_
  refine then_normal ?_
  refine sR (l := (rg 0 8)) ?_
  refine ck (l := [0]) (r := (rg 1 7)) (e' := [(2, i64 ld), (3, pt b1), (6, pt b2), (7, i64 0), (8, pt b3), (15, sl)]) hA [] c0 ?_
  clear hA fr; intro fr hA
  refine wpOps_cons' (mK (f := 14) (args := [sl]) (d := (some 16)) (v := .tuple #[.agg #[i64 18, i64 a, i64 b, i64 c, i64 v], i64 0]) hA hO Tryd.func14 (hdec _ hO.only) ?_)
  clear hA hO fr; intro fr w4 hA hO
  replace hA := hA.sb (e' := [(2, i64 ld), (3, pt b1), (6, pt b2), (7, i64 0), (8, pt b3), (16, .tuple #[.agg #[i64 18, i64 a, i64 b, i64 c, i64 v], i64 0])])
  refine ck (l := [2, 3, 4]) (r := [5, 6, 7]) (e' := [(2, i64 ld), (3, pt b1), (6, pt b2), (7, i64 0), (8, pt b3), (17, .agg #[i64 18, i64 a, i64 b, i64 c, i64 v]), (18, i64 0)]) hA [] c0 ?_
  clear hA fr; intro fr hA
  refine wpOps_cons' (mN (l := [i64 0, i64 0, i64 0, i64 0, i64 0]) (t := 29) (v := pt) (d := 9) hA hO ?_)
  clear hA hO fr; intro fr w5 b4 hA hO
  refine wpOps_cons' (mS (off := 0) (vc := [i64 18, i64 a, i64 b, i64 c, i64 v]) 0 hA hO ?_)
  clear hO; intro w6 hO
  replace hA := hA.sb (e' := [(2, i64 ld), (3, pt b1), (6, pt b2), (7, i64 0), (8, pt b3), (9, pt b4), (18, i64 0)])
  refine ck (l := [7]) (r := []) (e' := [(2, i64 ld), (3, pt b1), (6, pt b2), (7, i64 0), (8, pt b3), (9, pt b4), (10, i64 0)]) hA [] c0 ?_
  clear hA fr; intro fr hA
  refine end_ops ?_
  refine then_normal ?_
  refine wp_seq ?_
  refine sC (e' := [(2, i64 ld), (3, pt b1), (6, pt b2), (7, i64 0), (8, pt b3), (9, pt b4), (20, bl false)]) 2 hA [] c0 ?_
  clear hA fr; intro fr hA
  refine cF hA ?_
  refine wp_skip ?_
  refine then_normal ?_
  refine wp_seq ?_
  have hS := hO
  refine rP [(0, true), (1, true), (2, true), (3, true), (4, true), (5, true), (6, true), (7, true), (8, true), (9, true), (10, true), (11, true), (12, true), (13, true)] hS ?_
  intro w7 ho; replace hO := hO.st ho; clear ho
  refine ckS (l := (rg 0 14)) (r := []) (e' := [(2, i64 ld), (3, pt b1), (6, pt b2), (7, i64 0), (8, pt b3), (9, pt b4), (11, i64 (R ((a).toNat))), (12, i64 (R ((b).toNat)))]) hA [i64 a, i32 (R ((a).toNat)), bl true, i64 b, i32 (R ((b).toNat)), bl true] (cc (hS.s1 0 1 3 (i64 a)) (cc (⟨by omega, by omega⟩ : (0 : Int) ≤ a ∧ a < ((16 : Nat) : Int)) (cc (hS.sx ((⟨b1, 0, none⟩ : Addr).add ((a).toNat)) 21 (i32 (R ((a).toNat))) fun _ hO => (ld_regs (hO.b 3) (by omega) (by kernel_rfl))) (cc ((inK_up (by kernel_rfl) (hR _)) : inK .i64 (R ((a).toNat))) (cc (hS.s1 0 2 3 (i64 b)) (cc (⟨by omega, by omega⟩ : (0 : Int) ≤ b ∧ b < ((16 : Nat) : Int)) (cc (hS.sx ((⟨b1, 0, none⟩ : Addr).add ((b).toNat)) 21 (i32 (R ((b).toNat))) fun _ hO => (ld_regs (hO.b 3) (by omega) (by kernel_rfl))) (cc ((inK_up (by kernel_rfl) (hR _)) : inK .i64 (R ((b).toNat))) c0)))))))) ?_
  clear hA fr; intro fr hA
  refine end_plan ?_
  refine then_normal ?_
  refine sR (l := [0, 1, 2]) ?_
  refine ck (l := [0]) (r := [1, 2]) (e' := [(2, i64 ld), (3, pt b1), (6, pt b2), (7, i64 0), (8, pt b3), (9, pt b4), (11, i64 (R ((a).toNat))), (12, i64 (R ((b).toNat))), (35, .agg (List.toArray (regsL R pc)))]) hA [.agg (List.toArray (regsL R pc))] (cc (hO.ln 3 0 38 (regsL R pc)) c0) ?_
  clear hA fr; intro fr hA
  refine wpOps_cons' (mN (l := [i32 0, i32 0, i32 0, i32 0, i32 0, i32 0, i32 0, i32 0, i32 0, i32 0, i32 0, i32 0, i32 0, i32 0, i32 0, i32 0, i64 0]) (t := 38) (v := pt) (d := 13) hA hO ?_)
  clear hA hO fr; intro fr w8 b5 hA hO
  refine wpOps_cons' (mS (off := 0) (vc := (regsL R pc)) 0 hA hO ?_)
  clear hO; intro w9 hO
  replace hA := hA.sb (e' := [(2, i64 ld), (3, pt b1), (6, pt b2), (7, i64 0), (8, pt b3), (9, pt b4), (11, i64 (R ((a).toNat))), (12, i64 (R ((b).toNat))), (13, pt b5)])
  refine end_ops ?_
  refine then_normal ?_
  refine sR (l := (rg 0 5)) ?_
  refine ck (l := [0, 1, 2, 3]) (r := [4]) (e' := [(2, i64 ld), (3, pt b1), (6, pt b2), (7, i64 0), (8, pt b3), (9, pt b4), (11, i64 (R ((a).toNat))), (12, i64 (R ((b).toNat))), (13, pt b5), (38, i64 (pc + 4)), (39, pf b5 16)]) hA [i64 pc, bl true] (cc (hO.l1 0 16 3 (i64 pc)) (cc ((inK_i64 (by omega) (by omega)) : inK .i64 (pc + 4)) c0)) ?_
  clear hA fr; intro fr hA
  refine wpOps_cons' (mSR (off := 16) (ad := ⟨b5, 16, none⟩) (vc := [i64 (pc + 4)]) (l' := (regsL R (pc + 4))) 0 hA hO rfl (by kernel_rfl) (by kernel_rfl) ?_)
  clear hO; intro w10 hO
  replace hA := hA.sb (e' := [(2, i64 ld), (3, pt b1), (6, pt b2), (7, i64 0), (8, pt b3), (9, pt b4), (11, i64 (R ((a).toNat))), (12, i64 (R ((b).toNat))), (13, pt b5)])
  refine end_ops ?_
  refine then_normal ?_
  refine wp_seq ?_
  refine sC (e' := [(2, i64 ld), (3, pt b1), (6, pt b2), (7, i64 0), (8, pt b3), (9, pt b4), (11, i64 (R ((a).toNat))), (12, i64 (R ((b).toNat))), (13, pt b5), (41, i64 18)]) 2 hA [i64 18] (cc (hO.l1 1 0 3 (i64 18)) c0) ?_
  clear hA fr; intro fr hA
  refine wp_block ?_
  refine sC (e' := [(2, i64 ld), (3, pt b1), (6, pt b2), (7, i64 0), (8, pt b3), (9, pt b4), (11, i64 (R ((a).toNat))), (12, i64 (R ((b).toNat))), (13, pt b5), (41, i64 18), (57, bl false)]) 2 hA [] c0 ?_
  clear hA fr; intro fr hA
  refine cF hA ?_
  refine sC (e' := [(2, i64 ld), (3, pt b1), (6, pt b2), (7, i64 0), (8, pt b3), (9, pt b4), (11, i64 (R ((a).toNat))), (12, i64 (R ((b).toNat))), (13, pt b5), (41, i64 18), (66, bl false)]) 2 hA [] c0 ?_
  clear hA fr; intro fr hA
  refine cF hA ?_
  refine sC (e' := [(2, i64 ld), (3, pt b1), (6, pt b2), (7, i64 0), (8, pt b3), (9, pt b4), (11, i64 (R ((a).toNat))), (12, i64 (R ((b).toNat))), (13, pt b5), (41, i64 18), (78, bl false)]) 2 hA [] c0 ?_
  clear hA fr; intro fr hA
  refine cF hA ?_
  refine wp_seq ?_
  refine sC (e' := [(2, i64 ld), (3, pt b1), (6, pt b2), (7, i64 0), (8, pt b3), (9, pt b4), (11, i64 (R ((a).toNat))), (12, i64 (R ((b).toNat))), (13, pt b5), (41, i64 18), (89, bl false)]) 2 hA [] c0 ?_
  clear hA fr; intro fr hA
  refine cF hA ?_
  refine rC (e' := [(2, i64 ld), (3, pt b1), (6, pt b2), (7, i64 0), (8, pt b3), (9, pt b4), (11, i64 (R ((a).toNat))), (12, i64 (R ((b).toNat))), (13, pt b5), (41, i64 18), (89, bl false)]) 2 hA [] c0 ?_
  clear hA fr; intro fr hA
  refine then_normal ?_
  refine cF hA ?_
  refine wp_seq ?_
  refine sC (e' := [(2, i64 ld), (3, pt b1), (6, pt b2), (7, i64 0), (8, pt b3), (9, pt b4), (11, i64 (R ((a).toNat))), (12, i64 (R ((b).toNat))), (13, pt b5), (41, i64 18), (115, bl false)]) 2 hA [] c0 ?_
  clear hA fr; intro fr hA
  refine cF hA ?_
  refine rC (e' := [(2, i64 ld), (3, pt b1), (6, pt b2), (7, i64 0), (8, pt b3), (9, pt b4), (11, i64 (R ((a).toNat))), (12, i64 (R ((b).toNat))), (13, pt b5), (41, i64 18), (115, bl false)]) 2 hA [] c0 ?_
  clear hA fr; intro fr hA
  refine then_normal ?_
  refine cF hA ?_
  refine sC (e' := [(2, i64 ld), (3, pt b1), (6, pt b2), (7, i64 0), (8, pt b3), (9, pt b4), (11, i64 (R ((a).toNat))), (12, i64 (R ((b).toNat))), (13, pt b5), (41, i64 18), (138, bl false)]) 2 hA [] c0 ?_
  clear hA fr; intro fr hA
  refine cF hA ?_
  refine sC (e' := [(3, pt b1), (6, pt b2), (7, i64 0), (8, pt b3), (9, pt b4), (11, i64 (R ((a).toNat))), (12, i64 (R ((b).toNat))), (13, pt b5), (41, i64 18), (149, bl false)]) 2 hA [] c0 ?_
  clear hA fr; intro fr hA
  refine cF hA ?_
  refine sC (e' := [(3, pt b1), (6, pt b2), (7, i64 0), (8, pt b3), (9, pt b4), (11, i64 (R ((a).toNat))), (12, i64 (R ((b).toNat))), (13, pt b5), (41, i64 18), (157, bl true)]) 2 hA [] c0 ?_
  clear hA fr; intro fr hA
  refine cT hA ?_
  refine rR (l := (rg 0 8)) ?_
  refine ck (l := (rg 0 7)) (r := [7]) (e' := [(6, pt b2), (7, i64 0), (8, pt b3), (13, pt b5), (164, i64 ((pc + 4) + (4 * v))), (165, pf b5 16)]) hA [i64 (pc + 4), i64 v, bl true, bl true] (cc (hO.l1 0 16 3 (i64 (pc + 4))) (cc (hO.l1 1 4 3 (i64 v)) (cc ((inK_i64 (by omega) (by omega)) : inK .i64 (4 * v)) (cc ((inK_i64 (by omega) (by omega)) : inK .i64 ((pc + 4) + (4 * v))) c0)))) ?_
  clear hA fr; intro fr hA
  refine wpOps_cons' (mSR (off := 16) (ad := ⟨b5, 16, none⟩) (vc := [i64 ((pc + 4) + (4 * v))]) (l' := (regsL R ((pc + 4) + (4 * v)))) 0 hA hO rfl (by kernel_rfl) (by kernel_rfl) ?_)
  clear hO; intro w11 hO
  replace hA := hA.sb (e' := [(6, pt b2), (7, i64 0), (8, pt b3), (13, pt b5)])
  refine end_ops ?_
  refine inBlock_normal ?_
  refine then_normal ?_
  refine sR (l := (rg 0 5)) ?_
  refine ck (l := [0, 1]) (r := [2, 3, 4]) (e' := [(6, pt b2), (7, i64 0), (8, pt b3), (227, .agg (List.toArray (regsL R ((pc + 4) + (4 * v))))), (228, .agg #[i64 0, i64 0, i64 0, i64 0, i64 0, i64 0, i64 0])]) hA [.agg (List.toArray (regsL R ((pc + 4) + (4 * v))))] (cc (hO.ln 0 0 38 (regsL R ((pc + 4) + (4 * v)))) c0) ?_
  clear hA fr; intro fr hA
  refine wpOps_cons' (mS (off := 0) (vc := (regsL R ((pc + 4) + (4 * v)))) 3 hA hO ?_)
  clear hO; intro w12 hO
  replace hA := hA.sb (e' := [(6, pt b2), (7, i64 0), (8, pt b3), (228, .agg #[i64 0, i64 0, i64 0, i64 0, i64 0, i64 0, i64 0])])
  refine ck (l := [3]) (r := [4]) (e' := [(6, pt b2), (7, i64 0), (8, pt b3), (228, .agg #[i64 0, i64 0, i64 0, i64 0, i64 0, i64 0, i64 0])]) hA [] c0 ?_
  clear hA fr; intro fr hA
  refine wpOps_cons' (mS (off := 0) (vc := [i64 0, i64 0, i64 0, i64 0, i64 0, i64 0, i64 0]) 2 hA hO ?_)
  clear hO; intro w13 hO
  replace hA := hA.sb (e' := [(6, pt b2), (7, i64 0), (8, pt b3)])
  refine end_ops ?_
  refine then_normal ?_
  refine wp_ret ?_
  refine cR (cs := [some (⟨b2, 0, none⟩, 38), none, some (⟨b3, 0, none⟩, 56)]) (us := [.agg (List.toArray (regsL R ((pc + 4) + (4 * v)))), i64 0, .agg #[i64 0, i64 0, i64 0, i64 0, i64 0, i64 0, i64 0]]) hA [.agg (List.toArray (regsL R ((pc + 4) + (4 * v)))), .agg #[i64 0, i64 0, i64 0, i64 0, i64 0, i64 0, i64 0]] ⟨(hO.ln 3 0 38 (regsL R ((pc + 4) + (4 * v)))), (hO.ln 2 0 56 [i64 0, i64 0, i64 0, i64 0, i64 0, i64 0, i64 0]), trivial⟩ ?_
  have hF := hO.only; clear hA hO
  exact ⟨by simp_all [pack, execV, outV, noTrap, trapL, insV], hF⟩

theorem rexec_19 (R : Nat → Int) (pc ld a b c v : Int) (sl : Value) (w : World) (hT : Tab w) (hR : RegsOk R) (hp : -1099511627776 < pc) (hp' : pc < 1099511627776) (ha : 0 ≤ a) (ha' : a ≤ 15) (hb : 0 ≤ b) (hb' : b ≤ 15) (hc : -128 ≤ c) (hc' : c ≤ 127) (hv : -32768 ≤ v) (hv' : v ≤ 32767) (hdec : ∀ w', Only none' w w' → Calls Tryd.prog 14 #[sl] w' fun e w2 => e = .returned (.tuple #[insV 19 a b c v, .int .i64 0]) ∧ Only none' w' w2) :
    Calls Tryd.prog 23 #[.agg (List.toArray (regsL R pc)), sl, i64 ld] w fun e w' => e = .returned (execV R pc ld 19 a b c v) ∧ Only none' w w' := by
  refine c_enter (args := [.agg (List.toArray (regsL R pc)), sl, i64 ld]) (m := 226) (n := 229) Tryd.func23 rfl (by kernel_rfl) (by kernel_rfl) fun fr hA => ?_
  have hO := Ow.nil Tryd.prog none' w
  have hRa := hR a.toNat; have hRb := hR b.toNat; have hRc := hR c.toNat; simp only [inK] at hRa hRb hRc
  skip
  refine sR (l := [0, 1, 2, 3]) ?_
  refine wpOps_cons' (mN (l := (regsL R pc)) (t := 38) (v := pt) (d := 3) hA hO ?_)
  clear hA hO fr; intro fr w1 b1 hA hO
  replace hA := hA.sb (e' := [(1, sl), (2, i64 ld), (3, pt b1)])
  refine wpOps_cons' (mN (l := [i32 0, i32 0, i32 0, i32 0, i32 0, i32 0, i32 0, i32 0, i32 0, i32 0, i32 0, i32 0, i32 0, i32 0, i32 0, i32 0, i64 0]) (t := 38) (v := pt) (d := 6) hA hO ?_)
  clear hA hO fr; intro fr w2 b2 hA hO
  refine ck (l := [2]) (r := [3]) (e' := [(1, sl), (2, i64 ld), (3, pt b1), (6, pt b2), (7, i64 0)]) hA [] c0 ?_
  clear hA fr; intro fr hA
  refine wpOps_cons' (mN (l := [i64 0, i64 0, i64 0, i64 0, i64 0, i64 0, i64 0]) (t := 56) (v := pt) (d := 8) hA hO ?_)
  clear hA hO fr; intro fr w3 b3 hA hO
  refine end_ops ?_
  refine then_normal ?_
  refine sR (l := (rg 0 8)) ?_
  refine ck (l := [0]) (r := (rg 1 7)) (e' := [(2, i64 ld), (3, pt b1), (6, pt b2), (7, i64 0), (8, pt b3), (15, sl)]) hA [] c0 ?_
  clear hA fr; intro fr hA
  refine wpOps_cons' (mK (f := 14) (args := [sl]) (d := (some 16)) (v := .tuple #[.agg #[i64 19, i64 a, i64 b, i64 c, i64 v], i64 0]) hA hO Tryd.func14 (hdec _ hO.only) ?_)
  clear hA hO fr; intro fr w4 hA hO
  replace hA := hA.sb (e' := [(2, i64 ld), (3, pt b1), (6, pt b2), (7, i64 0), (8, pt b3), (16, .tuple #[.agg #[i64 19, i64 a, i64 b, i64 c, i64 v], i64 0])])
  refine ck (l := [2, 3, 4]) (r := [5, 6, 7]) (e' := [(2, i64 ld), (3, pt b1), (6, pt b2), (7, i64 0), (8, pt b3), (17, .agg #[i64 19, i64 a, i64 b, i64 c, i64 v]), (18, i64 0)]) hA [] c0 ?_
  clear hA fr; intro fr hA
  refine wpOps_cons' (mN (l := [i64 0, i64 0, i64 0, i64 0, i64 0]) (t := 29) (v := pt) (d := 9) hA hO ?_)
  clear hA hO fr; intro fr w5 b4 hA hO
  refine wpOps_cons' (mS (off := 0) (vc := [i64 19, i64 a, i64 b, i64 c, i64 v]) 0 hA hO ?_)
  clear hO; intro w6 hO
  replace hA := hA.sb (e' := [(2, i64 ld), (3, pt b1), (6, pt b2), (7, i64 0), (8, pt b3), (9, pt b4), (18, i64 0)])
  refine ck (l := [7]) (r := []) (e' := [(2, i64 ld), (3, pt b1), (6, pt b2), (7, i64 0), (8, pt b3), (9, pt b4), (10, i64 0)]) hA [] c0 ?_
  clear hA fr; intro fr hA
  refine end_ops ?_
  refine then_normal ?_
  refine wp_seq ?_
  refine sC (e' := [(2, i64 ld), (3, pt b1), (6, pt b2), (7, i64 0), (8, pt b3), (9, pt b4), (20, bl false)]) 2 hA [] c0 ?_
  clear hA fr; intro fr hA
  refine cF hA ?_
  refine wp_skip ?_
  refine then_normal ?_
  refine wp_seq ?_
  have hS := hO
  refine rP [(0, true), (1, true), (2, true), (3, true), (4, true), (5, true), (6, true), (7, true), (8, true), (9, true), (10, true), (11, true), (12, true), (13, true)] hS ?_
  intro w7 ho; replace hO := hO.st ho; clear ho
  refine ckS (l := (rg 0 14)) (r := []) (e' := [(2, i64 ld), (3, pt b1), (6, pt b2), (7, i64 0), (8, pt b3), (9, pt b4), (11, i64 (R ((a).toNat))), (12, i64 (R ((b).toNat)))]) hA [i64 a, i32 (R ((a).toNat)), bl true, i64 b, i32 (R ((b).toNat)), bl true] (cc (hS.s1 0 1 3 (i64 a)) (cc (⟨by omega, by omega⟩ : (0 : Int) ≤ a ∧ a < ((16 : Nat) : Int)) (cc (hS.sx ((⟨b1, 0, none⟩ : Addr).add ((a).toNat)) 21 (i32 (R ((a).toNat))) fun _ hO => (ld_regs (hO.b 3) (by omega) (by kernel_rfl))) (cc ((inK_up (by kernel_rfl) (hR _)) : inK .i64 (R ((a).toNat))) (cc (hS.s1 0 2 3 (i64 b)) (cc (⟨by omega, by omega⟩ : (0 : Int) ≤ b ∧ b < ((16 : Nat) : Int)) (cc (hS.sx ((⟨b1, 0, none⟩ : Addr).add ((b).toNat)) 21 (i32 (R ((b).toNat))) fun _ hO => (ld_regs (hO.b 3) (by omega) (by kernel_rfl))) (cc ((inK_up (by kernel_rfl) (hR _)) : inK .i64 (R ((b).toNat))) c0)))))))) ?_
  clear hA fr; intro fr hA
  refine end_plan ?_
  refine then_normal ?_
  refine sR (l := [0, 1, 2]) ?_
  refine ck (l := [0]) (r := [1, 2]) (e' := [(2, i64 ld), (3, pt b1), (6, pt b2), (7, i64 0), (8, pt b3), (9, pt b4), (11, i64 (R ((a).toNat))), (12, i64 (R ((b).toNat))), (35, .agg (List.toArray (regsL R pc)))]) hA [.agg (List.toArray (regsL R pc))] (cc (hO.ln 3 0 38 (regsL R pc)) c0) ?_
  clear hA fr; intro fr hA
  refine wpOps_cons' (mN (l := [i32 0, i32 0, i32 0, i32 0, i32 0, i32 0, i32 0, i32 0, i32 0, i32 0, i32 0, i32 0, i32 0, i32 0, i32 0, i32 0, i64 0]) (t := 38) (v := pt) (d := 13) hA hO ?_)
  clear hA hO fr; intro fr w8 b5 hA hO
  refine wpOps_cons' (mS (off := 0) (vc := (regsL R pc)) 0 hA hO ?_)
  clear hO; intro w9 hO
  replace hA := hA.sb (e' := [(2, i64 ld), (3, pt b1), (6, pt b2), (7, i64 0), (8, pt b3), (9, pt b4), (11, i64 (R ((a).toNat))), (12, i64 (R ((b).toNat))), (13, pt b5)])
  refine end_ops ?_
  refine then_normal ?_
  refine sR (l := (rg 0 5)) ?_
  refine ck (l := [0, 1, 2, 3]) (r := [4]) (e' := [(2, i64 ld), (3, pt b1), (6, pt b2), (7, i64 0), (8, pt b3), (9, pt b4), (11, i64 (R ((a).toNat))), (12, i64 (R ((b).toNat))), (13, pt b5), (38, i64 (pc + 4)), (39, pf b5 16)]) hA [i64 pc, bl true] (cc (hO.l1 0 16 3 (i64 pc)) (cc ((inK_i64 (by omega) (by omega)) : inK .i64 (pc + 4)) c0)) ?_
  clear hA fr; intro fr hA
  refine wpOps_cons' (mSR (off := 16) (ad := ⟨b5, 16, none⟩) (vc := [i64 (pc + 4)]) (l' := (regsL R (pc + 4))) 0 hA hO rfl (by kernel_rfl) (by kernel_rfl) ?_)
  clear hO; intro w10 hO
  replace hA := hA.sb (e' := [(2, i64 ld), (3, pt b1), (6, pt b2), (7, i64 0), (8, pt b3), (9, pt b4), (11, i64 (R ((a).toNat))), (12, i64 (R ((b).toNat))), (13, pt b5)])
  refine end_ops ?_
  refine then_normal ?_
  refine wp_seq ?_
  refine sC (e' := [(2, i64 ld), (3, pt b1), (6, pt b2), (7, i64 0), (8, pt b3), (9, pt b4), (11, i64 (R ((a).toNat))), (12, i64 (R ((b).toNat))), (13, pt b5), (41, i64 19)]) 2 hA [i64 19] (cc (hO.l1 1 0 3 (i64 19)) c0) ?_
  clear hA fr; intro fr hA
  refine wp_block ?_
  refine sC (e' := [(2, i64 ld), (3, pt b1), (6, pt b2), (7, i64 0), (8, pt b3), (9, pt b4), (11, i64 (R ((a).toNat))), (12, i64 (R ((b).toNat))), (13, pt b5), (41, i64 19), (57, bl false)]) 2 hA [] c0 ?_
  clear hA fr; intro fr hA
  refine cF hA ?_
  refine sC (e' := [(2, i64 ld), (3, pt b1), (6, pt b2), (7, i64 0), (8, pt b3), (9, pt b4), (11, i64 (R ((a).toNat))), (12, i64 (R ((b).toNat))), (13, pt b5), (41, i64 19), (66, bl false)]) 2 hA [] c0 ?_
  clear hA fr; intro fr hA
  refine cF hA ?_
  refine sC (e' := [(2, i64 ld), (3, pt b1), (6, pt b2), (7, i64 0), (8, pt b3), (9, pt b4), (11, i64 (R ((a).toNat))), (12, i64 (R ((b).toNat))), (13, pt b5), (41, i64 19), (78, bl false)]) 2 hA [] c0 ?_
  clear hA fr; intro fr hA
  refine cF hA ?_
  refine wp_seq ?_
  refine sC (e' := [(2, i64 ld), (3, pt b1), (6, pt b2), (7, i64 0), (8, pt b3), (9, pt b4), (11, i64 (R ((a).toNat))), (12, i64 (R ((b).toNat))), (13, pt b5), (41, i64 19), (89, bl false)]) 2 hA [] c0 ?_
  clear hA fr; intro fr hA
  refine cF hA ?_
  refine rC (e' := [(2, i64 ld), (3, pt b1), (6, pt b2), (7, i64 0), (8, pt b3), (9, pt b4), (11, i64 (R ((a).toNat))), (12, i64 (R ((b).toNat))), (13, pt b5), (41, i64 19), (89, bl false)]) 2 hA [] c0 ?_
  clear hA fr; intro fr hA
  refine then_normal ?_
  refine cF hA ?_
  refine wp_seq ?_
  refine sC (e' := [(2, i64 ld), (3, pt b1), (6, pt b2), (7, i64 0), (8, pt b3), (9, pt b4), (11, i64 (R ((a).toNat))), (12, i64 (R ((b).toNat))), (13, pt b5), (41, i64 19), (115, bl false)]) 2 hA [] c0 ?_
  clear hA fr; intro fr hA
  refine cF hA ?_
  refine rC (e' := [(2, i64 ld), (3, pt b1), (6, pt b2), (7, i64 0), (8, pt b3), (9, pt b4), (11, i64 (R ((a).toNat))), (12, i64 (R ((b).toNat))), (13, pt b5), (41, i64 19), (115, bl false)]) 2 hA [] c0 ?_
  clear hA fr; intro fr hA
  refine then_normal ?_
  refine cF hA ?_
  refine sC (e' := [(2, i64 ld), (3, pt b1), (6, pt b2), (7, i64 0), (8, pt b3), (9, pt b4), (11, i64 (R ((a).toNat))), (12, i64 (R ((b).toNat))), (13, pt b5), (41, i64 19), (138, bl false)]) 2 hA [] c0 ?_
  clear hA fr; intro fr hA
  refine cF hA ?_
  refine sC (e' := [(3, pt b1), (6, pt b2), (7, i64 0), (8, pt b3), (9, pt b4), (11, i64 (R ((a).toNat))), (12, i64 (R ((b).toNat))), (13, pt b5), (41, i64 19), (149, bl false)]) 2 hA [] c0 ?_
  clear hA fr; intro fr hA
  refine cF hA ?_
  refine sC (e' := [(3, pt b1), (6, pt b2), (7, i64 0), (8, pt b3), (9, pt b4), (11, i64 (R ((a).toNat))), (12, i64 (R ((b).toNat))), (13, pt b5), (41, i64 19), (157, bl false)]) 2 hA [] c0 ?_
  clear hA fr; intro fr hA
  refine cF hA ?_
  refine sC (e' := [(3, pt b1), (6, pt b2), (7, i64 0), (8, pt b3), (9, pt b4), (11, i64 (R ((a).toNat))), (12, i64 (R ((b).toNat))), (13, pt b5), (41, i64 19), (166, bl true)]) 2 hA [] c0 ?_
  clear hA fr; intro fr hA
  refine cT hA ?_
  refine sC (e' := [(6, pt b2), (7, i64 0), (8, pt b3), (9, pt b4), (13, pt b5), (169, bl ((R ((a).toNat)) == 0))]) 2 hA [] c0 ?_
  clear hA fr; intro fr hA
  rcases Bool.eq_false_or_eq_true ((R ((a).toNat)) == 0) with h1 | h1
  ·
    replace hA := hA.bool (f := fun z => [(6, pt b2), (7, i64 0), (8, pt b3), (9, pt b4), (13, pt b5), (169, .bool z)]) h1
    have h1p := eq_of_beq h1
    refine cT hA ?_
    refine rR (l := (rg 0 8)) ?_
    refine ck (l := (rg 0 7)) (r := [7]) (e' := [(6, pt b2), (7, i64 0), (8, pt b3), (13, pt b5), (175, i64 ((pc + 4) + (4 * v))), (176, pf b5 16)]) hA [i64 (pc + 4), i64 v, bl true, bl true] (cc (hO.l1 0 16 3 (i64 (pc + 4))) (cc (hO.l1 1 4 3 (i64 v)) (cc ((inK_i64 (by omega) (by omega)) : inK .i64 (4 * v)) (cc ((inK_i64 (by omega) (by omega)) : inK .i64 ((pc + 4) + (4 * v))) c0)))) ?_
    clear hA fr; intro fr hA
    refine wpOps_cons' (mSR (off := 16) (ad := ⟨b5, 16, none⟩) (vc := [i64 ((pc + 4) + (4 * v))]) (l' := (regsL R ((pc + 4) + (4 * v)))) 0 hA hO rfl (by kernel_rfl) (by kernel_rfl) ?_)
    clear hO; intro w11 hO
    replace hA := hA.sb (e' := [(6, pt b2), (7, i64 0), (8, pt b3), (13, pt b5)])
    refine end_ops ?_
    refine inBlock_normal ?_
    refine then_normal ?_
    refine sR (l := (rg 0 5)) ?_
    refine ck (l := [0, 1]) (r := [2, 3, 4]) (e' := [(6, pt b2), (7, i64 0), (8, pt b3), (227, .agg (List.toArray (regsL R ((pc + 4) + (4 * v))))), (228, .agg #[i64 0, i64 0, i64 0, i64 0, i64 0, i64 0, i64 0])]) hA [.agg (List.toArray (regsL R ((pc + 4) + (4 * v))))] (cc (hO.ln 0 0 38 (regsL R ((pc + 4) + (4 * v)))) c0) ?_
    clear hA fr; intro fr hA
    refine wpOps_cons' (mS (off := 0) (vc := (regsL R ((pc + 4) + (4 * v)))) 3 hA hO ?_)
    clear hO; intro w12 hO
    replace hA := hA.sb (e' := [(6, pt b2), (7, i64 0), (8, pt b3), (228, .agg #[i64 0, i64 0, i64 0, i64 0, i64 0, i64 0, i64 0])])
    refine ck (l := [3]) (r := [4]) (e' := [(6, pt b2), (7, i64 0), (8, pt b3), (228, .agg #[i64 0, i64 0, i64 0, i64 0, i64 0, i64 0, i64 0])]) hA [] c0 ?_
    clear hA fr; intro fr hA
    refine wpOps_cons' (mS (off := 0) (vc := [i64 0, i64 0, i64 0, i64 0, i64 0, i64 0, i64 0]) 2 hA hO ?_)
    clear hO; intro w13 hO
    replace hA := hA.sb (e' := [(6, pt b2), (7, i64 0), (8, pt b3)])
    refine end_ops ?_
    refine then_normal ?_
    refine wp_ret ?_
    refine cR (cs := [some (⟨b2, 0, none⟩, 38), none, some (⟨b3, 0, none⟩, 56)]) (us := [.agg (List.toArray (regsL R ((pc + 4) + (4 * v)))), i64 0, .agg #[i64 0, i64 0, i64 0, i64 0, i64 0, i64 0, i64 0]]) hA [.agg (List.toArray (regsL R ((pc + 4) + (4 * v)))), .agg #[i64 0, i64 0, i64 0, i64 0, i64 0, i64 0, i64 0]] ⟨(hO.ln 3 0 38 (regsL R ((pc + 4) + (4 * v)))), (hO.ln 2 0 56 [i64 0, i64 0, i64 0, i64 0, i64 0, i64 0, i64 0]), trivial⟩ ?_
    have hF := hO.only; clear hA hO
    exact ⟨by simp_all [pack, execV, outV, noTrap, trapL, insV], hF⟩
  ·
    replace hA := hA.bool (f := fun z => [(6, pt b2), (7, i64 0), (8, pt b3), (9, pt b4), (13, pt b5), (169, .bool z)]) h1
    have h1p := ne_of_beq_false h1
    refine cF hA ?_
    refine wp_skip ?_
    refine inBlock_normal ?_
    refine then_normal ?_
    refine sR (l := (rg 0 5)) ?_
    refine ck (l := [0, 1]) (r := [2, 3, 4]) (e' := [(6, pt b2), (7, i64 0), (8, pt b3), (227, .agg (List.toArray (regsL R (pc + 4)))), (228, .agg #[i64 0, i64 0, i64 0, i64 0, i64 0, i64 0, i64 0])]) hA [.agg (List.toArray (regsL R (pc + 4)))] (cc (hO.ln 0 0 38 (regsL R (pc + 4))) c0) ?_
    clear hA fr; intro fr hA
    refine wpOps_cons' (mS (off := 0) (vc := (regsL R (pc + 4))) 3 hA hO ?_)
    clear hO; intro w14 hO
    replace hA := hA.sb (e' := [(6, pt b2), (7, i64 0), (8, pt b3), (228, .agg #[i64 0, i64 0, i64 0, i64 0, i64 0, i64 0, i64 0])])
    refine ck (l := [3]) (r := [4]) (e' := [(6, pt b2), (7, i64 0), (8, pt b3), (228, .agg #[i64 0, i64 0, i64 0, i64 0, i64 0, i64 0, i64 0])]) hA [] c0 ?_
    clear hA fr; intro fr hA
    refine wpOps_cons' (mS (off := 0) (vc := [i64 0, i64 0, i64 0, i64 0, i64 0, i64 0, i64 0]) 2 hA hO ?_)
    clear hO; intro w15 hO
    replace hA := hA.sb (e' := [(6, pt b2), (7, i64 0), (8, pt b3)])
    refine end_ops ?_
    refine then_normal ?_
    refine wp_ret ?_
    refine cR (cs := [some (⟨b2, 0, none⟩, 38), none, some (⟨b3, 0, none⟩, 56)]) (us := [.agg (List.toArray (regsL R (pc + 4))), i64 0, .agg #[i64 0, i64 0, i64 0, i64 0, i64 0, i64 0, i64 0]]) hA [.agg (List.toArray (regsL R (pc + 4))), .agg #[i64 0, i64 0, i64 0, i64 0, i64 0, i64 0, i64 0]] ⟨(hO.ln 3 0 38 (regsL R (pc + 4))), (hO.ln 2 0 56 [i64 0, i64 0, i64 0, i64 0, i64 0, i64 0, i64 0]), trivial⟩ ?_
    have hF := hO.only; clear hA hO
    exact ⟨by simp_all [pack, execV, outV, noTrap, trapL, insV], hF⟩

theorem rexec_20 (R : Nat → Int) (pc ld a b c v : Int) (sl : Value) (w : World) (hT : Tab w) (hR : RegsOk R) (hp : -1099511627776 < pc) (hp' : pc < 1099511627776) (ha : 0 ≤ a) (ha' : a ≤ 15) (hb : 0 ≤ b) (hb' : b ≤ 15) (hc : -128 ≤ c) (hc' : c ≤ 127) (hv : -32768 ≤ v) (hv' : v ≤ 32767) (hdec : ∀ w', Only none' w w' → Calls Tryd.prog 14 #[sl] w' fun e w2 => e = .returned (.tuple #[insV 20 a b c v, .int .i64 0]) ∧ Only none' w' w2) :
    Calls Tryd.prog 23 #[.agg (List.toArray (regsL R pc)), sl, i64 ld] w fun e w' => e = .returned (execV R pc ld 20 a b c v) ∧ Only none' w w' := by
  refine c_enter (args := [.agg (List.toArray (regsL R pc)), sl, i64 ld]) (m := 226) (n := 229) Tryd.func23 rfl (by kernel_rfl) (by kernel_rfl) fun fr hA => ?_
  have hO := Ow.nil Tryd.prog none' w
  have hRa := hR a.toNat; have hRb := hR b.toNat; have hRc := hR c.toNat; simp only [inK] at hRa hRb hRc
  skip
  refine sR (l := [0, 1, 2, 3]) ?_
  refine wpOps_cons' (mN (l := (regsL R pc)) (t := 38) (v := pt) (d := 3) hA hO ?_)
  clear hA hO fr; intro fr w1 b1 hA hO
  replace hA := hA.sb (e' := [(1, sl), (2, i64 ld), (3, pt b1)])
  refine wpOps_cons' (mN (l := [i32 0, i32 0, i32 0, i32 0, i32 0, i32 0, i32 0, i32 0, i32 0, i32 0, i32 0, i32 0, i32 0, i32 0, i32 0, i32 0, i64 0]) (t := 38) (v := pt) (d := 6) hA hO ?_)
  clear hA hO fr; intro fr w2 b2 hA hO
  refine ck (l := [2]) (r := [3]) (e' := [(1, sl), (2, i64 ld), (3, pt b1), (6, pt b2), (7, i64 0)]) hA [] c0 ?_
  clear hA fr; intro fr hA
  refine wpOps_cons' (mN (l := [i64 0, i64 0, i64 0, i64 0, i64 0, i64 0, i64 0]) (t := 56) (v := pt) (d := 8) hA hO ?_)
  clear hA hO fr; intro fr w3 b3 hA hO
  refine end_ops ?_
  refine then_normal ?_
  refine sR (l := (rg 0 8)) ?_
  refine ck (l := [0]) (r := (rg 1 7)) (e' := [(2, i64 ld), (3, pt b1), (6, pt b2), (7, i64 0), (8, pt b3), (15, sl)]) hA [] c0 ?_
  clear hA fr; intro fr hA
  refine wpOps_cons' (mK (f := 14) (args := [sl]) (d := (some 16)) (v := .tuple #[.agg #[i64 20, i64 a, i64 b, i64 c, i64 v], i64 0]) hA hO Tryd.func14 (hdec _ hO.only) ?_)
  clear hA hO fr; intro fr w4 hA hO
  replace hA := hA.sb (e' := [(2, i64 ld), (3, pt b1), (6, pt b2), (7, i64 0), (8, pt b3), (16, .tuple #[.agg #[i64 20, i64 a, i64 b, i64 c, i64 v], i64 0])])
  refine ck (l := [2, 3, 4]) (r := [5, 6, 7]) (e' := [(2, i64 ld), (3, pt b1), (6, pt b2), (7, i64 0), (8, pt b3), (17, .agg #[i64 20, i64 a, i64 b, i64 c, i64 v]), (18, i64 0)]) hA [] c0 ?_
  clear hA fr; intro fr hA
  refine wpOps_cons' (mN (l := [i64 0, i64 0, i64 0, i64 0, i64 0]) (t := 29) (v := pt) (d := 9) hA hO ?_)
  clear hA hO fr; intro fr w5 b4 hA hO
  refine wpOps_cons' (mS (off := 0) (vc := [i64 20, i64 a, i64 b, i64 c, i64 v]) 0 hA hO ?_)
  clear hO; intro w6 hO
  replace hA := hA.sb (e' := [(2, i64 ld), (3, pt b1), (6, pt b2), (7, i64 0), (8, pt b3), (9, pt b4), (18, i64 0)])
  refine ck (l := [7]) (r := []) (e' := [(2, i64 ld), (3, pt b1), (6, pt b2), (7, i64 0), (8, pt b3), (9, pt b4), (10, i64 0)]) hA [] c0 ?_
  clear hA fr; intro fr hA
  refine end_ops ?_
  refine then_normal ?_
  refine wp_seq ?_
  refine sC (e' := [(2, i64 ld), (3, pt b1), (6, pt b2), (7, i64 0), (8, pt b3), (9, pt b4), (20, bl false)]) 2 hA [] c0 ?_
  clear hA fr; intro fr hA
  refine cF hA ?_
  refine wp_skip ?_
  refine then_normal ?_
  refine wp_seq ?_
  have hS := hO
  refine rP [(0, true), (1, true), (2, true), (3, true), (4, true), (5, true), (6, true), (7, true), (8, true), (9, true), (10, true), (11, true), (12, true), (13, true)] hS ?_
  intro w7 ho; replace hO := hO.st ho; clear ho
  refine ckS (l := (rg 0 14)) (r := []) (e' := [(2, i64 ld), (3, pt b1), (6, pt b2), (7, i64 0), (8, pt b3), (9, pt b4), (11, i64 (R ((a).toNat))), (12, i64 (R ((b).toNat)))]) hA [i64 a, i32 (R ((a).toNat)), bl true, i64 b, i32 (R ((b).toNat)), bl true] (cc (hS.s1 0 1 3 (i64 a)) (cc (⟨by omega, by omega⟩ : (0 : Int) ≤ a ∧ a < ((16 : Nat) : Int)) (cc (hS.sx ((⟨b1, 0, none⟩ : Addr).add ((a).toNat)) 21 (i32 (R ((a).toNat))) fun _ hO => (ld_regs (hO.b 3) (by omega) (by kernel_rfl))) (cc ((inK_up (by kernel_rfl) (hR _)) : inK .i64 (R ((a).toNat))) (cc (hS.s1 0 2 3 (i64 b)) (cc (⟨by omega, by omega⟩ : (0 : Int) ≤ b ∧ b < ((16 : Nat) : Int)) (cc (hS.sx ((⟨b1, 0, none⟩ : Addr).add ((b).toNat)) 21 (i32 (R ((b).toNat))) fun _ hO => (ld_regs (hO.b 3) (by omega) (by kernel_rfl))) (cc ((inK_up (by kernel_rfl) (hR _)) : inK .i64 (R ((b).toNat))) c0)))))))) ?_
  clear hA fr; intro fr hA
  refine end_plan ?_
  refine then_normal ?_
  refine sR (l := [0, 1, 2]) ?_
  refine ck (l := [0]) (r := [1, 2]) (e' := [(2, i64 ld), (3, pt b1), (6, pt b2), (7, i64 0), (8, pt b3), (9, pt b4), (11, i64 (R ((a).toNat))), (12, i64 (R ((b).toNat))), (35, .agg (List.toArray (regsL R pc)))]) hA [.agg (List.toArray (regsL R pc))] (cc (hO.ln 3 0 38 (regsL R pc)) c0) ?_
  clear hA fr; intro fr hA
  refine wpOps_cons' (mN (l := [i32 0, i32 0, i32 0, i32 0, i32 0, i32 0, i32 0, i32 0, i32 0, i32 0, i32 0, i32 0, i32 0, i32 0, i32 0, i32 0, i64 0]) (t := 38) (v := pt) (d := 13) hA hO ?_)
  clear hA hO fr; intro fr w8 b5 hA hO
  refine wpOps_cons' (mS (off := 0) (vc := (regsL R pc)) 0 hA hO ?_)
  clear hO; intro w9 hO
  replace hA := hA.sb (e' := [(2, i64 ld), (3, pt b1), (6, pt b2), (7, i64 0), (8, pt b3), (9, pt b4), (11, i64 (R ((a).toNat))), (12, i64 (R ((b).toNat))), (13, pt b5)])
  refine end_ops ?_
  refine then_normal ?_
  refine sR (l := (rg 0 5)) ?_
  refine ck (l := [0, 1, 2, 3]) (r := [4]) (e' := [(2, i64 ld), (3, pt b1), (6, pt b2), (7, i64 0), (8, pt b3), (9, pt b4), (11, i64 (R ((a).toNat))), (12, i64 (R ((b).toNat))), (13, pt b5), (38, i64 (pc + 4)), (39, pf b5 16)]) hA [i64 pc, bl true] (cc (hO.l1 0 16 3 (i64 pc)) (cc ((inK_i64 (by omega) (by omega)) : inK .i64 (pc + 4)) c0)) ?_
  clear hA fr; intro fr hA
  refine wpOps_cons' (mSR (off := 16) (ad := ⟨b5, 16, none⟩) (vc := [i64 (pc + 4)]) (l' := (regsL R (pc + 4))) 0 hA hO rfl (by kernel_rfl) (by kernel_rfl) ?_)
  clear hO; intro w10 hO
  replace hA := hA.sb (e' := [(2, i64 ld), (3, pt b1), (6, pt b2), (7, i64 0), (8, pt b3), (9, pt b4), (11, i64 (R ((a).toNat))), (12, i64 (R ((b).toNat))), (13, pt b5)])
  refine end_ops ?_
  refine then_normal ?_
  refine wp_seq ?_
  refine sC (e' := [(2, i64 ld), (3, pt b1), (6, pt b2), (7, i64 0), (8, pt b3), (9, pt b4), (11, i64 (R ((a).toNat))), (12, i64 (R ((b).toNat))), (13, pt b5), (41, i64 20)]) 2 hA [i64 20] (cc (hO.l1 1 0 3 (i64 20)) c0) ?_
  clear hA fr; intro fr hA
  refine wp_block ?_
  refine sC (e' := [(2, i64 ld), (3, pt b1), (6, pt b2), (7, i64 0), (8, pt b3), (9, pt b4), (11, i64 (R ((a).toNat))), (12, i64 (R ((b).toNat))), (13, pt b5), (41, i64 20), (57, bl false)]) 2 hA [] c0 ?_
  clear hA fr; intro fr hA
  refine cF hA ?_
  refine sC (e' := [(2, i64 ld), (3, pt b1), (6, pt b2), (7, i64 0), (8, pt b3), (9, pt b4), (11, i64 (R ((a).toNat))), (12, i64 (R ((b).toNat))), (13, pt b5), (41, i64 20), (66, bl false)]) 2 hA [] c0 ?_
  clear hA fr; intro fr hA
  refine cF hA ?_
  refine sC (e' := [(2, i64 ld), (3, pt b1), (6, pt b2), (7, i64 0), (8, pt b3), (9, pt b4), (11, i64 (R ((a).toNat))), (12, i64 (R ((b).toNat))), (13, pt b5), (41, i64 20), (78, bl false)]) 2 hA [] c0 ?_
  clear hA fr; intro fr hA
  refine cF hA ?_
  refine wp_seq ?_
  refine sC (e' := [(2, i64 ld), (3, pt b1), (6, pt b2), (7, i64 0), (8, pt b3), (9, pt b4), (11, i64 (R ((a).toNat))), (12, i64 (R ((b).toNat))), (13, pt b5), (41, i64 20), (89, bl false)]) 2 hA [] c0 ?_
  clear hA fr; intro fr hA
  refine cF hA ?_
  refine rC (e' := [(2, i64 ld), (3, pt b1), (6, pt b2), (7, i64 0), (8, pt b3), (9, pt b4), (11, i64 (R ((a).toNat))), (12, i64 (R ((b).toNat))), (13, pt b5), (41, i64 20), (89, bl false)]) 2 hA [] c0 ?_
  clear hA fr; intro fr hA
  refine then_normal ?_
  refine cF hA ?_
  refine wp_seq ?_
  refine sC (e' := [(2, i64 ld), (3, pt b1), (6, pt b2), (7, i64 0), (8, pt b3), (9, pt b4), (11, i64 (R ((a).toNat))), (12, i64 (R ((b).toNat))), (13, pt b5), (41, i64 20), (115, bl false)]) 2 hA [] c0 ?_
  clear hA fr; intro fr hA
  refine cF hA ?_
  refine rC (e' := [(2, i64 ld), (3, pt b1), (6, pt b2), (7, i64 0), (8, pt b3), (9, pt b4), (11, i64 (R ((a).toNat))), (12, i64 (R ((b).toNat))), (13, pt b5), (41, i64 20), (115, bl false)]) 2 hA [] c0 ?_
  clear hA fr; intro fr hA
  refine then_normal ?_
  refine cF hA ?_
  refine sC (e' := [(2, i64 ld), (3, pt b1), (6, pt b2), (7, i64 0), (8, pt b3), (9, pt b4), (11, i64 (R ((a).toNat))), (12, i64 (R ((b).toNat))), (13, pt b5), (41, i64 20), (138, bl false)]) 2 hA [] c0 ?_
  clear hA fr; intro fr hA
  refine cF hA ?_
  refine sC (e' := [(3, pt b1), (6, pt b2), (7, i64 0), (8, pt b3), (9, pt b4), (11, i64 (R ((a).toNat))), (12, i64 (R ((b).toNat))), (13, pt b5), (41, i64 20), (149, bl false)]) 2 hA [] c0 ?_
  clear hA fr; intro fr hA
  refine cF hA ?_
  refine sC (e' := [(3, pt b1), (6, pt b2), (7, i64 0), (8, pt b3), (9, pt b4), (11, i64 (R ((a).toNat))), (12, i64 (R ((b).toNat))), (13, pt b5), (41, i64 20), (157, bl false)]) 2 hA [] c0 ?_
  clear hA fr; intro fr hA
  refine cF hA ?_
  refine sC (e' := [(3, pt b1), (6, pt b2), (7, i64 0), (8, pt b3), (9, pt b4), (11, i64 (R ((a).toNat))), (12, i64 (R ((b).toNat))), (13, pt b5), (41, i64 20), (166, bl false)]) 2 hA [] c0 ?_
  clear hA fr; intro fr hA
  refine cF hA ?_
  refine sC (e' := [(3, pt b1), (6, pt b2), (7, i64 0), (8, pt b3), (9, pt b4), (11, i64 (R ((a).toNat))), (12, i64 (R ((b).toNat))), (13, pt b5), (41, i64 20), (177, bl true)]) 2 hA [] c0 ?_
  clear hA fr; intro fr hA
  refine cT hA ?_
  refine wp_seq ?_
  have hS : Ow Tryd.prog none' w _ [(b4, 29, [i64 20, i64 a, i64 b, i64 c, i64 v]), (b3, 56, [i64 0, i64 0, i64 0, i64 0, i64 0, i64 0, i64 0]), (b2, 38, [i32 0, i32 0, i32 0, i32 0, i32 0, i32 0, i32 0, i32 0, i32 0, i32 0, i32 0, i32 0, i32 0, i32 0, i32 0, i32 0, i64 0]), (b1, 38, (regsL R pc))] := hO.sub [1, 2, 3, 4]
  refine rP [(0, true), (1, true), (2, true), (3, true), (4, true), (6, true), (5, false), (7, true), (8, false)] hS ?_
  intro w11 ho; replace hO := hO.st ho; clear ho
  refine ckS (l := [0, 1, 2, 3, 4, 6]) (r := [(5, false), (7, true), (8, false)]) (e' := [(6, pt b2), (7, i64 0), (8, pt b3), (9, pt b4), (13, pt b5), (180, i64 a), (183, i64 (pc + 4)), (185, pt b5)]) hA [i64 a, i64 pc, bl true] (cc (hS.s1 0 1 3 (i64 a)) (cc (hS.s1 3 16 3 (i64 pc)) (cc ((inK_i64 (by omega) (by omega)) : inK .i64 (pc + 4)) c0))) ?_
  clear hA fr; intro fr hA
  refine plan_mem (mK (f := 38) (args := [i64 (pc + 4)]) (d := (some 184)) (v := i32 (IntKind.i32.wrap (pc + 4))) hA hO Tryd.func38 (word_any (pc + 4) _) ?_)
  clear hA hO fr; intro fr w12 hA hO
  refine ⟨(hO.sub [1, 2, 3, 4]), ?_⟩
  replace hA := hA.sb (e' := [(6, pt b2), (7, i64 0), (8, pt b3), (9, pt b4), (13, pt b5), (180, i64 a), (184, i32 (IntKind.i32.wrap (pc + 4))), (185, pt b5)])
  refine ckS (l := [7]) (r := [(8, false)]) (e' := [(6, pt b2), (7, i64 0), (8, pt b3), (9, pt b4), (13, pt b5), (184, i32 (IntKind.i32.wrap (pc + 4))), (186, .pointer (some ((⟨b5, 0, none⟩ : Addr).add ((a).toNat))))]) hA [] (cc (⟨by omega, by omega⟩ : (0 : Int) ≤ a ∧ a < ((16 : Nat) : Int)) c0) ?_
  clear hA fr; intro fr hA
  refine plan_mem (mSR (off := (a).toNat) (ad := (⟨b5, 0, none⟩ : Addr).add ((a).toNat)) (vc := [i32 (IntKind.i32.wrap (pc + 4))]) (l' := (regsL (upd R ((a).toNat) (IntKind.i32.wrap (pc + 4))) (pc + 4))) 0 hA hO (add_zero_off _ _) (regs_ble R (pc + 4) (by omega)) (setL_regs (by omega) _) ?_)
  clear hO; intro w13 hO
  refine ⟨(hO.sub [1, 2, 3, 4]), ?_⟩
  replace hA := hA.sb (e' := [(6, pt b2), (7, i64 0), (8, pt b3), (9, pt b4), (13, pt b5)])
  refine end_plan ?_
  refine then_normal ?_
  refine rR (l := (rg 0 8)) ?_
  refine ck (l := (rg 0 7)) (r := [7]) (e' := [(6, pt b2), (7, i64 0), (8, pt b3), (13, pt b5), (192, i64 ((pc + 4) + (4 * v))), (193, pf b5 16)]) hA [i64 (pc + 4), i64 v, bl true, bl true] (cc (hO.l1 0 16 3 (i64 (pc + 4))) (cc (hO.l1 1 4 3 (i64 v)) (cc ((inK_i64 (by omega) (by omega)) : inK .i64 (4 * v)) (cc ((inK_i64 (by omega) (by omega)) : inK .i64 ((pc + 4) + (4 * v))) c0)))) ?_
  clear hA fr; intro fr hA
  refine wpOps_cons' (mSR (off := 16) (ad := ⟨b5, 16, none⟩) (vc := [i64 ((pc + 4) + (4 * v))]) (l' := (regsL (upd R ((a).toNat) (IntKind.i32.wrap (pc + 4))) ((pc + 4) + (4 * v)))) 0 hA hO rfl (by kernel_rfl) (by kernel_rfl) ?_)
  clear hO; intro w14 hO
  replace hA := hA.sb (e' := [(6, pt b2), (7, i64 0), (8, pt b3), (13, pt b5)])
  refine end_ops ?_
  refine inBlock_normal ?_
  refine then_normal ?_
  refine sR (l := (rg 0 5)) ?_
  refine ck (l := [0, 1]) (r := [2, 3, 4]) (e' := [(6, pt b2), (7, i64 0), (8, pt b3), (227, .agg (List.toArray (regsL (upd R ((a).toNat) (IntKind.i32.wrap (pc + 4))) ((pc + 4) + (4 * v))))), (228, .agg #[i64 0, i64 0, i64 0, i64 0, i64 0, i64 0, i64 0])]) hA [.agg (List.toArray (regsL (upd R ((a).toNat) (IntKind.i32.wrap (pc + 4))) ((pc + 4) + (4 * v))))] (cc (hO.ln 0 0 38 (regsL (upd R ((a).toNat) (IntKind.i32.wrap (pc + 4))) ((pc + 4) + (4 * v)))) c0) ?_
  clear hA fr; intro fr hA
  refine wpOps_cons' (mS (off := 0) (vc := (regsL (upd R ((a).toNat) (IntKind.i32.wrap (pc + 4))) ((pc + 4) + (4 * v)))) 3 hA hO ?_)
  clear hO; intro w15 hO
  replace hA := hA.sb (e' := [(6, pt b2), (7, i64 0), (8, pt b3), (228, .agg #[i64 0, i64 0, i64 0, i64 0, i64 0, i64 0, i64 0])])
  refine ck (l := [3]) (r := [4]) (e' := [(6, pt b2), (7, i64 0), (8, pt b3), (228, .agg #[i64 0, i64 0, i64 0, i64 0, i64 0, i64 0, i64 0])]) hA [] c0 ?_
  clear hA fr; intro fr hA
  refine wpOps_cons' (mS (off := 0) (vc := [i64 0, i64 0, i64 0, i64 0, i64 0, i64 0, i64 0]) 2 hA hO ?_)
  clear hO; intro w16 hO
  replace hA := hA.sb (e' := [(6, pt b2), (7, i64 0), (8, pt b3)])
  refine end_ops ?_
  refine then_normal ?_
  refine wp_ret ?_
  refine cR (cs := [some (⟨b2, 0, none⟩, 38), none, some (⟨b3, 0, none⟩, 56)]) (us := [.agg (List.toArray (regsL (upd R ((a).toNat) (IntKind.i32.wrap (pc + 4))) ((pc + 4) + (4 * v)))), i64 0, .agg #[i64 0, i64 0, i64 0, i64 0, i64 0, i64 0, i64 0]]) hA [.agg (List.toArray (regsL (upd R ((a).toNat) (IntKind.i32.wrap (pc + 4))) ((pc + 4) + (4 * v)))), .agg #[i64 0, i64 0, i64 0, i64 0, i64 0, i64 0, i64 0]] ⟨(hO.ln 3 0 38 (regsL (upd R ((a).toNat) (IntKind.i32.wrap (pc + 4))) ((pc + 4) + (4 * v)))), (hO.ln 2 0 56 [i64 0, i64 0, i64 0, i64 0, i64 0, i64 0, i64 0]), trivial⟩ ?_
  have hF := hO.only; clear hA hO
  exact ⟨by simp_all [pack, execV, outV, noTrap, trapL, insV], hF⟩

theorem rexec_21 (R : Nat → Int) (pc ld a b c v : Int) (sl : Value) (w : World) (hT : Tab w) (hR : RegsOk R) (hp : -1099511627776 < pc) (hp' : pc < 1099511627776) (ha : 0 ≤ a) (ha' : a ≤ 15) (hb : 0 ≤ b) (hb' : b ≤ 15) (hc : -128 ≤ c) (hc' : c ≤ 127) (hv : -32768 ≤ v) (hv' : v ≤ 32767) (hdec : ∀ w', Only none' w w' → Calls Tryd.prog 14 #[sl] w' fun e w2 => e = .returned (.tuple #[insV 21 a b c v, .int .i64 0]) ∧ Only none' w' w2) :
    Calls Tryd.prog 23 #[.agg (List.toArray (regsL R pc)), sl, i64 ld] w fun e w' => e = .returned (execV R pc ld 21 a b c v) ∧ Only none' w w' := by
  refine c_enter (args := [.agg (List.toArray (regsL R pc)), sl, i64 ld]) (m := 226) (n := 229) Tryd.func23 rfl (by kernel_rfl) (by kernel_rfl) fun fr hA => ?_
  have hO := Ow.nil Tryd.prog none' w
  have hRa := hR a.toNat; have hRb := hR b.toNat; have hRc := hR c.toNat; simp only [inK] at hRa hRb hRc
  skip
  refine sR (l := [0, 1, 2, 3]) ?_
  refine wpOps_cons' (mN (l := (regsL R pc)) (t := 38) (v := pt) (d := 3) hA hO ?_)
  clear hA hO fr; intro fr w1 b1 hA hO
  replace hA := hA.sb (e' := [(1, sl), (2, i64 ld), (3, pt b1)])
  refine wpOps_cons' (mN (l := [i32 0, i32 0, i32 0, i32 0, i32 0, i32 0, i32 0, i32 0, i32 0, i32 0, i32 0, i32 0, i32 0, i32 0, i32 0, i32 0, i64 0]) (t := 38) (v := pt) (d := 6) hA hO ?_)
  clear hA hO fr; intro fr w2 b2 hA hO
  refine ck (l := [2]) (r := [3]) (e' := [(1, sl), (2, i64 ld), (3, pt b1), (6, pt b2), (7, i64 0)]) hA [] c0 ?_
  clear hA fr; intro fr hA
  refine wpOps_cons' (mN (l := [i64 0, i64 0, i64 0, i64 0, i64 0, i64 0, i64 0]) (t := 56) (v := pt) (d := 8) hA hO ?_)
  clear hA hO fr; intro fr w3 b3 hA hO
  refine end_ops ?_
  refine then_normal ?_
  refine sR (l := (rg 0 8)) ?_
  refine ck (l := [0]) (r := (rg 1 7)) (e' := [(2, i64 ld), (3, pt b1), (6, pt b2), (7, i64 0), (8, pt b3), (15, sl)]) hA [] c0 ?_
  clear hA fr; intro fr hA
  refine wpOps_cons' (mK (f := 14) (args := [sl]) (d := (some 16)) (v := .tuple #[.agg #[i64 21, i64 a, i64 b, i64 c, i64 v], i64 0]) hA hO Tryd.func14 (hdec _ hO.only) ?_)
  clear hA hO fr; intro fr w4 hA hO
  replace hA := hA.sb (e' := [(2, i64 ld), (3, pt b1), (6, pt b2), (7, i64 0), (8, pt b3), (16, .tuple #[.agg #[i64 21, i64 a, i64 b, i64 c, i64 v], i64 0])])
  refine ck (l := [2, 3, 4]) (r := [5, 6, 7]) (e' := [(2, i64 ld), (3, pt b1), (6, pt b2), (7, i64 0), (8, pt b3), (17, .agg #[i64 21, i64 a, i64 b, i64 c, i64 v]), (18, i64 0)]) hA [] c0 ?_
  clear hA fr; intro fr hA
  refine wpOps_cons' (mN (l := [i64 0, i64 0, i64 0, i64 0, i64 0]) (t := 29) (v := pt) (d := 9) hA hO ?_)
  clear hA hO fr; intro fr w5 b4 hA hO
  refine wpOps_cons' (mS (off := 0) (vc := [i64 21, i64 a, i64 b, i64 c, i64 v]) 0 hA hO ?_)
  clear hO; intro w6 hO
  replace hA := hA.sb (e' := [(2, i64 ld), (3, pt b1), (6, pt b2), (7, i64 0), (8, pt b3), (9, pt b4), (18, i64 0)])
  refine ck (l := [7]) (r := []) (e' := [(2, i64 ld), (3, pt b1), (6, pt b2), (7, i64 0), (8, pt b3), (9, pt b4), (10, i64 0)]) hA [] c0 ?_
  clear hA fr; intro fr hA
  refine end_ops ?_
  refine then_normal ?_
  refine wp_seq ?_
  refine sC (e' := [(2, i64 ld), (3, pt b1), (6, pt b2), (7, i64 0), (8, pt b3), (9, pt b4), (20, bl false)]) 2 hA [] c0 ?_
  clear hA fr; intro fr hA
  refine cF hA ?_
  refine wp_skip ?_
  refine then_normal ?_
  refine wp_seq ?_
  have hS := hO
  refine rP [(0, true), (1, true), (2, true), (3, true), (4, true), (5, true), (6, true), (7, true), (8, true), (9, true), (10, true), (11, true), (12, true), (13, true)] hS ?_
  intro w7 ho; replace hO := hO.st ho; clear ho
  refine ckS (l := (rg 0 14)) (r := []) (e' := [(2, i64 ld), (3, pt b1), (6, pt b2), (7, i64 0), (8, pt b3), (9, pt b4), (11, i64 (R ((a).toNat))), (12, i64 (R ((b).toNat)))]) hA [i64 a, i32 (R ((a).toNat)), bl true, i64 b, i32 (R ((b).toNat)), bl true] (cc (hS.s1 0 1 3 (i64 a)) (cc (⟨by omega, by omega⟩ : (0 : Int) ≤ a ∧ a < ((16 : Nat) : Int)) (cc (hS.sx ((⟨b1, 0, none⟩ : Addr).add ((a).toNat)) 21 (i32 (R ((a).toNat))) fun _ hO => (ld_regs (hO.b 3) (by omega) (by kernel_rfl))) (cc ((inK_up (by kernel_rfl) (hR _)) : inK .i64 (R ((a).toNat))) (cc (hS.s1 0 2 3 (i64 b)) (cc (⟨by omega, by omega⟩ : (0 : Int) ≤ b ∧ b < ((16 : Nat) : Int)) (cc (hS.sx ((⟨b1, 0, none⟩ : Addr).add ((b).toNat)) 21 (i32 (R ((b).toNat))) fun _ hO => (ld_regs (hO.b 3) (by omega) (by kernel_rfl))) (cc ((inK_up (by kernel_rfl) (hR _)) : inK .i64 (R ((b).toNat))) c0)))))))) ?_
  clear hA fr; intro fr hA
  refine end_plan ?_
  refine then_normal ?_
  refine sR (l := [0, 1, 2]) ?_
  refine ck (l := [0]) (r := [1, 2]) (e' := [(2, i64 ld), (3, pt b1), (6, pt b2), (7, i64 0), (8, pt b3), (9, pt b4), (11, i64 (R ((a).toNat))), (12, i64 (R ((b).toNat))), (35, .agg (List.toArray (regsL R pc)))]) hA [.agg (List.toArray (regsL R pc))] (cc (hO.ln 3 0 38 (regsL R pc)) c0) ?_
  clear hA fr; intro fr hA
  refine wpOps_cons' (mN (l := [i32 0, i32 0, i32 0, i32 0, i32 0, i32 0, i32 0, i32 0, i32 0, i32 0, i32 0, i32 0, i32 0, i32 0, i32 0, i32 0, i64 0]) (t := 38) (v := pt) (d := 13) hA hO ?_)
  clear hA hO fr; intro fr w8 b5 hA hO
  refine wpOps_cons' (mS (off := 0) (vc := (regsL R pc)) 0 hA hO ?_)
  clear hO; intro w9 hO
  replace hA := hA.sb (e' := [(2, i64 ld), (3, pt b1), (6, pt b2), (7, i64 0), (8, pt b3), (9, pt b4), (11, i64 (R ((a).toNat))), (12, i64 (R ((b).toNat))), (13, pt b5)])
  refine end_ops ?_
  refine then_normal ?_
  refine sR (l := (rg 0 5)) ?_
  refine ck (l := [0, 1, 2, 3]) (r := [4]) (e' := [(2, i64 ld), (3, pt b1), (6, pt b2), (7, i64 0), (8, pt b3), (9, pt b4), (11, i64 (R ((a).toNat))), (12, i64 (R ((b).toNat))), (13, pt b5), (38, i64 (pc + 4)), (39, pf b5 16)]) hA [i64 pc, bl true] (cc (hO.l1 0 16 3 (i64 pc)) (cc ((inK_i64 (by omega) (by omega)) : inK .i64 (pc + 4)) c0)) ?_
  clear hA fr; intro fr hA
  refine wpOps_cons' (mSR (off := 16) (ad := ⟨b5, 16, none⟩) (vc := [i64 (pc + 4)]) (l' := (regsL R (pc + 4))) 0 hA hO rfl (by kernel_rfl) (by kernel_rfl) ?_)
  clear hO; intro w10 hO
  replace hA := hA.sb (e' := [(2, i64 ld), (3, pt b1), (6, pt b2), (7, i64 0), (8, pt b3), (9, pt b4), (11, i64 (R ((a).toNat))), (12, i64 (R ((b).toNat))), (13, pt b5)])
  refine end_ops ?_
  refine then_normal ?_
  refine wp_seq ?_
  refine sC (e' := [(2, i64 ld), (3, pt b1), (6, pt b2), (7, i64 0), (8, pt b3), (9, pt b4), (11, i64 (R ((a).toNat))), (12, i64 (R ((b).toNat))), (13, pt b5), (41, i64 21)]) 2 hA [i64 21] (cc (hO.l1 1 0 3 (i64 21)) c0) ?_
  clear hA fr; intro fr hA
  refine wp_block ?_
  refine sC (e' := [(2, i64 ld), (3, pt b1), (6, pt b2), (7, i64 0), (8, pt b3), (9, pt b4), (11, i64 (R ((a).toNat))), (12, i64 (R ((b).toNat))), (13, pt b5), (41, i64 21), (57, bl false)]) 2 hA [] c0 ?_
  clear hA fr; intro fr hA
  refine cF hA ?_
  refine sC (e' := [(2, i64 ld), (3, pt b1), (6, pt b2), (7, i64 0), (8, pt b3), (9, pt b4), (11, i64 (R ((a).toNat))), (12, i64 (R ((b).toNat))), (13, pt b5), (41, i64 21), (66, bl false)]) 2 hA [] c0 ?_
  clear hA fr; intro fr hA
  refine cF hA ?_
  refine sC (e' := [(2, i64 ld), (3, pt b1), (6, pt b2), (7, i64 0), (8, pt b3), (9, pt b4), (11, i64 (R ((a).toNat))), (12, i64 (R ((b).toNat))), (13, pt b5), (41, i64 21), (78, bl false)]) 2 hA [] c0 ?_
  clear hA fr; intro fr hA
  refine cF hA ?_
  refine wp_seq ?_
  refine sC (e' := [(2, i64 ld), (3, pt b1), (6, pt b2), (7, i64 0), (8, pt b3), (9, pt b4), (11, i64 (R ((a).toNat))), (12, i64 (R ((b).toNat))), (13, pt b5), (41, i64 21), (89, bl false)]) 2 hA [] c0 ?_
  clear hA fr; intro fr hA
  refine cF hA ?_
  refine rC (e' := [(2, i64 ld), (3, pt b1), (6, pt b2), (7, i64 0), (8, pt b3), (9, pt b4), (11, i64 (R ((a).toNat))), (12, i64 (R ((b).toNat))), (13, pt b5), (41, i64 21), (89, bl false)]) 2 hA [] c0 ?_
  clear hA fr; intro fr hA
  refine then_normal ?_
  refine cF hA ?_
  refine wp_seq ?_
  refine sC (e' := [(2, i64 ld), (3, pt b1), (6, pt b2), (7, i64 0), (8, pt b3), (9, pt b4), (11, i64 (R ((a).toNat))), (12, i64 (R ((b).toNat))), (13, pt b5), (41, i64 21), (115, bl false)]) 2 hA [] c0 ?_
  clear hA fr; intro fr hA
  refine cF hA ?_
  refine rC (e' := [(2, i64 ld), (3, pt b1), (6, pt b2), (7, i64 0), (8, pt b3), (9, pt b4), (11, i64 (R ((a).toNat))), (12, i64 (R ((b).toNat))), (13, pt b5), (41, i64 21), (115, bl false)]) 2 hA [] c0 ?_
  clear hA fr; intro fr hA
  refine then_normal ?_
  refine cF hA ?_
  refine sC (e' := [(2, i64 ld), (3, pt b1), (6, pt b2), (7, i64 0), (8, pt b3), (9, pt b4), (11, i64 (R ((a).toNat))), (12, i64 (R ((b).toNat))), (13, pt b5), (41, i64 21), (138, bl false)]) 2 hA [] c0 ?_
  clear hA fr; intro fr hA
  refine cF hA ?_
  refine sC (e' := [(3, pt b1), (6, pt b2), (7, i64 0), (8, pt b3), (9, pt b4), (11, i64 (R ((a).toNat))), (12, i64 (R ((b).toNat))), (13, pt b5), (41, i64 21), (149, bl false)]) 2 hA [] c0 ?_
  clear hA fr; intro fr hA
  refine cF hA ?_
  refine sC (e' := [(3, pt b1), (6, pt b2), (7, i64 0), (8, pt b3), (9, pt b4), (11, i64 (R ((a).toNat))), (12, i64 (R ((b).toNat))), (13, pt b5), (41, i64 21), (157, bl false)]) 2 hA [] c0 ?_
  clear hA fr; intro fr hA
  refine cF hA ?_
  refine sC (e' := [(3, pt b1), (6, pt b2), (7, i64 0), (8, pt b3), (9, pt b4), (11, i64 (R ((a).toNat))), (12, i64 (R ((b).toNat))), (13, pt b5), (41, i64 21), (166, bl false)]) 2 hA [] c0 ?_
  clear hA fr; intro fr hA
  refine cF hA ?_
  refine sC (e' := [(3, pt b1), (6, pt b2), (7, i64 0), (8, pt b3), (9, pt b4), (11, i64 (R ((a).toNat))), (12, i64 (R ((b).toNat))), (13, pt b5), (41, i64 21), (177, bl false)]) 2 hA [] c0 ?_
  clear hA fr; intro fr hA
  refine cF hA ?_
  refine sC (e' := [(3, pt b1), (6, pt b2), (7, i64 0), (8, pt b3), (9, pt b4), (11, i64 (R ((a).toNat))), (12, i64 (R ((b).toNat))), (13, pt b5), (41, i64 21), (194, bl true)]) 2 hA [] c0 ?_
  clear hA fr; intro fr hA
  refine cT hA ?_
  refine rR (l := [0, 1, 2]) ?_
  refine ck (l := [0, 1]) (r := [2]) (e' := [(6, pt b2), (7, i64 0), (8, pt b3), (13, pt b5), (196, i64 (R ((a).toNat))), (197, pf b5 16)]) hA [] c0 ?_
  clear hA fr; intro fr hA
  refine wpOps_cons' (mSR (off := 16) (ad := ⟨b5, 16, none⟩) (vc := [i64 (R ((a).toNat))]) (l' := (regsL R (R ((a).toNat)))) 0 hA hO rfl (by kernel_rfl) (by kernel_rfl) ?_)
  clear hO; intro w11 hO
  replace hA := hA.sb (e' := [(6, pt b2), (7, i64 0), (8, pt b3), (13, pt b5)])
  refine end_ops ?_
  refine inBlock_normal ?_
  refine then_normal ?_
  refine sR (l := (rg 0 5)) ?_
  refine ck (l := [0, 1]) (r := [2, 3, 4]) (e' := [(6, pt b2), (7, i64 0), (8, pt b3), (227, .agg (List.toArray (regsL R (R ((a).toNat))))), (228, .agg #[i64 0, i64 0, i64 0, i64 0, i64 0, i64 0, i64 0])]) hA [.agg (List.toArray (regsL R (R ((a).toNat))))] (cc (hO.ln 0 0 38 (regsL R (R ((a).toNat)))) c0) ?_
  clear hA fr; intro fr hA
  refine wpOps_cons' (mS (off := 0) (vc := (regsL R (R ((a).toNat)))) 3 hA hO ?_)
  clear hO; intro w12 hO
  replace hA := hA.sb (e' := [(6, pt b2), (7, i64 0), (8, pt b3), (228, .agg #[i64 0, i64 0, i64 0, i64 0, i64 0, i64 0, i64 0])])
  refine ck (l := [3]) (r := [4]) (e' := [(6, pt b2), (7, i64 0), (8, pt b3), (228, .agg #[i64 0, i64 0, i64 0, i64 0, i64 0, i64 0, i64 0])]) hA [] c0 ?_
  clear hA fr; intro fr hA
  refine wpOps_cons' (mS (off := 0) (vc := [i64 0, i64 0, i64 0, i64 0, i64 0, i64 0, i64 0]) 2 hA hO ?_)
  clear hO; intro w13 hO
  replace hA := hA.sb (e' := [(6, pt b2), (7, i64 0), (8, pt b3)])
  refine end_ops ?_
  refine then_normal ?_
  refine wp_ret ?_
  refine cR (cs := [some (⟨b2, 0, none⟩, 38), none, some (⟨b3, 0, none⟩, 56)]) (us := [.agg (List.toArray (regsL R (R ((a).toNat)))), i64 0, .agg #[i64 0, i64 0, i64 0, i64 0, i64 0, i64 0, i64 0]]) hA [.agg (List.toArray (regsL R (R ((a).toNat)))), .agg #[i64 0, i64 0, i64 0, i64 0, i64 0, i64 0, i64 0]] ⟨(hO.ln 3 0 38 (regsL R (R ((a).toNat)))), (hO.ln 2 0 56 [i64 0, i64 0, i64 0, i64 0, i64 0, i64 0, i64 0]), trivial⟩ ?_
  have hF := hO.only; clear hA hO
  exact ⟨by simp_all [pack, execV, outV, noTrap, trapL, insV], hF⟩

theorem rexec_22 (R : Nat → Int) (pc ld a b c v : Int) (sl : Value) (w : World) (hT : Tab w) (hR : RegsOk R) (hp : -1099511627776 < pc) (hp' : pc < 1099511627776) (ha : 0 ≤ a) (ha' : a ≤ 15) (hb : 0 ≤ b) (hb' : b ≤ 15) (hc : -128 ≤ c) (hc' : c ≤ 127) (hv : -32768 ≤ v) (hv' : v ≤ 32767) (hdec : ∀ w', Only none' w w' → Calls Tryd.prog 14 #[sl] w' fun e w2 => e = .returned (.tuple #[insV 22 a b c v, .int .i64 0]) ∧ Only none' w' w2) :
    Calls Tryd.prog 23 #[.agg (List.toArray (regsL R pc)), sl, i64 ld] w fun e w' => e = .returned (execV R pc ld 22 a b c v) ∧ Only none' w w' := by
  refine c_enter (args := [.agg (List.toArray (regsL R pc)), sl, i64 ld]) (m := 226) (n := 229) Tryd.func23 rfl (by kernel_rfl) (by kernel_rfl) fun fr hA => ?_
  have hO := Ow.nil Tryd.prog none' w
  have hRa := hR a.toNat; have hRb := hR b.toNat; have hRc := hR c.toNat; simp only [inK] at hRa hRb hRc
  skip
  refine sR (l := [0, 1, 2, 3]) ?_
  refine wpOps_cons' (mN (l := (regsL R pc)) (t := 38) (v := pt) (d := 3) hA hO ?_)
  clear hA hO fr; intro fr w1 b1 hA hO
  replace hA := hA.sb (e' := [(1, sl), (2, i64 ld), (3, pt b1)])
  refine wpOps_cons' (mN (l := [i32 0, i32 0, i32 0, i32 0, i32 0, i32 0, i32 0, i32 0, i32 0, i32 0, i32 0, i32 0, i32 0, i32 0, i32 0, i32 0, i64 0]) (t := 38) (v := pt) (d := 6) hA hO ?_)
  clear hA hO fr; intro fr w2 b2 hA hO
  refine ck (l := [2]) (r := [3]) (e' := [(1, sl), (2, i64 ld), (3, pt b1), (6, pt b2), (7, i64 0)]) hA [] c0 ?_
  clear hA fr; intro fr hA
  refine wpOps_cons' (mN (l := [i64 0, i64 0, i64 0, i64 0, i64 0, i64 0, i64 0]) (t := 56) (v := pt) (d := 8) hA hO ?_)
  clear hA hO fr; intro fr w3 b3 hA hO
  refine end_ops ?_
  refine then_normal ?_
  refine sR (l := (rg 0 8)) ?_
  refine ck (l := [0]) (r := (rg 1 7)) (e' := [(2, i64 ld), (3, pt b1), (6, pt b2), (7, i64 0), (8, pt b3), (15, sl)]) hA [] c0 ?_
  clear hA fr; intro fr hA
  refine wpOps_cons' (mK (f := 14) (args := [sl]) (d := (some 16)) (v := .tuple #[.agg #[i64 22, i64 a, i64 b, i64 c, i64 v], i64 0]) hA hO Tryd.func14 (hdec _ hO.only) ?_)
  clear hA hO fr; intro fr w4 hA hO
  replace hA := hA.sb (e' := [(2, i64 ld), (3, pt b1), (6, pt b2), (7, i64 0), (8, pt b3), (16, .tuple #[.agg #[i64 22, i64 a, i64 b, i64 c, i64 v], i64 0])])
  refine ck (l := [2, 3, 4]) (r := [5, 6, 7]) (e' := [(2, i64 ld), (3, pt b1), (6, pt b2), (7, i64 0), (8, pt b3), (17, .agg #[i64 22, i64 a, i64 b, i64 c, i64 v]), (18, i64 0)]) hA [] c0 ?_
  clear hA fr; intro fr hA
  refine wpOps_cons' (mN (l := [i64 0, i64 0, i64 0, i64 0, i64 0]) (t := 29) (v := pt) (d := 9) hA hO ?_)
  clear hA hO fr; intro fr w5 b4 hA hO
  refine wpOps_cons' (mS (off := 0) (vc := [i64 22, i64 a, i64 b, i64 c, i64 v]) 0 hA hO ?_)
  clear hO; intro w6 hO
  replace hA := hA.sb (e' := [(2, i64 ld), (3, pt b1), (6, pt b2), (7, i64 0), (8, pt b3), (9, pt b4), (18, i64 0)])
  refine ck (l := [7]) (r := []) (e' := [(2, i64 ld), (3, pt b1), (6, pt b2), (7, i64 0), (8, pt b3), (9, pt b4), (10, i64 0)]) hA [] c0 ?_
  clear hA fr; intro fr hA
  refine end_ops ?_
  refine then_normal ?_
  refine wp_seq ?_
  refine sC (e' := [(2, i64 ld), (3, pt b1), (6, pt b2), (7, i64 0), (8, pt b3), (9, pt b4), (20, bl false)]) 2 hA [] c0 ?_
  clear hA fr; intro fr hA
  refine cF hA ?_
  refine wp_skip ?_
  refine then_normal ?_
  refine wp_seq ?_
  have hS := hO
  refine rP [(0, true), (1, true), (2, true), (3, true), (4, true), (5, true), (6, true), (7, true), (8, true), (9, true), (10, true), (11, true), (12, true), (13, true)] hS ?_
  intro w7 ho; replace hO := hO.st ho; clear ho
  refine ckS (l := (rg 0 14)) (r := []) (e' := [(2, i64 ld), (3, pt b1), (6, pt b2), (7, i64 0), (8, pt b3), (9, pt b4), (11, i64 (R ((a).toNat))), (12, i64 (R ((b).toNat)))]) hA [i64 a, i32 (R ((a).toNat)), bl true, i64 b, i32 (R ((b).toNat)), bl true] (cc (hS.s1 0 1 3 (i64 a)) (cc (⟨by omega, by omega⟩ : (0 : Int) ≤ a ∧ a < ((16 : Nat) : Int)) (cc (hS.sx ((⟨b1, 0, none⟩ : Addr).add ((a).toNat)) 21 (i32 (R ((a).toNat))) fun _ hO => (ld_regs (hO.b 3) (by omega) (by kernel_rfl))) (cc ((inK_up (by kernel_rfl) (hR _)) : inK .i64 (R ((a).toNat))) (cc (hS.s1 0 2 3 (i64 b)) (cc (⟨by omega, by omega⟩ : (0 : Int) ≤ b ∧ b < ((16 : Nat) : Int)) (cc (hS.sx ((⟨b1, 0, none⟩ : Addr).add ((b).toNat)) 21 (i32 (R ((b).toNat))) fun _ hO => (ld_regs (hO.b 3) (by omega) (by kernel_rfl))) (cc ((inK_up (by kernel_rfl) (hR _)) : inK .i64 (R ((b).toNat))) c0)))))))) ?_
  clear hA fr; intro fr hA
  refine end_plan ?_
  refine then_normal ?_
  refine sR (l := [0, 1, 2]) ?_
  refine ck (l := [0]) (r := [1, 2]) (e' := [(2, i64 ld), (3, pt b1), (6, pt b2), (7, i64 0), (8, pt b3), (9, pt b4), (11, i64 (R ((a).toNat))), (12, i64 (R ((b).toNat))), (35, .agg (List.toArray (regsL R pc)))]) hA [.agg (List.toArray (regsL R pc))] (cc (hO.ln 3 0 38 (regsL R pc)) c0) ?_
  clear hA fr; intro fr hA
  refine wpOps_cons' (mN (l := [i32 0, i32 0, i32 0, i32 0, i32 0, i32 0, i32 0, i32 0, i32 0, i32 0, i32 0, i32 0, i32 0, i32 0, i32 0, i32 0, i64 0]) (t := 38) (v := pt) (d := 13) hA hO ?_)
  clear hA hO fr; intro fr w8 b5 hA hO
  refine wpOps_cons' (mS (off := 0) (vc := (regsL R pc)) 0 hA hO ?_)
  clear hO; intro w9 hO
  replace hA := hA.sb (e' := [(2, i64 ld), (3, pt b1), (6, pt b2), (7, i64 0), (8, pt b3), (9, pt b4), (11, i64 (R ((a).toNat))), (12, i64 (R ((b).toNat))), (13, pt b5)])
  refine end_ops ?_
  refine then_normal ?_
  refine sR (l := (rg 0 5)) ?_
  refine ck (l := [0, 1, 2, 3]) (r := [4]) (e' := [(2, i64 ld), (3, pt b1), (6, pt b2), (7, i64 0), (8, pt b3), (9, pt b4), (11, i64 (R ((a).toNat))), (12, i64 (R ((b).toNat))), (13, pt b5), (38, i64 (pc + 4)), (39, pf b5 16)]) hA [i64 pc, bl true] (cc (hO.l1 0 16 3 (i64 pc)) (cc ((inK_i64 (by omega) (by omega)) : inK .i64 (pc + 4)) c0)) ?_
  clear hA fr; intro fr hA
  refine wpOps_cons' (mSR (off := 16) (ad := ⟨b5, 16, none⟩) (vc := [i64 (pc + 4)]) (l' := (regsL R (pc + 4))) 0 hA hO rfl (by kernel_rfl) (by kernel_rfl) ?_)
  clear hO; intro w10 hO
  replace hA := hA.sb (e' := [(2, i64 ld), (3, pt b1), (6, pt b2), (7, i64 0), (8, pt b3), (9, pt b4), (11, i64 (R ((a).toNat))), (12, i64 (R ((b).toNat))), (13, pt b5)])
  refine end_ops ?_
  refine then_normal ?_
  refine wp_seq ?_
  refine sC (e' := [(2, i64 ld), (3, pt b1), (6, pt b2), (7, i64 0), (8, pt b3), (9, pt b4), (11, i64 (R ((a).toNat))), (12, i64 (R ((b).toNat))), (13, pt b5), (41, i64 22)]) 2 hA [i64 22] (cc (hO.l1 1 0 3 (i64 22)) c0) ?_
  clear hA fr; intro fr hA
  refine wp_block ?_
  refine sC (e' := [(2, i64 ld), (3, pt b1), (6, pt b2), (7, i64 0), (8, pt b3), (9, pt b4), (11, i64 (R ((a).toNat))), (12, i64 (R ((b).toNat))), (13, pt b5), (41, i64 22), (57, bl false)]) 2 hA [] c0 ?_
  clear hA fr; intro fr hA
  refine cF hA ?_
  refine sC (e' := [(2, i64 ld), (3, pt b1), (6, pt b2), (7, i64 0), (8, pt b3), (9, pt b4), (11, i64 (R ((a).toNat))), (12, i64 (R ((b).toNat))), (13, pt b5), (41, i64 22), (66, bl false)]) 2 hA [] c0 ?_
  clear hA fr; intro fr hA
  refine cF hA ?_
  refine sC (e' := [(2, i64 ld), (3, pt b1), (6, pt b2), (7, i64 0), (8, pt b3), (9, pt b4), (11, i64 (R ((a).toNat))), (12, i64 (R ((b).toNat))), (13, pt b5), (41, i64 22), (78, bl false)]) 2 hA [] c0 ?_
  clear hA fr; intro fr hA
  refine cF hA ?_
  refine wp_seq ?_
  refine sC (e' := [(2, i64 ld), (3, pt b1), (6, pt b2), (7, i64 0), (8, pt b3), (9, pt b4), (11, i64 (R ((a).toNat))), (12, i64 (R ((b).toNat))), (13, pt b5), (41, i64 22), (89, bl false)]) 2 hA [] c0 ?_
  clear hA fr; intro fr hA
  refine cF hA ?_
  refine rC (e' := [(2, i64 ld), (3, pt b1), (6, pt b2), (7, i64 0), (8, pt b3), (9, pt b4), (11, i64 (R ((a).toNat))), (12, i64 (R ((b).toNat))), (13, pt b5), (41, i64 22), (89, bl false)]) 2 hA [] c0 ?_
  clear hA fr; intro fr hA
  refine then_normal ?_
  refine cF hA ?_
  refine wp_seq ?_
  refine sC (e' := [(2, i64 ld), (3, pt b1), (6, pt b2), (7, i64 0), (8, pt b3), (9, pt b4), (11, i64 (R ((a).toNat))), (12, i64 (R ((b).toNat))), (13, pt b5), (41, i64 22), (115, bl false)]) 2 hA [] c0 ?_
  clear hA fr; intro fr hA
  refine cF hA ?_
  refine rC (e' := [(2, i64 ld), (3, pt b1), (6, pt b2), (7, i64 0), (8, pt b3), (9, pt b4), (11, i64 (R ((a).toNat))), (12, i64 (R ((b).toNat))), (13, pt b5), (41, i64 22), (115, bl false)]) 2 hA [] c0 ?_
  clear hA fr; intro fr hA
  refine then_normal ?_
  refine cF hA ?_
  refine sC (e' := [(2, i64 ld), (3, pt b1), (6, pt b2), (7, i64 0), (8, pt b3), (9, pt b4), (11, i64 (R ((a).toNat))), (12, i64 (R ((b).toNat))), (13, pt b5), (41, i64 22), (138, bl false)]) 2 hA [] c0 ?_
  clear hA fr; intro fr hA
  refine cF hA ?_
  refine sC (e' := [(3, pt b1), (6, pt b2), (7, i64 0), (8, pt b3), (9, pt b4), (11, i64 (R ((a).toNat))), (12, i64 (R ((b).toNat))), (13, pt b5), (41, i64 22), (149, bl false)]) 2 hA [] c0 ?_
  clear hA fr; intro fr hA
  refine cF hA ?_
  refine sC (e' := [(3, pt b1), (6, pt b2), (7, i64 0), (8, pt b3), (9, pt b4), (11, i64 (R ((a).toNat))), (12, i64 (R ((b).toNat))), (13, pt b5), (41, i64 22), (157, bl false)]) 2 hA [] c0 ?_
  clear hA fr; intro fr hA
  refine cF hA ?_
  refine sC (e' := [(3, pt b1), (6, pt b2), (7, i64 0), (8, pt b3), (9, pt b4), (11, i64 (R ((a).toNat))), (12, i64 (R ((b).toNat))), (13, pt b5), (41, i64 22), (166, bl false)]) 2 hA [] c0 ?_
  clear hA fr; intro fr hA
  refine cF hA ?_
  refine sC (e' := [(3, pt b1), (6, pt b2), (7, i64 0), (8, pt b3), (9, pt b4), (11, i64 (R ((a).toNat))), (12, i64 (R ((b).toNat))), (13, pt b5), (41, i64 22), (177, bl false)]) 2 hA [] c0 ?_
  clear hA fr; intro fr hA
  refine cF hA ?_
  refine sC (e' := [(3, pt b1), (6, pt b2), (7, i64 0), (8, pt b3), (9, pt b4), (11, i64 (R ((a).toNat))), (12, i64 (R ((b).toNat))), (13, pt b5), (41, i64 22), (194, bl false)]) 2 hA [] c0 ?_
  clear hA fr; intro fr hA
  refine cF hA ?_
  refine sC (e' := [(3, pt b1), (6, pt b2), (7, i64 0), (8, pt b3), (9, pt b4), (12, i64 (R ((b).toNat))), (13, pt b5), (198, bl true)]) 2 hA [] c0 ?_
  clear hA fr; intro fr hA
  refine cT hA ?_
  refine wp_seq ?_
  have hS : Ow Tryd.prog none' w _ [(b5, 38, (regsL R (pc + 4))), (b4, 29, [i64 22, i64 a, i64 b, i64 c, i64 v]), (b1, 38, (regsL R pc))] := hO.sub [0, 1, 4]
  refine rP [(0, true), (1, true), (2, true), (3, true), (4, true), (5, true), (6, true), (7, true), (8, true), (9, true), (10, true), (11, true), (12, true), (13, true), (14, true), (15, true), (16, true), (17, true), (18, true), (19, true), (20, true), (21, true), (22, true), (23, true), (24, true), (25, true), (26, true), (27, false), (28, true), (29, false)] hS ?_
  intro w11 ho; replace hO := hO.st ho; clear ho
  refine ckS (l := (rg 0 27)) (r := [(27, false), (28, true), (29, false)]) (e' := [(6, pt b2), (7, i64 0), (8, pt b3), (13, pt b5), (200, .agg (List.toArray (regsL R (pc + 4)))), (226, .agg #[i64 1, i64 (R 1), i64 (R 2), i64 (R 3), i64 (R 4), i64 (R 5), i64 (R 6)])]) hA [.agg (List.toArray (regsL R (pc + 4))), i32 (R 1), bl true, i32 (R 2), bl true, i32 (R 3), bl true, i32 (R 4), bl true, i32 (R 5), bl true, i32 (R 6), bl true] (cc (hS.sn 0 0 38 (regsL R (pc + 4))) (cc (⟨by omega, by omega⟩ : (0 : Int) ≤ 1 ∧ 1 < ((16 : Nat) : Int)) (cc (hS.s1 2 1 21 (i32 (R 1))) (cc ((inK_up (by kernel_rfl) (hR _)) : inK .i64 (R 1)) (cc (⟨by omega, by omega⟩ : (0 : Int) ≤ 2 ∧ 2 < ((16 : Nat) : Int)) (cc (hS.s1 2 2 21 (i32 (R 2))) (cc ((inK_up (by kernel_rfl) (hR _)) : inK .i64 (R 2)) (cc (⟨by omega, by omega⟩ : (0 : Int) ≤ 3 ∧ 3 < ((16 : Nat) : Int)) (cc (hS.s1 2 3 21 (i32 (R 3))) (cc ((inK_up (by kernel_rfl) (hR _)) : inK .i64 (R 3)) (cc (⟨by omega, by omega⟩ : (0 : Int) ≤ 4 ∧ 4 < ((16 : Nat) : Int)) (cc (hS.s1 2 4 21 (i32 (R 4))) (cc ((inK_up (by kernel_rfl) (hR _)) : inK .i64 (R 4)) (cc (⟨by omega, by omega⟩ : (0 : Int) ≤ 5 ∧ 5 < ((16 : Nat) : Int)) (cc (hS.s1 2 5 21 (i32 (R 5))) (cc ((inK_up (by kernel_rfl) (hR _)) : inK .i64 (R 5)) (cc (⟨by omega, by omega⟩ : (0 : Int) ≤ 6 ∧ 6 < ((16 : Nat) : Int)) (cc (hS.s1 2 6 21 (i32 (R 6))) (cc ((inK_up (by kernel_rfl) (hR _)) : inK .i64 (R 6)) c0))))))))))))))))))) ?_
  clear hA fr; intro fr hA
  refine plan_mem (mS (off := 0) (vc := (regsL R (pc + 4))) 3 hA hO ?_)
  clear hO; intro w12 hO
  refine ⟨(hO.sub [0, 1, 4]), ?_⟩
  replace hA := hA.sb (e' := [(6, pt b2), (7, i64 0), (8, pt b3), (13, pt b5), (226, .agg #[i64 1, i64 (R 1), i64 (R 2), i64 (R 3), i64 (R 4), i64 (R 5), i64 (R 6)])])
  refine ckS (l := [28]) (r := [(29, false)]) (e' := [(6, pt b2), (7, i64 0), (8, pt b3), (13, pt b5), (226, .agg #[i64 1, i64 (R 1), i64 (R 2), i64 (R 3), i64 (R 4), i64 (R 5), i64 (R 6)])]) hA [] c0 ?_
  clear hA fr; intro fr hA
  refine plan_mem (mS (off := 0) (vc := [i64 1, i64 (R 1), i64 (R 2), i64 (R 3), i64 (R 4), i64 (R 5), i64 (R 6)]) 2 hA hO ?_)
  clear hO; intro w13 hO
  refine ⟨(hO.sub [0, 1, 4]), ?_⟩
  replace hA := hA.sb (e' := [(6, pt b2), (7, i64 0), (8, pt b3), (13, pt b5)])
  refine end_plan ?_
  refine then_normal ?_
  refine wp_ret ?_
  refine inBlock_ret ?_
  refine then_ret ?_
  refine cR (cs := [some (⟨b2, 0, none⟩, 38), none, some (⟨b3, 0, none⟩, 56)]) (us := [.agg (List.toArray (regsL R (pc + 4))), i64 0, .agg #[i64 1, i64 (R 1), i64 (R 2), i64 (R 3), i64 (R 4), i64 (R 5), i64 (R 6)]]) hA [.agg (List.toArray (regsL R (pc + 4))), .agg #[i64 1, i64 (R 1), i64 (R 2), i64 (R 3), i64 (R 4), i64 (R 5), i64 (R 6)]] ⟨(hO.ln 3 0 38 (regsL R (pc + 4))), (hO.ln 2 0 56 [i64 1, i64 (R 1), i64 (R 2), i64 (R 3), i64 (R 4), i64 (R 5), i64 (R 6)]), trivial⟩ ?_
  have hF := hO.only; clear hA hO
  exact ⟨by simp_all [pack, execV, outV, noTrap, trapL, insV], hF⟩

end Go.Proofs.YtcaokjdihhbkjaaDoor
