/- The layer cpu: walks of Exec. -/
import Derived.Test.YtcaokjdihhbkjaaDoorArith
set_option linter.unusedVariables false
set_option linter.unusedSimpArgs false
set_option maxRecDepth 10000
namespace Go.Proofs.YtcaokjdihhbkjaaDoor
open Go Go.RowKit Go.Proofs.Sx

theorem exec_12 (R : Nat → Int) (pc ld a b c v : Int) (sl : Value) (w : World) (hT : Tab w) (hR : RegsOk R) (hp : -1099511627776 < pc) (hp' : pc < 1099511627776) (ha : 0 ≤ a) (ha' : a ≤ 15) (hb : 0 ≤ b) (hb' : b ≤ 15) (hc : 0 ≤ c) (hc' : c ≤ 15) (hv : -32768 ≤ v) (hv' : v ≤ 32767) (hdec : ∀ w', Only none' w w' → Calls Tryd.prog 13 #[sl] w' fun e w2 => e = .returned (.tuple #[insV 12 a b c v, .int .i64 0]) ∧ Only none' w' w2) :
    Calls Tryd.prog 18 #[.agg (List.toArray (regsL R pc)), sl, i64 ld] w fun e w' => e = .returned (execV R pc ld 12 a b c v) ∧ Only none' w w' := by
  refine c_enter (args := [.agg (List.toArray (regsL R pc)), sl, i64 ld]) (m := 206) (n := 209) Tryd.func18 rfl (by kernel_rfl) (by kernel_rfl) fun fr hA => ?_
  have hO := Ow.nil Tryd.prog none' w
  have hRa := hR a.toNat; have hRb := hR b.toNat; have hRc := hR c.toNat; simp only [inK] at hRa hRb hRc
  refine sR (l := [0, 1, 2, 3]) ?_
  refine wpOps_cons' (mN (l := (regsL R pc)) (t := 40) (v := pt) (d := 3) hA hO ?_)
  clear hA hO fr; intro fr w1 b1 hA hO
  replace hA := hA.sb (e' := [(1, sl), (2, i64 ld), (3, pt b1)])
  refine wpOps_cons' (mN (l := [i32 0, i32 0, i32 0, i32 0, i32 0, i32 0, i32 0, i32 0, i32 0, i32 0, i32 0, i32 0, i32 0, i32 0, i32 0, i32 0, i64 0]) (t := 40) (v := pt) (d := 6) hA hO ?_)
  clear hA hO fr; intro fr w2 b2 hA hO
  refine ck (l := [2]) (r := [3]) (e' := [(1, sl), (2, i64 ld), (3, pt b1), (6, pt b2), (7, i64 0)]) hA [] c0 ?_
  clear hA fr; intro fr hA
  refine wpOps_cons' (mN (l := [i64 0, i64 0, i64 0, i64 0, i64 0, i64 0, i64 0]) (t := 43) (v := pt) (d := 8) hA hO ?_)
  clear hA hO fr; intro fr w3 b3 hA hO
  refine end_ops ?_
  refine then_normal ?_
  refine sR (l := (rg 0 8)) ?_
  refine ck (l := [0]) (r := (rg 1 7)) (e' := [(2, i64 ld), (3, pt b1), (6, pt b2), (7, i64 0), (8, pt b3), (18, sl)]) hA [] c0 ?_
  clear hA fr; intro fr hA
  refine wpOps_cons' (mK (f := 13) (args := [sl]) (d := (some 19)) (v := .tuple #[.agg #[i64 12, i64 a, i64 b, i64 c, i64 v], i64 0]) hA hO Tryd.func13 (hdec _ hO.only) ?_)
  clear hA hO fr; intro fr w4 hA hO
  replace hA := hA.sb (e' := [(2, i64 ld), (3, pt b1), (6, pt b2), (7, i64 0), (8, pt b3), (19, .tuple #[.agg #[i64 12, i64 a, i64 b, i64 c, i64 v], i64 0])])
  refine ck (l := [2, 3, 4]) (r := [5, 6, 7]) (e' := [(2, i64 ld), (3, pt b1), (6, pt b2), (7, i64 0), (8, pt b3), (20, .agg #[i64 12, i64 a, i64 b, i64 c, i64 v]), (21, i64 0)]) hA [] c0 ?_
  clear hA fr; intro fr hA
  refine wpOps_cons' (mN (l := [i64 0, i64 0, i64 0, i64 0, i64 0]) (t := 25) (v := pt) (d := 9) hA hO ?_)
  clear hA hO fr; intro fr w5 b4 hA hO
  refine wpOps_cons' (mS (off := 0) (vc := [i64 12, i64 a, i64 b, i64 c, i64 v]) 0 hA hO ?_)
  clear hO; intro w6 hO
  replace hA := hA.sb (e' := [(2, i64 ld), (3, pt b1), (6, pt b2), (7, i64 0), (8, pt b3), (9, pt b4), (21, i64 0)])
  refine ck (l := [7]) (r := []) (e' := [(2, i64 ld), (3, pt b1), (6, pt b2), (7, i64 0), (8, pt b3), (9, pt b4), (10, i64 0)]) hA [] c0 ?_
  clear hA fr; intro fr hA
  refine end_ops ?_
  refine then_normal ?_
  refine wp_seq ?_
  refine sC (e' := [(2, i64 ld), (3, pt b1), (6, pt b2), (7, i64 0), (8, pt b3), (9, pt b4), (23, bl false)]) 2 hA [] c0 ?_
  clear hA fr; intro fr hA
  refine cF hA ?_
  refine wp_skip ?_
  refine then_normal ?_
  refine wp_seq ?_
  refine sR (l := (rg 0 8)) ?_
  refine ck (l := [0, 1]) (r := (rg 2 6)) (e' := [(2, i64 ld), (3, pt b1), (6, pt b2), (7, i64 0), (8, pt b3), (9, pt b4), (27, .agg (List.toArray (regsL R pc))), (28, .agg #[i64 12, i64 a, i64 b, i64 c, i64 v])]) hA [.agg (List.toArray (regsL R pc)), .agg #[i64 12, i64 a, i64 b, i64 c, i64 v]] (cc (hO.ln 3 0 40 (regsL R pc)) (cc (hO.ln 0 0 25 [i64 12, i64 a, i64 b, i64 c, i64 v]) c0)) ?_
  clear hA fr; intro fr hA
  refine wpOps_cons' (mK (f := 36) (args := [.agg (List.toArray (regsL R pc)), .agg #[i64 12, i64 a, i64 b, i64 c, i64 v]]) (d := (some 29)) (v := .tuple #[i64 0, i64 0]) hA hO Tryd.func36 (place_any R pc 12 a b c v _ hR hb hb' (by omega) (by omega)) ?_)
  clear hA hO fr; intro fr w7 hA hO
  replace hA := hA.sb (e' := [(2, i64 ld), (3, pt b1), (6, pt b2), (7, i64 0), (8, pt b3), (9, pt b4), (29, .tuple #[i64 0, i64 0])])
  refine ck (l := (rg 3 5)) (r := []) (e' := [(2, i64 ld), (3, pt b1), (6, pt b2), (7, i64 0), (8, pt b3), (9, pt b4), (11, i64 0), (12, i64 0)]) hA [] c0 ?_
  clear hA fr; intro fr hA
  refine end_ops ?_
  refine then_normal ?_
  refine sC (e' := [(2, i64 ld), (3, pt b1), (6, pt b2), (7, i64 0), (8, pt b3), (9, pt b4), (39, bl false)]) 8 hA [] c0 ?_
  clear hA fr; intro fr hA
  refine cF hA ?_
  refine wp_skip ?_
  refine then_normal ?_
  refine wp_seq ?_
  refine sC (e' := [(2, i64 ld), (3, pt b1), (6, pt b2), (7, i64 0), (8, pt b3), (9, pt b4), (57, bl false)]) 16 hA [i64 12, i64 12] (cc (hO.l1 0 0 3 (i64 12)) (cc (hO.l1 0 0 3 (i64 12)) c0)) ?_
  clear hA fr; intro fr hA
  refine cF hA ?_
  refine wp_skip ?_
  refine then_normal ?_
  refine sR (l := [0, 1, 2]) ?_
  refine ck (l := [0]) (r := [1, 2]) (e' := [(2, i64 ld), (3, pt b1), (6, pt b2), (7, i64 0), (8, pt b3), (9, pt b4), (60, .agg (List.toArray (regsL R pc)))]) hA [.agg (List.toArray (regsL R pc))] (cc (hO.ln 3 0 40 (regsL R pc)) c0) ?_
  clear hA fr; intro fr hA
  refine wpOps_cons' (mN (l := [i32 0, i32 0, i32 0, i32 0, i32 0, i32 0, i32 0, i32 0, i32 0, i32 0, i32 0, i32 0, i32 0, i32 0, i32 0, i32 0, i64 0]) (t := 40) (v := pt) (d := 13) hA hO ?_)
  clear hA hO fr; intro fr w8 b5 hA hO
  refine wpOps_cons' (mS (off := 0) (vc := (regsL R pc)) 0 hA hO ?_)
  clear hO; intro w9 hO
  replace hA := hA.sb (e' := [(2, i64 ld), (3, pt b1), (6, pt b2), (7, i64 0), (8, pt b3), (9, pt b4), (13, pt b5)])
  refine end_ops ?_
  refine then_normal ?_
  refine sC (e' := [(2, i64 ld), (3, pt b1), (6, pt b2), (7, i64 0), (8, pt b3), (9, pt b4), (13, pt b5), (14, i64 ((pc + 4) + (4 * v)))]) 8 hA [i64 pc, bl true, i64 v, bl true, bl true] (cc (hO.l1 4 16 3 (i64 pc)) (cc ((inK_i64 (by omega) (by omega)) : inK .i64 (pc + 4)) (cc (hO.l1 1 4 3 (i64 v)) (cc ((inK_i64 (by omega) (by omega)) : inK .i64 (4 * v)) (cc ((inK_i64 (by omega) (by omega)) : inK .i64 ((pc + 4) + (4 * v))) c0))))) ?_
  clear hA fr; intro fr hA
  refine sR (l := (rg 0 5)) ?_
  refine ck (l := [0, 1, 2, 3]) (r := [4]) (e' := [(2, i64 ld), (3, pt b1), (6, pt b2), (7, i64 0), (8, pt b3), (9, pt b4), (13, pt b5), (14, i64 ((pc + 4) + (4 * v))), (70, i64 (pc + 4)), (71, pf b1 16)]) hA [i64 pc, bl true] (cc (hO.l1 4 16 3 (i64 pc)) (cc ((inK_i64 (by omega) (by omega)) : inK .i64 (pc + 4)) c0)) ?_
  clear hA fr; intro fr hA
  refine wpOps_cons' (mSR (off := 16) (ad := ⟨b1, 16, none⟩) (vc := [i64 (pc + 4)]) (l' := (regsL R (pc + 4))) 4 hA hO rfl (by kernel_rfl) (by kernel_rfl) ?_)
  clear hO; intro w10 hO
  replace hA := hA.sb (e' := [(2, i64 ld), (3, pt b1), (6, pt b2), (7, i64 0), (8, pt b3), (9, pt b4), (13, pt b5), (14, i64 ((pc + 4) + (4 * v)))])
  refine end_ops ?_
  refine then_normal ?_
  refine sC (e' := [(2, i64 ld), (3, pt b1), (6, pt b2), (7, i64 0), (8, pt b3), (9, pt b4), (13, pt b5), (14, i64 ((pc + 4) + (4 * v))), (15, .pointer (some ((⟨b1, 0, none⟩ : Addr).add ((a).toNat))))]) 5 hA [i64 a] (cc (hO.l1 1 1 3 (i64 a)) (cc (⟨by omega, by omega⟩ : (0 : Int) ≤ a ∧ a < ((16 : Nat) : Int)) c0)) ?_
  clear hA fr; intro fr hA
  refine wp_seq ?_
  refine sC (e' := [(2, i64 ld), (3, pt b1), (6, pt b2), (7, i64 0), (8, pt b3), (9, pt b4), (13, pt b5), (14, i64 ((pc + 4) + (4 * v))), (15, .pointer (some ((⟨b1, 0, none⟩ : Addr).add ((a).toNat)))), (77, i64 12)]) 2 hA [i64 12] (cc (hO.l1 1 0 3 (i64 12)) c0) ?_
  clear hA fr; intro fr hA
  refine wp_block ?_
  refine sC (e' := [(2, i64 ld), (3, pt b1), (6, pt b2), (7, i64 0), (8, pt b3), (9, pt b4), (13, pt b5), (14, i64 ((pc + 4) + (4 * v))), (15, .pointer (some ((⟨b1, 0, none⟩ : Addr).add ((a).toNat)))), (77, i64 12), (93, bl false)]) 2 hA [] c0 ?_
  clear hA fr; intro fr hA
  refine cF hA ?_
  refine sC (e' := [(2, i64 ld), (3, pt b1), (6, pt b2), (7, i64 0), (8, pt b3), (9, pt b4), (13, pt b5), (14, i64 ((pc + 4) + (4 * v))), (15, .pointer (some ((⟨b1, 0, none⟩ : Addr).add ((a).toNat)))), (77, i64 12), (100, bl false)]) 2 hA [] c0 ?_
  clear hA fr; intro fr hA
  refine cF hA ?_
  refine sC (e' := [(2, i64 ld), (3, pt b1), (6, pt b2), (7, i64 0), (8, pt b3), (9, pt b4), (13, pt b5), (14, i64 ((pc + 4) + (4 * v))), (15, .pointer (some ((⟨b1, 0, none⟩ : Addr).add ((a).toNat)))), (77, i64 12), (111, bl false)]) 2 hA [] c0 ?_
  clear hA fr; intro fr hA
  refine cF hA ?_
  refine sC (e' := [(2, i64 ld), (3, pt b1), (6, pt b2), (7, i64 0), (8, pt b3), (9, pt b4), (13, pt b5), (14, i64 ((pc + 4) + (4 * v))), (15, .pointer (some ((⟨b1, 0, none⟩ : Addr).add ((a).toNat)))), (77, i64 12), (124, bl false)]) 2 hA [] c0 ?_
  clear hA fr; intro fr hA
  refine cF hA ?_
  refine sC (e' := [(2, i64 ld), (3, pt b1), (6, pt b2), (7, i64 0), (8, pt b3), (9, pt b4), (13, pt b5), (14, i64 ((pc + 4) + (4 * v))), (15, .pointer (some ((⟨b1, 0, none⟩ : Addr).add ((a).toNat)))), (77, i64 12), (130, bl false)]) 2 hA [] c0 ?_
  clear hA fr; intro fr hA
  refine cF hA ?_
  refine sC (e' := [(3, pt b1), (6, pt b2), (7, i64 0), (8, pt b3), (9, pt b4), (13, pt b5), (14, i64 ((pc + 4) + (4 * v))), (15, .pointer (some ((⟨b1, 0, none⟩ : Addr).add ((a).toNat)))), (77, i64 12), (137, bl false)]) 2 hA [] c0 ?_
  clear hA fr; intro fr hA
  refine cF hA ?_
  refine sC (e' := [(3, pt b1), (6, pt b2), (7, i64 0), (8, pt b3), (9, pt b4), (13, pt b5), (14, i64 ((pc + 4) + (4 * v))), (15, .pointer (some ((⟨b1, 0, none⟩ : Addr).add ((a).toNat)))), (77, i64 12), (145, bl false)]) 2 hA [] c0 ?_
  clear hA fr; intro fr hA
  refine cF hA ?_
  refine sC (e' := [(3, pt b1), (6, pt b2), (7, i64 0), (8, pt b3), (9, pt b4), (13, pt b5), (14, i64 ((pc + 4) + (4 * v))), (15, .pointer (some ((⟨b1, 0, none⟩ : Addr).add ((a).toNat)))), (77, i64 12), (154, bl false)]) 2 hA [] c0 ?_
  clear hA fr; intro fr hA
  refine cF hA ?_
  refine sC (e' := [(3, pt b1), (6, pt b2), (7, i64 0), (8, pt b3), (9, pt b4), (13, pt b5), (14, i64 ((pc + 4) + (4 * v))), (15, .pointer (some ((⟨b1, 0, none⟩ : Addr).add ((a).toNat)))), (77, i64 12), (158, bl false)]) 2 hA [] c0 ?_
  clear hA fr; intro fr hA
  refine cF hA ?_
  refine sC (e' := [(3, pt b1), (6, pt b2), (7, i64 0), (8, pt b3), (9, pt b4), (13, pt b5), (14, i64 ((pc + 4) + (4 * v))), (15, .pointer (some ((⟨b1, 0, none⟩ : Addr).add ((a).toNat)))), (77, i64 12), (166, bl false)]) 2 hA [] c0 ?_
  clear hA fr; intro fr hA
  refine cF hA ?_
  refine sC (e' := [(3, pt b1), (6, pt b2), (7, i64 0), (8, pt b3), (9, pt b4), (13, pt b5), (15, .pointer (some ((⟨b1, 0, none⟩ : Addr).add ((a).toNat)))), (77, i64 12), (175, bl false)]) 2 hA [] c0 ?_
  clear hA fr; intro fr hA
  refine cF hA ?_
  refine sC (e' := [(3, pt b1), (6, pt b2), (7, i64 0), (8, pt b3), (9, pt b4), (13, pt b5), (15, .pointer (some ((⟨b1, 0, none⟩ : Addr).add ((a).toNat)))), (182, bl false)]) 2 hA [] c0 ?_
  clear hA fr; intro fr hA
  refine cF hA ?_
  have hS : Ow Tryd.prog none' w _ [(b5, 40, (regsL R pc)), (b4, 25, [i64 12, i64 a, i64 b, i64 c, i64 v]), (b3, 43, [i64 0, i64 0, i64 0, i64 0, i64 0, i64 0, i64 0]), (b2, 40, [i32 0, i32 0, i32 0, i32 0, i32 0, i32 0, i32 0, i32 0, i32 0, i32 0, i32 0, i32 0, i32 0, i32 0, i32 0, i32 0, i64 0])] := hO.sub [0, 1, 2, 3]
  refine rP [(0, true), (1, true), (2, true), (3, true), (4, true), (5, true), (6, true), (7, true), (8, true), (9, true), (10, true), (11, true), (12, true), (13, false), (14, true), (15, false)] hS ?_
  intro w11 ho; replace hO := hO.st ho; clear ho
  refine ckS (l := (rg 0 13)) (r := [(13, false), (14, true), (15, false)]) (e' := [(3, pt b1), (6, pt b2), (7, i64 0), (8, pt b3), (78, .pointer (some ((⟨b1, 0, none⟩ : Addr).add ((a).toNat)))), (80, i64 12), (85, i32 (R ((b).toNat))), (90, i32 (R ((c).toNat)))]) hA [i64 12, i64 b, i32 (R ((b).toNat)), i64 c, i32 (R ((c).toNat))] (cc (hS.s1 1 0 3 (i64 12)) (cc (hS.s1 1 2 3 (i64 b)) (cc (⟨by omega, by omega⟩ : (0 : Int) ≤ b ∧ b < ((16 : Nat) : Int)) (cc (hS.sx ((⟨b5, 0, none⟩ : Addr).add ((b).toNat)) 21 (i32 (R ((b).toNat))) fun _ hO => (ld_regs (hO.b 0) (by omega) (by kernel_rfl))) (cc (hS.s1 1 3 3 (i64 c)) (cc (⟨by omega, by omega⟩ : (0 : Int) ≤ c ∧ c < ((16 : Nat) : Int)) (cc (hS.sx ((⟨b5, 0, none⟩ : Addr).add ((c).toNat)) 21 (i32 (R ((c).toNat))) fun _ hO => (ld_regs (hO.b 0) (by omega) (by kernel_rfl))) c0))))))) ?_
  clear hA fr; intro fr hA
  refine plan_mem (mK (f := 37) (args := [i64 12, i32 (R ((b).toNat)), i32 (R ((c).toNat))]) (d := (some 91)) (v := i32 (arithS 12 (R ((b).toNat)) (R ((c).toNat)))) hA hO Tryd.func37 (arithmetic_any 12 (R ((b).toNat)) (R ((c).toNat)) _ (by omega)) ?_)
  clear hA hO fr; intro fr w12 hA hO
  refine ⟨(hO.sub [0, 1, 2, 3]), ?_⟩
  replace hA := hA.sb (e' := [(3, pt b1), (6, pt b2), (7, i64 0), (8, pt b3), (78, .pointer (some ((⟨b1, 0, none⟩ : Addr).add ((a).toNat)))), (91, i32 (arithS 12 (R ((b).toNat)) (R ((c).toNat))))])
  refine ckS (l := [14]) (r := [(15, false)]) (e' := [(3, pt b1), (6, pt b2), (7, i64 0), (8, pt b3), (91, i32 (arithS 12 (R ((b).toNat)) (R ((c).toNat)))), (92, .pointer (some ((⟨b1, 0, none⟩ : Addr).add ((a).toNat))))]) hA [] c0 ?_
  clear hA fr; intro fr hA
  refine plan_mem (mSR (off := (a).toNat) (ad := (⟨b1, 0, none⟩ : Addr).add ((a).toNat)) (vc := [i32 (arithS 12 (R ((b).toNat)) (R ((c).toNat)))]) (l' := (regsL (upd R ((a).toNat) (arithS 12 (R ((b).toNat)) (R ((c).toNat)))) (pc + 4))) 4 hA hO (add_zero_off _ _) (regs_ble R (pc + 4) (by omega)) (setL_regs (by omega) _) ?_)
  clear hO; intro w13 hO
  refine ⟨(hO.sub [0, 1, 2, 3]), ?_⟩
  replace hA := hA.sb (e' := [(3, pt b1), (6, pt b2), (7, i64 0), (8, pt b3)])
  refine end_plan ?_
  refine inBlock_normal ?_
  refine then_normal ?_
  refine sR (l := (rg 0 5)) ?_
  refine ck (l := [0, 1]) (r := [2, 3, 4]) (e' := [(6, pt b2), (7, i64 0), (8, pt b3), (207, .agg (List.toArray (regsL (upd R ((a).toNat) (arithS 12 (R ((b).toNat)) (R ((c).toNat)))) (pc + 4)))), (208, .agg #[i64 0, i64 0, i64 0, i64 0, i64 0, i64 0, i64 0])]) hA [.agg (List.toArray (regsL (upd R ((a).toNat) (arithS 12 (R ((b).toNat)) (R ((c).toNat)))) (pc + 4)))] (cc (hO.ln 4 0 40 (regsL (upd R ((a).toNat) (arithS 12 (R ((b).toNat)) (R ((c).toNat)))) (pc + 4))) c0) ?_
  clear hA fr; intro fr hA
  refine wpOps_cons' (mS (off := 0) (vc := (regsL (upd R ((a).toNat) (arithS 12 (R ((b).toNat)) (R ((c).toNat)))) (pc + 4))) 3 hA hO ?_)
  clear hO; intro w14 hO
  replace hA := hA.sb (e' := [(6, pt b2), (7, i64 0), (8, pt b3), (208, .agg #[i64 0, i64 0, i64 0, i64 0, i64 0, i64 0, i64 0])])
  refine ck (l := [3]) (r := [4]) (e' := [(6, pt b2), (7, i64 0), (8, pt b3), (208, .agg #[i64 0, i64 0, i64 0, i64 0, i64 0, i64 0, i64 0])]) hA [] c0 ?_
  clear hA fr; intro fr hA
  refine wpOps_cons' (mS (off := 0) (vc := [i64 0, i64 0, i64 0, i64 0, i64 0, i64 0, i64 0]) 2 hA hO ?_)
  clear hO; intro w15 hO
  replace hA := hA.sb (e' := [(6, pt b2), (7, i64 0), (8, pt b3)])
  refine end_ops ?_
  refine then_normal ?_
  refine wp_ret ?_
  refine cR (cs := [some (⟨b2, 0, none⟩, 40), none, some (⟨b3, 0, none⟩, 43)]) (us := [.agg (List.toArray (regsL (upd R ((a).toNat) (arithS 12 (R ((b).toNat)) (R ((c).toNat)))) (pc + 4))), i64 0, .agg #[i64 0, i64 0, i64 0, i64 0, i64 0, i64 0, i64 0]]) hA [.agg (List.toArray (regsL (upd R ((a).toNat) (arithS 12 (R ((b).toNat)) (R ((c).toNat)))) (pc + 4))), .agg #[i64 0, i64 0, i64 0, i64 0, i64 0, i64 0, i64 0]] ⟨(hO.ln 3 0 40 (regsL (upd R ((a).toNat) (arithS 12 (R ((b).toNat)) (R ((c).toNat)))) (pc + 4))), (hO.ln 2 0 43 [i64 0, i64 0, i64 0, i64 0, i64 0, i64 0, i64 0]), trivial⟩ ?_
  have hF := hO.only; clear hA hO
  exact ⟨by simp_all [pack, execV, outV, noTrap, trapL, insV], hF⟩

theorem exec_13 (R : Nat → Int) (pc ld a b c v : Int) (sl : Value) (w : World) (hT : Tab w) (hR : RegsOk R) (hp : -1099511627776 < pc) (hp' : pc < 1099511627776) (ha : 0 ≤ a) (ha' : a ≤ 15) (hb : 0 ≤ b) (hb' : b ≤ 15) (hc : 0 ≤ c) (hc' : c ≤ 15) (hv : -32768 ≤ v) (hv' : v ≤ 32767) (hdec : ∀ w', Only none' w w' → Calls Tryd.prog 13 #[sl] w' fun e w2 => e = .returned (.tuple #[insV 13 a b c v, .int .i64 0]) ∧ Only none' w' w2) :
    Calls Tryd.prog 18 #[.agg (List.toArray (regsL R pc)), sl, i64 ld] w fun e w' => e = .returned (execV R pc ld 13 a b c v) ∧ Only none' w w' := by
  refine c_enter (args := [.agg (List.toArray (regsL R pc)), sl, i64 ld]) (m := 206) (n := 209) Tryd.func18 rfl (by kernel_rfl) (by kernel_rfl) fun fr hA => ?_
  have hO := Ow.nil Tryd.prog none' w
  have hRa := hR a.toNat; have hRb := hR b.toNat; have hRc := hR c.toNat; simp only [inK] at hRa hRb hRc
  refine sR (l := [0, 1, 2, 3]) ?_
  refine wpOps_cons' (mN (l := (regsL R pc)) (t := 40) (v := pt) (d := 3) hA hO ?_)
  clear hA hO fr; intro fr w1 b1 hA hO
  replace hA := hA.sb (e' := [(1, sl), (2, i64 ld), (3, pt b1)])
  refine wpOps_cons' (mN (l := [i32 0, i32 0, i32 0, i32 0, i32 0, i32 0, i32 0, i32 0, i32 0, i32 0, i32 0, i32 0, i32 0, i32 0, i32 0, i32 0, i64 0]) (t := 40) (v := pt) (d := 6) hA hO ?_)
  clear hA hO fr; intro fr w2 b2 hA hO
  refine ck (l := [2]) (r := [3]) (e' := [(1, sl), (2, i64 ld), (3, pt b1), (6, pt b2), (7, i64 0)]) hA [] c0 ?_
  clear hA fr; intro fr hA
  refine wpOps_cons' (mN (l := [i64 0, i64 0, i64 0, i64 0, i64 0, i64 0, i64 0]) (t := 43) (v := pt) (d := 8) hA hO ?_)
  clear hA hO fr; intro fr w3 b3 hA hO
  refine end_ops ?_
  refine then_normal ?_
  refine sR (l := (rg 0 8)) ?_
  refine ck (l := [0]) (r := (rg 1 7)) (e' := [(2, i64 ld), (3, pt b1), (6, pt b2), (7, i64 0), (8, pt b3), (18, sl)]) hA [] c0 ?_
  clear hA fr; intro fr hA
  refine wpOps_cons' (mK (f := 13) (args := [sl]) (d := (some 19)) (v := .tuple #[.agg #[i64 13, i64 a, i64 b, i64 c, i64 v], i64 0]) hA hO Tryd.func13 (hdec _ hO.only) ?_)
  clear hA hO fr; intro fr w4 hA hO
  replace hA := hA.sb (e' := [(2, i64 ld), (3, pt b1), (6, pt b2), (7, i64 0), (8, pt b3), (19, .tuple #[.agg #[i64 13, i64 a, i64 b, i64 c, i64 v], i64 0])])
  refine ck (l := [2, 3, 4]) (r := [5, 6, 7]) (e' := [(2, i64 ld), (3, pt b1), (6, pt b2), (7, i64 0), (8, pt b3), (20, .agg #[i64 13, i64 a, i64 b, i64 c, i64 v]), (21, i64 0)]) hA [] c0 ?_
  clear hA fr; intro fr hA
  refine wpOps_cons' (mN (l := [i64 0, i64 0, i64 0, i64 0, i64 0]) (t := 25) (v := pt) (d := 9) hA hO ?_)
  clear hA hO fr; intro fr w5 b4 hA hO
  refine wpOps_cons' (mS (off := 0) (vc := [i64 13, i64 a, i64 b, i64 c, i64 v]) 0 hA hO ?_)
  clear hO; intro w6 hO
  replace hA := hA.sb (e' := [(2, i64 ld), (3, pt b1), (6, pt b2), (7, i64 0), (8, pt b3), (9, pt b4), (21, i64 0)])
  refine ck (l := [7]) (r := []) (e' := [(2, i64 ld), (3, pt b1), (6, pt b2), (7, i64 0), (8, pt b3), (9, pt b4), (10, i64 0)]) hA [] c0 ?_
  clear hA fr; intro fr hA
  refine end_ops ?_
  refine then_normal ?_
  refine wp_seq ?_
  refine sC (e' := [(2, i64 ld), (3, pt b1), (6, pt b2), (7, i64 0), (8, pt b3), (9, pt b4), (23, bl false)]) 2 hA [] c0 ?_
  clear hA fr; intro fr hA
  refine cF hA ?_
  refine wp_skip ?_
  refine then_normal ?_
  refine wp_seq ?_
  refine sR (l := (rg 0 8)) ?_
  refine ck (l := [0, 1]) (r := (rg 2 6)) (e' := [(2, i64 ld), (3, pt b1), (6, pt b2), (7, i64 0), (8, pt b3), (9, pt b4), (27, .agg (List.toArray (regsL R pc))), (28, .agg #[i64 13, i64 a, i64 b, i64 c, i64 v])]) hA [.agg (List.toArray (regsL R pc)), .agg #[i64 13, i64 a, i64 b, i64 c, i64 v]] (cc (hO.ln 3 0 40 (regsL R pc)) (cc (hO.ln 0 0 25 [i64 13, i64 a, i64 b, i64 c, i64 v]) c0)) ?_
  clear hA fr; intro fr hA
  refine wpOps_cons' (mK (f := 36) (args := [.agg (List.toArray (regsL R pc)), .agg #[i64 13, i64 a, i64 b, i64 c, i64 v]]) (d := (some 29)) (v := .tuple #[i64 0, i64 0]) hA hO Tryd.func36 (place_any R pc 13 a b c v _ hR hb hb' (by omega) (by omega)) ?_)
  clear hA hO fr; intro fr w7 hA hO
  replace hA := hA.sb (e' := [(2, i64 ld), (3, pt b1), (6, pt b2), (7, i64 0), (8, pt b3), (9, pt b4), (29, .tuple #[i64 0, i64 0])])
  refine ck (l := (rg 3 5)) (r := []) (e' := [(2, i64 ld), (3, pt b1), (6, pt b2), (7, i64 0), (8, pt b3), (9, pt b4), (11, i64 0), (12, i64 0)]) hA [] c0 ?_
  clear hA fr; intro fr hA
  refine end_ops ?_
  refine then_normal ?_
  refine sC (e' := [(2, i64 ld), (3, pt b1), (6, pt b2), (7, i64 0), (8, pt b3), (9, pt b4), (39, bl false)]) 8 hA [] c0 ?_
  clear hA fr; intro fr hA
  refine cF hA ?_
  refine wp_skip ?_
  refine then_normal ?_
  refine wp_seq ?_
  refine sC (e' := [(2, i64 ld), (3, pt b1), (6, pt b2), (7, i64 0), (8, pt b3), (9, pt b4), (57, bl false)]) 16 hA [i64 13, i64 13] (cc (hO.l1 0 0 3 (i64 13)) (cc (hO.l1 0 0 3 (i64 13)) c0)) ?_
  clear hA fr; intro fr hA
  refine cF hA ?_
  refine wp_skip ?_
  refine then_normal ?_
  refine sR (l := [0, 1, 2]) ?_
  refine ck (l := [0]) (r := [1, 2]) (e' := [(2, i64 ld), (3, pt b1), (6, pt b2), (7, i64 0), (8, pt b3), (9, pt b4), (60, .agg (List.toArray (regsL R pc)))]) hA [.agg (List.toArray (regsL R pc))] (cc (hO.ln 3 0 40 (regsL R pc)) c0) ?_
  clear hA fr; intro fr hA
  refine wpOps_cons' (mN (l := [i32 0, i32 0, i32 0, i32 0, i32 0, i32 0, i32 0, i32 0, i32 0, i32 0, i32 0, i32 0, i32 0, i32 0, i32 0, i32 0, i64 0]) (t := 40) (v := pt) (d := 13) hA hO ?_)
  clear hA hO fr; intro fr w8 b5 hA hO
  refine wpOps_cons' (mS (off := 0) (vc := (regsL R pc)) 0 hA hO ?_)
  clear hO; intro w9 hO
  replace hA := hA.sb (e' := [(2, i64 ld), (3, pt b1), (6, pt b2), (7, i64 0), (8, pt b3), (9, pt b4), (13, pt b5)])
  refine end_ops ?_
  refine then_normal ?_
  refine sC (e' := [(2, i64 ld), (3, pt b1), (6, pt b2), (7, i64 0), (8, pt b3), (9, pt b4), (13, pt b5), (14, i64 ((pc + 4) + (4 * v)))]) 8 hA [i64 pc, bl true, i64 v, bl true, bl true] (cc (hO.l1 4 16 3 (i64 pc)) (cc ((inK_i64 (by omega) (by omega)) : inK .i64 (pc + 4)) (cc (hO.l1 1 4 3 (i64 v)) (cc ((inK_i64 (by omega) (by omega)) : inK .i64 (4 * v)) (cc ((inK_i64 (by omega) (by omega)) : inK .i64 ((pc + 4) + (4 * v))) c0))))) ?_
  clear hA fr; intro fr hA
  refine sR (l := (rg 0 5)) ?_
  refine ck (l := [0, 1, 2, 3]) (r := [4]) (e' := [(2, i64 ld), (3, pt b1), (6, pt b2), (7, i64 0), (8, pt b3), (9, pt b4), (13, pt b5), (14, i64 ((pc + 4) + (4 * v))), (70, i64 (pc + 4)), (71, pf b1 16)]) hA [i64 pc, bl true] (cc (hO.l1 4 16 3 (i64 pc)) (cc ((inK_i64 (by omega) (by omega)) : inK .i64 (pc + 4)) c0)) ?_
  clear hA fr; intro fr hA
  refine wpOps_cons' (mSR (off := 16) (ad := ⟨b1, 16, none⟩) (vc := [i64 (pc + 4)]) (l' := (regsL R (pc + 4))) 4 hA hO rfl (by kernel_rfl) (by kernel_rfl) ?_)
  clear hO; intro w10 hO
  replace hA := hA.sb (e' := [(2, i64 ld), (3, pt b1), (6, pt b2), (7, i64 0), (8, pt b3), (9, pt b4), (13, pt b5), (14, i64 ((pc + 4) + (4 * v)))])
  refine end_ops ?_
  refine then_normal ?_
  refine sC (e' := [(2, i64 ld), (3, pt b1), (6, pt b2), (7, i64 0), (8, pt b3), (9, pt b4), (13, pt b5), (14, i64 ((pc + 4) + (4 * v))), (15, .pointer (some ((⟨b1, 0, none⟩ : Addr).add ((a).toNat))))]) 5 hA [i64 a] (cc (hO.l1 1 1 3 (i64 a)) (cc (⟨by omega, by omega⟩ : (0 : Int) ≤ a ∧ a < ((16 : Nat) : Int)) c0)) ?_
  clear hA fr; intro fr hA
  refine wp_seq ?_
  refine sC (e' := [(2, i64 ld), (3, pt b1), (6, pt b2), (7, i64 0), (8, pt b3), (9, pt b4), (13, pt b5), (14, i64 ((pc + 4) + (4 * v))), (15, .pointer (some ((⟨b1, 0, none⟩ : Addr).add ((a).toNat)))), (77, i64 13)]) 2 hA [i64 13] (cc (hO.l1 1 0 3 (i64 13)) c0) ?_
  clear hA fr; intro fr hA
  refine wp_block ?_
  refine sC (e' := [(2, i64 ld), (3, pt b1), (6, pt b2), (7, i64 0), (8, pt b3), (9, pt b4), (13, pt b5), (14, i64 ((pc + 4) + (4 * v))), (15, .pointer (some ((⟨b1, 0, none⟩ : Addr).add ((a).toNat)))), (77, i64 13), (93, bl false)]) 2 hA [] c0 ?_
  clear hA fr; intro fr hA
  refine cF hA ?_
  refine sC (e' := [(2, i64 ld), (3, pt b1), (6, pt b2), (7, i64 0), (8, pt b3), (9, pt b4), (13, pt b5), (14, i64 ((pc + 4) + (4 * v))), (15, .pointer (some ((⟨b1, 0, none⟩ : Addr).add ((a).toNat)))), (77, i64 13), (100, bl false)]) 2 hA [] c0 ?_
  clear hA fr; intro fr hA
  refine cF hA ?_
  refine sC (e' := [(2, i64 ld), (3, pt b1), (6, pt b2), (7, i64 0), (8, pt b3), (9, pt b4), (13, pt b5), (14, i64 ((pc + 4) + (4 * v))), (15, .pointer (some ((⟨b1, 0, none⟩ : Addr).add ((a).toNat)))), (77, i64 13), (111, bl false)]) 2 hA [] c0 ?_
  clear hA fr; intro fr hA
  refine cF hA ?_
  refine sC (e' := [(2, i64 ld), (3, pt b1), (6, pt b2), (7, i64 0), (8, pt b3), (9, pt b4), (13, pt b5), (14, i64 ((pc + 4) + (4 * v))), (15, .pointer (some ((⟨b1, 0, none⟩ : Addr).add ((a).toNat)))), (77, i64 13), (124, bl false)]) 2 hA [] c0 ?_
  clear hA fr; intro fr hA
  refine cF hA ?_
  refine sC (e' := [(2, i64 ld), (3, pt b1), (6, pt b2), (7, i64 0), (8, pt b3), (9, pt b4), (13, pt b5), (14, i64 ((pc + 4) + (4 * v))), (15, .pointer (some ((⟨b1, 0, none⟩ : Addr).add ((a).toNat)))), (77, i64 13), (130, bl false)]) 2 hA [] c0 ?_
  clear hA fr; intro fr hA
  refine cF hA ?_
  refine sC (e' := [(3, pt b1), (6, pt b2), (7, i64 0), (8, pt b3), (9, pt b4), (13, pt b5), (14, i64 ((pc + 4) + (4 * v))), (15, .pointer (some ((⟨b1, 0, none⟩ : Addr).add ((a).toNat)))), (77, i64 13), (137, bl false)]) 2 hA [] c0 ?_
  clear hA fr; intro fr hA
  refine cF hA ?_
  refine sC (e' := [(3, pt b1), (6, pt b2), (7, i64 0), (8, pt b3), (9, pt b4), (13, pt b5), (14, i64 ((pc + 4) + (4 * v))), (15, .pointer (some ((⟨b1, 0, none⟩ : Addr).add ((a).toNat)))), (77, i64 13), (145, bl false)]) 2 hA [] c0 ?_
  clear hA fr; intro fr hA
  refine cF hA ?_
  refine sC (e' := [(3, pt b1), (6, pt b2), (7, i64 0), (8, pt b3), (9, pt b4), (13, pt b5), (14, i64 ((pc + 4) + (4 * v))), (15, .pointer (some ((⟨b1, 0, none⟩ : Addr).add ((a).toNat)))), (77, i64 13), (154, bl false)]) 2 hA [] c0 ?_
  clear hA fr; intro fr hA
  refine cF hA ?_
  refine sC (e' := [(3, pt b1), (6, pt b2), (7, i64 0), (8, pt b3), (9, pt b4), (13, pt b5), (14, i64 ((pc + 4) + (4 * v))), (15, .pointer (some ((⟨b1, 0, none⟩ : Addr).add ((a).toNat)))), (77, i64 13), (158, bl false)]) 2 hA [] c0 ?_
  clear hA fr; intro fr hA
  refine cF hA ?_
  refine sC (e' := [(3, pt b1), (6, pt b2), (7, i64 0), (8, pt b3), (9, pt b4), (13, pt b5), (14, i64 ((pc + 4) + (4 * v))), (15, .pointer (some ((⟨b1, 0, none⟩ : Addr).add ((a).toNat)))), (77, i64 13), (166, bl false)]) 2 hA [] c0 ?_
  clear hA fr; intro fr hA
  refine cF hA ?_
  refine sC (e' := [(3, pt b1), (6, pt b2), (7, i64 0), (8, pt b3), (9, pt b4), (13, pt b5), (15, .pointer (some ((⟨b1, 0, none⟩ : Addr).add ((a).toNat)))), (77, i64 13), (175, bl false)]) 2 hA [] c0 ?_
  clear hA fr; intro fr hA
  refine cF hA ?_
  refine sC (e' := [(3, pt b1), (6, pt b2), (7, i64 0), (8, pt b3), (9, pt b4), (13, pt b5), (15, .pointer (some ((⟨b1, 0, none⟩ : Addr).add ((a).toNat)))), (182, bl false)]) 2 hA [] c0 ?_
  clear hA fr; intro fr hA
  refine cF hA ?_
  have hS : Ow Tryd.prog none' w _ [(b5, 40, (regsL R pc)), (b4, 25, [i64 13, i64 a, i64 b, i64 c, i64 v]), (b3, 43, [i64 0, i64 0, i64 0, i64 0, i64 0, i64 0, i64 0]), (b2, 40, [i32 0, i32 0, i32 0, i32 0, i32 0, i32 0, i32 0, i32 0, i32 0, i32 0, i32 0, i32 0, i32 0, i32 0, i32 0, i32 0, i64 0])] := hO.sub [0, 1, 2, 3]
  refine rP [(0, true), (1, true), (2, true), (3, true), (4, true), (5, true), (6, true), (7, true), (8, true), (9, true), (10, true), (11, true), (12, true), (13, false), (14, true), (15, false)] hS ?_
  intro w11 ho; replace hO := hO.st ho; clear ho
  refine ckS (l := (rg 0 13)) (r := [(13, false), (14, true), (15, false)]) (e' := [(3, pt b1), (6, pt b2), (7, i64 0), (8, pt b3), (78, .pointer (some ((⟨b1, 0, none⟩ : Addr).add ((a).toNat)))), (80, i64 13), (85, i32 (R ((b).toNat))), (90, i32 (R ((c).toNat)))]) hA [i64 13, i64 b, i32 (R ((b).toNat)), i64 c, i32 (R ((c).toNat))] (cc (hS.s1 1 0 3 (i64 13)) (cc (hS.s1 1 2 3 (i64 b)) (cc (⟨by omega, by omega⟩ : (0 : Int) ≤ b ∧ b < ((16 : Nat) : Int)) (cc (hS.sx ((⟨b5, 0, none⟩ : Addr).add ((b).toNat)) 21 (i32 (R ((b).toNat))) fun _ hO => (ld_regs (hO.b 0) (by omega) (by kernel_rfl))) (cc (hS.s1 1 3 3 (i64 c)) (cc (⟨by omega, by omega⟩ : (0 : Int) ≤ c ∧ c < ((16 : Nat) : Int)) (cc (hS.sx ((⟨b5, 0, none⟩ : Addr).add ((c).toNat)) 21 (i32 (R ((c).toNat))) fun _ hO => (ld_regs (hO.b 0) (by omega) (by kernel_rfl))) c0))))))) ?_
  clear hA fr; intro fr hA
  refine plan_mem (mK (f := 37) (args := [i64 13, i32 (R ((b).toNat)), i32 (R ((c).toNat))]) (d := (some 91)) (v := i32 (arithS 13 (R ((b).toNat)) (R ((c).toNat)))) hA hO Tryd.func37 (arithmetic_any 13 (R ((b).toNat)) (R ((c).toNat)) _ (by omega)) ?_)
  clear hA hO fr; intro fr w12 hA hO
  refine ⟨(hO.sub [0, 1, 2, 3]), ?_⟩
  replace hA := hA.sb (e' := [(3, pt b1), (6, pt b2), (7, i64 0), (8, pt b3), (78, .pointer (some ((⟨b1, 0, none⟩ : Addr).add ((a).toNat)))), (91, i32 (arithS 13 (R ((b).toNat)) (R ((c).toNat))))])
  refine ckS (l := [14]) (r := [(15, false)]) (e' := [(3, pt b1), (6, pt b2), (7, i64 0), (8, pt b3), (91, i32 (arithS 13 (R ((b).toNat)) (R ((c).toNat)))), (92, .pointer (some ((⟨b1, 0, none⟩ : Addr).add ((a).toNat))))]) hA [] c0 ?_
  clear hA fr; intro fr hA
  refine plan_mem (mSR (off := (a).toNat) (ad := (⟨b1, 0, none⟩ : Addr).add ((a).toNat)) (vc := [i32 (arithS 13 (R ((b).toNat)) (R ((c).toNat)))]) (l' := (regsL (upd R ((a).toNat) (arithS 13 (R ((b).toNat)) (R ((c).toNat)))) (pc + 4))) 4 hA hO (add_zero_off _ _) (regs_ble R (pc + 4) (by omega)) (setL_regs (by omega) _) ?_)
  clear hO; intro w13 hO
  refine ⟨(hO.sub [0, 1, 2, 3]), ?_⟩
  replace hA := hA.sb (e' := [(3, pt b1), (6, pt b2), (7, i64 0), (8, pt b3)])
  refine end_plan ?_
  refine inBlock_normal ?_
  refine then_normal ?_
  refine sR (l := (rg 0 5)) ?_
  refine ck (l := [0, 1]) (r := [2, 3, 4]) (e' := [(6, pt b2), (7, i64 0), (8, pt b3), (207, .agg (List.toArray (regsL (upd R ((a).toNat) (arithS 13 (R ((b).toNat)) (R ((c).toNat)))) (pc + 4)))), (208, .agg #[i64 0, i64 0, i64 0, i64 0, i64 0, i64 0, i64 0])]) hA [.agg (List.toArray (regsL (upd R ((a).toNat) (arithS 13 (R ((b).toNat)) (R ((c).toNat)))) (pc + 4)))] (cc (hO.ln 4 0 40 (regsL (upd R ((a).toNat) (arithS 13 (R ((b).toNat)) (R ((c).toNat)))) (pc + 4))) c0) ?_
  clear hA fr; intro fr hA
  refine wpOps_cons' (mS (off := 0) (vc := (regsL (upd R ((a).toNat) (arithS 13 (R ((b).toNat)) (R ((c).toNat)))) (pc + 4))) 3 hA hO ?_)
  clear hO; intro w14 hO
  replace hA := hA.sb (e' := [(6, pt b2), (7, i64 0), (8, pt b3), (208, .agg #[i64 0, i64 0, i64 0, i64 0, i64 0, i64 0, i64 0])])
  refine ck (l := [3]) (r := [4]) (e' := [(6, pt b2), (7, i64 0), (8, pt b3), (208, .agg #[i64 0, i64 0, i64 0, i64 0, i64 0, i64 0, i64 0])]) hA [] c0 ?_
  clear hA fr; intro fr hA
  refine wpOps_cons' (mS (off := 0) (vc := [i64 0, i64 0, i64 0, i64 0, i64 0, i64 0, i64 0]) 2 hA hO ?_)
  clear hO; intro w15 hO
  replace hA := hA.sb (e' := [(6, pt b2), (7, i64 0), (8, pt b3)])
  refine end_ops ?_
  refine then_normal ?_
  refine wp_ret ?_
  refine cR (cs := [some (⟨b2, 0, none⟩, 40), none, some (⟨b3, 0, none⟩, 43)]) (us := [.agg (List.toArray (regsL (upd R ((a).toNat) (arithS 13 (R ((b).toNat)) (R ((c).toNat)))) (pc + 4))), i64 0, .agg #[i64 0, i64 0, i64 0, i64 0, i64 0, i64 0, i64 0]]) hA [.agg (List.toArray (regsL (upd R ((a).toNat) (arithS 13 (R ((b).toNat)) (R ((c).toNat)))) (pc + 4))), .agg #[i64 0, i64 0, i64 0, i64 0, i64 0, i64 0, i64 0]] ⟨(hO.ln 3 0 40 (regsL (upd R ((a).toNat) (arithS 13 (R ((b).toNat)) (R ((c).toNat)))) (pc + 4))), (hO.ln 2 0 43 [i64 0, i64 0, i64 0, i64 0, i64 0, i64 0, i64 0]), trivial⟩ ?_
  have hF := hO.only; clear hA hO
  exact ⟨by simp_all [pack, execV, outV, noTrap, trapL, insV], hF⟩

theorem exec_14 (R : Nat → Int) (pc ld a b c v : Int) (sl : Value) (w : World) (hT : Tab w) (hR : RegsOk R) (hp : -1099511627776 < pc) (hp' : pc < 1099511627776) (ha : 0 ≤ a) (ha' : a ≤ 15) (hb : 0 ≤ b) (hb' : b ≤ 15) (hc : -128 ≤ c) (hc' : c ≤ 127) (hv : -32768 ≤ v) (hv' : v ≤ 32767) (hdec : ∀ w', Only none' w w' → Calls Tryd.prog 13 #[sl] w' fun e w2 => e = .returned (.tuple #[insV 14 a b c v, .int .i64 0]) ∧ Only none' w' w2) :
    Calls Tryd.prog 18 #[.agg (List.toArray (regsL R pc)), sl, i64 ld] w fun e w' => e = .returned (execV R pc ld 14 a b c v) ∧ Only none' w w' := by
  refine c_enter (args := [.agg (List.toArray (regsL R pc)), sl, i64 ld]) (m := 206) (n := 209) Tryd.func18 rfl (by kernel_rfl) (by kernel_rfl) fun fr hA => ?_
  have hO := Ow.nil Tryd.prog none' w
  have hRa := hR a.toNat; have hRb := hR b.toNat; have hRc := hR c.toNat; simp only [inK] at hRa hRb hRc
  refine sR (l := [0, 1, 2, 3]) ?_
  refine wpOps_cons' (mN (l := (regsL R pc)) (t := 40) (v := pt) (d := 3) hA hO ?_)
  clear hA hO fr; intro fr w1 b1 hA hO
  replace hA := hA.sb (e' := [(1, sl), (2, i64 ld), (3, pt b1)])
  refine wpOps_cons' (mN (l := [i32 0, i32 0, i32 0, i32 0, i32 0, i32 0, i32 0, i32 0, i32 0, i32 0, i32 0, i32 0, i32 0, i32 0, i32 0, i32 0, i64 0]) (t := 40) (v := pt) (d := 6) hA hO ?_)
  clear hA hO fr; intro fr w2 b2 hA hO
  refine ck (l := [2]) (r := [3]) (e' := [(1, sl), (2, i64 ld), (3, pt b1), (6, pt b2), (7, i64 0)]) hA [] c0 ?_
  clear hA fr; intro fr hA
  refine wpOps_cons' (mN (l := [i64 0, i64 0, i64 0, i64 0, i64 0, i64 0, i64 0]) (t := 43) (v := pt) (d := 8) hA hO ?_)
  clear hA hO fr; intro fr w3 b3 hA hO
  refine end_ops ?_
  refine then_normal ?_
  refine sR (l := (rg 0 8)) ?_
  refine ck (l := [0]) (r := (rg 1 7)) (e' := [(2, i64 ld), (3, pt b1), (6, pt b2), (7, i64 0), (8, pt b3), (18, sl)]) hA [] c0 ?_
  clear hA fr; intro fr hA
  refine wpOps_cons' (mK (f := 13) (args := [sl]) (d := (some 19)) (v := .tuple #[.agg #[i64 14, i64 a, i64 b, i64 c, i64 v], i64 0]) hA hO Tryd.func13 (hdec _ hO.only) ?_)
  clear hA hO fr; intro fr w4 hA hO
  replace hA := hA.sb (e' := [(2, i64 ld), (3, pt b1), (6, pt b2), (7, i64 0), (8, pt b3), (19, .tuple #[.agg #[i64 14, i64 a, i64 b, i64 c, i64 v], i64 0])])
  refine ck (l := [2, 3, 4]) (r := [5, 6, 7]) (e' := [(2, i64 ld), (3, pt b1), (6, pt b2), (7, i64 0), (8, pt b3), (20, .agg #[i64 14, i64 a, i64 b, i64 c, i64 v]), (21, i64 0)]) hA [] c0 ?_
  clear hA fr; intro fr hA
  refine wpOps_cons' (mN (l := [i64 0, i64 0, i64 0, i64 0, i64 0]) (t := 25) (v := pt) (d := 9) hA hO ?_)
  clear hA hO fr; intro fr w5 b4 hA hO
  refine wpOps_cons' (mS (off := 0) (vc := [i64 14, i64 a, i64 b, i64 c, i64 v]) 0 hA hO ?_)
  clear hO; intro w6 hO
  replace hA := hA.sb (e' := [(2, i64 ld), (3, pt b1), (6, pt b2), (7, i64 0), (8, pt b3), (9, pt b4), (21, i64 0)])
  refine ck (l := [7]) (r := []) (e' := [(2, i64 ld), (3, pt b1), (6, pt b2), (7, i64 0), (8, pt b3), (9, pt b4), (10, i64 0)]) hA [] c0 ?_
  clear hA fr; intro fr hA
  refine end_ops ?_
  refine then_normal ?_
  refine wp_seq ?_
  refine sC (e' := [(2, i64 ld), (3, pt b1), (6, pt b2), (7, i64 0), (8, pt b3), (9, pt b4), (23, bl false)]) 2 hA [] c0 ?_
  clear hA fr; intro fr hA
  refine cF hA ?_
  refine wp_skip ?_
  refine then_normal ?_
  refine wp_seq ?_
  refine sR (l := (rg 0 8)) ?_
  refine ck (l := [0, 1]) (r := (rg 2 6)) (e' := [(2, i64 ld), (3, pt b1), (6, pt b2), (7, i64 0), (8, pt b3), (9, pt b4), (27, .agg (List.toArray (regsL R pc))), (28, .agg #[i64 14, i64 a, i64 b, i64 c, i64 v])]) hA [.agg (List.toArray (regsL R pc)), .agg #[i64 14, i64 a, i64 b, i64 c, i64 v]] (cc (hO.ln 3 0 40 (regsL R pc)) (cc (hO.ln 0 0 25 [i64 14, i64 a, i64 b, i64 c, i64 v]) c0)) ?_
  clear hA fr; intro fr hA
  refine wpOps_cons' (mK (f := 36) (args := [.agg (List.toArray (regsL R pc)), .agg #[i64 14, i64 a, i64 b, i64 c, i64 v]]) (d := (some 29)) (v := .tuple #[i64 (R b.toNat + c), i64 4]) hA hO Tryd.func36 (place_any R pc 14 a b c v _ hR hb hb' (by omega) (by omega)) ?_)
  clear hA hO fr; intro fr w7 hA hO
  replace hA := hA.sb (e' := [(2, i64 ld), (3, pt b1), (6, pt b2), (7, i64 0), (8, pt b3), (9, pt b4), (29, .tuple #[i64 (R b.toNat + c), i64 4])])
  refine ck (l := (rg 3 5)) (r := []) (e' := [(2, i64 ld), (3, pt b1), (6, pt b2), (7, i64 0), (8, pt b3), (9, pt b4), (11, i64 (R b.toNat + c)), (12, i64 4)]) hA [] c0 ?_
  clear hA fr; intro fr hA
  refine end_ops ?_
  refine then_normal ?_
  refine sC (e' := [(2, i64 ld), (3, pt b1), (6, pt b2), (7, i64 0), (8, pt b3), (9, pt b4), (39, bl (((R b.toNat + c).tmod 4) != 0))]) 8 hA [bl false] (cc (by omega : 4 ≠ (0 : Int)) c0) ?_
  clear hA fr; intro fr hA
  rcases Bool.eq_false_or_eq_true (((R b.toNat + c).tmod 4) != 0) with h1 | h1
  ·
    replace hA := hA.bool (f := fun z_ => [(2, i64 ld), (3, pt b1), (6, pt b2), (7, i64 0), (8, pt b3), (9, pt b4), (39, .bool z_)]) h1
    have h1p := ne_of_bne h1
    refine cT hA ?_
    refine wp_seq ?_
    have hS : Ow Tryd.prog none' w _ [(b4, 25, [i64 14, i64 a, i64 b, i64 c, i64 v]), (b1, 40, (regsL R pc))] := hO.sub [0, 3]
    refine rP [(0, true), (1, false), (2, false), (3, true), (4, false)] hS ?_
    intro w8 ho; replace hO := hO.st ho; clear ho
    refine ckS (l := [0]) (r := [(1, false), (2, false), (3, true), (4, false)]) (e' := [(2, i64 ld), (3, pt b1), (6, pt b2), (7, i64 0), (8, pt b3), (9, pt b4), (40, .agg (List.toArray (regsL R pc)))]) hA [.agg (List.toArray (regsL R pc))] (cc (hS.sn 1 0 40 (regsL R pc)) c0) ?_
    clear hA fr; intro fr hA
    refine plan_mem (mK (f := 35) (args := [i64 3]) (d := (some 41)) (v := .agg #[i64 2, i64 3, i64 0, i64 0, i64 0, i64 0, i64 0]) hA hO Tryd.func35 (exception_any 3 _) ?_)
    clear hA hO fr; intro fr w9 hA hO
    refine ⟨(hO.sub [0, 3]), ?_⟩
    refine plan_mem (mS (off := 0) (vc := (regsL R pc)) 2 hA hO ?_)
    clear hO; intro w10 hO
    refine ⟨(hO.sub [0, 3]), ?_⟩
    replace hA := hA.sb (e' := [(2, i64 ld), (3, pt b1), (6, pt b2), (7, i64 0), (8, pt b3), (9, pt b4), (41, .agg #[i64 2, i64 3, i64 0, i64 0, i64 0, i64 0, i64 0])])
    refine ckS (l := [3]) (r := [(4, false)]) (e' := [(2, i64 ld), (3, pt b1), (6, pt b2), (7, i64 0), (8, pt b3), (9, pt b4), (41, .agg #[i64 2, i64 3, i64 0, i64 0, i64 0, i64 0, i64 0])]) hA [] c0 ?_
    clear hA fr; intro fr hA
    refine plan_mem (mS (off := 0) (vc := [i64 2, i64 3, i64 0, i64 0, i64 0, i64 0, i64 0]) 1 hA hO ?_)
    clear hO; intro w11 hO
    refine ⟨(hO.sub [0, 3]), ?_⟩
    replace hA := hA.sb (e' := [(2, i64 ld), (3, pt b1), (6, pt b2), (7, i64 0), (8, pt b3), (9, pt b4)])
    refine end_plan ?_
    refine then_normal ?_
    refine wp_ret ?_
    refine then_ret ?_
    refine cR (cs := [some (⟨b2, 0, none⟩, 40), none, some (⟨b3, 0, none⟩, 43)]) (us := [.agg (List.toArray (regsL R pc)), i64 0, .agg #[i64 2, i64 3, i64 0, i64 0, i64 0, i64 0, i64 0]]) hA [.agg (List.toArray (regsL R pc)), .agg #[i64 2, i64 3, i64 0, i64 0, i64 0, i64 0, i64 0]] ⟨(hO.ln 2 0 40 (regsL R pc)), (hO.ln 1 0 43 [i64 2, i64 3, i64 0, i64 0, i64 0, i64 0, i64 0]), trivial⟩ ?_
    have hF := hO.only; clear hA hO
    exact ⟨by simp_all [pack, execV, outV, noTrap, trapL, insV], hF⟩
  ·
    replace hA := hA.bool (f := fun z_ => [(2, i64 ld), (3, pt b1), (6, pt b2), (7, i64 0), (8, pt b3), (9, pt b4), (39, .bool z_)]) h1
    have h1p := eq_of_bne_false h1
    refine cF hA ?_
    refine wp_skip ?_
    refine then_normal ?_
    refine wp_seq ?_
    refine sC (e' := [(2, i64 ld), (3, pt b1), (6, pt b2), (7, i64 0), (8, pt b3), (9, pt b4), (57, bl false)]) 16 hA [i64 14, i64 14] (cc (hO.l1 0 0 3 (i64 14)) (cc (hO.l1 0 0 3 (i64 14)) c0)) ?_
    clear hA fr; intro fr hA
    refine cF hA ?_
    refine wp_skip ?_
    refine then_normal ?_
    refine sR (l := [0, 1, 2]) ?_
    refine ck (l := [0]) (r := [1, 2]) (e' := [(2, i64 ld), (3, pt b1), (6, pt b2), (7, i64 0), (8, pt b3), (9, pt b4), (60, .agg (List.toArray (regsL R pc)))]) hA [.agg (List.toArray (regsL R pc))] (cc (hO.ln 3 0 40 (regsL R pc)) c0) ?_
    clear hA fr; intro fr hA
    refine wpOps_cons' (mN (l := [i32 0, i32 0, i32 0, i32 0, i32 0, i32 0, i32 0, i32 0, i32 0, i32 0, i32 0, i32 0, i32 0, i32 0, i32 0, i32 0, i64 0]) (t := 40) (v := pt) (d := 13) hA hO ?_)
    clear hA hO fr; intro fr w12 b5 hA hO
    refine wpOps_cons' (mS (off := 0) (vc := (regsL R pc)) 0 hA hO ?_)
    clear hO; intro w13 hO
    replace hA := hA.sb (e' := [(2, i64 ld), (3, pt b1), (6, pt b2), (7, i64 0), (8, pt b3), (9, pt b4), (13, pt b5)])
    refine end_ops ?_
    refine then_normal ?_
    refine sC (e' := [(2, i64 ld), (3, pt b1), (6, pt b2), (7, i64 0), (8, pt b3), (9, pt b4), (13, pt b5), (14, i64 ((pc + 4) + (4 * v)))]) 8 hA [i64 pc, bl true, i64 v, bl true, bl true] (cc (hO.l1 4 16 3 (i64 pc)) (cc ((inK_i64 (by omega) (by omega)) : inK .i64 (pc + 4)) (cc (hO.l1 1 4 3 (i64 v)) (cc ((inK_i64 (by omega) (by omega)) : inK .i64 (4 * v)) (cc ((inK_i64 (by omega) (by omega)) : inK .i64 ((pc + 4) + (4 * v))) c0))))) ?_
    clear hA fr; intro fr hA
    refine sR (l := (rg 0 5)) ?_
    refine ck (l := [0, 1, 2, 3]) (r := [4]) (e' := [(2, i64 ld), (3, pt b1), (6, pt b2), (7, i64 0), (8, pt b3), (9, pt b4), (13, pt b5), (14, i64 ((pc + 4) + (4 * v))), (70, i64 (pc + 4)), (71, pf b1 16)]) hA [i64 pc, bl true] (cc (hO.l1 4 16 3 (i64 pc)) (cc ((inK_i64 (by omega) (by omega)) : inK .i64 (pc + 4)) c0)) ?_
    clear hA fr; intro fr hA
    refine wpOps_cons' (mSR (off := 16) (ad := ⟨b1, 16, none⟩) (vc := [i64 (pc + 4)]) (l' := (regsL R (pc + 4))) 4 hA hO rfl (by kernel_rfl) (by kernel_rfl) ?_)
    clear hO; intro w14 hO
    replace hA := hA.sb (e' := [(2, i64 ld), (3, pt b1), (6, pt b2), (7, i64 0), (8, pt b3), (9, pt b4), (13, pt b5), (14, i64 ((pc + 4) + (4 * v)))])
    refine end_ops ?_
    refine then_normal ?_
    refine sC (e' := [(2, i64 ld), (3, pt b1), (6, pt b2), (7, i64 0), (8, pt b3), (9, pt b4), (13, pt b5), (14, i64 ((pc + 4) + (4 * v))), (15, .pointer (some ((⟨b1, 0, none⟩ : Addr).add ((a).toNat))))]) 5 hA [i64 a] (cc (hO.l1 1 1 3 (i64 a)) (cc (⟨by omega, by omega⟩ : (0 : Int) ≤ a ∧ a < ((16 : Nat) : Int)) c0)) ?_
    clear hA fr; intro fr hA
    refine wp_seq ?_
    refine sC (e' := [(2, i64 ld), (3, pt b1), (6, pt b2), (7, i64 0), (8, pt b3), (9, pt b4), (13, pt b5), (14, i64 ((pc + 4) + (4 * v))), (15, .pointer (some ((⟨b1, 0, none⟩ : Addr).add ((a).toNat)))), (77, i64 14)]) 2 hA [i64 14] (cc (hO.l1 1 0 3 (i64 14)) c0) ?_
    clear hA fr; intro fr hA
    refine wp_block ?_
    refine sC (e' := [(2, i64 ld), (3, pt b1), (6, pt b2), (7, i64 0), (8, pt b3), (9, pt b4), (13, pt b5), (14, i64 ((pc + 4) + (4 * v))), (15, .pointer (some ((⟨b1, 0, none⟩ : Addr).add ((a).toNat)))), (77, i64 14), (93, bl false)]) 2 hA [] c0 ?_
    clear hA fr; intro fr hA
    refine cF hA ?_
    refine sC (e' := [(2, i64 ld), (3, pt b1), (6, pt b2), (7, i64 0), (8, pt b3), (9, pt b4), (13, pt b5), (14, i64 ((pc + 4) + (4 * v))), (15, .pointer (some ((⟨b1, 0, none⟩ : Addr).add ((a).toNat)))), (77, i64 14), (100, bl false)]) 2 hA [] c0 ?_
    clear hA fr; intro fr hA
    refine cF hA ?_
    refine sC (e' := [(2, i64 ld), (3, pt b1), (6, pt b2), (7, i64 0), (8, pt b3), (9, pt b4), (13, pt b5), (14, i64 ((pc + 4) + (4 * v))), (15, .pointer (some ((⟨b1, 0, none⟩ : Addr).add ((a).toNat)))), (77, i64 14), (111, bl false)]) 2 hA [] c0 ?_
    clear hA fr; intro fr hA
    refine cF hA ?_
    refine sC (e' := [(2, i64 ld), (3, pt b1), (6, pt b2), (7, i64 0), (8, pt b3), (9, pt b4), (13, pt b5), (14, i64 ((pc + 4) + (4 * v))), (15, .pointer (some ((⟨b1, 0, none⟩ : Addr).add ((a).toNat)))), (77, i64 14), (124, bl true)]) 2 hA [] c0 ?_
    clear hA fr; intro fr hA
    refine cT hA ?_
    refine rR (l := (rg 0 5)) ?_
    refine ck (l := [0, 1, 2, 3]) (r := [4]) (e' := [(3, pt b1), (6, pt b2), (7, i64 0), (8, pt b3), (128, i32 (IntKind.i32.wrap ld)), (129, .pointer (some ((⟨b1, 0, none⟩ : Addr).add ((a).toNat))))]) hA [bl false] c0 ?_
    clear hA fr; intro fr hA
    refine wpOps_cons' (mSR (off := (a).toNat) (ad := (⟨b1, 0, none⟩ : Addr).add ((a).toNat)) (vc := [i32 (IntKind.i32.wrap ld)]) (l' := (regsL (upd R ((a).toNat) (IntKind.i32.wrap ld)) (pc + 4))) 4 hA hO (add_zero_off _ _) (regs_ble R (pc + 4) (by omega)) (setL_regs (by omega) _) ?_)
    clear hO; intro w15 hO
    replace hA := hA.sb (e' := [(3, pt b1), (6, pt b2), (7, i64 0), (8, pt b3)])
    refine end_ops ?_
    refine inBlock_normal ?_
    refine then_normal ?_
    refine sR (l := (rg 0 5)) ?_
    refine ck (l := [0, 1]) (r := [2, 3, 4]) (e' := [(6, pt b2), (7, i64 0), (8, pt b3), (207, .agg (List.toArray (regsL (upd R ((a).toNat) (IntKind.i32.wrap ld)) (pc + 4)))), (208, .agg #[i64 0, i64 0, i64 0, i64 0, i64 0, i64 0, i64 0])]) hA [.agg (List.toArray (regsL (upd R ((a).toNat) (IntKind.i32.wrap ld)) (pc + 4)))] (cc (hO.ln 4 0 40 (regsL (upd R ((a).toNat) (IntKind.i32.wrap ld)) (pc + 4))) c0) ?_
    clear hA fr; intro fr hA
    refine wpOps_cons' (mS (off := 0) (vc := (regsL (upd R ((a).toNat) (IntKind.i32.wrap ld)) (pc + 4))) 3 hA hO ?_)
    clear hO; intro w16 hO
    replace hA := hA.sb (e' := [(6, pt b2), (7, i64 0), (8, pt b3), (208, .agg #[i64 0, i64 0, i64 0, i64 0, i64 0, i64 0, i64 0])])
    refine ck (l := [3]) (r := [4]) (e' := [(6, pt b2), (7, i64 0), (8, pt b3), (208, .agg #[i64 0, i64 0, i64 0, i64 0, i64 0, i64 0, i64 0])]) hA [] c0 ?_
    clear hA fr; intro fr hA
    refine wpOps_cons' (mS (off := 0) (vc := [i64 0, i64 0, i64 0, i64 0, i64 0, i64 0, i64 0]) 2 hA hO ?_)
    clear hO; intro w17 hO
    replace hA := hA.sb (e' := [(6, pt b2), (7, i64 0), (8, pt b3)])
    refine end_ops ?_
    refine then_normal ?_
    refine wp_ret ?_
    refine cR (cs := [some (⟨b2, 0, none⟩, 40), none, some (⟨b3, 0, none⟩, 43)]) (us := [.agg (List.toArray (regsL (upd R ((a).toNat) (IntKind.i32.wrap ld)) (pc + 4))), i64 0, .agg #[i64 0, i64 0, i64 0, i64 0, i64 0, i64 0, i64 0]]) hA [.agg (List.toArray (regsL (upd R ((a).toNat) (IntKind.i32.wrap ld)) (pc + 4))), .agg #[i64 0, i64 0, i64 0, i64 0, i64 0, i64 0, i64 0]] ⟨(hO.ln 3 0 40 (regsL (upd R ((a).toNat) (IntKind.i32.wrap ld)) (pc + 4))), (hO.ln 2 0 43 [i64 0, i64 0, i64 0, i64 0, i64 0, i64 0, i64 0]), trivial⟩ ?_
    have hF := hO.only; clear hA hO
    exact ⟨by simp_all [pack, execV, outV, noTrap, trapL, insV], hF⟩

theorem exec_15 (R : Nat → Int) (pc ld a b c v : Int) (sl : Value) (w : World) (hT : Tab w) (hR : RegsOk R) (hp : -1099511627776 < pc) (hp' : pc < 1099511627776) (ha : 0 ≤ a) (ha' : a ≤ 15) (hb : 0 ≤ b) (hb' : b ≤ 15) (hc : -128 ≤ c) (hc' : c ≤ 127) (hv : -32768 ≤ v) (hv' : v ≤ 32767) (hdec : ∀ w', Only none' w w' → Calls Tryd.prog 13 #[sl] w' fun e w2 => e = .returned (.tuple #[insV 15 a b c v, .int .i64 0]) ∧ Only none' w' w2) :
    Calls Tryd.prog 18 #[.agg (List.toArray (regsL R pc)), sl, i64 ld] w fun e w' => e = .returned (execV R pc ld 15 a b c v) ∧ Only none' w w' := by
  refine c_enter (args := [.agg (List.toArray (regsL R pc)), sl, i64 ld]) (m := 206) (n := 209) Tryd.func18 rfl (by kernel_rfl) (by kernel_rfl) fun fr hA => ?_
  have hO := Ow.nil Tryd.prog none' w
  have hRa := hR a.toNat; have hRb := hR b.toNat; have hRc := hR c.toNat; simp only [inK] at hRa hRb hRc
  refine sR (l := [0, 1, 2, 3]) ?_
  refine wpOps_cons' (mN (l := (regsL R pc)) (t := 40) (v := pt) (d := 3) hA hO ?_)
  clear hA hO fr; intro fr w1 b1 hA hO
  replace hA := hA.sb (e' := [(1, sl), (2, i64 ld), (3, pt b1)])
  refine wpOps_cons' (mN (l := [i32 0, i32 0, i32 0, i32 0, i32 0, i32 0, i32 0, i32 0, i32 0, i32 0, i32 0, i32 0, i32 0, i32 0, i32 0, i32 0, i64 0]) (t := 40) (v := pt) (d := 6) hA hO ?_)
  clear hA hO fr; intro fr w2 b2 hA hO
  refine ck (l := [2]) (r := [3]) (e' := [(1, sl), (2, i64 ld), (3, pt b1), (6, pt b2), (7, i64 0)]) hA [] c0 ?_
  clear hA fr; intro fr hA
  refine wpOps_cons' (mN (l := [i64 0, i64 0, i64 0, i64 0, i64 0, i64 0, i64 0]) (t := 43) (v := pt) (d := 8) hA hO ?_)
  clear hA hO fr; intro fr w3 b3 hA hO
  refine end_ops ?_
  refine then_normal ?_
  refine sR (l := (rg 0 8)) ?_
  refine ck (l := [0]) (r := (rg 1 7)) (e' := [(2, i64 ld), (3, pt b1), (6, pt b2), (7, i64 0), (8, pt b3), (18, sl)]) hA [] c0 ?_
  clear hA fr; intro fr hA
  refine wpOps_cons' (mK (f := 13) (args := [sl]) (d := (some 19)) (v := .tuple #[.agg #[i64 15, i64 a, i64 b, i64 c, i64 v], i64 0]) hA hO Tryd.func13 (hdec _ hO.only) ?_)
  clear hA hO fr; intro fr w4 hA hO
  replace hA := hA.sb (e' := [(2, i64 ld), (3, pt b1), (6, pt b2), (7, i64 0), (8, pt b3), (19, .tuple #[.agg #[i64 15, i64 a, i64 b, i64 c, i64 v], i64 0])])
  refine ck (l := [2, 3, 4]) (r := [5, 6, 7]) (e' := [(2, i64 ld), (3, pt b1), (6, pt b2), (7, i64 0), (8, pt b3), (20, .agg #[i64 15, i64 a, i64 b, i64 c, i64 v]), (21, i64 0)]) hA [] c0 ?_
  clear hA fr; intro fr hA
  refine wpOps_cons' (mN (l := [i64 0, i64 0, i64 0, i64 0, i64 0]) (t := 25) (v := pt) (d := 9) hA hO ?_)
  clear hA hO fr; intro fr w5 b4 hA hO
  refine wpOps_cons' (mS (off := 0) (vc := [i64 15, i64 a, i64 b, i64 c, i64 v]) 0 hA hO ?_)
  clear hO; intro w6 hO
  replace hA := hA.sb (e' := [(2, i64 ld), (3, pt b1), (6, pt b2), (7, i64 0), (8, pt b3), (9, pt b4), (21, i64 0)])
  refine ck (l := [7]) (r := []) (e' := [(2, i64 ld), (3, pt b1), (6, pt b2), (7, i64 0), (8, pt b3), (9, pt b4), (10, i64 0)]) hA [] c0 ?_
  clear hA fr; intro fr hA
  refine end_ops ?_
  refine then_normal ?_
  refine wp_seq ?_
  refine sC (e' := [(2, i64 ld), (3, pt b1), (6, pt b2), (7, i64 0), (8, pt b3), (9, pt b4), (23, bl false)]) 2 hA [] c0 ?_
  clear hA fr; intro fr hA
  refine cF hA ?_
  refine wp_skip ?_
  refine then_normal ?_
  refine wp_seq ?_
  refine sR (l := (rg 0 8)) ?_
  refine ck (l := [0, 1]) (r := (rg 2 6)) (e' := [(2, i64 ld), (3, pt b1), (6, pt b2), (7, i64 0), (8, pt b3), (9, pt b4), (27, .agg (List.toArray (regsL R pc))), (28, .agg #[i64 15, i64 a, i64 b, i64 c, i64 v])]) hA [.agg (List.toArray (regsL R pc)), .agg #[i64 15, i64 a, i64 b, i64 c, i64 v]] (cc (hO.ln 3 0 40 (regsL R pc)) (cc (hO.ln 0 0 25 [i64 15, i64 a, i64 b, i64 c, i64 v]) c0)) ?_
  clear hA fr; intro fr hA
  refine wpOps_cons' (mK (f := 36) (args := [.agg (List.toArray (regsL R pc)), .agg #[i64 15, i64 a, i64 b, i64 c, i64 v]]) (d := (some 29)) (v := .tuple #[i64 (R b.toNat + c), i64 4]) hA hO Tryd.func36 (place_any R pc 15 a b c v _ hR hb hb' (by omega) (by omega)) ?_)
  clear hA hO fr; intro fr w7 hA hO
  replace hA := hA.sb (e' := [(2, i64 ld), (3, pt b1), (6, pt b2), (7, i64 0), (8, pt b3), (9, pt b4), (29, .tuple #[i64 (R b.toNat + c), i64 4])])
  refine ck (l := (rg 3 5)) (r := []) (e' := [(2, i64 ld), (3, pt b1), (6, pt b2), (7, i64 0), (8, pt b3), (9, pt b4), (11, i64 (R b.toNat + c)), (12, i64 4)]) hA [] c0 ?_
  clear hA fr; intro fr hA
  refine end_ops ?_
  refine then_normal ?_
  refine sC (e' := [(2, i64 ld), (3, pt b1), (6, pt b2), (7, i64 0), (8, pt b3), (9, pt b4), (39, bl (((R b.toNat + c).tmod 4) != 0))]) 8 hA [bl false] (cc (by omega : 4 ≠ (0 : Int)) c0) ?_
  clear hA fr; intro fr hA
  rcases Bool.eq_false_or_eq_true (((R b.toNat + c).tmod 4) != 0) with h1 | h1
  ·
    replace hA := hA.bool (f := fun z_ => [(2, i64 ld), (3, pt b1), (6, pt b2), (7, i64 0), (8, pt b3), (9, pt b4), (39, .bool z_)]) h1
    have h1p := ne_of_bne h1
    refine cT hA ?_
    refine wp_seq ?_
    have hS : Ow Tryd.prog none' w _ [(b4, 25, [i64 15, i64 a, i64 b, i64 c, i64 v]), (b1, 40, (regsL R pc))] := hO.sub [0, 3]
    refine rP [(0, true), (1, false), (2, false), (3, true), (4, false)] hS ?_
    intro w8 ho; replace hO := hO.st ho; clear ho
    refine ckS (l := [0]) (r := [(1, false), (2, false), (3, true), (4, false)]) (e' := [(2, i64 ld), (3, pt b1), (6, pt b2), (7, i64 0), (8, pt b3), (9, pt b4), (40, .agg (List.toArray (regsL R pc)))]) hA [.agg (List.toArray (regsL R pc))] (cc (hS.sn 1 0 40 (regsL R pc)) c0) ?_
    clear hA fr; intro fr hA
    refine plan_mem (mK (f := 35) (args := [i64 3]) (d := (some 41)) (v := .agg #[i64 2, i64 3, i64 0, i64 0, i64 0, i64 0, i64 0]) hA hO Tryd.func35 (exception_any 3 _) ?_)
    clear hA hO fr; intro fr w9 hA hO
    refine ⟨(hO.sub [0, 3]), ?_⟩
    refine plan_mem (mS (off := 0) (vc := (regsL R pc)) 2 hA hO ?_)
    clear hO; intro w10 hO
    refine ⟨(hO.sub [0, 3]), ?_⟩
    replace hA := hA.sb (e' := [(2, i64 ld), (3, pt b1), (6, pt b2), (7, i64 0), (8, pt b3), (9, pt b4), (41, .agg #[i64 2, i64 3, i64 0, i64 0, i64 0, i64 0, i64 0])])
    refine ckS (l := [3]) (r := [(4, false)]) (e' := [(2, i64 ld), (3, pt b1), (6, pt b2), (7, i64 0), (8, pt b3), (9, pt b4), (41, .agg #[i64 2, i64 3, i64 0, i64 0, i64 0, i64 0, i64 0])]) hA [] c0 ?_
    clear hA fr; intro fr hA
    refine plan_mem (mS (off := 0) (vc := [i64 2, i64 3, i64 0, i64 0, i64 0, i64 0, i64 0]) 1 hA hO ?_)
    clear hO; intro w11 hO
    refine ⟨(hO.sub [0, 3]), ?_⟩
    replace hA := hA.sb (e' := [(2, i64 ld), (3, pt b1), (6, pt b2), (7, i64 0), (8, pt b3), (9, pt b4)])
    refine end_plan ?_
    refine then_normal ?_
    refine wp_ret ?_
    refine then_ret ?_
    refine cR (cs := [some (⟨b2, 0, none⟩, 40), none, some (⟨b3, 0, none⟩, 43)]) (us := [.agg (List.toArray (regsL R pc)), i64 0, .agg #[i64 2, i64 3, i64 0, i64 0, i64 0, i64 0, i64 0]]) hA [.agg (List.toArray (regsL R pc)), .agg #[i64 2, i64 3, i64 0, i64 0, i64 0, i64 0, i64 0]] ⟨(hO.ln 2 0 40 (regsL R pc)), (hO.ln 1 0 43 [i64 2, i64 3, i64 0, i64 0, i64 0, i64 0, i64 0]), trivial⟩ ?_
    have hF := hO.only; clear hA hO
    exact ⟨by simp_all [pack, execV, outV, noTrap, trapL, insV], hF⟩
  ·
    replace hA := hA.bool (f := fun z_ => [(2, i64 ld), (3, pt b1), (6, pt b2), (7, i64 0), (8, pt b3), (9, pt b4), (39, .bool z_)]) h1
    have h1p := eq_of_bne_false h1
    refine cF hA ?_
    refine wp_skip ?_
    refine then_normal ?_
    refine wp_seq ?_
    refine sC (e' := [(2, i64 ld), (3, pt b1), (6, pt b2), (7, i64 0), (8, pt b3), (9, pt b4), (57, bl false)]) 16 hA [i64 15, i64 15] (cc (hO.l1 0 0 3 (i64 15)) (cc (hO.l1 0 0 3 (i64 15)) c0)) ?_
    clear hA fr; intro fr hA
    refine cF hA ?_
    refine wp_skip ?_
    refine then_normal ?_
    refine sR (l := [0, 1, 2]) ?_
    refine ck (l := [0]) (r := [1, 2]) (e' := [(2, i64 ld), (3, pt b1), (6, pt b2), (7, i64 0), (8, pt b3), (9, pt b4), (60, .agg (List.toArray (regsL R pc)))]) hA [.agg (List.toArray (regsL R pc))] (cc (hO.ln 3 0 40 (regsL R pc)) c0) ?_
    clear hA fr; intro fr hA
    refine wpOps_cons' (mN (l := [i32 0, i32 0, i32 0, i32 0, i32 0, i32 0, i32 0, i32 0, i32 0, i32 0, i32 0, i32 0, i32 0, i32 0, i32 0, i32 0, i64 0]) (t := 40) (v := pt) (d := 13) hA hO ?_)
    clear hA hO fr; intro fr w12 b5 hA hO
    refine wpOps_cons' (mS (off := 0) (vc := (regsL R pc)) 0 hA hO ?_)
    clear hO; intro w13 hO
    replace hA := hA.sb (e' := [(2, i64 ld), (3, pt b1), (6, pt b2), (7, i64 0), (8, pt b3), (9, pt b4), (13, pt b5)])
    refine end_ops ?_
    refine then_normal ?_
    refine sC (e' := [(2, i64 ld), (3, pt b1), (6, pt b2), (7, i64 0), (8, pt b3), (9, pt b4), (13, pt b5), (14, i64 ((pc + 4) + (4 * v)))]) 8 hA [i64 pc, bl true, i64 v, bl true, bl true] (cc (hO.l1 4 16 3 (i64 pc)) (cc ((inK_i64 (by omega) (by omega)) : inK .i64 (pc + 4)) (cc (hO.l1 1 4 3 (i64 v)) (cc ((inK_i64 (by omega) (by omega)) : inK .i64 (4 * v)) (cc ((inK_i64 (by omega) (by omega)) : inK .i64 ((pc + 4) + (4 * v))) c0))))) ?_
    clear hA fr; intro fr hA
    refine sR (l := (rg 0 5)) ?_
    refine ck (l := [0, 1, 2, 3]) (r := [4]) (e' := [(2, i64 ld), (3, pt b1), (6, pt b2), (7, i64 0), (8, pt b3), (9, pt b4), (13, pt b5), (14, i64 ((pc + 4) + (4 * v))), (70, i64 (pc + 4)), (71, pf b1 16)]) hA [i64 pc, bl true] (cc (hO.l1 4 16 3 (i64 pc)) (cc ((inK_i64 (by omega) (by omega)) : inK .i64 (pc + 4)) c0)) ?_
    clear hA fr; intro fr hA
    refine wpOps_cons' (mSR (off := 16) (ad := ⟨b1, 16, none⟩) (vc := [i64 (pc + 4)]) (l' := (regsL R (pc + 4))) 4 hA hO rfl (by kernel_rfl) (by kernel_rfl) ?_)
    clear hO; intro w14 hO
    replace hA := hA.sb (e' := [(2, i64 ld), (3, pt b1), (6, pt b2), (7, i64 0), (8, pt b3), (9, pt b4), (13, pt b5), (14, i64 ((pc + 4) + (4 * v)))])
    refine end_ops ?_
    refine then_normal ?_
    refine sC (e' := [(2, i64 ld), (3, pt b1), (6, pt b2), (7, i64 0), (8, pt b3), (9, pt b4), (13, pt b5), (14, i64 ((pc + 4) + (4 * v))), (15, .pointer (some ((⟨b1, 0, none⟩ : Addr).add ((a).toNat))))]) 5 hA [i64 a] (cc (hO.l1 1 1 3 (i64 a)) (cc (⟨by omega, by omega⟩ : (0 : Int) ≤ a ∧ a < ((16 : Nat) : Int)) c0)) ?_
    clear hA fr; intro fr hA
    refine wp_seq ?_
    refine sC (e' := [(2, i64 ld), (3, pt b1), (6, pt b2), (7, i64 0), (8, pt b3), (9, pt b4), (13, pt b5), (14, i64 ((pc + 4) + (4 * v))), (15, .pointer (some ((⟨b1, 0, none⟩ : Addr).add ((a).toNat)))), (77, i64 15)]) 2 hA [i64 15] (cc (hO.l1 1 0 3 (i64 15)) c0) ?_
    clear hA fr; intro fr hA
    refine wp_block ?_
    refine sC (e' := [(2, i64 ld), (3, pt b1), (6, pt b2), (7, i64 0), (8, pt b3), (9, pt b4), (13, pt b5), (14, i64 ((pc + 4) + (4 * v))), (15, .pointer (some ((⟨b1, 0, none⟩ : Addr).add ((a).toNat)))), (77, i64 15), (93, bl false)]) 2 hA [] c0 ?_
    clear hA fr; intro fr hA
    refine cF hA ?_
    refine sC (e' := [(2, i64 ld), (3, pt b1), (6, pt b2), (7, i64 0), (8, pt b3), (9, pt b4), (13, pt b5), (14, i64 ((pc + 4) + (4 * v))), (15, .pointer (some ((⟨b1, 0, none⟩ : Addr).add ((a).toNat)))), (77, i64 15), (100, bl false)]) 2 hA [] c0 ?_
    clear hA fr; intro fr hA
    refine cF hA ?_
    refine sC (e' := [(2, i64 ld), (3, pt b1), (6, pt b2), (7, i64 0), (8, pt b3), (9, pt b4), (13, pt b5), (14, i64 ((pc + 4) + (4 * v))), (15, .pointer (some ((⟨b1, 0, none⟩ : Addr).add ((a).toNat)))), (77, i64 15), (111, bl false)]) 2 hA [] c0 ?_
    clear hA fr; intro fr hA
    refine cF hA ?_
    refine sC (e' := [(2, i64 ld), (3, pt b1), (6, pt b2), (7, i64 0), (8, pt b3), (9, pt b4), (13, pt b5), (14, i64 ((pc + 4) + (4 * v))), (15, .pointer (some ((⟨b1, 0, none⟩ : Addr).add ((a).toNat)))), (77, i64 15), (124, bl false)]) 2 hA [] c0 ?_
    clear hA fr; intro fr hA
    refine cF hA ?_
    refine sC (e' := [(2, i64 ld), (3, pt b1), (6, pt b2), (7, i64 0), (8, pt b3), (9, pt b4), (13, pt b5), (14, i64 ((pc + 4) + (4 * v))), (15, .pointer (some ((⟨b1, 0, none⟩ : Addr).add ((a).toNat)))), (77, i64 15), (130, bl false)]) 2 hA [] c0 ?_
    clear hA fr; intro fr hA
    refine cF hA ?_
    refine sC (e' := [(3, pt b1), (6, pt b2), (7, i64 0), (8, pt b3), (9, pt b4), (13, pt b5), (14, i64 ((pc + 4) + (4 * v))), (15, .pointer (some ((⟨b1, 0, none⟩ : Addr).add ((a).toNat)))), (77, i64 15), (137, bl true)]) 2 hA [] c0 ?_
    clear hA fr; intro fr hA
    refine cT hA ?_
    refine wp_seq ?_
    have hS : Ow Tryd.prog none' w _ [(b5, 40, (regsL R pc)), (b4, 25, [i64 15, i64 a, i64 b, i64 c, i64 v]), (b1, 40, (regsL R (pc + 4)))] := hO.sub [0, 1, 4]
    refine rP [(0, true), (1, true), (2, true), (3, true), (4, true), (5, true), (6, false), (7, true), (8, false)] hS ?_
    intro w15 ho; replace hO := hO.st ho; clear ho
    refine ckS (l := (rg 0 6)) (r := [(6, false), (7, true), (8, false)]) (e' := [(3, pt b1), (6, pt b2), (7, i64 0), (8, pt b3), (139, .agg (List.toArray (regsL R (pc + 4)))), (143, i64 (R ((a).toNat))), (144, .agg #[i64 0, i64 0, i64 0, i64 0, i64 0, i64 0, i64 0])]) hA [.agg (List.toArray (regsL R (pc + 4))), i32 (R ((a).toNat)), bl true] (cc (hS.sn 2 0 40 (regsL R (pc + 4))) (cc (hS.sx ((⟨b1, 0, none⟩ : Addr).add ((a).toNat)) 21 (i32 (R ((a).toNat))) fun _ hO => (ld_regs (hO.b 2) (by omega) (by kernel_rfl))) (cc ((inK_up (by kernel_rfl) (hR _)) : inK .i64 (R ((a).toNat))) c0))) ?_
    clear hA fr; intro fr hA
    refine plan_mem (mS (off := 0) (vc := (regsL R (pc + 4))) 3 hA hO ?_)
    clear hO; intro w16 hO
    refine ⟨(hO.sub [0, 1, 4]), ?_⟩
    replace hA := hA.sb (e' := [(3, pt b1), (6, pt b2), (7, i64 0), (8, pt b3), (143, i64 (R ((a).toNat))), (144, .agg #[i64 0, i64 0, i64 0, i64 0, i64 0, i64 0, i64 0])])
    refine ckS (l := [7]) (r := [(8, false)]) (e' := [(3, pt b1), (6, pt b2), (7, i64 (R ((a).toNat))), (8, pt b3), (144, .agg #[i64 0, i64 0, i64 0, i64 0, i64 0, i64 0, i64 0])]) hA [] c0 ?_
    clear hA fr; intro fr hA
    refine plan_mem (mS (off := 0) (vc := [i64 0, i64 0, i64 0, i64 0, i64 0, i64 0, i64 0]) 2 hA hO ?_)
    clear hO; intro w17 hO
    refine ⟨(hO.sub [0, 1, 4]), ?_⟩
    replace hA := hA.sb (e' := [(3, pt b1), (6, pt b2), (7, i64 (R ((a).toNat))), (8, pt b3)])
    refine end_plan ?_
    refine then_normal ?_
    refine wp_ret ?_
    refine inBlock_ret ?_
    refine then_ret ?_
    refine cR (cs := [some (⟨b2, 0, none⟩, 40), none, some (⟨b3, 0, none⟩, 43)]) (us := [.agg (List.toArray (regsL R (pc + 4))), i64 (R ((a).toNat)), .agg #[i64 0, i64 0, i64 0, i64 0, i64 0, i64 0, i64 0]]) hA [.agg (List.toArray (regsL R (pc + 4))), .agg #[i64 0, i64 0, i64 0, i64 0, i64 0, i64 0, i64 0]] ⟨(hO.ln 3 0 40 (regsL R (pc + 4))), (hO.ln 2 0 43 [i64 0, i64 0, i64 0, i64 0, i64 0, i64 0, i64 0]), trivial⟩ ?_
    have hF := hO.only; clear hA hO
    exact ⟨by simp_all [pack, execV, outV, noTrap, trapL, insV], hF⟩

theorem exec_16 (R : Nat → Int) (pc ld a b c v : Int) (sl : Value) (w : World) (hT : Tab w) (hR : RegsOk R) (hp : -1099511627776 < pc) (hp' : pc < 1099511627776) (ha : 0 ≤ a) (ha' : a ≤ 15) (hb : 0 ≤ b) (hb' : b ≤ 15) (hc : -128 ≤ c) (hc' : c ≤ 127) (hv : -32768 ≤ v) (hv' : v ≤ 32767) (hdec : ∀ w', Only none' w w' → Calls Tryd.prog 13 #[sl] w' fun e w2 => e = .returned (.tuple #[insV 16 a b c v, .int .i64 0]) ∧ Only none' w' w2) :
    Calls Tryd.prog 18 #[.agg (List.toArray (regsL R pc)), sl, i64 ld] w fun e w' => e = .returned (execV R pc ld 16 a b c v) ∧ Only none' w w' := by
  refine c_enter (args := [.agg (List.toArray (regsL R pc)), sl, i64 ld]) (m := 206) (n := 209) Tryd.func18 rfl (by kernel_rfl) (by kernel_rfl) fun fr hA => ?_
  have hO := Ow.nil Tryd.prog none' w
  have hRa := hR a.toNat; have hRb := hR b.toNat; have hRc := hR c.toNat; simp only [inK] at hRa hRb hRc
  refine sR (l := [0, 1, 2, 3]) ?_
  refine wpOps_cons' (mN (l := (regsL R pc)) (t := 40) (v := pt) (d := 3) hA hO ?_)
  clear hA hO fr; intro fr w1 b1 hA hO
  replace hA := hA.sb (e' := [(1, sl), (2, i64 ld), (3, pt b1)])
  refine wpOps_cons' (mN (l := [i32 0, i32 0, i32 0, i32 0, i32 0, i32 0, i32 0, i32 0, i32 0, i32 0, i32 0, i32 0, i32 0, i32 0, i32 0, i32 0, i64 0]) (t := 40) (v := pt) (d := 6) hA hO ?_)
  clear hA hO fr; intro fr w2 b2 hA hO
  refine ck (l := [2]) (r := [3]) (e' := [(1, sl), (2, i64 ld), (3, pt b1), (6, pt b2), (7, i64 0)]) hA [] c0 ?_
  clear hA fr; intro fr hA
  refine wpOps_cons' (mN (l := [i64 0, i64 0, i64 0, i64 0, i64 0, i64 0, i64 0]) (t := 43) (v := pt) (d := 8) hA hO ?_)
  clear hA hO fr; intro fr w3 b3 hA hO
  refine end_ops ?_
  refine then_normal ?_
  refine sR (l := (rg 0 8)) ?_
  refine ck (l := [0]) (r := (rg 1 7)) (e' := [(2, i64 ld), (3, pt b1), (6, pt b2), (7, i64 0), (8, pt b3), (18, sl)]) hA [] c0 ?_
  clear hA fr; intro fr hA
  refine wpOps_cons' (mK (f := 13) (args := [sl]) (d := (some 19)) (v := .tuple #[.agg #[i64 16, i64 a, i64 b, i64 c, i64 v], i64 0]) hA hO Tryd.func13 (hdec _ hO.only) ?_)
  clear hA hO fr; intro fr w4 hA hO
  replace hA := hA.sb (e' := [(2, i64 ld), (3, pt b1), (6, pt b2), (7, i64 0), (8, pt b3), (19, .tuple #[.agg #[i64 16, i64 a, i64 b, i64 c, i64 v], i64 0])])
  refine ck (l := [2, 3, 4]) (r := [5, 6, 7]) (e' := [(2, i64 ld), (3, pt b1), (6, pt b2), (7, i64 0), (8, pt b3), (20, .agg #[i64 16, i64 a, i64 b, i64 c, i64 v]), (21, i64 0)]) hA [] c0 ?_
  clear hA fr; intro fr hA
  refine wpOps_cons' (mN (l := [i64 0, i64 0, i64 0, i64 0, i64 0]) (t := 25) (v := pt) (d := 9) hA hO ?_)
  clear hA hO fr; intro fr w5 b4 hA hO
  refine wpOps_cons' (mS (off := 0) (vc := [i64 16, i64 a, i64 b, i64 c, i64 v]) 0 hA hO ?_)
  clear hO; intro w6 hO
  replace hA := hA.sb (e' := [(2, i64 ld), (3, pt b1), (6, pt b2), (7, i64 0), (8, pt b3), (9, pt b4), (21, i64 0)])
  refine ck (l := [7]) (r := []) (e' := [(2, i64 ld), (3, pt b1), (6, pt b2), (7, i64 0), (8, pt b3), (9, pt b4), (10, i64 0)]) hA [] c0 ?_
  clear hA fr; intro fr hA
  refine end_ops ?_
  refine then_normal ?_
  refine wp_seq ?_
  refine sC (e' := [(2, i64 ld), (3, pt b1), (6, pt b2), (7, i64 0), (8, pt b3), (9, pt b4), (23, bl false)]) 2 hA [] c0 ?_
  clear hA fr; intro fr hA
  refine cF hA ?_
  refine wp_skip ?_
  refine then_normal ?_
  refine wp_seq ?_
  refine sR (l := (rg 0 8)) ?_
  refine ck (l := [0, 1]) (r := (rg 2 6)) (e' := [(2, i64 ld), (3, pt b1), (6, pt b2), (7, i64 0), (8, pt b3), (9, pt b4), (27, .agg (List.toArray (regsL R pc))), (28, .agg #[i64 16, i64 a, i64 b, i64 c, i64 v])]) hA [.agg (List.toArray (regsL R pc)), .agg #[i64 16, i64 a, i64 b, i64 c, i64 v]] (cc (hO.ln 3 0 40 (regsL R pc)) (cc (hO.ln 0 0 25 [i64 16, i64 a, i64 b, i64 c, i64 v]) c0)) ?_
  clear hA fr; intro fr hA
  refine wpOps_cons' (mK (f := 36) (args := [.agg (List.toArray (regsL R pc)), .agg #[i64 16, i64 a, i64 b, i64 c, i64 v]]) (d := (some 29)) (v := .tuple #[i64 (R b.toNat + c), i64 1]) hA hO Tryd.func36 (place_any R pc 16 a b c v _ hR hb hb' (by omega) (by omega)) ?_)
  clear hA hO fr; intro fr w7 hA hO
  replace hA := hA.sb (e' := [(2, i64 ld), (3, pt b1), (6, pt b2), (7, i64 0), (8, pt b3), (9, pt b4), (29, .tuple #[i64 (R b.toNat + c), i64 1])])
  refine ck (l := (rg 3 5)) (r := []) (e' := [(2, i64 ld), (3, pt b1), (6, pt b2), (7, i64 0), (8, pt b3), (9, pt b4), (11, i64 (R b.toNat + c)), (12, i64 1)]) hA [] c0 ?_
  clear hA fr; intro fr hA
  refine end_ops ?_
  refine then_normal ?_
  refine sC (e' := [(2, i64 ld), (3, pt b1), (6, pt b2), (7, i64 0), (8, pt b3), (9, pt b4), (39, bl (((R b.toNat + c).tmod 1) != 0))]) 8 hA [bl false] (cc (by omega : 1 ≠ (0 : Int)) c0) ?_
  clear hA fr; intro fr hA
  rcases Bool.eq_false_or_eq_true (((R b.toNat + c).tmod 1) != 0) with h1 | h1
  ·
    replace hA := hA.bool (f := fun z_ => [(2, i64 ld), (3, pt b1), (6, pt b2), (7, i64 0), (8, pt b3), (9, pt b4), (39, .bool z_)]) h1
    have h1p := ne_of_bne h1
    refine cT hA ?_
    refine wp_seq ?_
    have hS : Ow Tryd.prog none' w _ [(b4, 25, [i64 16, i64 a, i64 b, i64 c, i64 v]), (b1, 40, (regsL R pc))] := hO.sub [0, 3]
    refine rP [(0, true), (1, false), (2, false), (3, true), (4, false)] hS ?_
    intro w8 ho; replace hO := hO.st ho; clear ho
    refine ckS (l := [0]) (r := [(1, false), (2, false), (3, true), (4, false)]) (e' := [(2, i64 ld), (3, pt b1), (6, pt b2), (7, i64 0), (8, pt b3), (9, pt b4), (40, .agg (List.toArray (regsL R pc)))]) hA [.agg (List.toArray (regsL R pc))] (cc (hS.sn 1 0 40 (regsL R pc)) c0) ?_
    clear hA fr; intro fr hA
    refine plan_mem (mK (f := 35) (args := [i64 3]) (d := (some 41)) (v := .agg #[i64 2, i64 3, i64 0, i64 0, i64 0, i64 0, i64 0]) hA hO Tryd.func35 (exception_any 3 _) ?_)
    clear hA hO fr; intro fr w9 hA hO
    refine ⟨(hO.sub [0, 3]), ?_⟩
    refine plan_mem (mS (off := 0) (vc := (regsL R pc)) 2 hA hO ?_)
    clear hO; intro w10 hO
    refine ⟨(hO.sub [0, 3]), ?_⟩
    replace hA := hA.sb (e' := [(2, i64 ld), (3, pt b1), (6, pt b2), (7, i64 0), (8, pt b3), (9, pt b4), (41, .agg #[i64 2, i64 3, i64 0, i64 0, i64 0, i64 0, i64 0])])
    refine ckS (l := [3]) (r := [(4, false)]) (e' := [(2, i64 ld), (3, pt b1), (6, pt b2), (7, i64 0), (8, pt b3), (9, pt b4), (41, .agg #[i64 2, i64 3, i64 0, i64 0, i64 0, i64 0, i64 0])]) hA [] c0 ?_
    clear hA fr; intro fr hA
    refine plan_mem (mS (off := 0) (vc := [i64 2, i64 3, i64 0, i64 0, i64 0, i64 0, i64 0]) 1 hA hO ?_)
    clear hO; intro w11 hO
    refine ⟨(hO.sub [0, 3]), ?_⟩
    replace hA := hA.sb (e' := [(2, i64 ld), (3, pt b1), (6, pt b2), (7, i64 0), (8, pt b3), (9, pt b4)])
    refine end_plan ?_
    refine then_normal ?_
    refine wp_ret ?_
    refine then_ret ?_
    refine cR (cs := [some (⟨b2, 0, none⟩, 40), none, some (⟨b3, 0, none⟩, 43)]) (us := [.agg (List.toArray (regsL R pc)), i64 0, .agg #[i64 2, i64 3, i64 0, i64 0, i64 0, i64 0, i64 0]]) hA [.agg (List.toArray (regsL R pc)), .agg #[i64 2, i64 3, i64 0, i64 0, i64 0, i64 0, i64 0]] ⟨(hO.ln 2 0 40 (regsL R pc)), (hO.ln 1 0 43 [i64 2, i64 3, i64 0, i64 0, i64 0, i64 0, i64 0]), trivial⟩ ?_
    have hF := hO.only; clear hA hO
    exact ⟨by simp_all [pack, execV, outV, noTrap, trapL, insV], hF⟩
  ·
    replace hA := hA.bool (f := fun z_ => [(2, i64 ld), (3, pt b1), (6, pt b2), (7, i64 0), (8, pt b3), (9, pt b4), (39, .bool z_)]) h1
    have h1p := eq_of_bne_false h1
    refine cF hA ?_
    refine wp_skip ?_
    refine then_normal ?_
    refine wp_seq ?_
    refine sC (e' := [(2, i64 ld), (3, pt b1), (6, pt b2), (7, i64 0), (8, pt b3), (9, pt b4), (57, bl false)]) 16 hA [i64 16, i64 16] (cc (hO.l1 0 0 3 (i64 16)) (cc (hO.l1 0 0 3 (i64 16)) c0)) ?_
    clear hA fr; intro fr hA
    refine cF hA ?_
    refine wp_skip ?_
    refine then_normal ?_
    refine sR (l := [0, 1, 2]) ?_
    refine ck (l := [0]) (r := [1, 2]) (e' := [(2, i64 ld), (3, pt b1), (6, pt b2), (7, i64 0), (8, pt b3), (9, pt b4), (60, .agg (List.toArray (regsL R pc)))]) hA [.agg (List.toArray (regsL R pc))] (cc (hO.ln 3 0 40 (regsL R pc)) c0) ?_
    clear hA fr; intro fr hA
    refine wpOps_cons' (mN (l := [i32 0, i32 0, i32 0, i32 0, i32 0, i32 0, i32 0, i32 0, i32 0, i32 0, i32 0, i32 0, i32 0, i32 0, i32 0, i32 0, i64 0]) (t := 40) (v := pt) (d := 13) hA hO ?_)
    clear hA hO fr; intro fr w12 b5 hA hO
    refine wpOps_cons' (mS (off := 0) (vc := (regsL R pc)) 0 hA hO ?_)
    clear hO; intro w13 hO
    replace hA := hA.sb (e' := [(2, i64 ld), (3, pt b1), (6, pt b2), (7, i64 0), (8, pt b3), (9, pt b4), (13, pt b5)])
    refine end_ops ?_
    refine then_normal ?_
    refine sC (e' := [(2, i64 ld), (3, pt b1), (6, pt b2), (7, i64 0), (8, pt b3), (9, pt b4), (13, pt b5), (14, i64 ((pc + 4) + (4 * v)))]) 8 hA [i64 pc, bl true, i64 v, bl true, bl true] (cc (hO.l1 4 16 3 (i64 pc)) (cc ((inK_i64 (by omega) (by omega)) : inK .i64 (pc + 4)) (cc (hO.l1 1 4 3 (i64 v)) (cc ((inK_i64 (by omega) (by omega)) : inK .i64 (4 * v)) (cc ((inK_i64 (by omega) (by omega)) : inK .i64 ((pc + 4) + (4 * v))) c0))))) ?_
    clear hA fr; intro fr hA
    refine sR (l := (rg 0 5)) ?_
    refine ck (l := [0, 1, 2, 3]) (r := [4]) (e' := [(2, i64 ld), (3, pt b1), (6, pt b2), (7, i64 0), (8, pt b3), (9, pt b4), (13, pt b5), (14, i64 ((pc + 4) + (4 * v))), (70, i64 (pc + 4)), (71, pf b1 16)]) hA [i64 pc, bl true] (cc (hO.l1 4 16 3 (i64 pc)) (cc ((inK_i64 (by omega) (by omega)) : inK .i64 (pc + 4)) c0)) ?_
    clear hA fr; intro fr hA
    refine wpOps_cons' (mSR (off := 16) (ad := ⟨b1, 16, none⟩) (vc := [i64 (pc + 4)]) (l' := (regsL R (pc + 4))) 4 hA hO rfl (by kernel_rfl) (by kernel_rfl) ?_)
    clear hO; intro w14 hO
    replace hA := hA.sb (e' := [(2, i64 ld), (3, pt b1), (6, pt b2), (7, i64 0), (8, pt b3), (9, pt b4), (13, pt b5), (14, i64 ((pc + 4) + (4 * v)))])
    refine end_ops ?_
    refine then_normal ?_
    refine sC (e' := [(2, i64 ld), (3, pt b1), (6, pt b2), (7, i64 0), (8, pt b3), (9, pt b4), (13, pt b5), (14, i64 ((pc + 4) + (4 * v))), (15, .pointer (some ((⟨b1, 0, none⟩ : Addr).add ((a).toNat))))]) 5 hA [i64 a] (cc (hO.l1 1 1 3 (i64 a)) (cc (⟨by omega, by omega⟩ : (0 : Int) ≤ a ∧ a < ((16 : Nat) : Int)) c0)) ?_
    clear hA fr; intro fr hA
    refine wp_seq ?_
    refine sC (e' := [(2, i64 ld), (3, pt b1), (6, pt b2), (7, i64 0), (8, pt b3), (9, pt b4), (13, pt b5), (14, i64 ((pc + 4) + (4 * v))), (15, .pointer (some ((⟨b1, 0, none⟩ : Addr).add ((a).toNat)))), (77, i64 16)]) 2 hA [i64 16] (cc (hO.l1 1 0 3 (i64 16)) c0) ?_
    clear hA fr; intro fr hA
    refine wp_block ?_
    refine sC (e' := [(2, i64 ld), (3, pt b1), (6, pt b2), (7, i64 0), (8, pt b3), (9, pt b4), (13, pt b5), (14, i64 ((pc + 4) + (4 * v))), (15, .pointer (some ((⟨b1, 0, none⟩ : Addr).add ((a).toNat)))), (77, i64 16), (93, bl false)]) 2 hA [] c0 ?_
    clear hA fr; intro fr hA
    refine cF hA ?_
    refine sC (e' := [(2, i64 ld), (3, pt b1), (6, pt b2), (7, i64 0), (8, pt b3), (9, pt b4), (13, pt b5), (14, i64 ((pc + 4) + (4 * v))), (15, .pointer (some ((⟨b1, 0, none⟩ : Addr).add ((a).toNat)))), (77, i64 16), (100, bl false)]) 2 hA [] c0 ?_
    clear hA fr; intro fr hA
    refine cF hA ?_
    refine sC (e' := [(2, i64 ld), (3, pt b1), (6, pt b2), (7, i64 0), (8, pt b3), (9, pt b4), (13, pt b5), (14, i64 ((pc + 4) + (4 * v))), (15, .pointer (some ((⟨b1, 0, none⟩ : Addr).add ((a).toNat)))), (77, i64 16), (111, bl false)]) 2 hA [] c0 ?_
    clear hA fr; intro fr hA
    refine cF hA ?_
    refine sC (e' := [(2, i64 ld), (3, pt b1), (6, pt b2), (7, i64 0), (8, pt b3), (9, pt b4), (13, pt b5), (14, i64 ((pc + 4) + (4 * v))), (15, .pointer (some ((⟨b1, 0, none⟩ : Addr).add ((a).toNat)))), (77, i64 16), (124, bl false)]) 2 hA [] c0 ?_
    clear hA fr; intro fr hA
    refine cF hA ?_
    refine sC (e' := [(2, i64 ld), (3, pt b1), (6, pt b2), (7, i64 0), (8, pt b3), (9, pt b4), (13, pt b5), (14, i64 ((pc + 4) + (4 * v))), (15, .pointer (some ((⟨b1, 0, none⟩ : Addr).add ((a).toNat)))), (77, i64 16), (130, bl true)]) 2 hA [] c0 ?_
    clear hA fr; intro fr hA
    refine cT hA ?_
    refine rR (l := (rg 0 6)) ?_
    refine ck (l := (rg 0 5)) (r := [5]) (e' := [(3, pt b1), (6, pt b2), (7, i64 0), (8, pt b3), (135, i32 (IntKind.u8.wrap ld)), (136, .pointer (some ((⟨b1, 0, none⟩ : Addr).add ((a).toNat))))]) hA [bl false, bl true] (cc ((inK_up (by kernel_rfl) (wrap_inK _ _)) : inK .i32 (IntKind.u8.wrap ld)) c0) ?_
    clear hA fr; intro fr hA
    refine wpOps_cons' (mSR (off := (a).toNat) (ad := (⟨b1, 0, none⟩ : Addr).add ((a).toNat)) (vc := [i32 (IntKind.u8.wrap ld)]) (l' := (regsL (upd R ((a).toNat) (IntKind.u8.wrap ld)) (pc + 4))) 4 hA hO (add_zero_off _ _) (regs_ble R (pc + 4) (by omega)) (setL_regs (by omega) _) ?_)
    clear hO; intro w15 hO
    replace hA := hA.sb (e' := [(3, pt b1), (6, pt b2), (7, i64 0), (8, pt b3)])
    refine end_ops ?_
    refine inBlock_normal ?_
    refine then_normal ?_
    refine sR (l := (rg 0 5)) ?_
    refine ck (l := [0, 1]) (r := [2, 3, 4]) (e' := [(6, pt b2), (7, i64 0), (8, pt b3), (207, .agg (List.toArray (regsL (upd R ((a).toNat) (IntKind.u8.wrap ld)) (pc + 4)))), (208, .agg #[i64 0, i64 0, i64 0, i64 0, i64 0, i64 0, i64 0])]) hA [.agg (List.toArray (regsL (upd R ((a).toNat) (IntKind.u8.wrap ld)) (pc + 4)))] (cc (hO.ln 4 0 40 (regsL (upd R ((a).toNat) (IntKind.u8.wrap ld)) (pc + 4))) c0) ?_
    clear hA fr; intro fr hA
    refine wpOps_cons' (mS (off := 0) (vc := (regsL (upd R ((a).toNat) (IntKind.u8.wrap ld)) (pc + 4))) 3 hA hO ?_)
    clear hO; intro w16 hO
    replace hA := hA.sb (e' := [(6, pt b2), (7, i64 0), (8, pt b3), (208, .agg #[i64 0, i64 0, i64 0, i64 0, i64 0, i64 0, i64 0])])
    refine ck (l := [3]) (r := [4]) (e' := [(6, pt b2), (7, i64 0), (8, pt b3), (208, .agg #[i64 0, i64 0, i64 0, i64 0, i64 0, i64 0, i64 0])]) hA [] c0 ?_
    clear hA fr; intro fr hA
    refine wpOps_cons' (mS (off := 0) (vc := [i64 0, i64 0, i64 0, i64 0, i64 0, i64 0, i64 0]) 2 hA hO ?_)
    clear hO; intro w17 hO
    replace hA := hA.sb (e' := [(6, pt b2), (7, i64 0), (8, pt b3)])
    refine end_ops ?_
    refine then_normal ?_
    refine wp_ret ?_
    refine cR (cs := [some (⟨b2, 0, none⟩, 40), none, some (⟨b3, 0, none⟩, 43)]) (us := [.agg (List.toArray (regsL (upd R ((a).toNat) (IntKind.u8.wrap ld)) (pc + 4))), i64 0, .agg #[i64 0, i64 0, i64 0, i64 0, i64 0, i64 0, i64 0]]) hA [.agg (List.toArray (regsL (upd R ((a).toNat) (IntKind.u8.wrap ld)) (pc + 4))), .agg #[i64 0, i64 0, i64 0, i64 0, i64 0, i64 0, i64 0]] ⟨(hO.ln 3 0 40 (regsL (upd R ((a).toNat) (IntKind.u8.wrap ld)) (pc + 4))), (hO.ln 2 0 43 [i64 0, i64 0, i64 0, i64 0, i64 0, i64 0, i64 0]), trivial⟩ ?_
    have hF := hO.only; clear hA hO
    exact ⟨by simp_all [pack, execV, outV, noTrap, trapL, insV], hF⟩

theorem exec_17 (R : Nat → Int) (pc ld a b c v : Int) (sl : Value) (w : World) (hT : Tab w) (hR : RegsOk R) (hp : -1099511627776 < pc) (hp' : pc < 1099511627776) (ha : 0 ≤ a) (ha' : a ≤ 15) (hb : 0 ≤ b) (hb' : b ≤ 15) (hc : -128 ≤ c) (hc' : c ≤ 127) (hv : -32768 ≤ v) (hv' : v ≤ 32767) (hdec : ∀ w', Only none' w w' → Calls Tryd.prog 13 #[sl] w' fun e w2 => e = .returned (.tuple #[insV 17 a b c v, .int .i64 0]) ∧ Only none' w' w2) :
    Calls Tryd.prog 18 #[.agg (List.toArray (regsL R pc)), sl, i64 ld] w fun e w' => e = .returned (execV R pc ld 17 a b c v) ∧ Only none' w w' := by
  refine c_enter (args := [.agg (List.toArray (regsL R pc)), sl, i64 ld]) (m := 206) (n := 209) Tryd.func18 rfl (by kernel_rfl) (by kernel_rfl) fun fr hA => ?_
  have hO := Ow.nil Tryd.prog none' w
  have hRa := hR a.toNat; have hRb := hR b.toNat; have hRc := hR c.toNat; simp only [inK] at hRa hRb hRc
  refine sR (l := [0, 1, 2, 3]) ?_
  refine wpOps_cons' (mN (l := (regsL R pc)) (t := 40) (v := pt) (d := 3) hA hO ?_)
  clear hA hO fr; intro fr w1 b1 hA hO
  replace hA := hA.sb (e' := [(1, sl), (2, i64 ld), (3, pt b1)])
  refine wpOps_cons' (mN (l := [i32 0, i32 0, i32 0, i32 0, i32 0, i32 0, i32 0, i32 0, i32 0, i32 0, i32 0, i32 0, i32 0, i32 0, i32 0, i32 0, i64 0]) (t := 40) (v := pt) (d := 6) hA hO ?_)
  clear hA hO fr; intro fr w2 b2 hA hO
  refine ck (l := [2]) (r := [3]) (e' := [(1, sl), (2, i64 ld), (3, pt b1), (6, pt b2), (7, i64 0)]) hA [] c0 ?_
  clear hA fr; intro fr hA
  refine wpOps_cons' (mN (l := [i64 0, i64 0, i64 0, i64 0, i64 0, i64 0, i64 0]) (t := 43) (v := pt) (d := 8) hA hO ?_)
  clear hA hO fr; intro fr w3 b3 hA hO
  refine end_ops ?_
  refine then_normal ?_
  refine sR (l := (rg 0 8)) ?_
  refine ck (l := [0]) (r := (rg 1 7)) (e' := [(2, i64 ld), (3, pt b1), (6, pt b2), (7, i64 0), (8, pt b3), (18, sl)]) hA [] c0 ?_
  clear hA fr; intro fr hA
  refine wpOps_cons' (mK (f := 13) (args := [sl]) (d := (some 19)) (v := .tuple #[.agg #[i64 17, i64 a, i64 b, i64 c, i64 v], i64 0]) hA hO Tryd.func13 (hdec _ hO.only) ?_)
  clear hA hO fr; intro fr w4 hA hO
  replace hA := hA.sb (e' := [(2, i64 ld), (3, pt b1), (6, pt b2), (7, i64 0), (8, pt b3), (19, .tuple #[.agg #[i64 17, i64 a, i64 b, i64 c, i64 v], i64 0])])
  refine ck (l := [2, 3, 4]) (r := [5, 6, 7]) (e' := [(2, i64 ld), (3, pt b1), (6, pt b2), (7, i64 0), (8, pt b3), (20, .agg #[i64 17, i64 a, i64 b, i64 c, i64 v]), (21, i64 0)]) hA [] c0 ?_
  clear hA fr; intro fr hA
  refine wpOps_cons' (mN (l := [i64 0, i64 0, i64 0, i64 0, i64 0]) (t := 25) (v := pt) (d := 9) hA hO ?_)
  clear hA hO fr; intro fr w5 b4 hA hO
  refine wpOps_cons' (mS (off := 0) (vc := [i64 17, i64 a, i64 b, i64 c, i64 v]) 0 hA hO ?_)
  clear hO; intro w6 hO
  replace hA := hA.sb (e' := [(2, i64 ld), (3, pt b1), (6, pt b2), (7, i64 0), (8, pt b3), (9, pt b4), (21, i64 0)])
  refine ck (l := [7]) (r := []) (e' := [(2, i64 ld), (3, pt b1), (6, pt b2), (7, i64 0), (8, pt b3), (9, pt b4), (10, i64 0)]) hA [] c0 ?_
  clear hA fr; intro fr hA
  refine end_ops ?_
  refine then_normal ?_
  refine wp_seq ?_
  refine sC (e' := [(2, i64 ld), (3, pt b1), (6, pt b2), (7, i64 0), (8, pt b3), (9, pt b4), (23, bl false)]) 2 hA [] c0 ?_
  clear hA fr; intro fr hA
  refine cF hA ?_
  refine wp_skip ?_
  refine then_normal ?_
  refine wp_seq ?_
  refine sR (l := (rg 0 8)) ?_
  refine ck (l := [0, 1]) (r := (rg 2 6)) (e' := [(2, i64 ld), (3, pt b1), (6, pt b2), (7, i64 0), (8, pt b3), (9, pt b4), (27, .agg (List.toArray (regsL R pc))), (28, .agg #[i64 17, i64 a, i64 b, i64 c, i64 v])]) hA [.agg (List.toArray (regsL R pc)), .agg #[i64 17, i64 a, i64 b, i64 c, i64 v]] (cc (hO.ln 3 0 40 (regsL R pc)) (cc (hO.ln 0 0 25 [i64 17, i64 a, i64 b, i64 c, i64 v]) c0)) ?_
  clear hA fr; intro fr hA
  refine wpOps_cons' (mK (f := 36) (args := [.agg (List.toArray (regsL R pc)), .agg #[i64 17, i64 a, i64 b, i64 c, i64 v]]) (d := (some 29)) (v := .tuple #[i64 (R b.toNat + c), i64 1]) hA hO Tryd.func36 (place_any R pc 17 a b c v _ hR hb hb' (by omega) (by omega)) ?_)
  clear hA hO fr; intro fr w7 hA hO
  replace hA := hA.sb (e' := [(2, i64 ld), (3, pt b1), (6, pt b2), (7, i64 0), (8, pt b3), (9, pt b4), (29, .tuple #[i64 (R b.toNat + c), i64 1])])
  refine ck (l := (rg 3 5)) (r := []) (e' := [(2, i64 ld), (3, pt b1), (6, pt b2), (7, i64 0), (8, pt b3), (9, pt b4), (11, i64 (R b.toNat + c)), (12, i64 1)]) hA [] c0 ?_
  clear hA fr; intro fr hA
  refine end_ops ?_
  refine then_normal ?_
  refine sC (e' := [(2, i64 ld), (3, pt b1), (6, pt b2), (7, i64 0), (8, pt b3), (9, pt b4), (39, bl (((R b.toNat + c).tmod 1) != 0))]) 8 hA [bl false] (cc (by omega : 1 ≠ (0 : Int)) c0) ?_
  clear hA fr; intro fr hA
  rcases Bool.eq_false_or_eq_true (((R b.toNat + c).tmod 1) != 0) with h1 | h1
  ·
    replace hA := hA.bool (f := fun z_ => [(2, i64 ld), (3, pt b1), (6, pt b2), (7, i64 0), (8, pt b3), (9, pt b4), (39, .bool z_)]) h1
    have h1p := ne_of_bne h1
    refine cT hA ?_
    refine wp_seq ?_
    have hS : Ow Tryd.prog none' w _ [(b4, 25, [i64 17, i64 a, i64 b, i64 c, i64 v]), (b1, 40, (regsL R pc))] := hO.sub [0, 3]
    refine rP [(0, true), (1, false), (2, false), (3, true), (4, false)] hS ?_
    intro w8 ho; replace hO := hO.st ho; clear ho
    refine ckS (l := [0]) (r := [(1, false), (2, false), (3, true), (4, false)]) (e' := [(2, i64 ld), (3, pt b1), (6, pt b2), (7, i64 0), (8, pt b3), (9, pt b4), (40, .agg (List.toArray (regsL R pc)))]) hA [.agg (List.toArray (regsL R pc))] (cc (hS.sn 1 0 40 (regsL R pc)) c0) ?_
    clear hA fr; intro fr hA
    refine plan_mem (mK (f := 35) (args := [i64 3]) (d := (some 41)) (v := .agg #[i64 2, i64 3, i64 0, i64 0, i64 0, i64 0, i64 0]) hA hO Tryd.func35 (exception_any 3 _) ?_)
    clear hA hO fr; intro fr w9 hA hO
    refine ⟨(hO.sub [0, 3]), ?_⟩
    refine plan_mem (mS (off := 0) (vc := (regsL R pc)) 2 hA hO ?_)
    clear hO; intro w10 hO
    refine ⟨(hO.sub [0, 3]), ?_⟩
    replace hA := hA.sb (e' := [(2, i64 ld), (3, pt b1), (6, pt b2), (7, i64 0), (8, pt b3), (9, pt b4), (41, .agg #[i64 2, i64 3, i64 0, i64 0, i64 0, i64 0, i64 0])])
    refine ckS (l := [3]) (r := [(4, false)]) (e' := [(2, i64 ld), (3, pt b1), (6, pt b2), (7, i64 0), (8, pt b3), (9, pt b4), (41, .agg #[i64 2, i64 3, i64 0, i64 0, i64 0, i64 0, i64 0])]) hA [] c0 ?_
    clear hA fr; intro fr hA
    refine plan_mem (mS (off := 0) (vc := [i64 2, i64 3, i64 0, i64 0, i64 0, i64 0, i64 0]) 1 hA hO ?_)
    clear hO; intro w11 hO
    refine ⟨(hO.sub [0, 3]), ?_⟩
    replace hA := hA.sb (e' := [(2, i64 ld), (3, pt b1), (6, pt b2), (7, i64 0), (8, pt b3), (9, pt b4)])
    refine end_plan ?_
    refine then_normal ?_
    refine wp_ret ?_
    refine then_ret ?_
    refine cR (cs := [some (⟨b2, 0, none⟩, 40), none, some (⟨b3, 0, none⟩, 43)]) (us := [.agg (List.toArray (regsL R pc)), i64 0, .agg #[i64 2, i64 3, i64 0, i64 0, i64 0, i64 0, i64 0]]) hA [.agg (List.toArray (regsL R pc)), .agg #[i64 2, i64 3, i64 0, i64 0, i64 0, i64 0, i64 0]] ⟨(hO.ln 2 0 40 (regsL R pc)), (hO.ln 1 0 43 [i64 2, i64 3, i64 0, i64 0, i64 0, i64 0, i64 0]), trivial⟩ ?_
    have hF := hO.only; clear hA hO
    exact ⟨by simp_all [pack, execV, outV, noTrap, trapL, insV], hF⟩
  ·
    replace hA := hA.bool (f := fun z_ => [(2, i64 ld), (3, pt b1), (6, pt b2), (7, i64 0), (8, pt b3), (9, pt b4), (39, .bool z_)]) h1
    have h1p := eq_of_bne_false h1
    refine cF hA ?_
    refine wp_skip ?_
    refine then_normal ?_
    refine wp_seq ?_
    refine sC (e' := [(2, i64 ld), (3, pt b1), (6, pt b2), (7, i64 0), (8, pt b3), (9, pt b4), (57, bl false)]) 16 hA [i64 17, i64 17] (cc (hO.l1 0 0 3 (i64 17)) (cc (hO.l1 0 0 3 (i64 17)) c0)) ?_
    clear hA fr; intro fr hA
    refine cF hA ?_
    refine wp_skip ?_
    refine then_normal ?_
    refine sR (l := [0, 1, 2]) ?_
    refine ck (l := [0]) (r := [1, 2]) (e' := [(2, i64 ld), (3, pt b1), (6, pt b2), (7, i64 0), (8, pt b3), (9, pt b4), (60, .agg (List.toArray (regsL R pc)))]) hA [.agg (List.toArray (regsL R pc))] (cc (hO.ln 3 0 40 (regsL R pc)) c0) ?_
    clear hA fr; intro fr hA
    refine wpOps_cons' (mN (l := [i32 0, i32 0, i32 0, i32 0, i32 0, i32 0, i32 0, i32 0, i32 0, i32 0, i32 0, i32 0, i32 0, i32 0, i32 0, i32 0, i64 0]) (t := 40) (v := pt) (d := 13) hA hO ?_)
    clear hA hO fr; intro fr w12 b5 hA hO
    refine wpOps_cons' (mS (off := 0) (vc := (regsL R pc)) 0 hA hO ?_)
    clear hO; intro w13 hO
    replace hA := hA.sb (e' := [(2, i64 ld), (3, pt b1), (6, pt b2), (7, i64 0), (8, pt b3), (9, pt b4), (13, pt b5)])
    refine end_ops ?_
    refine then_normal ?_
    refine sC (e' := [(2, i64 ld), (3, pt b1), (6, pt b2), (7, i64 0), (8, pt b3), (9, pt b4), (13, pt b5), (14, i64 ((pc + 4) + (4 * v)))]) 8 hA [i64 pc, bl true, i64 v, bl true, bl true] (cc (hO.l1 4 16 3 (i64 pc)) (cc ((inK_i64 (by omega) (by omega)) : inK .i64 (pc + 4)) (cc (hO.l1 1 4 3 (i64 v)) (cc ((inK_i64 (by omega) (by omega)) : inK .i64 (4 * v)) (cc ((inK_i64 (by omega) (by omega)) : inK .i64 ((pc + 4) + (4 * v))) c0))))) ?_
    clear hA fr; intro fr hA
    refine sR (l := (rg 0 5)) ?_
    refine ck (l := [0, 1, 2, 3]) (r := [4]) (e' := [(2, i64 ld), (3, pt b1), (6, pt b2), (7, i64 0), (8, pt b3), (9, pt b4), (13, pt b5), (14, i64 ((pc + 4) + (4 * v))), (70, i64 (pc + 4)), (71, pf b1 16)]) hA [i64 pc, bl true] (cc (hO.l1 4 16 3 (i64 pc)) (cc ((inK_i64 (by omega) (by omega)) : inK .i64 (pc + 4)) c0)) ?_
    clear hA fr; intro fr hA
    refine wpOps_cons' (mSR (off := 16) (ad := ⟨b1, 16, none⟩) (vc := [i64 (pc + 4)]) (l' := (regsL R (pc + 4))) 4 hA hO rfl (by kernel_rfl) (by kernel_rfl) ?_)
    clear hO; intro w14 hO
    replace hA := hA.sb (e' := [(2, i64 ld), (3, pt b1), (6, pt b2), (7, i64 0), (8, pt b3), (9, pt b4), (13, pt b5), (14, i64 ((pc + 4) + (4 * v)))])
    refine end_ops ?_
    refine then_normal ?_
    refine sC (e' := [(2, i64 ld), (3, pt b1), (6, pt b2), (7, i64 0), (8, pt b3), (9, pt b4), (13, pt b5), (14, i64 ((pc + 4) + (4 * v))), (15, .pointer (some ((⟨b1, 0, none⟩ : Addr).add ((a).toNat))))]) 5 hA [i64 a] (cc (hO.l1 1 1 3 (i64 a)) (cc (⟨by omega, by omega⟩ : (0 : Int) ≤ a ∧ a < ((16 : Nat) : Int)) c0)) ?_
    clear hA fr; intro fr hA
    refine wp_seq ?_
    refine sC (e' := [(2, i64 ld), (3, pt b1), (6, pt b2), (7, i64 0), (8, pt b3), (9, pt b4), (13, pt b5), (14, i64 ((pc + 4) + (4 * v))), (15, .pointer (some ((⟨b1, 0, none⟩ : Addr).add ((a).toNat)))), (77, i64 17)]) 2 hA [i64 17] (cc (hO.l1 1 0 3 (i64 17)) c0) ?_
    clear hA fr; intro fr hA
    refine wp_block ?_
    refine sC (e' := [(2, i64 ld), (3, pt b1), (6, pt b2), (7, i64 0), (8, pt b3), (9, pt b4), (13, pt b5), (14, i64 ((pc + 4) + (4 * v))), (15, .pointer (some ((⟨b1, 0, none⟩ : Addr).add ((a).toNat)))), (77, i64 17), (93, bl false)]) 2 hA [] c0 ?_
    clear hA fr; intro fr hA
    refine cF hA ?_
    refine sC (e' := [(2, i64 ld), (3, pt b1), (6, pt b2), (7, i64 0), (8, pt b3), (9, pt b4), (13, pt b5), (14, i64 ((pc + 4) + (4 * v))), (15, .pointer (some ((⟨b1, 0, none⟩ : Addr).add ((a).toNat)))), (77, i64 17), (100, bl false)]) 2 hA [] c0 ?_
    clear hA fr; intro fr hA
    refine cF hA ?_
    refine sC (e' := [(2, i64 ld), (3, pt b1), (6, pt b2), (7, i64 0), (8, pt b3), (9, pt b4), (13, pt b5), (14, i64 ((pc + 4) + (4 * v))), (15, .pointer (some ((⟨b1, 0, none⟩ : Addr).add ((a).toNat)))), (77, i64 17), (111, bl false)]) 2 hA [] c0 ?_
    clear hA fr; intro fr hA
    refine cF hA ?_
    refine sC (e' := [(2, i64 ld), (3, pt b1), (6, pt b2), (7, i64 0), (8, pt b3), (9, pt b4), (13, pt b5), (14, i64 ((pc + 4) + (4 * v))), (15, .pointer (some ((⟨b1, 0, none⟩ : Addr).add ((a).toNat)))), (77, i64 17), (124, bl false)]) 2 hA [] c0 ?_
    clear hA fr; intro fr hA
    refine cF hA ?_
    refine sC (e' := [(2, i64 ld), (3, pt b1), (6, pt b2), (7, i64 0), (8, pt b3), (9, pt b4), (13, pt b5), (14, i64 ((pc + 4) + (4 * v))), (15, .pointer (some ((⟨b1, 0, none⟩ : Addr).add ((a).toNat)))), (77, i64 17), (130, bl false)]) 2 hA [] c0 ?_
    clear hA fr; intro fr hA
    refine cF hA ?_
    refine sC (e' := [(3, pt b1), (6, pt b2), (7, i64 0), (8, pt b3), (9, pt b4), (13, pt b5), (14, i64 ((pc + 4) + (4 * v))), (15, .pointer (some ((⟨b1, 0, none⟩ : Addr).add ((a).toNat)))), (77, i64 17), (137, bl false)]) 2 hA [] c0 ?_
    clear hA fr; intro fr hA
    refine cF hA ?_
    refine sC (e' := [(3, pt b1), (6, pt b2), (7, i64 0), (8, pt b3), (9, pt b4), (13, pt b5), (14, i64 ((pc + 4) + (4 * v))), (15, .pointer (some ((⟨b1, 0, none⟩ : Addr).add ((a).toNat)))), (77, i64 17), (145, bl true)]) 2 hA [] c0 ?_
    clear hA fr; intro fr hA
    refine cT hA ?_
    refine wp_seq ?_
    have hS : Ow Tryd.prog none' w _ [(b5, 40, (regsL R pc)), (b4, 25, [i64 17, i64 a, i64 b, i64 c, i64 v]), (b1, 40, (regsL R (pc + 4)))] := hO.sub [0, 1, 4]
    refine rP [(0, true), (1, true), (2, true), (3, true), (4, true), (5, true), (6, true), (7, false), (8, true), (9, false)] hS ?_
    intro w15 ho; replace hO := hO.st ho; clear ho
    refine ckS (l := (rg 0 7)) (r := [(7, false), (8, true), (9, false)]) (e' := [(3, pt b1), (6, pt b2), (7, i64 0), (8, pt b3), (147, .agg (List.toArray (regsL R (pc + 4)))), (152, i64 (IntKind.u8.wrap (R ((a).toNat)))), (153, .agg #[i64 0, i64 0, i64 0, i64 0, i64 0, i64 0, i64 0])]) hA [.agg (List.toArray (regsL R (pc + 4))), i32 (R ((a).toNat)), bl false, bl true] (cc (hS.sn 2 0 40 (regsL R (pc + 4))) (cc (hS.sx ((⟨b1, 0, none⟩ : Addr).add ((a).toNat)) 21 (i32 (R ((a).toNat))) fun _ hO => (ld_regs (hO.b 2) (by omega) (by kernel_rfl))) (cc ((inK_up (by kernel_rfl) (wrap_inK _ _)) : inK .i64 (IntKind.u8.wrap (R ((a).toNat)))) c0))) ?_
    clear hA fr; intro fr hA
    refine plan_mem (mS (off := 0) (vc := (regsL R (pc + 4))) 3 hA hO ?_)
    clear hO; intro w16 hO
    refine ⟨(hO.sub [0, 1, 4]), ?_⟩
    replace hA := hA.sb (e' := [(3, pt b1), (6, pt b2), (7, i64 0), (8, pt b3), (152, i64 (IntKind.u8.wrap (R ((a).toNat)))), (153, .agg #[i64 0, i64 0, i64 0, i64 0, i64 0, i64 0, i64 0])])
    refine ckS (l := [8]) (r := [(9, false)]) (e' := [(3, pt b1), (6, pt b2), (7, i64 (IntKind.u8.wrap (R ((a).toNat)))), (8, pt b3), (153, .agg #[i64 0, i64 0, i64 0, i64 0, i64 0, i64 0, i64 0])]) hA [] c0 ?_
    clear hA fr; intro fr hA
    refine plan_mem (mS (off := 0) (vc := [i64 0, i64 0, i64 0, i64 0, i64 0, i64 0, i64 0]) 2 hA hO ?_)
    clear hO; intro w17 hO
    refine ⟨(hO.sub [0, 1, 4]), ?_⟩
    replace hA := hA.sb (e' := [(3, pt b1), (6, pt b2), (7, i64 (IntKind.u8.wrap (R ((a).toNat)))), (8, pt b3)])
    refine end_plan ?_
    refine then_normal ?_
    refine wp_ret ?_
    refine inBlock_ret ?_
    refine then_ret ?_
    refine cR (cs := [some (⟨b2, 0, none⟩, 40), none, some (⟨b3, 0, none⟩, 43)]) (us := [.agg (List.toArray (regsL R (pc + 4))), i64 (IntKind.u8.wrap (R ((a).toNat))), .agg #[i64 0, i64 0, i64 0, i64 0, i64 0, i64 0, i64 0]]) hA [.agg (List.toArray (regsL R (pc + 4))), .agg #[i64 0, i64 0, i64 0, i64 0, i64 0, i64 0, i64 0]] ⟨(hO.ln 3 0 40 (regsL R (pc + 4))), (hO.ln 2 0 43 [i64 0, i64 0, i64 0, i64 0, i64 0, i64 0, i64 0]), trivial⟩ ?_
    have hF := hO.only; clear hA hO
    exact ⟨by simp_all [pack, execV, outV, noTrap, trapL, insV], hF⟩

theorem exec_18 (R : Nat → Int) (pc ld a b c v : Int) (sl : Value) (w : World) (hT : Tab w) (hR : RegsOk R) (hp : -1099511627776 < pc) (hp' : pc < 1099511627776) (ha : 0 ≤ a) (ha' : a ≤ 15) (hb : 0 ≤ b) (hb' : b ≤ 15) (hc : -128 ≤ c) (hc' : c ≤ 127) (hv : -32768 ≤ v) (hv' : v ≤ 32767) (hdec : ∀ w', Only none' w w' → Calls Tryd.prog 13 #[sl] w' fun e w2 => e = .returned (.tuple #[insV 18 a b c v, .int .i64 0]) ∧ Only none' w' w2) :
    Calls Tryd.prog 18 #[.agg (List.toArray (regsL R pc)), sl, i64 ld] w fun e w' => e = .returned (execV R pc ld 18 a b c v) ∧ Only none' w w' := by
  refine c_enter (args := [.agg (List.toArray (regsL R pc)), sl, i64 ld]) (m := 206) (n := 209) Tryd.func18 rfl (by kernel_rfl) (by kernel_rfl) fun fr hA => ?_
  have hO := Ow.nil Tryd.prog none' w
  have hRa := hR a.toNat; have hRb := hR b.toNat; have hRc := hR c.toNat; simp only [inK] at hRa hRb hRc
  refine sR (l := [0, 1, 2, 3]) ?_
  refine wpOps_cons' (mN (l := (regsL R pc)) (t := 40) (v := pt) (d := 3) hA hO ?_)
  clear hA hO fr; intro fr w1 b1 hA hO
  replace hA := hA.sb (e' := [(1, sl), (2, i64 ld), (3, pt b1)])
  refine wpOps_cons' (mN (l := [i32 0, i32 0, i32 0, i32 0, i32 0, i32 0, i32 0, i32 0, i32 0, i32 0, i32 0, i32 0, i32 0, i32 0, i32 0, i32 0, i64 0]) (t := 40) (v := pt) (d := 6) hA hO ?_)
  clear hA hO fr; intro fr w2 b2 hA hO
  refine ck (l := [2]) (r := [3]) (e' := [(1, sl), (2, i64 ld), (3, pt b1), (6, pt b2), (7, i64 0)]) hA [] c0 ?_
  clear hA fr; intro fr hA
  refine wpOps_cons' (mN (l := [i64 0, i64 0, i64 0, i64 0, i64 0, i64 0, i64 0]) (t := 43) (v := pt) (d := 8) hA hO ?_)
  clear hA hO fr; intro fr w3 b3 hA hO
  refine end_ops ?_
  refine then_normal ?_
  refine sR (l := (rg 0 8)) ?_
  refine ck (l := [0]) (r := (rg 1 7)) (e' := [(2, i64 ld), (3, pt b1), (6, pt b2), (7, i64 0), (8, pt b3), (18, sl)]) hA [] c0 ?_
  clear hA fr; intro fr hA
  refine wpOps_cons' (mK (f := 13) (args := [sl]) (d := (some 19)) (v := .tuple #[.agg #[i64 18, i64 a, i64 b, i64 c, i64 v], i64 0]) hA hO Tryd.func13 (hdec _ hO.only) ?_)
  clear hA hO fr; intro fr w4 hA hO
  replace hA := hA.sb (e' := [(2, i64 ld), (3, pt b1), (6, pt b2), (7, i64 0), (8, pt b3), (19, .tuple #[.agg #[i64 18, i64 a, i64 b, i64 c, i64 v], i64 0])])
  refine ck (l := [2, 3, 4]) (r := [5, 6, 7]) (e' := [(2, i64 ld), (3, pt b1), (6, pt b2), (7, i64 0), (8, pt b3), (20, .agg #[i64 18, i64 a, i64 b, i64 c, i64 v]), (21, i64 0)]) hA [] c0 ?_
  clear hA fr; intro fr hA
  refine wpOps_cons' (mN (l := [i64 0, i64 0, i64 0, i64 0, i64 0]) (t := 25) (v := pt) (d := 9) hA hO ?_)
  clear hA hO fr; intro fr w5 b4 hA hO
  refine wpOps_cons' (mS (off := 0) (vc := [i64 18, i64 a, i64 b, i64 c, i64 v]) 0 hA hO ?_)
  clear hO; intro w6 hO
  replace hA := hA.sb (e' := [(2, i64 ld), (3, pt b1), (6, pt b2), (7, i64 0), (8, pt b3), (9, pt b4), (21, i64 0)])
  refine ck (l := [7]) (r := []) (e' := [(2, i64 ld), (3, pt b1), (6, pt b2), (7, i64 0), (8, pt b3), (9, pt b4), (10, i64 0)]) hA [] c0 ?_
  clear hA fr; intro fr hA
  refine end_ops ?_
  refine then_normal ?_
  refine wp_seq ?_
  refine sC (e' := [(2, i64 ld), (3, pt b1), (6, pt b2), (7, i64 0), (8, pt b3), (9, pt b4), (23, bl false)]) 2 hA [] c0 ?_
  clear hA fr; intro fr hA
  refine cF hA ?_
  refine wp_skip ?_
  refine then_normal ?_
  refine wp_seq ?_
  refine sR (l := (rg 0 8)) ?_
  refine ck (l := [0, 1]) (r := (rg 2 6)) (e' := [(2, i64 ld), (3, pt b1), (6, pt b2), (7, i64 0), (8, pt b3), (9, pt b4), (27, .agg (List.toArray (regsL R pc))), (28, .agg #[i64 18, i64 a, i64 b, i64 c, i64 v])]) hA [.agg (List.toArray (regsL R pc)), .agg #[i64 18, i64 a, i64 b, i64 c, i64 v]] (cc (hO.ln 3 0 40 (regsL R pc)) (cc (hO.ln 0 0 25 [i64 18, i64 a, i64 b, i64 c, i64 v]) c0)) ?_
  clear hA fr; intro fr hA
  refine wpOps_cons' (mK (f := 36) (args := [.agg (List.toArray (regsL R pc)), .agg #[i64 18, i64 a, i64 b, i64 c, i64 v]]) (d := (some 29)) (v := .tuple #[i64 0, i64 0]) hA hO Tryd.func36 (place_any R pc 18 a b c v _ hR hb hb' (by omega) (by omega)) ?_)
  clear hA hO fr; intro fr w7 hA hO
  replace hA := hA.sb (e' := [(2, i64 ld), (3, pt b1), (6, pt b2), (7, i64 0), (8, pt b3), (9, pt b4), (29, .tuple #[i64 0, i64 0])])
  refine ck (l := (rg 3 5)) (r := []) (e' := [(2, i64 ld), (3, pt b1), (6, pt b2), (7, i64 0), (8, pt b3), (9, pt b4), (11, i64 0), (12, i64 0)]) hA [] c0 ?_
  clear hA fr; intro fr hA
  refine end_ops ?_
  refine then_normal ?_
  refine sC (e' := [(2, i64 ld), (3, pt b1), (6, pt b2), (7, i64 0), (8, pt b3), (9, pt b4), (39, bl false)]) 8 hA [] c0 ?_
  clear hA fr; intro fr hA
  refine cF hA ?_
  refine wp_skip ?_
  refine then_normal ?_
  refine wp_seq ?_
  refine sC (e' := [(2, i64 ld), (3, pt b1), (6, pt b2), (7, i64 0), (8, pt b3), (9, pt b4), (57, bl false)]) 16 hA [i64 18, i64 18] (cc (hO.l1 0 0 3 (i64 18)) (cc (hO.l1 0 0 3 (i64 18)) c0)) ?_
  clear hA fr; intro fr hA
  refine cF hA ?_
  refine wp_skip ?_
  refine then_normal ?_
  refine sR (l := [0, 1, 2]) ?_
  refine ck (l := [0]) (r := [1, 2]) (e' := [(2, i64 ld), (3, pt b1), (6, pt b2), (7, i64 0), (8, pt b3), (9, pt b4), (60, .agg (List.toArray (regsL R pc)))]) hA [.agg (List.toArray (regsL R pc))] (cc (hO.ln 3 0 40 (regsL R pc)) c0) ?_
  clear hA fr; intro fr hA
  refine wpOps_cons' (mN (l := [i32 0, i32 0, i32 0, i32 0, i32 0, i32 0, i32 0, i32 0, i32 0, i32 0, i32 0, i32 0, i32 0, i32 0, i32 0, i32 0, i64 0]) (t := 40) (v := pt) (d := 13) hA hO ?_)
  clear hA hO fr; intro fr w8 b5 hA hO
  refine wpOps_cons' (mS (off := 0) (vc := (regsL R pc)) 0 hA hO ?_)
  clear hO; intro w9 hO
  replace hA := hA.sb (e' := [(2, i64 ld), (3, pt b1), (6, pt b2), (7, i64 0), (8, pt b3), (9, pt b4), (13, pt b5)])
  refine end_ops ?_
  refine then_normal ?_
  refine sC (e' := [(2, i64 ld), (3, pt b1), (6, pt b2), (7, i64 0), (8, pt b3), (9, pt b4), (13, pt b5), (14, i64 ((pc + 4) + (4 * v)))]) 8 hA [i64 pc, bl true, i64 v, bl true, bl true] (cc (hO.l1 4 16 3 (i64 pc)) (cc ((inK_i64 (by omega) (by omega)) : inK .i64 (pc + 4)) (cc (hO.l1 1 4 3 (i64 v)) (cc ((inK_i64 (by omega) (by omega)) : inK .i64 (4 * v)) (cc ((inK_i64 (by omega) (by omega)) : inK .i64 ((pc + 4) + (4 * v))) c0))))) ?_
  clear hA fr; intro fr hA
  refine sR (l := (rg 0 5)) ?_
  refine ck (l := [0, 1, 2, 3]) (r := [4]) (e' := [(2, i64 ld), (3, pt b1), (6, pt b2), (7, i64 0), (8, pt b3), (9, pt b4), (13, pt b5), (14, i64 ((pc + 4) + (4 * v))), (70, i64 (pc + 4)), (71, pf b1 16)]) hA [i64 pc, bl true] (cc (hO.l1 4 16 3 (i64 pc)) (cc ((inK_i64 (by omega) (by omega)) : inK .i64 (pc + 4)) c0)) ?_
  clear hA fr; intro fr hA
  refine wpOps_cons' (mSR (off := 16) (ad := ⟨b1, 16, none⟩) (vc := [i64 (pc + 4)]) (l' := (regsL R (pc + 4))) 4 hA hO rfl (by kernel_rfl) (by kernel_rfl) ?_)
  clear hO; intro w10 hO
  replace hA := hA.sb (e' := [(2, i64 ld), (3, pt b1), (6, pt b2), (7, i64 0), (8, pt b3), (9, pt b4), (13, pt b5), (14, i64 ((pc + 4) + (4 * v)))])
  refine end_ops ?_
  refine then_normal ?_
  refine sC (e' := [(2, i64 ld), (3, pt b1), (6, pt b2), (7, i64 0), (8, pt b3), (9, pt b4), (13, pt b5), (14, i64 ((pc + 4) + (4 * v))), (15, .pointer (some ((⟨b1, 0, none⟩ : Addr).add ((a).toNat))))]) 5 hA [i64 a] (cc (hO.l1 1 1 3 (i64 a)) (cc (⟨by omega, by omega⟩ : (0 : Int) ≤ a ∧ a < ((16 : Nat) : Int)) c0)) ?_
  clear hA fr; intro fr hA
  refine wp_seq ?_
  refine sC (e' := [(2, i64 ld), (3, pt b1), (6, pt b2), (7, i64 0), (8, pt b3), (9, pt b4), (13, pt b5), (14, i64 ((pc + 4) + (4 * v))), (15, .pointer (some ((⟨b1, 0, none⟩ : Addr).add ((a).toNat)))), (77, i64 18)]) 2 hA [i64 18] (cc (hO.l1 1 0 3 (i64 18)) c0) ?_
  clear hA fr; intro fr hA
  refine wp_block ?_
  refine sC (e' := [(2, i64 ld), (3, pt b1), (6, pt b2), (7, i64 0), (8, pt b3), (9, pt b4), (13, pt b5), (14, i64 ((pc + 4) + (4 * v))), (15, .pointer (some ((⟨b1, 0, none⟩ : Addr).add ((a).toNat)))), (77, i64 18), (93, bl false)]) 2 hA [] c0 ?_
  clear hA fr; intro fr hA
  refine cF hA ?_
  refine sC (e' := [(2, i64 ld), (3, pt b1), (6, pt b2), (7, i64 0), (8, pt b3), (9, pt b4), (13, pt b5), (14, i64 ((pc + 4) + (4 * v))), (15, .pointer (some ((⟨b1, 0, none⟩ : Addr).add ((a).toNat)))), (77, i64 18), (100, bl false)]) 2 hA [] c0 ?_
  clear hA fr; intro fr hA
  refine cF hA ?_
  refine sC (e' := [(2, i64 ld), (3, pt b1), (6, pt b2), (7, i64 0), (8, pt b3), (9, pt b4), (13, pt b5), (14, i64 ((pc + 4) + (4 * v))), (15, .pointer (some ((⟨b1, 0, none⟩ : Addr).add ((a).toNat)))), (77, i64 18), (111, bl false)]) 2 hA [] c0 ?_
  clear hA fr; intro fr hA
  refine cF hA ?_
  refine sC (e' := [(2, i64 ld), (3, pt b1), (6, pt b2), (7, i64 0), (8, pt b3), (9, pt b4), (13, pt b5), (14, i64 ((pc + 4) + (4 * v))), (15, .pointer (some ((⟨b1, 0, none⟩ : Addr).add ((a).toNat)))), (77, i64 18), (124, bl false)]) 2 hA [] c0 ?_
  clear hA fr; intro fr hA
  refine cF hA ?_
  refine sC (e' := [(2, i64 ld), (3, pt b1), (6, pt b2), (7, i64 0), (8, pt b3), (9, pt b4), (13, pt b5), (14, i64 ((pc + 4) + (4 * v))), (15, .pointer (some ((⟨b1, 0, none⟩ : Addr).add ((a).toNat)))), (77, i64 18), (130, bl false)]) 2 hA [] c0 ?_
  clear hA fr; intro fr hA
  refine cF hA ?_
  refine sC (e' := [(3, pt b1), (6, pt b2), (7, i64 0), (8, pt b3), (9, pt b4), (13, pt b5), (14, i64 ((pc + 4) + (4 * v))), (15, .pointer (some ((⟨b1, 0, none⟩ : Addr).add ((a).toNat)))), (77, i64 18), (137, bl false)]) 2 hA [] c0 ?_
  clear hA fr; intro fr hA
  refine cF hA ?_
  refine sC (e' := [(3, pt b1), (6, pt b2), (7, i64 0), (8, pt b3), (9, pt b4), (13, pt b5), (14, i64 ((pc + 4) + (4 * v))), (15, .pointer (some ((⟨b1, 0, none⟩ : Addr).add ((a).toNat)))), (77, i64 18), (145, bl false)]) 2 hA [] c0 ?_
  clear hA fr; intro fr hA
  refine cF hA ?_
  refine sC (e' := [(3, pt b1), (6, pt b2), (7, i64 0), (8, pt b3), (9, pt b4), (13, pt b5), (14, i64 ((pc + 4) + (4 * v))), (15, .pointer (some ((⟨b1, 0, none⟩ : Addr).add ((a).toNat)))), (77, i64 18), (154, bl true)]) 2 hA [] c0 ?_
  clear hA fr; intro fr hA
  refine cT hA ?_
  refine rR (l := [0, 1, 2]) ?_
  refine ck (l := [0, 1]) (r := [2]) (e' := [(3, pt b1), (6, pt b2), (7, i64 0), (8, pt b3), (156, i64 ((pc + 4) + (4 * v))), (157, pf b1 16)]) hA [] c0 ?_
  clear hA fr; intro fr hA
  refine wpOps_cons' (mSR (off := 16) (ad := ⟨b1, 16, none⟩) (vc := [i64 ((pc + 4) + (4 * v))]) (l' := (regsL R ((pc + 4) + (4 * v)))) 4 hA hO rfl (by kernel_rfl) (by kernel_rfl) ?_)
  clear hO; intro w11 hO
  replace hA := hA.sb (e' := [(3, pt b1), (6, pt b2), (7, i64 0), (8, pt b3)])
  refine end_ops ?_
  refine inBlock_normal ?_
  refine then_normal ?_
  refine sR (l := (rg 0 5)) ?_
  refine ck (l := [0, 1]) (r := [2, 3, 4]) (e' := [(6, pt b2), (7, i64 0), (8, pt b3), (207, .agg (List.toArray (regsL R ((pc + 4) + (4 * v))))), (208, .agg #[i64 0, i64 0, i64 0, i64 0, i64 0, i64 0, i64 0])]) hA [.agg (List.toArray (regsL R ((pc + 4) + (4 * v))))] (cc (hO.ln 4 0 40 (regsL R ((pc + 4) + (4 * v)))) c0) ?_
  clear hA fr; intro fr hA
  refine wpOps_cons' (mS (off := 0) (vc := (regsL R ((pc + 4) + (4 * v)))) 3 hA hO ?_)
  clear hO; intro w12 hO
  replace hA := hA.sb (e' := [(6, pt b2), (7, i64 0), (8, pt b3), (208, .agg #[i64 0, i64 0, i64 0, i64 0, i64 0, i64 0, i64 0])])
  refine ck (l := [3]) (r := [4]) (e' := [(6, pt b2), (7, i64 0), (8, pt b3), (208, .agg #[i64 0, i64 0, i64 0, i64 0, i64 0, i64 0, i64 0])]) hA [] c0 ?_
  clear hA fr; intro fr hA
  refine wpOps_cons' (mS (off := 0) (vc := [i64 0, i64 0, i64 0, i64 0, i64 0, i64 0, i64 0]) 2 hA hO ?_)
  clear hO; intro w13 hO
  replace hA := hA.sb (e' := [(6, pt b2), (7, i64 0), (8, pt b3)])
  refine end_ops ?_
  refine then_normal ?_
  refine wp_ret ?_
  refine cR (cs := [some (⟨b2, 0, none⟩, 40), none, some (⟨b3, 0, none⟩, 43)]) (us := [.agg (List.toArray (regsL R ((pc + 4) + (4 * v)))), i64 0, .agg #[i64 0, i64 0, i64 0, i64 0, i64 0, i64 0, i64 0]]) hA [.agg (List.toArray (regsL R ((pc + 4) + (4 * v)))), .agg #[i64 0, i64 0, i64 0, i64 0, i64 0, i64 0, i64 0]] ⟨(hO.ln 3 0 40 (regsL R ((pc + 4) + (4 * v)))), (hO.ln 2 0 43 [i64 0, i64 0, i64 0, i64 0, i64 0, i64 0, i64 0]), trivial⟩ ?_
  have hF := hO.only; clear hA hO
  exact ⟨by simp_all [pack, execV, outV, noTrap, trapL, insV], hF⟩

theorem exec_19 (R : Nat → Int) (pc ld a b c v : Int) (sl : Value) (w : World) (hT : Tab w) (hR : RegsOk R) (hp : -1099511627776 < pc) (hp' : pc < 1099511627776) (ha : 0 ≤ a) (ha' : a ≤ 15) (hb : 0 ≤ b) (hb' : b ≤ 15) (hc : -128 ≤ c) (hc' : c ≤ 127) (hv : -32768 ≤ v) (hv' : v ≤ 32767) (hdec : ∀ w', Only none' w w' → Calls Tryd.prog 13 #[sl] w' fun e w2 => e = .returned (.tuple #[insV 19 a b c v, .int .i64 0]) ∧ Only none' w' w2) :
    Calls Tryd.prog 18 #[.agg (List.toArray (regsL R pc)), sl, i64 ld] w fun e w' => e = .returned (execV R pc ld 19 a b c v) ∧ Only none' w w' := by
  refine c_enter (args := [.agg (List.toArray (regsL R pc)), sl, i64 ld]) (m := 206) (n := 209) Tryd.func18 rfl (by kernel_rfl) (by kernel_rfl) fun fr hA => ?_
  have hO := Ow.nil Tryd.prog none' w
  have hRa := hR a.toNat; have hRb := hR b.toNat; have hRc := hR c.toNat; simp only [inK] at hRa hRb hRc
  refine sR (l := [0, 1, 2, 3]) ?_
  refine wpOps_cons' (mN (l := (regsL R pc)) (t := 40) (v := pt) (d := 3) hA hO ?_)
  clear hA hO fr; intro fr w1 b1 hA hO
  replace hA := hA.sb (e' := [(1, sl), (2, i64 ld), (3, pt b1)])
  refine wpOps_cons' (mN (l := [i32 0, i32 0, i32 0, i32 0, i32 0, i32 0, i32 0, i32 0, i32 0, i32 0, i32 0, i32 0, i32 0, i32 0, i32 0, i32 0, i64 0]) (t := 40) (v := pt) (d := 6) hA hO ?_)
  clear hA hO fr; intro fr w2 b2 hA hO
  refine ck (l := [2]) (r := [3]) (e' := [(1, sl), (2, i64 ld), (3, pt b1), (6, pt b2), (7, i64 0)]) hA [] c0 ?_
  clear hA fr; intro fr hA
  refine wpOps_cons' (mN (l := [i64 0, i64 0, i64 0, i64 0, i64 0, i64 0, i64 0]) (t := 43) (v := pt) (d := 8) hA hO ?_)
  clear hA hO fr; intro fr w3 b3 hA hO
  refine end_ops ?_
  refine then_normal ?_
  refine sR (l := (rg 0 8)) ?_
  refine ck (l := [0]) (r := (rg 1 7)) (e' := [(2, i64 ld), (3, pt b1), (6, pt b2), (7, i64 0), (8, pt b3), (18, sl)]) hA [] c0 ?_
  clear hA fr; intro fr hA
  refine wpOps_cons' (mK (f := 13) (args := [sl]) (d := (some 19)) (v := .tuple #[.agg #[i64 19, i64 a, i64 b, i64 c, i64 v], i64 0]) hA hO Tryd.func13 (hdec _ hO.only) ?_)
  clear hA hO fr; intro fr w4 hA hO
  replace hA := hA.sb (e' := [(2, i64 ld), (3, pt b1), (6, pt b2), (7, i64 0), (8, pt b3), (19, .tuple #[.agg #[i64 19, i64 a, i64 b, i64 c, i64 v], i64 0])])
  refine ck (l := [2, 3, 4]) (r := [5, 6, 7]) (e' := [(2, i64 ld), (3, pt b1), (6, pt b2), (7, i64 0), (8, pt b3), (20, .agg #[i64 19, i64 a, i64 b, i64 c, i64 v]), (21, i64 0)]) hA [] c0 ?_
  clear hA fr; intro fr hA
  refine wpOps_cons' (mN (l := [i64 0, i64 0, i64 0, i64 0, i64 0]) (t := 25) (v := pt) (d := 9) hA hO ?_)
  clear hA hO fr; intro fr w5 b4 hA hO
  refine wpOps_cons' (mS (off := 0) (vc := [i64 19, i64 a, i64 b, i64 c, i64 v]) 0 hA hO ?_)
  clear hO; intro w6 hO
  replace hA := hA.sb (e' := [(2, i64 ld), (3, pt b1), (6, pt b2), (7, i64 0), (8, pt b3), (9, pt b4), (21, i64 0)])
  refine ck (l := [7]) (r := []) (e' := [(2, i64 ld), (3, pt b1), (6, pt b2), (7, i64 0), (8, pt b3), (9, pt b4), (10, i64 0)]) hA [] c0 ?_
  clear hA fr; intro fr hA
  refine end_ops ?_
  refine then_normal ?_
  refine wp_seq ?_
  refine sC (e' := [(2, i64 ld), (3, pt b1), (6, pt b2), (7, i64 0), (8, pt b3), (9, pt b4), (23, bl false)]) 2 hA [] c0 ?_
  clear hA fr; intro fr hA
  refine cF hA ?_
  refine wp_skip ?_
  refine then_normal ?_
  refine wp_seq ?_
  refine sR (l := (rg 0 8)) ?_
  refine ck (l := [0, 1]) (r := (rg 2 6)) (e' := [(2, i64 ld), (3, pt b1), (6, pt b2), (7, i64 0), (8, pt b3), (9, pt b4), (27, .agg (List.toArray (regsL R pc))), (28, .agg #[i64 19, i64 a, i64 b, i64 c, i64 v])]) hA [.agg (List.toArray (regsL R pc)), .agg #[i64 19, i64 a, i64 b, i64 c, i64 v]] (cc (hO.ln 3 0 40 (regsL R pc)) (cc (hO.ln 0 0 25 [i64 19, i64 a, i64 b, i64 c, i64 v]) c0)) ?_
  clear hA fr; intro fr hA
  refine wpOps_cons' (mK (f := 36) (args := [.agg (List.toArray (regsL R pc)), .agg #[i64 19, i64 a, i64 b, i64 c, i64 v]]) (d := (some 29)) (v := .tuple #[i64 0, i64 0]) hA hO Tryd.func36 (place_any R pc 19 a b c v _ hR hb hb' (by omega) (by omega)) ?_)
  clear hA hO fr; intro fr w7 hA hO
  replace hA := hA.sb (e' := [(2, i64 ld), (3, pt b1), (6, pt b2), (7, i64 0), (8, pt b3), (9, pt b4), (29, .tuple #[i64 0, i64 0])])
  refine ck (l := (rg 3 5)) (r := []) (e' := [(2, i64 ld), (3, pt b1), (6, pt b2), (7, i64 0), (8, pt b3), (9, pt b4), (11, i64 0), (12, i64 0)]) hA [] c0 ?_
  clear hA fr; intro fr hA
  refine end_ops ?_
  refine then_normal ?_
  refine sC (e' := [(2, i64 ld), (3, pt b1), (6, pt b2), (7, i64 0), (8, pt b3), (9, pt b4), (39, bl false)]) 8 hA [] c0 ?_
  clear hA fr; intro fr hA
  refine cF hA ?_
  refine wp_skip ?_
  refine then_normal ?_
  refine wp_seq ?_
  refine sC (e' := [(2, i64 ld), (3, pt b1), (6, pt b2), (7, i64 0), (8, pt b3), (9, pt b4), (57, bl false)]) 16 hA [i64 19, i64 19] (cc (hO.l1 0 0 3 (i64 19)) (cc (hO.l1 0 0 3 (i64 19)) c0)) ?_
  clear hA fr; intro fr hA
  refine cF hA ?_
  refine wp_skip ?_
  refine then_normal ?_
  refine sR (l := [0, 1, 2]) ?_
  refine ck (l := [0]) (r := [1, 2]) (e' := [(2, i64 ld), (3, pt b1), (6, pt b2), (7, i64 0), (8, pt b3), (9, pt b4), (60, .agg (List.toArray (regsL R pc)))]) hA [.agg (List.toArray (regsL R pc))] (cc (hO.ln 3 0 40 (regsL R pc)) c0) ?_
  clear hA fr; intro fr hA
  refine wpOps_cons' (mN (l := [i32 0, i32 0, i32 0, i32 0, i32 0, i32 0, i32 0, i32 0, i32 0, i32 0, i32 0, i32 0, i32 0, i32 0, i32 0, i32 0, i64 0]) (t := 40) (v := pt) (d := 13) hA hO ?_)
  clear hA hO fr; intro fr w8 b5 hA hO
  refine wpOps_cons' (mS (off := 0) (vc := (regsL R pc)) 0 hA hO ?_)
  clear hO; intro w9 hO
  replace hA := hA.sb (e' := [(2, i64 ld), (3, pt b1), (6, pt b2), (7, i64 0), (8, pt b3), (9, pt b4), (13, pt b5)])
  refine end_ops ?_
  refine then_normal ?_
  refine sC (e' := [(2, i64 ld), (3, pt b1), (6, pt b2), (7, i64 0), (8, pt b3), (9, pt b4), (13, pt b5), (14, i64 ((pc + 4) + (4 * v)))]) 8 hA [i64 pc, bl true, i64 v, bl true, bl true] (cc (hO.l1 4 16 3 (i64 pc)) (cc ((inK_i64 (by omega) (by omega)) : inK .i64 (pc + 4)) (cc (hO.l1 1 4 3 (i64 v)) (cc ((inK_i64 (by omega) (by omega)) : inK .i64 (4 * v)) (cc ((inK_i64 (by omega) (by omega)) : inK .i64 ((pc + 4) + (4 * v))) c0))))) ?_
  clear hA fr; intro fr hA
  refine sR (l := (rg 0 5)) ?_
  refine ck (l := [0, 1, 2, 3]) (r := [4]) (e' := [(2, i64 ld), (3, pt b1), (6, pt b2), (7, i64 0), (8, pt b3), (9, pt b4), (13, pt b5), (14, i64 ((pc + 4) + (4 * v))), (70, i64 (pc + 4)), (71, pf b1 16)]) hA [i64 pc, bl true] (cc (hO.l1 4 16 3 (i64 pc)) (cc ((inK_i64 (by omega) (by omega)) : inK .i64 (pc + 4)) c0)) ?_
  clear hA fr; intro fr hA
  refine wpOps_cons' (mSR (off := 16) (ad := ⟨b1, 16, none⟩) (vc := [i64 (pc + 4)]) (l' := (regsL R (pc + 4))) 4 hA hO rfl (by kernel_rfl) (by kernel_rfl) ?_)
  clear hO; intro w10 hO
  replace hA := hA.sb (e' := [(2, i64 ld), (3, pt b1), (6, pt b2), (7, i64 0), (8, pt b3), (9, pt b4), (13, pt b5), (14, i64 ((pc + 4) + (4 * v)))])
  refine end_ops ?_
  refine then_normal ?_
  refine sC (e' := [(2, i64 ld), (3, pt b1), (6, pt b2), (7, i64 0), (8, pt b3), (9, pt b4), (13, pt b5), (14, i64 ((pc + 4) + (4 * v))), (15, .pointer (some ((⟨b1, 0, none⟩ : Addr).add ((a).toNat))))]) 5 hA [i64 a] (cc (hO.l1 1 1 3 (i64 a)) (cc (⟨by omega, by omega⟩ : (0 : Int) ≤ a ∧ a < ((16 : Nat) : Int)) c0)) ?_
  clear hA fr; intro fr hA
  refine wp_seq ?_
  refine sC (e' := [(2, i64 ld), (3, pt b1), (6, pt b2), (7, i64 0), (8, pt b3), (9, pt b4), (13, pt b5), (14, i64 ((pc + 4) + (4 * v))), (15, .pointer (some ((⟨b1, 0, none⟩ : Addr).add ((a).toNat)))), (77, i64 19)]) 2 hA [i64 19] (cc (hO.l1 1 0 3 (i64 19)) c0) ?_
  clear hA fr; intro fr hA
  refine wp_block ?_
  refine sC (e' := [(2, i64 ld), (3, pt b1), (6, pt b2), (7, i64 0), (8, pt b3), (9, pt b4), (13, pt b5), (14, i64 ((pc + 4) + (4 * v))), (15, .pointer (some ((⟨b1, 0, none⟩ : Addr).add ((a).toNat)))), (77, i64 19), (93, bl false)]) 2 hA [] c0 ?_
  clear hA fr; intro fr hA
  refine cF hA ?_
  refine sC (e' := [(2, i64 ld), (3, pt b1), (6, pt b2), (7, i64 0), (8, pt b3), (9, pt b4), (13, pt b5), (14, i64 ((pc + 4) + (4 * v))), (15, .pointer (some ((⟨b1, 0, none⟩ : Addr).add ((a).toNat)))), (77, i64 19), (100, bl false)]) 2 hA [] c0 ?_
  clear hA fr; intro fr hA
  refine cF hA ?_
  refine sC (e' := [(2, i64 ld), (3, pt b1), (6, pt b2), (7, i64 0), (8, pt b3), (9, pt b4), (13, pt b5), (14, i64 ((pc + 4) + (4 * v))), (15, .pointer (some ((⟨b1, 0, none⟩ : Addr).add ((a).toNat)))), (77, i64 19), (111, bl false)]) 2 hA [] c0 ?_
  clear hA fr; intro fr hA
  refine cF hA ?_
  refine sC (e' := [(2, i64 ld), (3, pt b1), (6, pt b2), (7, i64 0), (8, pt b3), (9, pt b4), (13, pt b5), (14, i64 ((pc + 4) + (4 * v))), (15, .pointer (some ((⟨b1, 0, none⟩ : Addr).add ((a).toNat)))), (77, i64 19), (124, bl false)]) 2 hA [] c0 ?_
  clear hA fr; intro fr hA
  refine cF hA ?_
  refine sC (e' := [(2, i64 ld), (3, pt b1), (6, pt b2), (7, i64 0), (8, pt b3), (9, pt b4), (13, pt b5), (14, i64 ((pc + 4) + (4 * v))), (15, .pointer (some ((⟨b1, 0, none⟩ : Addr).add ((a).toNat)))), (77, i64 19), (130, bl false)]) 2 hA [] c0 ?_
  clear hA fr; intro fr hA
  refine cF hA ?_
  refine sC (e' := [(3, pt b1), (6, pt b2), (7, i64 0), (8, pt b3), (9, pt b4), (13, pt b5), (14, i64 ((pc + 4) + (4 * v))), (15, .pointer (some ((⟨b1, 0, none⟩ : Addr).add ((a).toNat)))), (77, i64 19), (137, bl false)]) 2 hA [] c0 ?_
  clear hA fr; intro fr hA
  refine cF hA ?_
  refine sC (e' := [(3, pt b1), (6, pt b2), (7, i64 0), (8, pt b3), (9, pt b4), (13, pt b5), (14, i64 ((pc + 4) + (4 * v))), (15, .pointer (some ((⟨b1, 0, none⟩ : Addr).add ((a).toNat)))), (77, i64 19), (145, bl false)]) 2 hA [] c0 ?_
  clear hA fr; intro fr hA
  refine cF hA ?_
  refine sC (e' := [(3, pt b1), (6, pt b2), (7, i64 0), (8, pt b3), (9, pt b4), (13, pt b5), (14, i64 ((pc + 4) + (4 * v))), (15, .pointer (some ((⟨b1, 0, none⟩ : Addr).add ((a).toNat)))), (77, i64 19), (154, bl false)]) 2 hA [] c0 ?_
  clear hA fr; intro fr hA
  refine cF hA ?_
  refine sC (e' := [(3, pt b1), (6, pt b2), (7, i64 0), (8, pt b3), (9, pt b4), (13, pt b5), (14, i64 ((pc + 4) + (4 * v))), (15, .pointer (some ((⟨b1, 0, none⟩ : Addr).add ((a).toNat)))), (77, i64 19), (158, bl true)]) 2 hA [] c0 ?_
  clear hA fr; intro fr hA
  refine cT hA ?_
  refine sC (e' := [(3, pt b1), (6, pt b2), (7, i64 0), (8, pt b3), (14, i64 ((pc + 4) + (4 * v))), (163, bl ((R ((a).toNat)) == 0))]) 4 hA [i32 (R ((a).toNat))] (cc ((ld_regs (hO.b 4) (by omega) (by kernel_rfl)) : Ld Tryd.prog w10 ((⟨b1, 0, none⟩ : Addr).add ((a).toNat)) 21 (i32 (R ((a).toNat)))) c0) ?_
  clear hA fr; intro fr hA
  rcases Bool.eq_false_or_eq_true ((R ((a).toNat)) == 0) with h1 | h1
  ·
    replace hA := hA.bool (f := fun z_ => [(3, pt b1), (6, pt b2), (7, i64 0), (8, pt b3), (14, i64 ((pc + 4) + (4 * v))), (163, .bool z_)]) h1
    have h1p := eq_of_beq h1
    refine cT hA ?_
    refine rR (l := [0, 1, 2]) ?_
    refine ck (l := [0, 1]) (r := [2]) (e' := [(3, pt b1), (6, pt b2), (7, i64 0), (8, pt b3), (164, i64 ((pc + 4) + (4 * v))), (165, pf b1 16)]) hA [] c0 ?_
    clear hA fr; intro fr hA
    refine wpOps_cons' (mSR (off := 16) (ad := ⟨b1, 16, none⟩) (vc := [i64 ((pc + 4) + (4 * v))]) (l' := (regsL R ((pc + 4) + (4 * v)))) 4 hA hO rfl (by kernel_rfl) (by kernel_rfl) ?_)
    clear hO; intro w11 hO
    replace hA := hA.sb (e' := [(3, pt b1), (6, pt b2), (7, i64 0), (8, pt b3)])
    refine end_ops ?_
    refine inBlock_normal ?_
    refine then_normal ?_
    refine sR (l := (rg 0 5)) ?_
    refine ck (l := [0, 1]) (r := [2, 3, 4]) (e' := [(6, pt b2), (7, i64 0), (8, pt b3), (207, .agg (List.toArray (regsL R ((pc + 4) + (4 * v))))), (208, .agg #[i64 0, i64 0, i64 0, i64 0, i64 0, i64 0, i64 0])]) hA [.agg (List.toArray (regsL R ((pc + 4) + (4 * v))))] (cc (hO.ln 4 0 40 (regsL R ((pc + 4) + (4 * v)))) c0) ?_
    clear hA fr; intro fr hA
    refine wpOps_cons' (mS (off := 0) (vc := (regsL R ((pc + 4) + (4 * v)))) 3 hA hO ?_)
    clear hO; intro w12 hO
    replace hA := hA.sb (e' := [(6, pt b2), (7, i64 0), (8, pt b3), (208, .agg #[i64 0, i64 0, i64 0, i64 0, i64 0, i64 0, i64 0])])
    refine ck (l := [3]) (r := [4]) (e' := [(6, pt b2), (7, i64 0), (8, pt b3), (208, .agg #[i64 0, i64 0, i64 0, i64 0, i64 0, i64 0, i64 0])]) hA [] c0 ?_
    clear hA fr; intro fr hA
    refine wpOps_cons' (mS (off := 0) (vc := [i64 0, i64 0, i64 0, i64 0, i64 0, i64 0, i64 0]) 2 hA hO ?_)
    clear hO; intro w13 hO
    replace hA := hA.sb (e' := [(6, pt b2), (7, i64 0), (8, pt b3)])
    refine end_ops ?_
    refine then_normal ?_
    refine wp_ret ?_
    refine cR (cs := [some (⟨b2, 0, none⟩, 40), none, some (⟨b3, 0, none⟩, 43)]) (us := [.agg (List.toArray (regsL R ((pc + 4) + (4 * v)))), i64 0, .agg #[i64 0, i64 0, i64 0, i64 0, i64 0, i64 0, i64 0]]) hA [.agg (List.toArray (regsL R ((pc + 4) + (4 * v)))), .agg #[i64 0, i64 0, i64 0, i64 0, i64 0, i64 0, i64 0]] ⟨(hO.ln 3 0 40 (regsL R ((pc + 4) + (4 * v)))), (hO.ln 2 0 43 [i64 0, i64 0, i64 0, i64 0, i64 0, i64 0, i64 0]), trivial⟩ ?_
    have hF := hO.only; clear hA hO
    exact ⟨by simp_all [pack, execV, outV, noTrap, trapL, insV], hF⟩
  ·
    replace hA := hA.bool (f := fun z_ => [(3, pt b1), (6, pt b2), (7, i64 0), (8, pt b3), (14, i64 ((pc + 4) + (4 * v))), (163, .bool z_)]) h1
    have h1p := ne_of_beq_false h1
    refine cF hA ?_
    refine wp_skip ?_
    refine inBlock_normal ?_
    refine then_normal ?_
    refine sR (l := (rg 0 5)) ?_
    refine ck (l := [0, 1]) (r := [2, 3, 4]) (e' := [(6, pt b2), (7, i64 0), (8, pt b3), (207, .agg (List.toArray (regsL R (pc + 4)))), (208, .agg #[i64 0, i64 0, i64 0, i64 0, i64 0, i64 0, i64 0])]) hA [.agg (List.toArray (regsL R (pc + 4)))] (cc (hO.ln 4 0 40 (regsL R (pc + 4))) c0) ?_
    clear hA fr; intro fr hA
    refine wpOps_cons' (mS (off := 0) (vc := (regsL R (pc + 4))) 3 hA hO ?_)
    clear hO; intro w14 hO
    replace hA := hA.sb (e' := [(6, pt b2), (7, i64 0), (8, pt b3), (208, .agg #[i64 0, i64 0, i64 0, i64 0, i64 0, i64 0, i64 0])])
    refine ck (l := [3]) (r := [4]) (e' := [(6, pt b2), (7, i64 0), (8, pt b3), (208, .agg #[i64 0, i64 0, i64 0, i64 0, i64 0, i64 0, i64 0])]) hA [] c0 ?_
    clear hA fr; intro fr hA
    refine wpOps_cons' (mS (off := 0) (vc := [i64 0, i64 0, i64 0, i64 0, i64 0, i64 0, i64 0]) 2 hA hO ?_)
    clear hO; intro w15 hO
    replace hA := hA.sb (e' := [(6, pt b2), (7, i64 0), (8, pt b3)])
    refine end_ops ?_
    refine then_normal ?_
    refine wp_ret ?_
    refine cR (cs := [some (⟨b2, 0, none⟩, 40), none, some (⟨b3, 0, none⟩, 43)]) (us := [.agg (List.toArray (regsL R (pc + 4))), i64 0, .agg #[i64 0, i64 0, i64 0, i64 0, i64 0, i64 0, i64 0]]) hA [.agg (List.toArray (regsL R (pc + 4))), .agg #[i64 0, i64 0, i64 0, i64 0, i64 0, i64 0, i64 0]] ⟨(hO.ln 3 0 40 (regsL R (pc + 4))), (hO.ln 2 0 43 [i64 0, i64 0, i64 0, i64 0, i64 0, i64 0, i64 0]), trivial⟩ ?_
    have hF := hO.only; clear hA hO
    exact ⟨by simp_all [pack, execV, outV, noTrap, trapL, insV], hF⟩

theorem exec_20 (R : Nat → Int) (pc ld a b c v : Int) (sl : Value) (w : World) (hT : Tab w) (hR : RegsOk R) (hp : -1099511627776 < pc) (hp' : pc < 1099511627776) (ha : 0 ≤ a) (ha' : a ≤ 15) (hb : 0 ≤ b) (hb' : b ≤ 15) (hc : -128 ≤ c) (hc' : c ≤ 127) (hv : -32768 ≤ v) (hv' : v ≤ 32767) (hdec : ∀ w', Only none' w w' → Calls Tryd.prog 13 #[sl] w' fun e w2 => e = .returned (.tuple #[insV 20 a b c v, .int .i64 0]) ∧ Only none' w' w2) :
    Calls Tryd.prog 18 #[.agg (List.toArray (regsL R pc)), sl, i64 ld] w fun e w' => e = .returned (execV R pc ld 20 a b c v) ∧ Only none' w w' := by
  refine c_enter (args := [.agg (List.toArray (regsL R pc)), sl, i64 ld]) (m := 206) (n := 209) Tryd.func18 rfl (by kernel_rfl) (by kernel_rfl) fun fr hA => ?_
  have hO := Ow.nil Tryd.prog none' w
  have hRa := hR a.toNat; have hRb := hR b.toNat; have hRc := hR c.toNat; simp only [inK] at hRa hRb hRc
  refine sR (l := [0, 1, 2, 3]) ?_
  refine wpOps_cons' (mN (l := (regsL R pc)) (t := 40) (v := pt) (d := 3) hA hO ?_)
  clear hA hO fr; intro fr w1 b1 hA hO
  replace hA := hA.sb (e' := [(1, sl), (2, i64 ld), (3, pt b1)])
  refine wpOps_cons' (mN (l := [i32 0, i32 0, i32 0, i32 0, i32 0, i32 0, i32 0, i32 0, i32 0, i32 0, i32 0, i32 0, i32 0, i32 0, i32 0, i32 0, i64 0]) (t := 40) (v := pt) (d := 6) hA hO ?_)
  clear hA hO fr; intro fr w2 b2 hA hO
  refine ck (l := [2]) (r := [3]) (e' := [(1, sl), (2, i64 ld), (3, pt b1), (6, pt b2), (7, i64 0)]) hA [] c0 ?_
  clear hA fr; intro fr hA
  refine wpOps_cons' (mN (l := [i64 0, i64 0, i64 0, i64 0, i64 0, i64 0, i64 0]) (t := 43) (v := pt) (d := 8) hA hO ?_)
  clear hA hO fr; intro fr w3 b3 hA hO
  refine end_ops ?_
  refine then_normal ?_
  refine sR (l := (rg 0 8)) ?_
  refine ck (l := [0]) (r := (rg 1 7)) (e' := [(2, i64 ld), (3, pt b1), (6, pt b2), (7, i64 0), (8, pt b3), (18, sl)]) hA [] c0 ?_
  clear hA fr; intro fr hA
  refine wpOps_cons' (mK (f := 13) (args := [sl]) (d := (some 19)) (v := .tuple #[.agg #[i64 20, i64 a, i64 b, i64 c, i64 v], i64 0]) hA hO Tryd.func13 (hdec _ hO.only) ?_)
  clear hA hO fr; intro fr w4 hA hO
  replace hA := hA.sb (e' := [(2, i64 ld), (3, pt b1), (6, pt b2), (7, i64 0), (8, pt b3), (19, .tuple #[.agg #[i64 20, i64 a, i64 b, i64 c, i64 v], i64 0])])
  refine ck (l := [2, 3, 4]) (r := [5, 6, 7]) (e' := [(2, i64 ld), (3, pt b1), (6, pt b2), (7, i64 0), (8, pt b3), (20, .agg #[i64 20, i64 a, i64 b, i64 c, i64 v]), (21, i64 0)]) hA [] c0 ?_
  clear hA fr; intro fr hA
  refine wpOps_cons' (mN (l := [i64 0, i64 0, i64 0, i64 0, i64 0]) (t := 25) (v := pt) (d := 9) hA hO ?_)
  clear hA hO fr; intro fr w5 b4 hA hO
  refine wpOps_cons' (mS (off := 0) (vc := [i64 20, i64 a, i64 b, i64 c, i64 v]) 0 hA hO ?_)
  clear hO; intro w6 hO
  replace hA := hA.sb (e' := [(2, i64 ld), (3, pt b1), (6, pt b2), (7, i64 0), (8, pt b3), (9, pt b4), (21, i64 0)])
  refine ck (l := [7]) (r := []) (e' := [(2, i64 ld), (3, pt b1), (6, pt b2), (7, i64 0), (8, pt b3), (9, pt b4), (10, i64 0)]) hA [] c0 ?_
  clear hA fr; intro fr hA
  refine end_ops ?_
  refine then_normal ?_
  refine wp_seq ?_
  refine sC (e' := [(2, i64 ld), (3, pt b1), (6, pt b2), (7, i64 0), (8, pt b3), (9, pt b4), (23, bl false)]) 2 hA [] c0 ?_
  clear hA fr; intro fr hA
  refine cF hA ?_
  refine wp_skip ?_
  refine then_normal ?_
  refine wp_seq ?_
  refine sR (l := (rg 0 8)) ?_
  refine ck (l := [0, 1]) (r := (rg 2 6)) (e' := [(2, i64 ld), (3, pt b1), (6, pt b2), (7, i64 0), (8, pt b3), (9, pt b4), (27, .agg (List.toArray (regsL R pc))), (28, .agg #[i64 20, i64 a, i64 b, i64 c, i64 v])]) hA [.agg (List.toArray (regsL R pc)), .agg #[i64 20, i64 a, i64 b, i64 c, i64 v]] (cc (hO.ln 3 0 40 (regsL R pc)) (cc (hO.ln 0 0 25 [i64 20, i64 a, i64 b, i64 c, i64 v]) c0)) ?_
  clear hA fr; intro fr hA
  refine wpOps_cons' (mK (f := 36) (args := [.agg (List.toArray (regsL R pc)), .agg #[i64 20, i64 a, i64 b, i64 c, i64 v]]) (d := (some 29)) (v := .tuple #[i64 0, i64 0]) hA hO Tryd.func36 (place_any R pc 20 a b c v _ hR hb hb' (by omega) (by omega)) ?_)
  clear hA hO fr; intro fr w7 hA hO
  replace hA := hA.sb (e' := [(2, i64 ld), (3, pt b1), (6, pt b2), (7, i64 0), (8, pt b3), (9, pt b4), (29, .tuple #[i64 0, i64 0])])
  refine ck (l := (rg 3 5)) (r := []) (e' := [(2, i64 ld), (3, pt b1), (6, pt b2), (7, i64 0), (8, pt b3), (9, pt b4), (11, i64 0), (12, i64 0)]) hA [] c0 ?_
  clear hA fr; intro fr hA
  refine end_ops ?_
  refine then_normal ?_
  refine sC (e' := [(2, i64 ld), (3, pt b1), (6, pt b2), (7, i64 0), (8, pt b3), (9, pt b4), (39, bl false)]) 8 hA [] c0 ?_
  clear hA fr; intro fr hA
  refine cF hA ?_
  refine wp_skip ?_
  refine then_normal ?_
  refine wp_seq ?_
  refine sC (e' := [(2, i64 ld), (3, pt b1), (6, pt b2), (7, i64 0), (8, pt b3), (9, pt b4), (57, bl false)]) 16 hA [i64 20, i64 20] (cc (hO.l1 0 0 3 (i64 20)) (cc (hO.l1 0 0 3 (i64 20)) c0)) ?_
  clear hA fr; intro fr hA
  refine cF hA ?_
  refine wp_skip ?_
  refine then_normal ?_
  refine sR (l := [0, 1, 2]) ?_
  refine ck (l := [0]) (r := [1, 2]) (e' := [(2, i64 ld), (3, pt b1), (6, pt b2), (7, i64 0), (8, pt b3), (9, pt b4), (60, .agg (List.toArray (regsL R pc)))]) hA [.agg (List.toArray (regsL R pc))] (cc (hO.ln 3 0 40 (regsL R pc)) c0) ?_
  clear hA fr; intro fr hA
  refine wpOps_cons' (mN (l := [i32 0, i32 0, i32 0, i32 0, i32 0, i32 0, i32 0, i32 0, i32 0, i32 0, i32 0, i32 0, i32 0, i32 0, i32 0, i32 0, i64 0]) (t := 40) (v := pt) (d := 13) hA hO ?_)
  clear hA hO fr; intro fr w8 b5 hA hO
  refine wpOps_cons' (mS (off := 0) (vc := (regsL R pc)) 0 hA hO ?_)
  clear hO; intro w9 hO
  replace hA := hA.sb (e' := [(2, i64 ld), (3, pt b1), (6, pt b2), (7, i64 0), (8, pt b3), (9, pt b4), (13, pt b5)])
  refine end_ops ?_
  refine then_normal ?_
  refine sC (e' := [(2, i64 ld), (3, pt b1), (6, pt b2), (7, i64 0), (8, pt b3), (9, pt b4), (13, pt b5), (14, i64 ((pc + 4) + (4 * v)))]) 8 hA [i64 pc, bl true, i64 v, bl true, bl true] (cc (hO.l1 4 16 3 (i64 pc)) (cc ((inK_i64 (by omega) (by omega)) : inK .i64 (pc + 4)) (cc (hO.l1 1 4 3 (i64 v)) (cc ((inK_i64 (by omega) (by omega)) : inK .i64 (4 * v)) (cc ((inK_i64 (by omega) (by omega)) : inK .i64 ((pc + 4) + (4 * v))) c0))))) ?_
  clear hA fr; intro fr hA
  refine sR (l := (rg 0 5)) ?_
  refine ck (l := [0, 1, 2, 3]) (r := [4]) (e' := [(2, i64 ld), (3, pt b1), (6, pt b2), (7, i64 0), (8, pt b3), (9, pt b4), (13, pt b5), (14, i64 ((pc + 4) + (4 * v))), (70, i64 (pc + 4)), (71, pf b1 16)]) hA [i64 pc, bl true] (cc (hO.l1 4 16 3 (i64 pc)) (cc ((inK_i64 (by omega) (by omega)) : inK .i64 (pc + 4)) c0)) ?_
  clear hA fr; intro fr hA
  refine wpOps_cons' (mSR (off := 16) (ad := ⟨b1, 16, none⟩) (vc := [i64 (pc + 4)]) (l' := (regsL R (pc + 4))) 4 hA hO rfl (by kernel_rfl) (by kernel_rfl) ?_)
  clear hO; intro w10 hO
  replace hA := hA.sb (e' := [(2, i64 ld), (3, pt b1), (6, pt b2), (7, i64 0), (8, pt b3), (9, pt b4), (13, pt b5), (14, i64 ((pc + 4) + (4 * v)))])
  refine end_ops ?_
  refine then_normal ?_
  refine sC (e' := [(2, i64 ld), (3, pt b1), (6, pt b2), (7, i64 0), (8, pt b3), (9, pt b4), (13, pt b5), (14, i64 ((pc + 4) + (4 * v))), (15, .pointer (some ((⟨b1, 0, none⟩ : Addr).add ((a).toNat))))]) 5 hA [i64 a] (cc (hO.l1 1 1 3 (i64 a)) (cc (⟨by omega, by omega⟩ : (0 : Int) ≤ a ∧ a < ((16 : Nat) : Int)) c0)) ?_
  clear hA fr; intro fr hA
  refine wp_seq ?_
  refine sC (e' := [(2, i64 ld), (3, pt b1), (6, pt b2), (7, i64 0), (8, pt b3), (9, pt b4), (13, pt b5), (14, i64 ((pc + 4) + (4 * v))), (15, .pointer (some ((⟨b1, 0, none⟩ : Addr).add ((a).toNat)))), (77, i64 20)]) 2 hA [i64 20] (cc (hO.l1 1 0 3 (i64 20)) c0) ?_
  clear hA fr; intro fr hA
  refine wp_block ?_
  refine sC (e' := [(2, i64 ld), (3, pt b1), (6, pt b2), (7, i64 0), (8, pt b3), (9, pt b4), (13, pt b5), (14, i64 ((pc + 4) + (4 * v))), (15, .pointer (some ((⟨b1, 0, none⟩ : Addr).add ((a).toNat)))), (77, i64 20), (93, bl false)]) 2 hA [] c0 ?_
  clear hA fr; intro fr hA
  refine cF hA ?_
  refine sC (e' := [(2, i64 ld), (3, pt b1), (6, pt b2), (7, i64 0), (8, pt b3), (9, pt b4), (13, pt b5), (14, i64 ((pc + 4) + (4 * v))), (15, .pointer (some ((⟨b1, 0, none⟩ : Addr).add ((a).toNat)))), (77, i64 20), (100, bl false)]) 2 hA [] c0 ?_
  clear hA fr; intro fr hA
  refine cF hA ?_
  refine sC (e' := [(2, i64 ld), (3, pt b1), (6, pt b2), (7, i64 0), (8, pt b3), (9, pt b4), (13, pt b5), (14, i64 ((pc + 4) + (4 * v))), (15, .pointer (some ((⟨b1, 0, none⟩ : Addr).add ((a).toNat)))), (77, i64 20), (111, bl false)]) 2 hA [] c0 ?_
  clear hA fr; intro fr hA
  refine cF hA ?_
  refine sC (e' := [(2, i64 ld), (3, pt b1), (6, pt b2), (7, i64 0), (8, pt b3), (9, pt b4), (13, pt b5), (14, i64 ((pc + 4) + (4 * v))), (15, .pointer (some ((⟨b1, 0, none⟩ : Addr).add ((a).toNat)))), (77, i64 20), (124, bl false)]) 2 hA [] c0 ?_
  clear hA fr; intro fr hA
  refine cF hA ?_
  refine sC (e' := [(2, i64 ld), (3, pt b1), (6, pt b2), (7, i64 0), (8, pt b3), (9, pt b4), (13, pt b5), (14, i64 ((pc + 4) + (4 * v))), (15, .pointer (some ((⟨b1, 0, none⟩ : Addr).add ((a).toNat)))), (77, i64 20), (130, bl false)]) 2 hA [] c0 ?_
  clear hA fr; intro fr hA
  refine cF hA ?_
  refine sC (e' := [(3, pt b1), (6, pt b2), (7, i64 0), (8, pt b3), (9, pt b4), (13, pt b5), (14, i64 ((pc + 4) + (4 * v))), (15, .pointer (some ((⟨b1, 0, none⟩ : Addr).add ((a).toNat)))), (77, i64 20), (137, bl false)]) 2 hA [] c0 ?_
  clear hA fr; intro fr hA
  refine cF hA ?_
  refine sC (e' := [(3, pt b1), (6, pt b2), (7, i64 0), (8, pt b3), (9, pt b4), (13, pt b5), (14, i64 ((pc + 4) + (4 * v))), (15, .pointer (some ((⟨b1, 0, none⟩ : Addr).add ((a).toNat)))), (77, i64 20), (145, bl false)]) 2 hA [] c0 ?_
  clear hA fr; intro fr hA
  refine cF hA ?_
  refine sC (e' := [(3, pt b1), (6, pt b2), (7, i64 0), (8, pt b3), (9, pt b4), (13, pt b5), (14, i64 ((pc + 4) + (4 * v))), (15, .pointer (some ((⟨b1, 0, none⟩ : Addr).add ((a).toNat)))), (77, i64 20), (154, bl false)]) 2 hA [] c0 ?_
  clear hA fr; intro fr hA
  refine cF hA ?_
  refine sC (e' := [(3, pt b1), (6, pt b2), (7, i64 0), (8, pt b3), (9, pt b4), (13, pt b5), (14, i64 ((pc + 4) + (4 * v))), (15, .pointer (some ((⟨b1, 0, none⟩ : Addr).add ((a).toNat)))), (77, i64 20), (158, bl false)]) 2 hA [] c0 ?_
  clear hA fr; intro fr hA
  refine cF hA ?_
  refine sC (e' := [(3, pt b1), (6, pt b2), (7, i64 0), (8, pt b3), (9, pt b4), (13, pt b5), (14, i64 ((pc + 4) + (4 * v))), (15, .pointer (some ((⟨b1, 0, none⟩ : Addr).add ((a).toNat)))), (77, i64 20), (166, bl true)]) 2 hA [] c0 ?_
  clear hA fr; intro fr hA
  refine cT hA ?_
  refine sR (l := (rg 0 6)) ?_
  refine ck (l := (rg 0 5)) (r := [5]) (e' := [(3, pt b1), (6, pt b2), (7, i64 0), (8, pt b3), (14, i64 ((pc + 4) + (4 * v))), (171, i32 (IntKind.i32.wrap (pc + 4))), (172, .pointer (some ((⟨b1, 0, none⟩ : Addr).add ((a).toNat))))]) hA [i64 (pc + 4), bl false] (cc (hO.l1 4 16 3 (i64 (pc + 4))) c0) ?_
  clear hA fr; intro fr hA
  refine wpOps_cons' (mSR (off := (a).toNat) (ad := (⟨b1, 0, none⟩ : Addr).add ((a).toNat)) (vc := [i32 (IntKind.i32.wrap (pc + 4))]) (l' := (regsL (upd R ((a).toNat) (IntKind.i32.wrap (pc + 4))) (pc + 4))) 4 hA hO (add_zero_off _ _) (regs_ble R (pc + 4) (by omega)) (setL_regs (by omega) _) ?_)
  clear hO; intro w11 hO
  replace hA := hA.sb (e' := [(3, pt b1), (6, pt b2), (7, i64 0), (8, pt b3), (14, i64 ((pc + 4) + (4 * v)))])
  refine end_ops ?_
  refine then_normal ?_
  refine rR (l := [0, 1, 2]) ?_
  refine ck (l := [0, 1]) (r := [2]) (e' := [(3, pt b1), (6, pt b2), (7, i64 0), (8, pt b3), (173, i64 ((pc + 4) + (4 * v))), (174, pf b1 16)]) hA [] c0 ?_
  clear hA fr; intro fr hA
  refine wpOps_cons' (mSR (off := 16) (ad := ⟨b1, 16, none⟩) (vc := [i64 ((pc + 4) + (4 * v))]) (l' := (regsL (upd R ((a).toNat) (IntKind.i32.wrap (pc + 4))) ((pc + 4) + (4 * v)))) 4 hA hO rfl (by kernel_rfl) (by kernel_rfl) ?_)
  clear hO; intro w12 hO
  replace hA := hA.sb (e' := [(3, pt b1), (6, pt b2), (7, i64 0), (8, pt b3)])
  refine end_ops ?_
  refine inBlock_normal ?_
  refine then_normal ?_
  refine sR (l := (rg 0 5)) ?_
  refine ck (l := [0, 1]) (r := [2, 3, 4]) (e' := [(6, pt b2), (7, i64 0), (8, pt b3), (207, .agg (List.toArray (regsL (upd R ((a).toNat) (IntKind.i32.wrap (pc + 4))) ((pc + 4) + (4 * v))))), (208, .agg #[i64 0, i64 0, i64 0, i64 0, i64 0, i64 0, i64 0])]) hA [.agg (List.toArray (regsL (upd R ((a).toNat) (IntKind.i32.wrap (pc + 4))) ((pc + 4) + (4 * v))))] (cc (hO.ln 4 0 40 (regsL (upd R ((a).toNat) (IntKind.i32.wrap (pc + 4))) ((pc + 4) + (4 * v)))) c0) ?_
  clear hA fr; intro fr hA
  refine wpOps_cons' (mS (off := 0) (vc := (regsL (upd R ((a).toNat) (IntKind.i32.wrap (pc + 4))) ((pc + 4) + (4 * v)))) 3 hA hO ?_)
  clear hO; intro w13 hO
  replace hA := hA.sb (e' := [(6, pt b2), (7, i64 0), (8, pt b3), (208, .agg #[i64 0, i64 0, i64 0, i64 0, i64 0, i64 0, i64 0])])
  refine ck (l := [3]) (r := [4]) (e' := [(6, pt b2), (7, i64 0), (8, pt b3), (208, .agg #[i64 0, i64 0, i64 0, i64 0, i64 0, i64 0, i64 0])]) hA [] c0 ?_
  clear hA fr; intro fr hA
  refine wpOps_cons' (mS (off := 0) (vc := [i64 0, i64 0, i64 0, i64 0, i64 0, i64 0, i64 0]) 2 hA hO ?_)
  clear hO; intro w14 hO
  replace hA := hA.sb (e' := [(6, pt b2), (7, i64 0), (8, pt b3)])
  refine end_ops ?_
  refine then_normal ?_
  refine wp_ret ?_
  refine cR (cs := [some (⟨b2, 0, none⟩, 40), none, some (⟨b3, 0, none⟩, 43)]) (us := [.agg (List.toArray (regsL (upd R ((a).toNat) (IntKind.i32.wrap (pc + 4))) ((pc + 4) + (4 * v)))), i64 0, .agg #[i64 0, i64 0, i64 0, i64 0, i64 0, i64 0, i64 0]]) hA [.agg (List.toArray (regsL (upd R ((a).toNat) (IntKind.i32.wrap (pc + 4))) ((pc + 4) + (4 * v)))), .agg #[i64 0, i64 0, i64 0, i64 0, i64 0, i64 0, i64 0]] ⟨(hO.ln 3 0 40 (regsL (upd R ((a).toNat) (IntKind.i32.wrap (pc + 4))) ((pc + 4) + (4 * v)))), (hO.ln 2 0 43 [i64 0, i64 0, i64 0, i64 0, i64 0, i64 0, i64 0]), trivial⟩ ?_
  have hF := hO.only; clear hA hO
  exact ⟨by simp_all [pack, execV, outV, noTrap, trapL, insV], hF⟩

theorem exec_21 (R : Nat → Int) (pc ld a b c v : Int) (sl : Value) (w : World) (hT : Tab w) (hR : RegsOk R) (hp : -1099511627776 < pc) (hp' : pc < 1099511627776) (ha : 0 ≤ a) (ha' : a ≤ 15) (hb : 0 ≤ b) (hb' : b ≤ 15) (hc : -128 ≤ c) (hc' : c ≤ 127) (hv : -32768 ≤ v) (hv' : v ≤ 32767) (hdec : ∀ w', Only none' w w' → Calls Tryd.prog 13 #[sl] w' fun e w2 => e = .returned (.tuple #[insV 21 a b c v, .int .i64 0]) ∧ Only none' w' w2) :
    Calls Tryd.prog 18 #[.agg (List.toArray (regsL R pc)), sl, i64 ld] w fun e w' => e = .returned (execV R pc ld 21 a b c v) ∧ Only none' w w' := by
  refine c_enter (args := [.agg (List.toArray (regsL R pc)), sl, i64 ld]) (m := 206) (n := 209) Tryd.func18 rfl (by kernel_rfl) (by kernel_rfl) fun fr hA => ?_
  have hO := Ow.nil Tryd.prog none' w
  have hRa := hR a.toNat; have hRb := hR b.toNat; have hRc := hR c.toNat; simp only [inK] at hRa hRb hRc
  refine sR (l := [0, 1, 2, 3]) ?_
  refine wpOps_cons' (mN (l := (regsL R pc)) (t := 40) (v := pt) (d := 3) hA hO ?_)
  clear hA hO fr; intro fr w1 b1 hA hO
  replace hA := hA.sb (e' := [(1, sl), (2, i64 ld), (3, pt b1)])
  refine wpOps_cons' (mN (l := [i32 0, i32 0, i32 0, i32 0, i32 0, i32 0, i32 0, i32 0, i32 0, i32 0, i32 0, i32 0, i32 0, i32 0, i32 0, i32 0, i64 0]) (t := 40) (v := pt) (d := 6) hA hO ?_)
  clear hA hO fr; intro fr w2 b2 hA hO
  refine ck (l := [2]) (r := [3]) (e' := [(1, sl), (2, i64 ld), (3, pt b1), (6, pt b2), (7, i64 0)]) hA [] c0 ?_
  clear hA fr; intro fr hA
  refine wpOps_cons' (mN (l := [i64 0, i64 0, i64 0, i64 0, i64 0, i64 0, i64 0]) (t := 43) (v := pt) (d := 8) hA hO ?_)
  clear hA hO fr; intro fr w3 b3 hA hO
  refine end_ops ?_
  refine then_normal ?_
  refine sR (l := (rg 0 8)) ?_
  refine ck (l := [0]) (r := (rg 1 7)) (e' := [(2, i64 ld), (3, pt b1), (6, pt b2), (7, i64 0), (8, pt b3), (18, sl)]) hA [] c0 ?_
  clear hA fr; intro fr hA
  refine wpOps_cons' (mK (f := 13) (args := [sl]) (d := (some 19)) (v := .tuple #[.agg #[i64 21, i64 a, i64 b, i64 c, i64 v], i64 0]) hA hO Tryd.func13 (hdec _ hO.only) ?_)
  clear hA hO fr; intro fr w4 hA hO
  replace hA := hA.sb (e' := [(2, i64 ld), (3, pt b1), (6, pt b2), (7, i64 0), (8, pt b3), (19, .tuple #[.agg #[i64 21, i64 a, i64 b, i64 c, i64 v], i64 0])])
  refine ck (l := [2, 3, 4]) (r := [5, 6, 7]) (e' := [(2, i64 ld), (3, pt b1), (6, pt b2), (7, i64 0), (8, pt b3), (20, .agg #[i64 21, i64 a, i64 b, i64 c, i64 v]), (21, i64 0)]) hA [] c0 ?_
  clear hA fr; intro fr hA
  refine wpOps_cons' (mN (l := [i64 0, i64 0, i64 0, i64 0, i64 0]) (t := 25) (v := pt) (d := 9) hA hO ?_)
  clear hA hO fr; intro fr w5 b4 hA hO
  refine wpOps_cons' (mS (off := 0) (vc := [i64 21, i64 a, i64 b, i64 c, i64 v]) 0 hA hO ?_)
  clear hO; intro w6 hO
  replace hA := hA.sb (e' := [(2, i64 ld), (3, pt b1), (6, pt b2), (7, i64 0), (8, pt b3), (9, pt b4), (21, i64 0)])
  refine ck (l := [7]) (r := []) (e' := [(2, i64 ld), (3, pt b1), (6, pt b2), (7, i64 0), (8, pt b3), (9, pt b4), (10, i64 0)]) hA [] c0 ?_
  clear hA fr; intro fr hA
  refine end_ops ?_
  refine then_normal ?_
  refine wp_seq ?_
  refine sC (e' := [(2, i64 ld), (3, pt b1), (6, pt b2), (7, i64 0), (8, pt b3), (9, pt b4), (23, bl false)]) 2 hA [] c0 ?_
  clear hA fr; intro fr hA
  refine cF hA ?_
  refine wp_skip ?_
  refine then_normal ?_
  refine wp_seq ?_
  refine sR (l := (rg 0 8)) ?_
  refine ck (l := [0, 1]) (r := (rg 2 6)) (e' := [(2, i64 ld), (3, pt b1), (6, pt b2), (7, i64 0), (8, pt b3), (9, pt b4), (27, .agg (List.toArray (regsL R pc))), (28, .agg #[i64 21, i64 a, i64 b, i64 c, i64 v])]) hA [.agg (List.toArray (regsL R pc)), .agg #[i64 21, i64 a, i64 b, i64 c, i64 v]] (cc (hO.ln 3 0 40 (regsL R pc)) (cc (hO.ln 0 0 25 [i64 21, i64 a, i64 b, i64 c, i64 v]) c0)) ?_
  clear hA fr; intro fr hA
  refine wpOps_cons' (mK (f := 36) (args := [.agg (List.toArray (regsL R pc)), .agg #[i64 21, i64 a, i64 b, i64 c, i64 v]]) (d := (some 29)) (v := .tuple #[i64 0, i64 0]) hA hO Tryd.func36 (place_any R pc 21 a b c v _ hR hb hb' (by omega) (by omega)) ?_)
  clear hA hO fr; intro fr w7 hA hO
  replace hA := hA.sb (e' := [(2, i64 ld), (3, pt b1), (6, pt b2), (7, i64 0), (8, pt b3), (9, pt b4), (29, .tuple #[i64 0, i64 0])])
  refine ck (l := (rg 3 5)) (r := []) (e' := [(2, i64 ld), (3, pt b1), (6, pt b2), (7, i64 0), (8, pt b3), (9, pt b4), (11, i64 0), (12, i64 0)]) hA [] c0 ?_
  clear hA fr; intro fr hA
  refine end_ops ?_
  refine then_normal ?_
  refine sC (e' := [(2, i64 ld), (3, pt b1), (6, pt b2), (7, i64 0), (8, pt b3), (9, pt b4), (39, bl false)]) 8 hA [] c0 ?_
  clear hA fr; intro fr hA
  refine cF hA ?_
  refine wp_skip ?_
  refine then_normal ?_
  refine wp_seq ?_
  refine sC (e' := [(2, i64 ld), (3, pt b1), (6, pt b2), (7, i64 0), (8, pt b3), (9, pt b4), (57, bl false)]) 16 hA [i64 21, i64 21] (cc (hO.l1 0 0 3 (i64 21)) (cc (hO.l1 0 0 3 (i64 21)) c0)) ?_
  clear hA fr; intro fr hA
  refine cF hA ?_
  refine wp_skip ?_
  refine then_normal ?_
  refine sR (l := [0, 1, 2]) ?_
  refine ck (l := [0]) (r := [1, 2]) (e' := [(2, i64 ld), (3, pt b1), (6, pt b2), (7, i64 0), (8, pt b3), (9, pt b4), (60, .agg (List.toArray (regsL R pc)))]) hA [.agg (List.toArray (regsL R pc))] (cc (hO.ln 3 0 40 (regsL R pc)) c0) ?_
  clear hA fr; intro fr hA
  refine wpOps_cons' (mN (l := [i32 0, i32 0, i32 0, i32 0, i32 0, i32 0, i32 0, i32 0, i32 0, i32 0, i32 0, i32 0, i32 0, i32 0, i32 0, i32 0, i64 0]) (t := 40) (v := pt) (d := 13) hA hO ?_)
  clear hA hO fr; intro fr w8 b5 hA hO
  refine wpOps_cons' (mS (off := 0) (vc := (regsL R pc)) 0 hA hO ?_)
  clear hO; intro w9 hO
  replace hA := hA.sb (e' := [(2, i64 ld), (3, pt b1), (6, pt b2), (7, i64 0), (8, pt b3), (9, pt b4), (13, pt b5)])
  refine end_ops ?_
  refine then_normal ?_
  refine sC (e' := [(2, i64 ld), (3, pt b1), (6, pt b2), (7, i64 0), (8, pt b3), (9, pt b4), (13, pt b5), (14, i64 ((pc + 4) + (4 * v)))]) 8 hA [i64 pc, bl true, i64 v, bl true, bl true] (cc (hO.l1 4 16 3 (i64 pc)) (cc ((inK_i64 (by omega) (by omega)) : inK .i64 (pc + 4)) (cc (hO.l1 1 4 3 (i64 v)) (cc ((inK_i64 (by omega) (by omega)) : inK .i64 (4 * v)) (cc ((inK_i64 (by omega) (by omega)) : inK .i64 ((pc + 4) + (4 * v))) c0))))) ?_
  clear hA fr; intro fr hA
  refine sR (l := (rg 0 5)) ?_
  refine ck (l := [0, 1, 2, 3]) (r := [4]) (e' := [(2, i64 ld), (3, pt b1), (6, pt b2), (7, i64 0), (8, pt b3), (9, pt b4), (13, pt b5), (14, i64 ((pc + 4) + (4 * v))), (70, i64 (pc + 4)), (71, pf b1 16)]) hA [i64 pc, bl true] (cc (hO.l1 4 16 3 (i64 pc)) (cc ((inK_i64 (by omega) (by omega)) : inK .i64 (pc + 4)) c0)) ?_
  clear hA fr; intro fr hA
  refine wpOps_cons' (mSR (off := 16) (ad := ⟨b1, 16, none⟩) (vc := [i64 (pc + 4)]) (l' := (regsL R (pc + 4))) 4 hA hO rfl (by kernel_rfl) (by kernel_rfl) ?_)
  clear hO; intro w10 hO
  replace hA := hA.sb (e' := [(2, i64 ld), (3, pt b1), (6, pt b2), (7, i64 0), (8, pt b3), (9, pt b4), (13, pt b5), (14, i64 ((pc + 4) + (4 * v)))])
  refine end_ops ?_
  refine then_normal ?_
  refine sC (e' := [(2, i64 ld), (3, pt b1), (6, pt b2), (7, i64 0), (8, pt b3), (9, pt b4), (13, pt b5), (14, i64 ((pc + 4) + (4 * v))), (15, .pointer (some ((⟨b1, 0, none⟩ : Addr).add ((a).toNat))))]) 5 hA [i64 a] (cc (hO.l1 1 1 3 (i64 a)) (cc (⟨by omega, by omega⟩ : (0 : Int) ≤ a ∧ a < ((16 : Nat) : Int)) c0)) ?_
  clear hA fr; intro fr hA
  refine wp_seq ?_
  refine sC (e' := [(2, i64 ld), (3, pt b1), (6, pt b2), (7, i64 0), (8, pt b3), (9, pt b4), (13, pt b5), (14, i64 ((pc + 4) + (4 * v))), (15, .pointer (some ((⟨b1, 0, none⟩ : Addr).add ((a).toNat)))), (77, i64 21)]) 2 hA [i64 21] (cc (hO.l1 1 0 3 (i64 21)) c0) ?_
  clear hA fr; intro fr hA
  refine wp_block ?_
  refine sC (e' := [(2, i64 ld), (3, pt b1), (6, pt b2), (7, i64 0), (8, pt b3), (9, pt b4), (13, pt b5), (14, i64 ((pc + 4) + (4 * v))), (15, .pointer (some ((⟨b1, 0, none⟩ : Addr).add ((a).toNat)))), (77, i64 21), (93, bl false)]) 2 hA [] c0 ?_
  clear hA fr; intro fr hA
  refine cF hA ?_
  refine sC (e' := [(2, i64 ld), (3, pt b1), (6, pt b2), (7, i64 0), (8, pt b3), (9, pt b4), (13, pt b5), (14, i64 ((pc + 4) + (4 * v))), (15, .pointer (some ((⟨b1, 0, none⟩ : Addr).add ((a).toNat)))), (77, i64 21), (100, bl false)]) 2 hA [] c0 ?_
  clear hA fr; intro fr hA
  refine cF hA ?_
  refine sC (e' := [(2, i64 ld), (3, pt b1), (6, pt b2), (7, i64 0), (8, pt b3), (9, pt b4), (13, pt b5), (14, i64 ((pc + 4) + (4 * v))), (15, .pointer (some ((⟨b1, 0, none⟩ : Addr).add ((a).toNat)))), (77, i64 21), (111, bl false)]) 2 hA [] c0 ?_
  clear hA fr; intro fr hA
  refine cF hA ?_
  refine sC (e' := [(2, i64 ld), (3, pt b1), (6, pt b2), (7, i64 0), (8, pt b3), (9, pt b4), (13, pt b5), (14, i64 ((pc + 4) + (4 * v))), (15, .pointer (some ((⟨b1, 0, none⟩ : Addr).add ((a).toNat)))), (77, i64 21), (124, bl false)]) 2 hA [] c0 ?_
  clear hA fr; intro fr hA
  refine cF hA ?_
  refine sC (e' := [(2, i64 ld), (3, pt b1), (6, pt b2), (7, i64 0), (8, pt b3), (9, pt b4), (13, pt b5), (14, i64 ((pc + 4) + (4 * v))), (15, .pointer (some ((⟨b1, 0, none⟩ : Addr).add ((a).toNat)))), (77, i64 21), (130, bl false)]) 2 hA [] c0 ?_
  clear hA fr; intro fr hA
  refine cF hA ?_
  refine sC (e' := [(3, pt b1), (6, pt b2), (7, i64 0), (8, pt b3), (9, pt b4), (13, pt b5), (14, i64 ((pc + 4) + (4 * v))), (15, .pointer (some ((⟨b1, 0, none⟩ : Addr).add ((a).toNat)))), (77, i64 21), (137, bl false)]) 2 hA [] c0 ?_
  clear hA fr; intro fr hA
  refine cF hA ?_
  refine sC (e' := [(3, pt b1), (6, pt b2), (7, i64 0), (8, pt b3), (9, pt b4), (13, pt b5), (14, i64 ((pc + 4) + (4 * v))), (15, .pointer (some ((⟨b1, 0, none⟩ : Addr).add ((a).toNat)))), (77, i64 21), (145, bl false)]) 2 hA [] c0 ?_
  clear hA fr; intro fr hA
  refine cF hA ?_
  refine sC (e' := [(3, pt b1), (6, pt b2), (7, i64 0), (8, pt b3), (9, pt b4), (13, pt b5), (14, i64 ((pc + 4) + (4 * v))), (15, .pointer (some ((⟨b1, 0, none⟩ : Addr).add ((a).toNat)))), (77, i64 21), (154, bl false)]) 2 hA [] c0 ?_
  clear hA fr; intro fr hA
  refine cF hA ?_
  refine sC (e' := [(3, pt b1), (6, pt b2), (7, i64 0), (8, pt b3), (9, pt b4), (13, pt b5), (14, i64 ((pc + 4) + (4 * v))), (15, .pointer (some ((⟨b1, 0, none⟩ : Addr).add ((a).toNat)))), (77, i64 21), (158, bl false)]) 2 hA [] c0 ?_
  clear hA fr; intro fr hA
  refine cF hA ?_
  refine sC (e' := [(3, pt b1), (6, pt b2), (7, i64 0), (8, pt b3), (9, pt b4), (13, pt b5), (14, i64 ((pc + 4) + (4 * v))), (15, .pointer (some ((⟨b1, 0, none⟩ : Addr).add ((a).toNat)))), (77, i64 21), (166, bl false)]) 2 hA [] c0 ?_
  clear hA fr; intro fr hA
  refine cF hA ?_
  refine sC (e' := [(3, pt b1), (6, pt b2), (7, i64 0), (8, pt b3), (9, pt b4), (13, pt b5), (15, .pointer (some ((⟨b1, 0, none⟩ : Addr).add ((a).toNat)))), (77, i64 21), (175, bl true)]) 2 hA [] c0 ?_
  clear hA fr; intro fr hA
  refine cT hA ?_
  refine rR (l := (rg 0 6)) ?_
  refine ck (l := (rg 0 5)) (r := [5]) (e' := [(3, pt b1), (6, pt b2), (7, i64 0), (8, pt b3), (180, i64 (R ((a).toNat))), (181, pf b1 16)]) hA [i32 (R ((a).toNat)), bl true] (cc ((ld_regs (hO.b 4) (by omega) (by kernel_rfl)) : Ld Tryd.prog w10 ((⟨b1, 0, none⟩ : Addr).add ((a).toNat)) 21 (i32 (R ((a).toNat)))) (cc ((inK_up (by kernel_rfl) (hR _)) : inK .i64 (R ((a).toNat))) c0)) ?_
  clear hA fr; intro fr hA
  refine wpOps_cons' (mSR (off := 16) (ad := ⟨b1, 16, none⟩) (vc := [i64 (R ((a).toNat))]) (l' := (regsL R (R ((a).toNat)))) 4 hA hO rfl (by kernel_rfl) (by kernel_rfl) ?_)
  clear hO; intro w11 hO
  replace hA := hA.sb (e' := [(3, pt b1), (6, pt b2), (7, i64 0), (8, pt b3)])
  refine end_ops ?_
  refine inBlock_normal ?_
  refine then_normal ?_
  refine sR (l := (rg 0 5)) ?_
  refine ck (l := [0, 1]) (r := [2, 3, 4]) (e' := [(6, pt b2), (7, i64 0), (8, pt b3), (207, .agg (List.toArray (regsL R (R ((a).toNat))))), (208, .agg #[i64 0, i64 0, i64 0, i64 0, i64 0, i64 0, i64 0])]) hA [.agg (List.toArray (regsL R (R ((a).toNat))))] (cc (hO.ln 4 0 40 (regsL R (R ((a).toNat)))) c0) ?_
  clear hA fr; intro fr hA
  refine wpOps_cons' (mS (off := 0) (vc := (regsL R (R ((a).toNat)))) 3 hA hO ?_)
  clear hO; intro w12 hO
  replace hA := hA.sb (e' := [(6, pt b2), (7, i64 0), (8, pt b3), (208, .agg #[i64 0, i64 0, i64 0, i64 0, i64 0, i64 0, i64 0])])
  refine ck (l := [3]) (r := [4]) (e' := [(6, pt b2), (7, i64 0), (8, pt b3), (208, .agg #[i64 0, i64 0, i64 0, i64 0, i64 0, i64 0, i64 0])]) hA [] c0 ?_
  clear hA fr; intro fr hA
  refine wpOps_cons' (mS (off := 0) (vc := [i64 0, i64 0, i64 0, i64 0, i64 0, i64 0, i64 0]) 2 hA hO ?_)
  clear hO; intro w13 hO
  replace hA := hA.sb (e' := [(6, pt b2), (7, i64 0), (8, pt b3)])
  refine end_ops ?_
  refine then_normal ?_
  refine wp_ret ?_
  refine cR (cs := [some (⟨b2, 0, none⟩, 40), none, some (⟨b3, 0, none⟩, 43)]) (us := [.agg (List.toArray (regsL R (R ((a).toNat)))), i64 0, .agg #[i64 0, i64 0, i64 0, i64 0, i64 0, i64 0, i64 0]]) hA [.agg (List.toArray (regsL R (R ((a).toNat)))), .agg #[i64 0, i64 0, i64 0, i64 0, i64 0, i64 0, i64 0]] ⟨(hO.ln 3 0 40 (regsL R (R ((a).toNat)))), (hO.ln 2 0 43 [i64 0, i64 0, i64 0, i64 0, i64 0, i64 0, i64 0]), trivial⟩ ?_
  have hF := hO.only; clear hA hO
  exact ⟨by simp_all [pack, execV, outV, noTrap, trapL, insV], hF⟩

theorem exec_22 (R : Nat → Int) (pc ld a b c v : Int) (sl : Value) (w : World) (hT : Tab w) (hR : RegsOk R) (hp : -1099511627776 < pc) (hp' : pc < 1099511627776) (ha : 0 ≤ a) (ha' : a ≤ 15) (hb : 0 ≤ b) (hb' : b ≤ 15) (hc : -128 ≤ c) (hc' : c ≤ 127) (hv : -32768 ≤ v) (hv' : v ≤ 32767) (hdec : ∀ w', Only none' w w' → Calls Tryd.prog 13 #[sl] w' fun e w2 => e = .returned (.tuple #[insV 22 a b c v, .int .i64 0]) ∧ Only none' w' w2) :
    Calls Tryd.prog 18 #[.agg (List.toArray (regsL R pc)), sl, i64 ld] w fun e w' => e = .returned (execV R pc ld 22 a b c v) ∧ Only none' w w' := by
  refine c_enter (args := [.agg (List.toArray (regsL R pc)), sl, i64 ld]) (m := 206) (n := 209) Tryd.func18 rfl (by kernel_rfl) (by kernel_rfl) fun fr hA => ?_
  have hO := Ow.nil Tryd.prog none' w
  have hRa := hR a.toNat; have hRb := hR b.toNat; have hRc := hR c.toNat; simp only [inK] at hRa hRb hRc
  refine sR (l := [0, 1, 2, 3]) ?_
  refine wpOps_cons' (mN (l := (regsL R pc)) (t := 40) (v := pt) (d := 3) hA hO ?_)
  clear hA hO fr; intro fr w1 b1 hA hO
  replace hA := hA.sb (e' := [(1, sl), (2, i64 ld), (3, pt b1)])
  refine wpOps_cons' (mN (l := [i32 0, i32 0, i32 0, i32 0, i32 0, i32 0, i32 0, i32 0, i32 0, i32 0, i32 0, i32 0, i32 0, i32 0, i32 0, i32 0, i64 0]) (t := 40) (v := pt) (d := 6) hA hO ?_)
  clear hA hO fr; intro fr w2 b2 hA hO
  refine ck (l := [2]) (r := [3]) (e' := [(1, sl), (2, i64 ld), (3, pt b1), (6, pt b2), (7, i64 0)]) hA [] c0 ?_
  clear hA fr; intro fr hA
  refine wpOps_cons' (mN (l := [i64 0, i64 0, i64 0, i64 0, i64 0, i64 0, i64 0]) (t := 43) (v := pt) (d := 8) hA hO ?_)
  clear hA hO fr; intro fr w3 b3 hA hO
  refine end_ops ?_
  refine then_normal ?_
  refine sR (l := (rg 0 8)) ?_
  refine ck (l := [0]) (r := (rg 1 7)) (e' := [(2, i64 ld), (3, pt b1), (6, pt b2), (7, i64 0), (8, pt b3), (18, sl)]) hA [] c0 ?_
  clear hA fr; intro fr hA
  refine wpOps_cons' (mK (f := 13) (args := [sl]) (d := (some 19)) (v := .tuple #[.agg #[i64 22, i64 a, i64 b, i64 c, i64 v], i64 0]) hA hO Tryd.func13 (hdec _ hO.only) ?_)
  clear hA hO fr; intro fr w4 hA hO
  replace hA := hA.sb (e' := [(2, i64 ld), (3, pt b1), (6, pt b2), (7, i64 0), (8, pt b3), (19, .tuple #[.agg #[i64 22, i64 a, i64 b, i64 c, i64 v], i64 0])])
  refine ck (l := [2, 3, 4]) (r := [5, 6, 7]) (e' := [(2, i64 ld), (3, pt b1), (6, pt b2), (7, i64 0), (8, pt b3), (20, .agg #[i64 22, i64 a, i64 b, i64 c, i64 v]), (21, i64 0)]) hA [] c0 ?_
  clear hA fr; intro fr hA
  refine wpOps_cons' (mN (l := [i64 0, i64 0, i64 0, i64 0, i64 0]) (t := 25) (v := pt) (d := 9) hA hO ?_)
  clear hA hO fr; intro fr w5 b4 hA hO
  refine wpOps_cons' (mS (off := 0) (vc := [i64 22, i64 a, i64 b, i64 c, i64 v]) 0 hA hO ?_)
  clear hO; intro w6 hO
  replace hA := hA.sb (e' := [(2, i64 ld), (3, pt b1), (6, pt b2), (7, i64 0), (8, pt b3), (9, pt b4), (21, i64 0)])
  refine ck (l := [7]) (r := []) (e' := [(2, i64 ld), (3, pt b1), (6, pt b2), (7, i64 0), (8, pt b3), (9, pt b4), (10, i64 0)]) hA [] c0 ?_
  clear hA fr; intro fr hA
  refine end_ops ?_
  refine then_normal ?_
  refine wp_seq ?_
  refine sC (e' := [(2, i64 ld), (3, pt b1), (6, pt b2), (7, i64 0), (8, pt b3), (9, pt b4), (23, bl false)]) 2 hA [] c0 ?_
  clear hA fr; intro fr hA
  refine cF hA ?_
  refine wp_skip ?_
  refine then_normal ?_
  refine wp_seq ?_
  refine sR (l := (rg 0 8)) ?_
  refine ck (l := [0, 1]) (r := (rg 2 6)) (e' := [(2, i64 ld), (3, pt b1), (6, pt b2), (7, i64 0), (8, pt b3), (9, pt b4), (27, .agg (List.toArray (regsL R pc))), (28, .agg #[i64 22, i64 a, i64 b, i64 c, i64 v])]) hA [.agg (List.toArray (regsL R pc)), .agg #[i64 22, i64 a, i64 b, i64 c, i64 v]] (cc (hO.ln 3 0 40 (regsL R pc)) (cc (hO.ln 0 0 25 [i64 22, i64 a, i64 b, i64 c, i64 v]) c0)) ?_
  clear hA fr; intro fr hA
  refine wpOps_cons' (mK (f := 36) (args := [.agg (List.toArray (regsL R pc)), .agg #[i64 22, i64 a, i64 b, i64 c, i64 v]]) (d := (some 29)) (v := .tuple #[i64 0, i64 0]) hA hO Tryd.func36 (place_any R pc 22 a b c v _ hR hb hb' (by omega) (by omega)) ?_)
  clear hA hO fr; intro fr w7 hA hO
  replace hA := hA.sb (e' := [(2, i64 ld), (3, pt b1), (6, pt b2), (7, i64 0), (8, pt b3), (9, pt b4), (29, .tuple #[i64 0, i64 0])])
  refine ck (l := (rg 3 5)) (r := []) (e' := [(2, i64 ld), (3, pt b1), (6, pt b2), (7, i64 0), (8, pt b3), (9, pt b4), (11, i64 0), (12, i64 0)]) hA [] c0 ?_
  clear hA fr; intro fr hA
  refine end_ops ?_
  refine then_normal ?_
  refine sC (e' := [(2, i64 ld), (3, pt b1), (6, pt b2), (7, i64 0), (8, pt b3), (9, pt b4), (39, bl false)]) 8 hA [] c0 ?_
  clear hA fr; intro fr hA
  refine cF hA ?_
  refine wp_skip ?_
  refine then_normal ?_
  refine wp_seq ?_
  refine sC (e' := [(2, i64 ld), (3, pt b1), (6, pt b2), (7, i64 0), (8, pt b3), (9, pt b4), (57, bl false)]) 16 hA [i64 22, i64 22] (cc (hO.l1 0 0 3 (i64 22)) (cc (hO.l1 0 0 3 (i64 22)) c0)) ?_
  clear hA fr; intro fr hA
  refine cF hA ?_
  refine wp_skip ?_
  refine then_normal ?_
  refine sR (l := [0, 1, 2]) ?_
  refine ck (l := [0]) (r := [1, 2]) (e' := [(2, i64 ld), (3, pt b1), (6, pt b2), (7, i64 0), (8, pt b3), (9, pt b4), (60, .agg (List.toArray (regsL R pc)))]) hA [.agg (List.toArray (regsL R pc))] (cc (hO.ln 3 0 40 (regsL R pc)) c0) ?_
  clear hA fr; intro fr hA
  refine wpOps_cons' (mN (l := [i32 0, i32 0, i32 0, i32 0, i32 0, i32 0, i32 0, i32 0, i32 0, i32 0, i32 0, i32 0, i32 0, i32 0, i32 0, i32 0, i64 0]) (t := 40) (v := pt) (d := 13) hA hO ?_)
  clear hA hO fr; intro fr w8 b5 hA hO
  refine wpOps_cons' (mS (off := 0) (vc := (regsL R pc)) 0 hA hO ?_)
  clear hO; intro w9 hO
  replace hA := hA.sb (e' := [(2, i64 ld), (3, pt b1), (6, pt b2), (7, i64 0), (8, pt b3), (9, pt b4), (13, pt b5)])
  refine end_ops ?_
  refine then_normal ?_
  refine sC (e' := [(2, i64 ld), (3, pt b1), (6, pt b2), (7, i64 0), (8, pt b3), (9, pt b4), (13, pt b5), (14, i64 ((pc + 4) + (4 * v)))]) 8 hA [i64 pc, bl true, i64 v, bl true, bl true] (cc (hO.l1 4 16 3 (i64 pc)) (cc ((inK_i64 (by omega) (by omega)) : inK .i64 (pc + 4)) (cc (hO.l1 1 4 3 (i64 v)) (cc ((inK_i64 (by omega) (by omega)) : inK .i64 (4 * v)) (cc ((inK_i64 (by omega) (by omega)) : inK .i64 ((pc + 4) + (4 * v))) c0))))) ?_
  clear hA fr; intro fr hA
  refine sR (l := (rg 0 5)) ?_
  refine ck (l := [0, 1, 2, 3]) (r := [4]) (e' := [(2, i64 ld), (3, pt b1), (6, pt b2), (7, i64 0), (8, pt b3), (9, pt b4), (13, pt b5), (14, i64 ((pc + 4) + (4 * v))), (70, i64 (pc + 4)), (71, pf b1 16)]) hA [i64 pc, bl true] (cc (hO.l1 4 16 3 (i64 pc)) (cc ((inK_i64 (by omega) (by omega)) : inK .i64 (pc + 4)) c0)) ?_
  clear hA fr; intro fr hA
  refine wpOps_cons' (mSR (off := 16) (ad := ⟨b1, 16, none⟩) (vc := [i64 (pc + 4)]) (l' := (regsL R (pc + 4))) 4 hA hO rfl (by kernel_rfl) (by kernel_rfl) ?_)
  clear hO; intro w10 hO
  replace hA := hA.sb (e' := [(2, i64 ld), (3, pt b1), (6, pt b2), (7, i64 0), (8, pt b3), (9, pt b4), (13, pt b5), (14, i64 ((pc + 4) + (4 * v)))])
  refine end_ops ?_
  refine then_normal ?_
  refine sC (e' := [(2, i64 ld), (3, pt b1), (6, pt b2), (7, i64 0), (8, pt b3), (9, pt b4), (13, pt b5), (14, i64 ((pc + 4) + (4 * v))), (15, .pointer (some ((⟨b1, 0, none⟩ : Addr).add ((a).toNat))))]) 5 hA [i64 a] (cc (hO.l1 1 1 3 (i64 a)) (cc (⟨by omega, by omega⟩ : (0 : Int) ≤ a ∧ a < ((16 : Nat) : Int)) c0)) ?_
  clear hA fr; intro fr hA
  refine wp_seq ?_
  refine sC (e' := [(2, i64 ld), (3, pt b1), (6, pt b2), (7, i64 0), (8, pt b3), (9, pt b4), (13, pt b5), (14, i64 ((pc + 4) + (4 * v))), (15, .pointer (some ((⟨b1, 0, none⟩ : Addr).add ((a).toNat)))), (77, i64 22)]) 2 hA [i64 22] (cc (hO.l1 1 0 3 (i64 22)) c0) ?_
  clear hA fr; intro fr hA
  refine wp_block ?_
  refine sC (e' := [(2, i64 ld), (3, pt b1), (6, pt b2), (7, i64 0), (8, pt b3), (9, pt b4), (13, pt b5), (14, i64 ((pc + 4) + (4 * v))), (15, .pointer (some ((⟨b1, 0, none⟩ : Addr).add ((a).toNat)))), (77, i64 22), (93, bl false)]) 2 hA [] c0 ?_
  clear hA fr; intro fr hA
  refine cF hA ?_
  refine sC (e' := [(2, i64 ld), (3, pt b1), (6, pt b2), (7, i64 0), (8, pt b3), (9, pt b4), (13, pt b5), (14, i64 ((pc + 4) + (4 * v))), (15, .pointer (some ((⟨b1, 0, none⟩ : Addr).add ((a).toNat)))), (77, i64 22), (100, bl false)]) 2 hA [] c0 ?_
  clear hA fr; intro fr hA
  refine cF hA ?_
  refine sC (e' := [(2, i64 ld), (3, pt b1), (6, pt b2), (7, i64 0), (8, pt b3), (9, pt b4), (13, pt b5), (14, i64 ((pc + 4) + (4 * v))), (15, .pointer (some ((⟨b1, 0, none⟩ : Addr).add ((a).toNat)))), (77, i64 22), (111, bl false)]) 2 hA [] c0 ?_
  clear hA fr; intro fr hA
  refine cF hA ?_
  refine sC (e' := [(2, i64 ld), (3, pt b1), (6, pt b2), (7, i64 0), (8, pt b3), (9, pt b4), (13, pt b5), (14, i64 ((pc + 4) + (4 * v))), (15, .pointer (some ((⟨b1, 0, none⟩ : Addr).add ((a).toNat)))), (77, i64 22), (124, bl false)]) 2 hA [] c0 ?_
  clear hA fr; intro fr hA
  refine cF hA ?_
  refine sC (e' := [(2, i64 ld), (3, pt b1), (6, pt b2), (7, i64 0), (8, pt b3), (9, pt b4), (13, pt b5), (14, i64 ((pc + 4) + (4 * v))), (15, .pointer (some ((⟨b1, 0, none⟩ : Addr).add ((a).toNat)))), (77, i64 22), (130, bl false)]) 2 hA [] c0 ?_
  clear hA fr; intro fr hA
  refine cF hA ?_
  refine sC (e' := [(3, pt b1), (6, pt b2), (7, i64 0), (8, pt b3), (9, pt b4), (13, pt b5), (14, i64 ((pc + 4) + (4 * v))), (15, .pointer (some ((⟨b1, 0, none⟩ : Addr).add ((a).toNat)))), (77, i64 22), (137, bl false)]) 2 hA [] c0 ?_
  clear hA fr; intro fr hA
  refine cF hA ?_
  refine sC (e' := [(3, pt b1), (6, pt b2), (7, i64 0), (8, pt b3), (9, pt b4), (13, pt b5), (14, i64 ((pc + 4) + (4 * v))), (15, .pointer (some ((⟨b1, 0, none⟩ : Addr).add ((a).toNat)))), (77, i64 22), (145, bl false)]) 2 hA [] c0 ?_
  clear hA fr; intro fr hA
  refine cF hA ?_
  refine sC (e' := [(3, pt b1), (6, pt b2), (7, i64 0), (8, pt b3), (9, pt b4), (13, pt b5), (14, i64 ((pc + 4) + (4 * v))), (15, .pointer (some ((⟨b1, 0, none⟩ : Addr).add ((a).toNat)))), (77, i64 22), (154, bl false)]) 2 hA [] c0 ?_
  clear hA fr; intro fr hA
  refine cF hA ?_
  refine sC (e' := [(3, pt b1), (6, pt b2), (7, i64 0), (8, pt b3), (9, pt b4), (13, pt b5), (14, i64 ((pc + 4) + (4 * v))), (15, .pointer (some ((⟨b1, 0, none⟩ : Addr).add ((a).toNat)))), (77, i64 22), (158, bl false)]) 2 hA [] c0 ?_
  clear hA fr; intro fr hA
  refine cF hA ?_
  refine sC (e' := [(3, pt b1), (6, pt b2), (7, i64 0), (8, pt b3), (9, pt b4), (13, pt b5), (14, i64 ((pc + 4) + (4 * v))), (15, .pointer (some ((⟨b1, 0, none⟩ : Addr).add ((a).toNat)))), (77, i64 22), (166, bl false)]) 2 hA [] c0 ?_
  clear hA fr; intro fr hA
  refine cF hA ?_
  refine sC (e' := [(3, pt b1), (6, pt b2), (7, i64 0), (8, pt b3), (9, pt b4), (13, pt b5), (15, .pointer (some ((⟨b1, 0, none⟩ : Addr).add ((a).toNat)))), (77, i64 22), (175, bl false)]) 2 hA [] c0 ?_
  clear hA fr; intro fr hA
  refine cF hA ?_
  refine sC (e' := [(3, pt b1), (6, pt b2), (7, i64 0), (8, pt b3), (9, pt b4), (13, pt b5), (15, .pointer (some ((⟨b1, 0, none⟩ : Addr).add ((a).toNat)))), (182, bl true)]) 2 hA [] c0 ?_
  clear hA fr; intro fr hA
  refine cT hA ?_
  refine sR (l := [0, 1, 2, 3]) ?_
  refine ck (l := [0, 1]) (r := [2, 3]) (e' := [(3, pt b1), (6, pt b2), (7, i64 0), (8, pt b3), (185, .agg (List.toArray (regsA R)))]) hA [.agg (List.toArray (regsA R))] (cc (hO.ln 4 0 36 (regsA R)) c0) ?_
  clear hA fr; intro fr hA
  refine wpOps_cons' (mN (l := [i32 0, i32 0, i32 0, i32 0, i32 0, i32 0, i32 0, i32 0, i32 0, i32 0, i32 0, i32 0, i32 0, i32 0, i32 0, i32 0]) (t := 36) (v := pt) (d := 16) hA hO ?_)
  clear hA hO fr; intro fr w11 b6 hA hO
  refine wpOps_cons' (mS (off := 0) (vc := (regsA R)) 0 hA hO ?_)
  clear hO; intro w12 hO
  replace hA := hA.sb (e' := [(3, pt b1), (6, pt b2), (7, i64 0), (8, pt b3), (16, pt b6)])
  refine end_ops ?_
  refine then_normal ?_
  refine wp_seq ?_
  have hS : Ow Tryd.prog none' w _ [(b6, 36, (regsA R)), (b5, 40, (regsL R pc)), (b4, 25, [i64 22, i64 a, i64 b, i64 c, i64 v]), (b1, 40, (regsL R (pc + 4)))] := hO.sub [0, 1, 2, 5]
  refine rP [(0, true), (1, true), (2, true), (3, true), (4, true), (5, true), (6, true), (7, true), (8, true), (9, true), (10, true), (11, true), (12, true), (13, true), (14, true), (15, true), (16, true), (17, true), (18, true), (19, true), (20, true), (21, false), (22, true), (23, false)] hS ?_
  intro w13 ho; replace hO := hO.st ho; clear ho
  refine ckS (l := (rg 0 21)) (r := [(21, false), (22, true), (23, false)]) (e' := [(3, pt b1), (6, pt b2), (7, i64 0), (8, pt b3), (186, .agg (List.toArray (regsL R (pc + 4)))), (206, .agg #[i64 1, i64 (R 1), i64 (R 2), i64 (R 3), i64 (R 4), i64 (R 5), i64 (R 6)])]) hA [.agg (List.toArray (regsL R (pc + 4))), i32 (R 1), bl true, i32 (R 2), bl true, i32 (R 3), bl true, i32 (R 4), bl true, i32 (R 5), bl true, i32 (R 6), bl true] (cc (hS.sn 3 0 40 (regsL R (pc + 4))) (cc (⟨by omega, by omega⟩ : (0 : Int) ≤ 1 ∧ 1 < ((16 : Nat) : Int)) (cc (hS.s1 0 1 21 (i32 (R 1))) (cc ((inK_up (by kernel_rfl) (hR _)) : inK .i64 (R 1)) (cc (⟨by omega, by omega⟩ : (0 : Int) ≤ 2 ∧ 2 < ((16 : Nat) : Int)) (cc (hS.s1 0 2 21 (i32 (R 2))) (cc ((inK_up (by kernel_rfl) (hR _)) : inK .i64 (R 2)) (cc (⟨by omega, by omega⟩ : (0 : Int) ≤ 3 ∧ 3 < ((16 : Nat) : Int)) (cc (hS.s1 0 3 21 (i32 (R 3))) (cc ((inK_up (by kernel_rfl) (hR _)) : inK .i64 (R 3)) (cc (⟨by omega, by omega⟩ : (0 : Int) ≤ 4 ∧ 4 < ((16 : Nat) : Int)) (cc (hS.s1 0 4 21 (i32 (R 4))) (cc ((inK_up (by kernel_rfl) (hR _)) : inK .i64 (R 4)) (cc (⟨by omega, by omega⟩ : (0 : Int) ≤ 5 ∧ 5 < ((16 : Nat) : Int)) (cc (hS.s1 0 5 21 (i32 (R 5))) (cc ((inK_up (by kernel_rfl) (hR _)) : inK .i64 (R 5)) (cc (⟨by omega, by omega⟩ : (0 : Int) ≤ 6 ∧ 6 < ((16 : Nat) : Int)) (cc (hS.s1 0 6 21 (i32 (R 6))) (cc ((inK_up (by kernel_rfl) (hR _)) : inK .i64 (R 6)) c0))))))))))))))))))) ?_
  clear hA fr; intro fr hA
  refine plan_mem (mS (off := 0) (vc := (regsL R (pc + 4))) 4 hA hO ?_)
  clear hO; intro w14 hO
  refine ⟨(hO.sub [0, 1, 2, 5]), ?_⟩
  replace hA := hA.sb (e' := [(3, pt b1), (6, pt b2), (7, i64 0), (8, pt b3), (206, .agg #[i64 1, i64 (R 1), i64 (R 2), i64 (R 3), i64 (R 4), i64 (R 5), i64 (R 6)])])
  refine ckS (l := [22]) (r := [(23, false)]) (e' := [(3, pt b1), (6, pt b2), (7, i64 0), (8, pt b3), (206, .agg #[i64 1, i64 (R 1), i64 (R 2), i64 (R 3), i64 (R 4), i64 (R 5), i64 (R 6)])]) hA [] c0 ?_
  clear hA fr; intro fr hA
  refine plan_mem (mS (off := 0) (vc := [i64 1, i64 (R 1), i64 (R 2), i64 (R 3), i64 (R 4), i64 (R 5), i64 (R 6)]) 3 hA hO ?_)
  clear hO; intro w15 hO
  refine ⟨(hO.sub [0, 1, 2, 5]), ?_⟩
  replace hA := hA.sb (e' := [(3, pt b1), (6, pt b2), (7, i64 0), (8, pt b3)])
  refine end_plan ?_
  refine then_normal ?_
  refine wp_ret ?_
  refine inBlock_ret ?_
  refine then_ret ?_
  refine cR (cs := [some (⟨b2, 0, none⟩, 40), none, some (⟨b3, 0, none⟩, 43)]) (us := [.agg (List.toArray (regsL R (pc + 4))), i64 0, .agg #[i64 1, i64 (R 1), i64 (R 2), i64 (R 3), i64 (R 4), i64 (R 5), i64 (R 6)]]) hA [.agg (List.toArray (regsL R (pc + 4))), .agg #[i64 1, i64 (R 1), i64 (R 2), i64 (R 3), i64 (R 4), i64 (R 5), i64 (R 6)]] ⟨(hO.ln 4 0 40 (regsL R (pc + 4))), (hO.ln 3 0 43 [i64 1, i64 (R 1), i64 (R 2), i64 (R 3), i64 (R 4), i64 (R 5), i64 (R 6)]), trivial⟩ ?_
  have hF := hO.only; clear hA hO
  exact ⟨by simp_all [pack, execV, outV, noTrap, trapL, insV], hF⟩

end Go.Proofs.YtcaokjdihhbkjaaDoor
