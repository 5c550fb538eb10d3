/- The layer cpu: walks of the law CpuReply. -/
import Derived.Test.YtcaokjdihhbkjaaDoorWord
set_option linter.unusedVariables false
set_option linter.unusedSimpArgs false
set_option maxRecDepth 10000
namespace Go.Proofs.YtcaokjdihhbkjaaDoor
open Go Go.RowKit Go.Proofs.Sx

theorem law_reply (R : Nat → Int) (pc x y : Int) (w : World) (hT : Tab w) :
    Calls Tryd.prog 8 #[.agg (List.toArray (regsL R pc)), i64 x, i64 y] w fun e w' => e = .returned (.bool true) ∧ Only none' w w' := by
  refine c_enter (args := [.agg (List.toArray (regsL R pc)), i64 x, i64 y]) (m := 39) (n := 42) Tryd.func8 rfl (by kernel_rfl) (by kernel_rfl) fun fr hA => ?_
  have hO := Ow.nil Tryd.prog none' w
  refine sR (l := [0, 1]) ?_
  refine wpOps_cons' (mN (l := (regsL R pc)) (t := 38) (v := pt) (d := 3) hA hO ?_)
  clear hA hO fr; intro fr w1 b1 hA hO
  replace hA := hA.sb (e' := [(1, i64 x), (2, i64 y), (3, pt b1)])
  refine ck (l := [1]) (r := []) (e' := [(1, i64 x), (2, i64 y), (3, pt b1), (6, bl false)]) hA [] c0 ?_
  clear hA fr; intro fr hA
  refine end_ops ?_
  refine then_normal ?_
  refine wp_seq ?_
  refine sR (l := [0, 1]) ?_
  refine wpOps_cons' (mK (f := 12) (args := []) (d := (some 8)) (v := bl true) hA hO Tryd.func12 (awake_any _ (hT.keep hO.only (fun h => h))) ?_)
  clear hA hO fr; intro fr w2 hA hO
  refine ck (l := [1]) (r := []) (e' := [(1, i64 x), (2, i64 y), (3, pt b1), (6, bl false), (9, bl false)]) hA [] c0 ?_
  clear hA fr; intro fr hA
  refine end_ops ?_
  refine then_normal ?_
  refine cF hA ?_
  refine wp_skip ?_
  refine then_normal ?_
  refine sR (l := (rg 0 5)) ?_
  refine ck (l := [0, 1]) (r := [2, 3, 4]) (e' := [(1, i64 x), (2, i64 y), (3, pt b1), (6, bl false), (10, .agg (List.toArray (regsL R pc))), (11, i64 x)]) hA [.agg (List.toArray (regsL R pc))] (cc (hO.ln 0 0 38 (regsL R pc)) c0) ?_
  clear hA fr; intro fr hA
  refine wpOps_cons' (mK (f := 19) (args := [.agg (List.toArray (regsL R pc)), i64 x]) (d := (some 12)) (v := .agg (List.toArray (regsL (upd R 1 (IntKind.i32.wrap x)) pc))) hA hO Tryd.func19 (reply_any R pc x _) ?_)
  clear hA hO fr; intro fr w3 hA hO
  replace hA := hA.sb (e' := [(1, i64 x), (2, i64 y), (3, pt b1), (6, bl false), (12, .agg (List.toArray (regsL (upd R 1 (IntKind.i32.wrap x)) pc)))])
  refine wpOps_cons' (mN (l := [i32 0, i32 0, i32 0, i32 0, i32 0, i32 0, i32 0, i32 0, i32 0, i32 0, i32 0, i32 0, i32 0, i32 0, i32 0, i32 0, i64 0]) (t := 40) (v := pt) (d := 7) hA hO ?_)
  clear hA hO fr; intro fr w4 b2 hA hO
  refine wpOps_cons' (mS (off := 0) (vc := (regsL (upd R 1 (IntKind.i32.wrap x)) pc)) 0 hA hO ?_)
  clear hO; intro w5 hO
  replace hA := hA.sb (e' := [(1, i64 x), (2, i64 y), (3, pt b1), (6, bl false), (7, pt b2)])
  refine end_ops ?_
  refine then_normal ?_
  refine wp_seq ?_
  refine wp_seq ?_
  have hS := hO
  refine rP [(0, true), (1, true), (2, true), (3, false), (4, true), (5, true), (6, true), (8, true), (7, false), (9, false), (10, true), (11, true), (12, true), (13, true), (14, true), (16, true), (17, true), (15, false), (18, false), (19, true), (20, true)] hS ?_
  intro w6 ho; replace hO := hO.st ho; clear ho
  refine ckS (l := [0, 1, 2]) (r := [(3, false), (4, true), (5, true), (6, true), (8, true), (7, false), (9, false), (10, true), (11, true), (12, true), (13, true), (14, true), (16, true), (17, true), (15, false), (18, false), (19, true), (20, true)]) (e' := [(1, i64 x), (2, i64 y), (3, pt b1), (6, bl false), (7, pt b2), (13, .agg (List.toArray (regsL (upd R 1 (IntKind.i32.wrap x)) pc))), (14, .agg (List.toArray (regsL R pc))), (15, i64 x)]) hA [.agg (List.toArray (regsL (upd R 1 (IntKind.i32.wrap x)) pc)), .agg (List.toArray (regsL R pc))] (cc (hS.sn 0 0 40 (regsL (upd R 1 (IntKind.i32.wrap x)) pc)) (cc (hS.sn 1 0 38 (regsL R pc)) c0)) ?_
  clear hA fr; intro fr hA
  refine plan_mem (mK (f := 20) (args := [.agg (List.toArray (regsL R pc)), i64 x]) (d := (some 16)) (v := .agg (List.toArray (regsL (upd R 1 (IntKind.i32.wrap x)) pc))) hA hO Tryd.func20 (rreply_any R pc x _) ?_)
  clear hA hO fr; intro fr w7 hA hO
  refine ⟨hO, ?_⟩
  replace hA := hA.sb (e' := [(1, i64 x), (2, i64 y), (3, pt b1), (6, bl false), (7, pt b2), (13, .agg (List.toArray (regsL (upd R 1 (IntKind.i32.wrap x)) pc))), (16, .agg (List.toArray (regsL (upd R 1 (IntKind.i32.wrap x)) pc)))])
  refine ckS (l := [4, 5, 6, 8]) (r := [(7, false), (9, false), (10, true), (11, true), (12, true), (13, true), (14, true), (16, true), (17, true), (15, false), (18, false), (19, true), (20, true)]) (e' := [(2, i64 y), (3, pt b1), (6, bl false), (7, pt b2), (18, bl false), (19, i64 x), (21, i64 x)]) hA [bl true] (cc ((eqG_of (b := ((((upd R 1 (IntKind.i32.wrap x)) 0) == ((upd R 1 (IntKind.i32.wrap x)) 0)) && ((((upd R 1 (IntKind.i32.wrap x)) 1) == ((upd R 1 (IntKind.i32.wrap x)) 1)) && ((((upd R 1 (IntKind.i32.wrap x)) 2) == ((upd R 1 (IntKind.i32.wrap x)) 2)) && ((((upd R 1 (IntKind.i32.wrap x)) 3) == ((upd R 1 (IntKind.i32.wrap x)) 3)) && ((((upd R 1 (IntKind.i32.wrap x)) 4) == ((upd R 1 (IntKind.i32.wrap x)) 4)) && ((((upd R 1 (IntKind.i32.wrap x)) 5) == ((upd R 1 (IntKind.i32.wrap x)) 5)) && ((((upd R 1 (IntKind.i32.wrap x)) 6) == ((upd R 1 (IntKind.i32.wrap x)) 6)) && ((((upd R 1 (IntKind.i32.wrap x)) 7) == ((upd R 1 (IntKind.i32.wrap x)) 7)) && ((((upd R 1 (IntKind.i32.wrap x)) 8) == ((upd R 1 (IntKind.i32.wrap x)) 8)) && ((((upd R 1 (IntKind.i32.wrap x)) 9) == ((upd R 1 (IntKind.i32.wrap x)) 9)) && ((((upd R 1 (IntKind.i32.wrap x)) 10) == ((upd R 1 (IntKind.i32.wrap x)) 10)) && ((((upd R 1 (IntKind.i32.wrap x)) 11) == ((upd R 1 (IntKind.i32.wrap x)) 11)) && ((((upd R 1 (IntKind.i32.wrap x)) 12) == ((upd R 1 (IntKind.i32.wrap x)) 12)) && ((((upd R 1 (IntKind.i32.wrap x)) 13) == ((upd R 1 (IntKind.i32.wrap x)) 13)) && ((((upd R 1 (IntKind.i32.wrap x)) 14) == ((upd R 1 (IntKind.i32.wrap x)) 14)) && ((((upd R 1 (IntKind.i32.wrap x)) 15) == ((upd R 1 (IntKind.i32.wrap x)) 15)) && true)))))))))))))))) && ((pc == pc) && true)) (by kernel_rfl) (by kernel_rfl)).cast (by simp) : EqG Tryd.prog 38 (.agg (List.toArray (regsL (upd R 1 (IntKind.i32.wrap x)) pc))) (.agg (List.toArray (regsL (upd R 1 (IntKind.i32.wrap x)) pc))) true) c0) ?_
  clear hA fr; intro fr hA
  refine plan_mem (mK (f := 21) (args := [i64 x]) (d := (some 20)) (v := .agg (List.toArray (regsL (upd (fun _ => 0) 15 4096) x))) hA hO Tryd.func21 (start_any x _) ?_)
  clear hA hO fr; intro fr w8 hA hO
  refine ⟨hO, ?_⟩
  replace hA := hA.sb (e' := [(2, i64 y), (3, pt b1), (6, bl false), (7, pt b2), (18, bl false), (20, .agg (List.toArray (regsL (upd (fun _ => 0) 15 4096) x))), (21, i64 x)])
  refine plan_mem (mK (f := 22) (args := [i64 x]) (d := (some 22)) (v := .agg (List.toArray (regsL (upd (fun _ => 0) 15 4096) x))) hA hO Tryd.func22 (rstart_any x _) ?_)
  clear hA hO fr; intro fr w9 hA hO
  refine ⟨hO, ?_⟩
  replace hA := hA.sb (e' := [(2, i64 y), (3, pt b1), (6, bl false), (7, pt b2), (18, bl false), (20, .agg (List.toArray (regsL (upd (fun _ => 0) 15 4096) x))), (22, .agg (List.toArray (regsL (upd (fun _ => 0) 15 4096) x)))])
  refine ckS (l := [10, 11, 12, 13, 14, 16, 17]) (r := [(15, false), (18, false), (19, true), (20, true)]) (e' := [(3, pt b1), (6, bl false), (7, pt b2), (25, bl false), (26, .agg (List.toArray (regsL (upd R 1 (IntKind.i32.wrap x)) pc))), (27, i64 y), (29, .agg (List.toArray (regsL R pc))), (30, i64 y)]) hA [bl true, .agg (List.toArray (regsL (upd R 1 (IntKind.i32.wrap x)) pc)), .agg (List.toArray (regsL R pc))] (cc ((eqG_of (b := ((((upd (fun _ => 0) 15 4096) 0) == ((upd (fun _ => 0) 15 4096) 0)) && ((((upd (fun _ => 0) 15 4096) 1) == ((upd (fun _ => 0) 15 4096) 1)) && ((((upd (fun _ => 0) 15 4096) 2) == ((upd (fun _ => 0) 15 4096) 2)) && ((((upd (fun _ => 0) 15 4096) 3) == ((upd (fun _ => 0) 15 4096) 3)) && ((((upd (fun _ => 0) 15 4096) 4) == ((upd (fun _ => 0) 15 4096) 4)) && ((((upd (fun _ => 0) 15 4096) 5) == ((upd (fun _ => 0) 15 4096) 5)) && ((((upd (fun _ => 0) 15 4096) 6) == ((upd (fun _ => 0) 15 4096) 6)) && ((((upd (fun _ => 0) 15 4096) 7) == ((upd (fun _ => 0) 15 4096) 7)) && ((((upd (fun _ => 0) 15 4096) 8) == ((upd (fun _ => 0) 15 4096) 8)) && ((((upd (fun _ => 0) 15 4096) 9) == ((upd (fun _ => 0) 15 4096) 9)) && ((((upd (fun _ => 0) 15 4096) 10) == ((upd (fun _ => 0) 15 4096) 10)) && ((((upd (fun _ => 0) 15 4096) 11) == ((upd (fun _ => 0) 15 4096) 11)) && ((((upd (fun _ => 0) 15 4096) 12) == ((upd (fun _ => 0) 15 4096) 12)) && ((((upd (fun _ => 0) 15 4096) 13) == ((upd (fun _ => 0) 15 4096) 13)) && ((((upd (fun _ => 0) 15 4096) 14) == ((upd (fun _ => 0) 15 4096) 14)) && ((((upd (fun _ => 0) 15 4096) 15) == ((upd (fun _ => 0) 15 4096) 15)) && true)))))))))))))))) && ((x == x) && true)) (by kernel_rfl) (by kernel_rfl)).cast (by simp) : EqG Tryd.prog 38 (.agg (List.toArray (regsL (upd (fun _ => 0) 15 4096) x))) (.agg (List.toArray (regsL (upd (fun _ => 0) 15 4096) x))) true) (cc (hS.sn 0 0 40 (regsL (upd R 1 (IntKind.i32.wrap x)) pc)) (cc (hS.sn 1 0 38 (regsL R pc)) c0))) ?_
  clear hA fr; intro fr hA
  refine plan_mem (mK (f := 19) (args := [.agg (List.toArray (regsL (upd R 1 (IntKind.i32.wrap x)) pc)), i64 y]) (d := (some 28)) (v := .agg (List.toArray (regsL (upd (upd R 1 (IntKind.i32.wrap x)) 1 (IntKind.i32.wrap y)) pc))) hA hO Tryd.func19 (reply_any (upd R 1 (IntKind.i32.wrap x)) pc y _) ?_)
  clear hA hO fr; intro fr w10 hA hO
  refine ⟨hO, ?_⟩
  replace hA := hA.sb (e' := [(3, pt b1), (6, bl false), (7, pt b2), (25, bl false), (28, .agg (List.toArray (regsL (upd (upd R 1 (IntKind.i32.wrap x)) 1 (IntKind.i32.wrap y)) pc))), (29, .agg (List.toArray (regsL R pc))), (30, i64 y)])
  refine plan_mem (mK (f := 19) (args := [.agg (List.toArray (regsL R pc)), i64 y]) (d := (some 31)) (v := .agg (List.toArray (regsL (upd R 1 (IntKind.i32.wrap y)) pc))) hA hO Tryd.func19 (reply_any R pc y _) ?_)
  clear hA hO fr; intro fr w11 hA hO
  refine ⟨hO, ?_⟩
  replace hA := hA.sb (e' := [(3, pt b1), (6, bl false), (7, pt b2), (25, bl false), (28, .agg (List.toArray (regsL (upd (upd R 1 (IntKind.i32.wrap x)) 1 (IntKind.i32.wrap y)) pc))), (31, .agg (List.toArray (regsL (upd R 1 (IntKind.i32.wrap y)) pc)))])
  refine ckS (l := [19, 20]) (r := []) (e' := [(3, pt b1), (6, bl false), (7, pt b2), (33, bl false)]) hA [bl true] (cc ((eqG_of (b := ((((upd (upd R 1 (IntKind.i32.wrap x)) 1 (IntKind.i32.wrap y)) 0) == ((upd R 1 (IntKind.i32.wrap y)) 0)) && ((((upd (upd R 1 (IntKind.i32.wrap x)) 1 (IntKind.i32.wrap y)) 1) == ((upd R 1 (IntKind.i32.wrap y)) 1)) && ((((upd (upd R 1 (IntKind.i32.wrap x)) 1 (IntKind.i32.wrap y)) 2) == ((upd R 1 (IntKind.i32.wrap y)) 2)) && ((((upd (upd R 1 (IntKind.i32.wrap x)) 1 (IntKind.i32.wrap y)) 3) == ((upd R 1 (IntKind.i32.wrap y)) 3)) && ((((upd (upd R 1 (IntKind.i32.wrap x)) 1 (IntKind.i32.wrap y)) 4) == ((upd R 1 (IntKind.i32.wrap y)) 4)) && ((((upd (upd R 1 (IntKind.i32.wrap x)) 1 (IntKind.i32.wrap y)) 5) == ((upd R 1 (IntKind.i32.wrap y)) 5)) && ((((upd (upd R 1 (IntKind.i32.wrap x)) 1 (IntKind.i32.wrap y)) 6) == ((upd R 1 (IntKind.i32.wrap y)) 6)) && ((((upd (upd R 1 (IntKind.i32.wrap x)) 1 (IntKind.i32.wrap y)) 7) == ((upd R 1 (IntKind.i32.wrap y)) 7)) && ((((upd (upd R 1 (IntKind.i32.wrap x)) 1 (IntKind.i32.wrap y)) 8) == ((upd R 1 (IntKind.i32.wrap y)) 8)) && ((((upd (upd R 1 (IntKind.i32.wrap x)) 1 (IntKind.i32.wrap y)) 9) == ((upd R 1 (IntKind.i32.wrap y)) 9)) && ((((upd (upd R 1 (IntKind.i32.wrap x)) 1 (IntKind.i32.wrap y)) 10) == ((upd R 1 (IntKind.i32.wrap y)) 10)) && ((((upd (upd R 1 (IntKind.i32.wrap x)) 1 (IntKind.i32.wrap y)) 11) == ((upd R 1 (IntKind.i32.wrap y)) 11)) && ((((upd (upd R 1 (IntKind.i32.wrap x)) 1 (IntKind.i32.wrap y)) 12) == ((upd R 1 (IntKind.i32.wrap y)) 12)) && ((((upd (upd R 1 (IntKind.i32.wrap x)) 1 (IntKind.i32.wrap y)) 13) == ((upd R 1 (IntKind.i32.wrap y)) 13)) && ((((upd (upd R 1 (IntKind.i32.wrap x)) 1 (IntKind.i32.wrap y)) 14) == ((upd R 1 (IntKind.i32.wrap y)) 14)) && ((((upd (upd R 1 (IntKind.i32.wrap x)) 1 (IntKind.i32.wrap y)) 15) == ((upd R 1 (IntKind.i32.wrap y)) 15)) && true)))))))))))))))) && ((pc == pc) && true)) (by kernel_rfl) (by kernel_rfl)).cast (by simp [upd]) : EqG Tryd.prog 40 (.agg (List.toArray (regsL (upd (upd R 1 (IntKind.i32.wrap x)) 1 (IntKind.i32.wrap y)) pc))) (.agg (List.toArray (regsL (upd R 1 (IntKind.i32.wrap y)) pc))) true) c0) ?_
  clear hA fr; intro fr hA
  refine end_plan ?_
  refine then_normal ?_
  refine cF hA ?_
  refine wp_skip ?_
  refine then_normal ?_
  refine sR (l := (rg 0 6)) ?_
  refine ck (l := (rg 0 5)) (r := [5]) (e' := [(3, pt b1), (6, bl false), (7, pt b2), (36, i32 (R 1)), (38, pf b2 1)]) hA [i32 (R 1)] (cc (⟨by omega, by omega⟩ : (0 : Int) ≤ 1 ∧ 1 < ((16 : Nat) : Int)) (cc (hO.l1 1 1 21 (i32 (R 1))) (cc (⟨by omega, by omega⟩ : (0 : Int) ≤ 1 ∧ 1 < ((16 : Nat) : Int)) c0))) ?_
  clear hA fr; intro fr hA
  refine wpOps_cons' (mSR (off := 1) (ad := ⟨b2, 1, none⟩) (vc := [i32 (R 1)]) (l' := (regsL (upd (upd R 1 (IntKind.i32.wrap x)) 1 (R 1)) pc)) 0 hA hO rfl (regs_ble (upd R 1 (IntKind.i32.wrap x)) pc (by omega)) (setL_regs (by omega) _) ?_)
  clear hO; intro w12 hO
  replace hA := hA.sb (e' := [(3, pt b1), (6, bl false), (7, pt b2)])
  refine end_ops ?_
  refine then_normal ?_
  refine sC (e' := [(6, bl true)]) 4 hA [.agg (List.toArray (regsL (upd (upd R 1 (IntKind.i32.wrap x)) 1 (R 1)) pc)), .agg (List.toArray (regsL R pc)), bl true] (cc (hO.ln 0 0 40 (regsL (upd (upd R 1 (IntKind.i32.wrap x)) 1 (R 1)) pc)) (cc (hO.ln 1 0 38 (regsL R pc)) (cc ((eqG_of (b := ((((upd (upd R 1 (IntKind.i32.wrap x)) 1 (R 1)) 0) == (R 0)) && ((((upd (upd R 1 (IntKind.i32.wrap x)) 1 (R 1)) 1) == (R 1)) && ((((upd (upd R 1 (IntKind.i32.wrap x)) 1 (R 1)) 2) == (R 2)) && ((((upd (upd R 1 (IntKind.i32.wrap x)) 1 (R 1)) 3) == (R 3)) && ((((upd (upd R 1 (IntKind.i32.wrap x)) 1 (R 1)) 4) == (R 4)) && ((((upd (upd R 1 (IntKind.i32.wrap x)) 1 (R 1)) 5) == (R 5)) && ((((upd (upd R 1 (IntKind.i32.wrap x)) 1 (R 1)) 6) == (R 6)) && ((((upd (upd R 1 (IntKind.i32.wrap x)) 1 (R 1)) 7) == (R 7)) && ((((upd (upd R 1 (IntKind.i32.wrap x)) 1 (R 1)) 8) == (R 8)) && ((((upd (upd R 1 (IntKind.i32.wrap x)) 1 (R 1)) 9) == (R 9)) && ((((upd (upd R 1 (IntKind.i32.wrap x)) 1 (R 1)) 10) == (R 10)) && ((((upd (upd R 1 (IntKind.i32.wrap x)) 1 (R 1)) 11) == (R 11)) && ((((upd (upd R 1 (IntKind.i32.wrap x)) 1 (R 1)) 12) == (R 12)) && ((((upd (upd R 1 (IntKind.i32.wrap x)) 1 (R 1)) 13) == (R 13)) && ((((upd (upd R 1 (IntKind.i32.wrap x)) 1 (R 1)) 14) == (R 14)) && ((((upd (upd R 1 (IntKind.i32.wrap x)) 1 (R 1)) 15) == (R 15)) && true)))))))))))))))) && ((pc == pc) && true)) (by kernel_rfl) (by kernel_rfl)).cast (by simp [upd]) : EqG Tryd.prog 38 (.agg (List.toArray (regsL (upd (upd R 1 (IntKind.i32.wrap x)) 1 (R 1)) pc))) (.agg (List.toArray (regsL R pc))) true) c0))) ?_
  clear hA fr; intro fr hA
  refine wp_ret ?_
  refine cR (cs := [none]) (us := [bl true]) hA [] trivial ?_
  have hF := hO.only; clear hA hO
  exact ⟨rfl, hF⟩

end Go.Proofs.YtcaokjdihhbkjaaDoor
