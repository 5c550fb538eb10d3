/- The layer cpu: walks of the law CpuExec. -/
import Derived.Test.YtcaokjdihhbkjaaDoorAccess
set_option linter.unusedVariables false
set_option linter.unusedSimpArgs false
set_option maxRecDepth 10000
namespace Go.Proofs.YtcaokjdihhbkjaaDoor
open Go Go.RowKit Go.Proofs.Sx

theorem tame_two (R : Nat → Int) (pc : Int) (w : World) :
    Calls Tryd.prog 17 #[.agg (List.toArray (regsL R pc))] w fun e w' => e = .returned (.bool (decide (pc > -1099511627776) && decide (pc < 1099511627776))) ∧ Only none' w w' := by
  refine c_enter (args := [.agg (List.toArray (regsL R pc))]) (m := 10) (n := 11) Tryd.func17 rfl (by kernel_rfl) (by kernel_rfl) fun fr hA => ?_
  have hO := Ow.nil Tryd.prog none' w
  refine sR (l := [0, 1]) ?_
  refine wpOps_cons' (mN (l := (regsL R pc)) (t := 38) (v := pt) (d := 1) hA hO ?_)
  clear hA hO fr; intro fr w1 b1 hA hO
  replace hA := hA.sb (e' := [(1, pt b1)])
  refine ck (l := [1]) (r := []) (e' := [(1, pt b1), (2, bl false)]) hA [] c0 ?_
  clear hA fr; intro fr hA
  refine end_ops ?_
  refine then_normal ?_
  refine sR (l := (rg 0 9)) ?_
  refine ck (l := [0, 1, 2, 3]) (r := (rg 4 5)) (e' := [(1, pt b1), (2, bl false), (5, bl (decide (pc > (-1099511627776)))), (6, bl (decide (pc > (-1099511627776))))]) hA [i64 pc] (cc (hO.l1 0 16 3 (i64 pc)) c0) ?_
  clear hA fr; intro fr hA
  rcases Bool.eq_false_or_eq_true (decide (pc > (-1099511627776))) with h1 | h1
  ·
    replace hA := hA.bool (f := fun z => [(1, pt b1), (2, bl false), (5, .bool z), (6, .bool z)]) h1
    have h1p := of_decide_eq_true h1
    refine ck (l := (rg 4 5)) (r := []) (e' := [(2, bl (decide (pc < 1099511627776)))]) hA [i64 pc] (cc (hO.l1 0 16 3 (i64 pc)) c0) ?_
    clear hA fr; intro fr hA
    refine end_ops ?_
    refine then_normal ?_
    refine wp_ret ?_
    refine cR (cs := [none]) (us := [bl (decide (pc < 1099511627776))]) hA [] trivial ?_
    have hF := hO.only; clear hA hO
    exact ⟨by simp_all [pack] <;> omega, hF⟩
  ·
    replace hA := hA.bool (f := fun z => [(1, pt b1), (2, bl false), (5, .bool z), (6, .bool z)]) h1
    have h1p := of_decide_eq_false h1
    refine ck (l := (rg 4 5)) (r := []) (e' := [(2, bl false)]) hA [] c0 ?_
    clear hA fr; intro fr hA
    refine end_ops ?_
    refine then_normal ?_
    refine wp_ret ?_
    refine cR (cs := [none]) (us := [bl false]) hA [] trivial ?_
    have hF := hO.only; clear hA hO
    exact ⟨by simp_all [pack] <;> omega, hF⟩

theorem trap_any (k p0 p1 p2 p3 p4 p5 : Int) (w : World) :
    Calls Tryd.prog 26 #[.agg #[i64 k, i64 p0, i64 p1, i64 p2, i64 p3, i64 p4, i64 p5]] w fun e w' => e = .returned (.agg (trapL k p0 p1 p2 p3 p4 p5).toArray) ∧ Only none' w w' := by
  refine c_enter (args := [.agg #[i64 k, i64 p0, i64 p1, i64 p2, i64 p3, i64 p4, i64 p5]]) (m := 3) (n := 4) Tryd.func26 rfl (by kernel_rfl) (by kernel_rfl) fun fr hA => ?_
  have hO := Ow.nil Tryd.prog none' w
  refine sR (l := [0, 1]) ?_
  refine wpOps_cons' (mN (l := [i64 k, i64 p0, i64 p1, i64 p2, i64 p3, i64 p4, i64 p5]) (t := 43) (v := pt) (d := 1) hA hO ?_)
  clear hA hO fr; intro fr w1 b1 hA hO
  replace hA := hA.sb (e' := [(1, pt b1)])
  refine wpOps_cons' (mN (l := [i64 0, i64 0, i64 0, i64 0, i64 0, i64 0, i64 0]) (t := 56) (v := pt) (d := 2) hA hO ?_)
  clear hA hO fr; intro fr w2 b2 hA hO
  refine end_ops ?_
  refine then_normal ?_
  refine sR (l := [0, 1]) ?_
  refine ck (l := [0]) (r := [1]) (e' := [(2, pt b2), (3, .agg #[i64 k, i64 p0, i64 p1, i64 p2, i64 p3, i64 p4, i64 p5])]) hA [.agg #[i64 k, i64 p0, i64 p1, i64 p2, i64 p3, i64 p4, i64 p5]] (cc (hO.ln 1 0 43 [i64 k, i64 p0, i64 p1, i64 p2, i64 p3, i64 p4, i64 p5]) c0) ?_
  clear hA fr; intro fr hA
  refine wpOps_cons' (mS (off := 0) (vc := [i64 k, i64 p0, i64 p1, i64 p2, i64 p3, i64 p4, i64 p5]) 0 hA hO ?_)
  clear hO; intro w3 hO
  replace hA := hA.sb (e' := [(2, pt b2)])
  refine end_ops ?_
  refine then_normal ?_
  refine wp_ret ?_
  refine cR (cs := [some (⟨b2, 0, none⟩, 56)]) (us := [.agg #[i64 k, i64 p0, i64 p1, i64 p2, i64 p3, i64 p4, i64 p5]]) hA [.agg #[i64 k, i64 p0, i64 p1, i64 p2, i64 p3, i64 p4, i64 p5]] ⟨(hO.ln 0 0 56 [i64 k, i64 p0, i64 p1, i64 p2, i64 p3, i64 p4, i64 p5]), trivial⟩ ?_
  have hF := hO.only; clear hA hO
  exact ⟨rfl, hF⟩

theorem lawexec_wild (R : Nat → Int) (pc ld : Int) (ad : Option Addr) (len cap : Nat) (xs : List Int) (w : World) (hT : Tab w) (hR : RegsOk R) (hs : SlI w (.slice ad len cap) xs) (hp : ¬ (-1099511627776 < pc ∧ pc < 1099511627776)) :
    Calls Tryd.prog 9 #[.agg (List.toArray (regsL R pc)), .slice ad len cap, i64 ld] w fun e w' => e = .returned (.bool true) ∧ Only none' w w' := by
  refine c_enter (args := [.agg (List.toArray (regsL R pc)), .slice ad len cap, i64 ld]) (m := 94) (n := 97) Tryd.func9 rfl (by kernel_rfl) (by kernel_rfl) fun fr hA => ?_
  have hO := Ow.nil Tryd.prog none' w
  refine sR (l := [0, 1]) ?_
  refine wpOps_cons' (mN (l := (regsL R pc)) (t := 38) (v := pt) (d := 3) hA hO ?_)
  clear hA hO fr; intro fr w1 b1 hA hO
  replace hA := hA.sb (e' := [(1, .slice ad len cap), (2, i64 ld), (3, pt b1)])
  refine ck (l := [1]) (r := []) (e' := [(1, .slice ad len cap), (2, i64 ld), (3, pt b1), (6, bl false)]) hA [] c0 ?_
  clear hA fr; intro fr hA
  refine end_ops ?_
  refine then_normal ?_
  refine wp_seq ?_
  refine sR (l := [0, 1]) ?_
  refine wpOps_cons' (mK (f := 12) (args := []) (d := (some 21)) (v := bl true) hA hO Tryd.func12 (awake_any _ (hT.keep hO.only (fun h => h))) ?_)
  clear hA hO fr; intro fr w2 hA hO
  refine ck (l := [1]) (r := []) (e' := [(1, .slice ad len cap), (2, i64 ld), (3, pt b1), (6, bl false), (22, bl false)]) hA [] c0 ?_
  clear hA fr; intro fr hA
  refine end_ops ?_
  refine then_normal ?_
  refine cF hA ?_
  refine wp_skip ?_
  refine then_normal ?_
  refine wp_seq ?_
  refine sR (l := (rg 0 8)) ?_
  refine ck (l := [0, 1, 2, 3]) (r := [4, 5, 6, 7]) (e' := [(1, .slice ad len cap), (2, i64 ld), (3, pt b1), (6, bl false), (25, bl (decide (((len : Nat) : Int) > 6))), (26, bl (decide (((len : Nat) : Int) > 6)))]) hA [] c0 ?_
  clear hA fr; intro fr hA
  rcases Bool.eq_false_or_eq_true (decide (((len : Nat) : Int) > 6)) with h1 | h1
  ·
    replace hA := hA.bool (f := fun z => [(1, .slice ad len cap), (2, i64 ld), (3, pt b1), (6, bl false), (25, .bool z), (26, .bool z)]) h1
    have h1p := of_decide_eq_true h1
    refine ck (l := [4, 5, 6, 7]) (r := []) (e' := [(1, .slice ad len cap), (2, i64 ld), (3, pt b1), (6, bl false), (30, bl true)]) hA [] c0 ?_
    clear hA fr; intro fr hA
    refine end_ops ?_
    refine then_normal ?_
    refine cT hA ?_
    refine sC (e' := [(1, .slice ad len cap), (2, i64 ld), (3, pt b1), (6, bl true)]) 1 hA [] c0 ?_
    clear hA fr; intro fr hA
    refine wp_ret ?_
    refine then_ret ?_
    refine cR (cs := [none]) (us := [bl true]) hA [] trivial ?_
    have hF := hO.only; clear hA hO
    exact ⟨rfl, hF⟩
  ·
    replace hA := hA.bool (f := fun z => [(1, .slice ad len cap), (2, i64 ld), (3, pt b1), (6, bl false), (25, .bool z), (26, .bool z)]) h1
    have h1p := of_decide_eq_false h1
    refine ck (l := [4]) (r := [5, 6, 7]) (e' := [(1, .slice ad len cap), (2, i64 ld), (3, pt b1), (6, bl false), (26, bl false), (27, .agg (List.toArray (regsL R pc)))]) hA [.agg (List.toArray (regsL R pc))] (cc (hO.ln 0 0 38 (regsL R pc)) c0) ?_
    clear hA fr; intro fr hA
    refine wpOps_cons' (mK (f := 17) (args := [.agg (List.toArray (regsL R pc))]) (d := (some 28)) (v := bl (decide (pc > -1099511627776) && decide (pc < 1099511627776))) hA hO Tryd.func17 (tame_two R pc _) ?_)
    clear hA hO fr; intro fr w3 hA hO
    replace hA := hA.sb (e' := [(1, .slice ad len cap), (2, i64 ld), (3, pt b1), (6, bl false), (26, bl false), (28, bl (decide (pc > -1099511627776) && decide (pc < 1099511627776)))])
    refine ck (l := [6, 7]) (r := []) (e' := [(1, .slice ad len cap), (2, i64 ld), (3, pt b1), (6, bl false), (30, bl (!(decide (pc > -1099511627776) && decide (pc < 1099511627776))))]) hA [] c0 ?_
    clear hA fr; intro fr hA
    refine end_ops ?_
    refine then_normal ?_
    replace hA := hA.bool (f := fun z => [(1, .slice ad len cap), (2, i64 ld), (3, pt b1), (6, bl false), (30, .bool !z)]) (by simp; omega : (decide (pc > -1099511627776) && decide (pc < 1099511627776)) = false)
    refine cT hA ?_
    refine sC (e' := [(1, .slice ad len cap), (2, i64 ld), (3, pt b1), (6, bl true)]) 1 hA [] c0 ?_
    clear hA fr; intro fr hA
    refine wp_ret ?_
    refine then_ret ?_
    refine cR (cs := [none]) (us := [bl true]) hA [] trivial ?_
    have hF := hO.only; clear hA hO
    exact ⟨rfl, hF⟩

theorem lawexec_ok (R : Nat → Int) (pc ld : Int) (ad : Option Addr) (len cap : Nat) (xs : List Int) (w : World) (hT : Tab w) (hR : RegsOk R) (hs : SlI w (.slice ad len cap) xs) (R' : Nat → Int) (pc' st k p0 p1 p2 p3 p4 p5 at_ m : Int) (wr ok : Bool) (hp : -1099511627776 < pc) (hp' : pc < 1099511627776) (hx : execX R pc ld xs = outV R' pc' st (trapL k p0 p1 p2 p3 p4 p5)) (ha : accX R xs = .tuple #[.int .i64 at_, .int .i64 m, .bool wr, .bool ok]) :
    Calls Tryd.prog 9 #[.agg (List.toArray (regsL R pc)), .slice ad len cap, i64 ld] w fun e w' => e = .returned (.bool true) ∧ Only none' w w' := by
  refine c_enter (args := [.agg (List.toArray (regsL R pc)), .slice ad len cap, i64 ld]) (m := 94) (n := 97) Tryd.func9 rfl (by kernel_rfl) (by kernel_rfl) fun fr hA => ?_
  have hO := Ow.nil Tryd.prog none' w
  refine sR (l := [0, 1]) ?_
  refine wpOps_cons' (mN (l := (regsL R pc)) (t := 38) (v := pt) (d := 3) hA hO ?_)
  clear hA hO fr; intro fr w1 b1 hA hO
  replace hA := hA.sb (e' := [(1, .slice ad len cap), (2, i64 ld), (3, pt b1)])
  refine ck (l := [1]) (r := []) (e' := [(1, .slice ad len cap), (2, i64 ld), (3, pt b1), (6, bl false)]) hA [] c0 ?_
  clear hA fr; intro fr hA
  refine end_ops ?_
  refine then_normal ?_
  refine wp_seq ?_
  refine sR (l := [0, 1]) ?_
  refine wpOps_cons' (mK (f := 12) (args := []) (d := (some 21)) (v := bl true) hA hO Tryd.func12 (awake_any _ (hT.keep hO.only (fun h => h))) ?_)
  clear hA hO fr; intro fr w2 hA hO
  refine ck (l := [1]) (r := []) (e' := [(1, .slice ad len cap), (2, i64 ld), (3, pt b1), (6, bl false), (22, bl false)]) hA [] c0 ?_
  clear hA fr; intro fr hA
  refine end_ops ?_
  refine then_normal ?_
  refine cF hA ?_
  refine wp_skip ?_
  refine then_normal ?_
  refine wp_seq ?_
  refine sR (l := (rg 0 8)) ?_
  refine ck (l := [0, 1, 2, 3]) (r := [4, 5, 6, 7]) (e' := [(1, .slice ad len cap), (2, i64 ld), (3, pt b1), (6, bl false), (25, bl (decide (((len : Nat) : Int) > 6))), (26, bl (decide (((len : Nat) : Int) > 6)))]) hA [] c0 ?_
  clear hA fr; intro fr hA
  rcases Bool.eq_false_or_eq_true (decide (((len : Nat) : Int) > 6)) with h1 | h1
  ·
    replace hA := hA.bool (f := fun z => [(1, .slice ad len cap), (2, i64 ld), (3, pt b1), (6, bl false), (25, .bool z), (26, .bool z)]) h1
    have h1p := of_decide_eq_true h1
    refine ck (l := [4, 5, 6, 7]) (r := []) (e' := [(1, .slice ad len cap), (2, i64 ld), (3, pt b1), (6, bl false), (30, bl true)]) hA [] c0 ?_
    clear hA fr; intro fr hA
    refine end_ops ?_
    refine then_normal ?_
    refine cT hA ?_
    refine sC (e' := [(1, .slice ad len cap), (2, i64 ld), (3, pt b1), (6, bl true)]) 1 hA [] c0 ?_
    clear hA fr; intro fr hA
    refine wp_ret ?_
    refine then_ret ?_
    refine cR (cs := [none]) (us := [bl true]) hA [] trivial ?_
    have hF := hO.only; clear hA hO
    exact ⟨by simp [pack], hF⟩
  ·
    replace hA := hA.bool (f := fun z => [(1, .slice ad len cap), (2, i64 ld), (3, pt b1), (6, bl false), (25, .bool z), (26, .bool z)]) h1
    have h1p := of_decide_eq_false h1
    refine ck (l := [4]) (r := [5, 6, 7]) (e' := [(1, .slice ad len cap), (2, i64 ld), (3, pt b1), (6, bl false), (26, bl false), (27, .agg (List.toArray (regsL R pc)))]) hA [.agg (List.toArray (regsL R pc))] (cc (hO.ln 0 0 38 (regsL R pc)) c0) ?_
    clear hA fr; intro fr hA
    refine wpOps_cons' (mK (f := 17) (args := [.agg (List.toArray (regsL R pc))]) (d := (some 28)) (v := bl (decide (pc > -1099511627776) && decide (pc < 1099511627776))) hA hO Tryd.func17 (tame_two R pc _) ?_)
    clear hA hO fr; intro fr w3 hA hO
    replace hA := hA.sb (e' := [(1, .slice ad len cap), (2, i64 ld), (3, pt b1), (6, bl false), (26, bl false), (28, bl (decide (pc > -1099511627776) && decide (pc < 1099511627776)))])
    refine ck (l := [6, 7]) (r := []) (e' := [(1, .slice ad len cap), (2, i64 ld), (3, pt b1), (6, bl false), (30, bl (!(decide (pc > -1099511627776) && decide (pc < 1099511627776))))]) hA [] c0 ?_
    clear hA fr; intro fr hA
    refine end_ops ?_
    refine then_normal ?_
    replace hA := hA.bool (f := fun z => [(1, .slice ad len cap), (2, i64 ld), (3, pt b1), (6, bl false), (30, .bool !z)]) (by simp; omega : (decide (pc > -1099511627776) && decide (pc < 1099511627776)) = true)
    refine cF hA ?_
    refine wp_skip ?_
    refine then_normal ?_
    refine sR (l := (rg 0 13)) ?_
    refine ck (l := [0, 1, 2]) (r := (rg 3 10)) (e' := [(1, .slice ad len cap), (2, i64 ld), (3, pt b1), (6, bl false), (32, .agg (List.toArray (regsL R pc))), (33, .slice ad len cap), (34, i64 ld)]) hA [.agg (List.toArray (regsL R pc))] (cc (hO.ln 0 0 38 (regsL R pc)) c0) ?_
    clear hA fr; intro fr hA
    refine wpOps_cons' (mK (f := 18) (args := [.agg (List.toArray (regsL R pc)), .slice ad len cap, i64 ld]) (d := (some 35)) (v := .tuple #[.agg (List.toArray (regsL R' pc')), i64 st, .agg #[i64 k, i64 p0, i64 p1, i64 p2, i64 p3, i64 p4, i64 p5]]) hA hO Tryd.func18 (rs (exec_any R pc ld _ xs _ (hT.keep hO.only (fun h => h)) hR hp hp' (hs.keep hO.only)) hx) ?_)
    clear hA hO fr; intro fr w4 hA hO
    replace hA := hA.sb (e' := [(1, .slice ad len cap), (2, i64 ld), (3, pt b1), (6, bl false), (35, .tuple #[.agg (List.toArray (regsL R' pc')), i64 st, .agg #[i64 k, i64 p0, i64 p1, i64 p2, i64 p3, i64 p4, i64 p5]])])
    refine ck (l := [4, 5, 6, 7]) (r := (rg 8 5)) (e' := [(1, .slice ad len cap), (2, i64 ld), (3, pt b1), (6, bl false), (36, .agg (List.toArray (regsL R' pc'))), (37, i64 st), (38, .agg #[i64 k, i64 p0, i64 p1, i64 p2, i64 p3, i64 p4, i64 p5])]) hA [] c0 ?_
    clear hA fr; intro fr hA
    refine wpOps_cons' (mN (l := [i32 0, i32 0, i32 0, i32 0, i32 0, i32 0, i32 0, i32 0, i32 0, i32 0, i32 0, i32 0, i32 0, i32 0, i32 0, i32 0, i64 0]) (t := 40) (v := pt) (d := 7) hA hO ?_)
    clear hA hO fr; intro fr w5 b2 hA hO
    refine wpOps_cons' (mN (l := [i64 0, i64 0, i64 0, i64 0, i64 0, i64 0, i64 0]) (t := 43) (v := pt) (d := 9) hA hO ?_)
    clear hA hO fr; intro fr w6 b3 hA hO
    refine wpOps_cons' (mS (off := 0) (vc := (regsL R' pc')) 1 hA hO ?_)
    clear hO; intro w7 hO
    replace hA := hA.sb (e' := [(1, .slice ad len cap), (2, i64 ld), (3, pt b1), (6, bl false), (7, pt b2), (9, pt b3), (37, i64 st), (38, .agg #[i64 k, i64 p0, i64 p1, i64 p2, i64 p3, i64 p4, i64 p5])])
    refine ck (l := [11]) (r := [12]) (e' := [(1, .slice ad len cap), (2, i64 ld), (3, pt b1), (6, bl false), (7, pt b2), (8, i64 st), (9, pt b3), (38, .agg #[i64 k, i64 p0, i64 p1, i64 p2, i64 p3, i64 p4, i64 p5])]) hA [] c0 ?_
    clear hA fr; intro fr hA
    refine wpOps_cons' (mS (off := 0) (vc := [i64 k, i64 p0, i64 p1, i64 p2, i64 p3, i64 p4, i64 p5]) 0 hA hO ?_)
    clear hO; intro w8 hO
    replace hA := hA.sb (e' := [(1, .slice ad len cap), (2, i64 ld), (3, pt b1), (6, bl false), (7, pt b2), (8, i64 st), (9, pt b3)])
    refine end_ops ?_
    refine then_normal ?_
    refine sR (l := (rg 0 13)) ?_
    refine ck (l := [0, 1, 2]) (r := (rg 3 10)) (e' := [(1, .slice ad len cap), (3, pt b1), (6, bl false), (7, pt b2), (8, i64 st), (9, pt b3), (40, .agg (List.toArray (regsL R pc))), (41, .slice ad len cap), (42, i64 ld)]) hA [.agg (List.toArray (regsL R pc))] (cc (hO.ln 2 0 38 (regsL R pc)) c0) ?_
    clear hA fr; intro fr hA
    refine wpOps_cons' (mK (f := 23) (args := [.agg (List.toArray (regsL R pc)), .slice ad len cap, i64 ld]) (d := (some 43)) (v := .tuple #[.agg (List.toArray (regsL R' pc')), i64 st, .agg #[i64 k, i64 p0, i64 p1, i64 p2, i64 p3, i64 p4, i64 p5]]) hA hO Tryd.func23 (rs (rexec_any R pc ld _ xs _ (hT.keep hO.only (fun h => h)) hR hp hp' (hs.keep hO.only)) hx) ?_)
    clear hA hO fr; intro fr w9 hA hO
    replace hA := hA.sb (e' := [(1, .slice ad len cap), (3, pt b1), (6, bl false), (7, pt b2), (8, i64 st), (9, pt b3), (43, .tuple #[.agg (List.toArray (regsL R' pc')), i64 st, .agg #[i64 k, i64 p0, i64 p1, i64 p2, i64 p3, i64 p4, i64 p5]])])
    refine ck (l := [4, 5, 6, 7]) (r := (rg 8 5)) (e' := [(1, .slice ad len cap), (3, pt b1), (6, bl false), (7, pt b2), (8, i64 st), (9, pt b3), (44, .agg (List.toArray (regsL R' pc'))), (45, i64 st), (46, .agg #[i64 k, i64 p0, i64 p1, i64 p2, i64 p3, i64 p4, i64 p5])]) hA [] c0 ?_
    clear hA fr; intro fr hA
    refine wpOps_cons' (mN (l := [i32 0, i32 0, i32 0, i32 0, i32 0, i32 0, i32 0, i32 0, i32 0, i32 0, i32 0, i32 0, i32 0, i32 0, i32 0, i32 0, i64 0]) (t := 38) (v := pt) (d := 10) hA hO ?_)
    clear hA hO fr; intro fr w10 b4 hA hO
    refine wpOps_cons' (mN (l := [i64 0, i64 0, i64 0, i64 0, i64 0, i64 0, i64 0]) (t := 56) (v := pt) (d := 12) hA hO ?_)
    clear hA hO fr; intro fr w11 b5 hA hO
    refine wpOps_cons' (mS (off := 0) (vc := (regsL R' pc')) 1 hA hO ?_)
    clear hO; intro w12 hO
    replace hA := hA.sb (e' := [(1, .slice ad len cap), (3, pt b1), (6, bl false), (7, pt b2), (8, i64 st), (9, pt b3), (10, pt b4), (12, pt b5), (45, i64 st), (46, .agg #[i64 k, i64 p0, i64 p1, i64 p2, i64 p3, i64 p4, i64 p5])])
    refine ck (l := [11]) (r := [12]) (e' := [(1, .slice ad len cap), (3, pt b1), (6, bl false), (7, pt b2), (8, i64 st), (9, pt b3), (10, pt b4), (11, i64 st), (12, pt b5), (46, .agg #[i64 k, i64 p0, i64 p1, i64 p2, i64 p3, i64 p4, i64 p5])]) hA [] c0 ?_
    clear hA fr; intro fr hA
    refine wpOps_cons' (mS (off := 0) (vc := [i64 k, i64 p0, i64 p1, i64 p2, i64 p3, i64 p4, i64 p5]) 0 hA hO ?_)
    clear hO; intro w13 hO
    replace hA := hA.sb (e' := [(1, .slice ad len cap), (3, pt b1), (6, bl false), (7, pt b2), (8, i64 st), (9, pt b3), (10, pt b4), (11, i64 st), (12, pt b5)])
    refine end_ops ?_
    refine then_normal ?_
    refine sR (l := (rg 0 12)) ?_
    refine ck (l := [0, 1]) (r := (rg 2 10)) (e' := [(1, .slice ad len cap), (3, pt b1), (6, bl false), (7, pt b2), (8, i64 st), (9, pt b3), (10, pt b4), (11, i64 st), (12, pt b5), (48, .agg (List.toArray (regsL R pc))), (49, .slice ad len cap)]) hA [.agg (List.toArray (regsL R pc))] (cc (hO.ln 4 0 38 (regsL R pc)) c0) ?_
    clear hA fr; intro fr hA
    refine wpOps_cons' (mK (f := 24) (args := [.agg (List.toArray (regsL R pc)), .slice ad len cap]) (d := (some 50)) (v := .tuple #[i64 at_, i64 m, bl wr, bl ok]) hA hO Tryd.func24 (rs (acc_any R pc _ xs _ (hT.keep hO.only (fun h => h)) hR (hs.keep hO.only)) ha) ?_)
    clear hA hO fr; intro fr w14 hA hO
    replace hA := hA.sb (e' := [(1, .slice ad len cap), (3, pt b1), (6, bl false), (7, pt b2), (8, i64 st), (9, pt b3), (10, pt b4), (11, i64 st), (12, pt b5), (50, .tuple #[i64 at_, i64 m, bl wr, bl ok])])
    refine ck (l := (rg 3 9)) (r := []) (e' := [(1, .slice ad len cap), (3, pt b1), (6, bl false), (7, pt b2), (8, i64 st), (9, pt b3), (10, pt b4), (11, i64 st), (12, pt b5), (13, i64 at_), (14, i64 m), (15, bl wr), (16, bl ok)]) hA [] c0 ?_
    clear hA fr; intro fr hA
    refine end_ops ?_
    refine then_normal ?_
    refine sR (l := (rg 0 12)) ?_
    refine ck (l := [0, 1]) (r := (rg 2 10)) (e' := [(6, bl false), (7, pt b2), (8, i64 st), (9, pt b3), (10, pt b4), (11, i64 st), (12, pt b5), (13, i64 at_), (14, i64 m), (15, bl wr), (16, bl ok), (56, .agg (List.toArray (regsL R pc))), (57, .slice ad len cap)]) hA [.agg (List.toArray (regsL R pc))] (cc (hO.ln 4 0 38 (regsL R pc)) c0) ?_
    clear hA fr; intro fr hA
    refine wpOps_cons' (mK (f := 25) (args := [.agg (List.toArray (regsL R pc)), .slice ad len cap]) (d := (some 58)) (v := .tuple #[i64 at_, i64 m, bl wr, bl ok]) hA hO Tryd.func25 (rs (racc_any R pc _ xs _ (hT.keep hO.only (fun h => h)) hR (hs.keep hO.only)) ha) ?_)
    clear hA hO fr; intro fr w15 hA hO
    replace hA := hA.sb (e' := [(6, bl false), (7, pt b2), (8, i64 st), (9, pt b3), (10, pt b4), (11, i64 st), (12, pt b5), (13, i64 at_), (14, i64 m), (15, bl wr), (16, bl ok), (58, .tuple #[i64 at_, i64 m, bl wr, bl ok])])
    refine ck (l := (rg 3 9)) (r := []) (e' := [(6, bl false), (7, pt b2), (8, i64 st), (9, pt b3), (10, pt b4), (11, i64 st), (12, pt b5), (13, i64 at_), (14, i64 m), (15, bl wr), (16, bl ok), (17, i64 at_), (18, i64 m), (19, bl wr), (20, bl ok)]) hA [] c0 ?_
    clear hA fr; intro fr hA
    refine end_ops ?_
    refine then_normal ?_
    refine wp_seq ?_
    have hS := hO
    refine rP [(0, true), (1, true), (2, true), (3, true), (4, true), (5, true), (6, true), (7, true), (8, true), (9, true), (11, true), (10, false), (12, true), (13, true), (14, true), (15, true), (16, true), (17, true), (18, true), (19, true), (20, true), (21, true), (22, true), (23, true), (24, true), (25, true), (26, true), (27, true), (28, true), (29, true), (30, true), (31, true), (32, true), (33, true), (34, true)] hS ?_
    intro w16 ho; replace hO := hO.st ho; clear ho
    refine ckS (l := (rg 0 9)) (r := [(9, true), (11, true), (10, false), (12, true), (13, true), (14, true), (15, true), (16, true), (17, true), (18, true), (19, true), (20, true), (21, true), (22, true), (23, true), (24, true), (25, true), (26, true), (27, true), (28, true), (29, true), (30, true), (31, true), (32, true), (33, true), (34, true)]) (e' := [(6, bl false), (9, pt b3), (12, pt b5), (13, i64 at_), (14, i64 m), (15, bl wr), (16, bl ok), (17, i64 at_), (18, i64 m), (19, bl wr), (20, bl ok), (69, bl (st == st)), (70, bl (st == st)), (71, bl (st == st))]) hA [.agg (List.toArray (regsL R' pc')), .agg (List.toArray (regsL R' pc')), bl true] (cc (hS.sn 3 0 40 (regsL R' pc')) (cc (hS.sn 1 0 38 (regsL R' pc')) (cc ((eqG_of (b := (((R' 0) == (R' 0)) && (((R' 1) == (R' 1)) && (((R' 2) == (R' 2)) && (((R' 3) == (R' 3)) && (((R' 4) == (R' 4)) && (((R' 5) == (R' 5)) && (((R' 6) == (R' 6)) && (((R' 7) == (R' 7)) && (((R' 8) == (R' 8)) && (((R' 9) == (R' 9)) && (((R' 10) == (R' 10)) && (((R' 11) == (R' 11)) && (((R' 12) == (R' 12)) && (((R' 13) == (R' 13)) && (((R' 14) == (R' 14)) && (((R' 15) == (R' 15)) && true)))))))))))))))) && ((pc' == pc') && true)) (by kernel_rfl) (by kernel_rfl)).cast (by simp) : EqG Tryd.prog 38 (.agg (List.toArray (regsL R' pc'))) (.agg (List.toArray (regsL R' pc'))) true) c0))) ?_
    clear hA fr; intro fr hA
    replace hA := hA.bool (f := fun z => [(6, bl false), (9, pt b3), (12, pt b5), (13, i64 at_), (14, i64 m), (15, bl wr), (16, bl ok), (17, i64 at_), (18, i64 m), (19, bl wr), (20, bl ok), (69, .bool z), (70, .bool z), (71, .bool z)]) (beq_self_eq_true _ : (st == st) = true)
    refine ckS (l := [9, 11]) (r := [(10, false), (12, true), (13, true), (14, true), (15, true), (16, true), (17, true), (18, true), (19, true), (20, true), (21, true), (22, true), (23, true), (24, true), (25, true), (26, true), (27, true), (28, true), (29, true), (30, true), (31, true), (32, true), (33, true), (34, true)]) (e' := [(6, bl false), (13, i64 at_), (14, i64 m), (15, bl wr), (16, bl ok), (17, i64 at_), (18, i64 m), (19, bl wr), (20, bl ok), (71, bl true), (72, .agg #[i64 k, i64 p0, i64 p1, i64 p2, i64 p3, i64 p4, i64 p5]), (74, .agg #[i64 k, i64 p0, i64 p1, i64 p2, i64 p3, i64 p4, i64 p5])]) hA [.agg #[i64 k, i64 p0, i64 p1, i64 p2, i64 p3, i64 p4, i64 p5], .agg #[i64 k, i64 p0, i64 p1, i64 p2, i64 p3, i64 p4, i64 p5]] (cc (hS.sn 2 0 43 [i64 k, i64 p0, i64 p1, i64 p2, i64 p3, i64 p4, i64 p5]) (cc (hS.sn 0 0 56 [i64 k, i64 p0, i64 p1, i64 p2, i64 p3, i64 p4, i64 p5]) c0)) ?_
    clear hA fr; intro fr hA
    refine plan_mem (mK (f := 26) (args := [.agg #[i64 k, i64 p0, i64 p1, i64 p2, i64 p3, i64 p4, i64 p5]]) (d := (some 73)) (v := .agg #[i64 k, i64 p0, i64 p1, i64 p2, i64 p3, i64 p4, i64 p5]) hA hO Tryd.func26 (trap_any k p0 p1 p2 p3 p4 p5 _) ?_)
    clear hA hO fr; intro fr w17 hA hO
    refine ⟨hO, ?_⟩
    replace hA := hA.sb (e' := [(6, bl false), (13, i64 at_), (14, i64 m), (15, bl wr), (16, bl ok), (17, i64 at_), (18, i64 m), (19, bl wr), (20, bl ok), (71, bl true), (73, .agg #[i64 k, i64 p0, i64 p1, i64 p2, i64 p3, i64 p4, i64 p5]), (74, .agg #[i64 k, i64 p0, i64 p1, i64 p2, i64 p3, i64 p4, i64 p5])])
    refine ckS (l := (rg 12 8)) (r := [(20, true), (21, true), (22, true), (23, true), (24, true), (25, true), (26, true), (27, true), (28, true), (29, true), (30, true), (31, true), (32, true), (33, true), (34, true)]) (e' := [(6, bl false), (14, i64 m), (15, bl wr), (16, bl ok), (18, i64 m), (19, bl wr), (20, bl ok), (80, bl (at_ == at_)), (81, bl (at_ == at_)), (82, bl (at_ == at_))]) hA [bl true] (cc ((eqG_of (b := (k == k) && ((p0 == p0) && (((p1 == p1) && ((p2 == p2) && ((p3 == p3) && true))) && ((p4 == p4) && ((p5 == p5) && true))))) (by kernel_rfl) (by kernel_rfl)).cast (by simp) : EqG Tryd.prog 56 (.agg #[i64 k, i64 p0, i64 p1, i64 p2, i64 p3, i64 p4, i64 p5]) (.agg #[i64 k, i64 p0, i64 p1, i64 p2, i64 p3, i64 p4, i64 p5]) true) c0) ?_
    clear hA fr; intro fr hA
    replace hA := hA.bool (f := fun z => [(6, bl false), (14, i64 m), (15, bl wr), (16, bl ok), (18, i64 m), (19, bl wr), (20, bl ok), (80, .bool z), (81, .bool z), (82, .bool z)]) (beq_self_eq_true _ : (at_ == at_) = true)
    refine ckS (l := (rg 20 5)) (r := [(25, true), (26, true), (27, true), (28, true), (29, true), (30, true), (31, true), (32, true), (33, true), (34, true)]) (e' := [(6, bl false), (15, bl wr), (16, bl ok), (19, bl wr), (20, bl ok), (85, bl (m == m)), (86, bl (m == m)), (87, bl (m == m))]) hA [] c0 ?_
    clear hA fr; intro fr hA
    replace hA := hA.bool (f := fun z => [(6, bl false), (15, bl wr), (16, bl ok), (19, bl wr), (20, bl ok), (85, .bool z), (86, .bool z), (87, .bool z)]) (beq_self_eq_true _ : (m == m) = true)
    refine ckS (l := (rg 25 5)) (r := [(30, true), (31, true), (32, true), (33, true), (34, true)]) (e' := [(6, bl false), (16, bl ok), (20, bl ok), (90, bl (wr == wr)), (91, bl (wr == wr)), (92, bl (wr == wr))]) hA [] c0 ?_
    clear hA fr; intro fr hA
    replace hA := hA.bool (f := fun z => [(6, bl false), (16, bl ok), (20, bl ok), (90, .bool z), (91, .bool z), (92, .bool z)]) (beq_self_eq_true _ : (wr == wr) = true)
    refine ckS (l := (rg 30 5)) (r := []) (e' := [(6, bl (ok == ok))]) hA [] c0 ?_
    clear hA fr; intro fr hA
    refine end_plan ?_
    refine then_normal ?_
    refine wp_ret ?_
    refine cR (cs := [none]) (us := [bl (ok == ok)]) hA [] trivial ?_
    have hF := hO.only; clear hA hO
    exact ⟨by simp [pack], hF⟩

theorem law_exec (R : Nat → Int) (pc ld : Int) (ad : Option Addr) (len cap : Nat) (xs : List Int) (w : World) (hT : Tab w) (hR : RegsOk R) (hs : SlI w (.slice ad len cap) xs) :
    Calls Tryd.prog 9 #[.agg (regsL R pc).toArray, .slice ad len cap, .int .i64 ld] w fun e w' => e = .returned (.bool true) ∧ Only none' w w' := by
  by_cases hp : -1099511627776 < pc ∧ pc < 1099511627776
  · obtain ⟨R', pc', st, k, p0, p1, p2, p3, p4, p5, hx⟩ := exec_form R pc ld xs
    obtain ⟨at_, m, wr, ok, ha⟩ := acc_form R xs
    exact lawexec_ok R pc ld ad len cap xs w hT hR hs R' pc' st k p0 p1 p2 p3 p4 p5 at_ m wr ok hp.1 hp.2 hx ha
  · exact lawexec_wild R pc ld ad len cap xs w hT hR hs hp

end Go.Proofs.YtcaokjdihhbkjaaDoor
