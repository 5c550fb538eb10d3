/- The layer exe: up, end, Valid. -/
import Derived.Test.YtkfnkcpdabdboaaDoorSeal
set_option linter.unusedVariables false
set_option linter.unusedSimpArgs false
set_option maxRecDepth 10000
namespace Go.Proofs.YtkfnkcpdabdboaaDoor
open Go Go.RowKit Go.Proofs.Sx

theorem up_any (x : Int) (w : World) (h0 : 0 ≤ x) (h1 : x ≤ 1000000) :
    Calls Tryd.prog 22 #[i64 x] w fun e w' => e = .returned (.int .i64 (upP x)) ∧ Only none' w w' := by
  refine c_enter (args := [i64 x]) (m := 7) (n := 8) Tryd.func22 rfl (by kernel_rfl) (by kernel_rfl) fun fr hA => ?_
  have hO := Ow.nil Tryd.prog none' w
  refine sC (e' := [(0, i64 x), (2, i64 0)]) 1 hA [] c0 ?_
  clear hA fr; intro fr hA
  refine sC (e' := [(2, i64 ((((x + 128) - 1) / 128) * 128))]) 6 hA [bl true, bl true, bl true, bl true] (cc ((inK_i64 (by omega) (by omega)) : inK .i64 (x + 128)) (cc ((inK_i64 (by omega) (by omega)) : inK .i64 ((x + 128) - 1)) (cc (⟨by omega, by omega, inK_i64 (by omega) (by omega)⟩ : (0 : Int) ≤ (x + 128) - 1 ∧ (0 : Int) < 128 ∧ inK .i64 ((x + 128) - 1)) (cc ((inK_i64 (by omega) (by omega)) : inK .i64 ((((x + 128) - 1) / 128) * 128)) c0)))) ?_
  clear hA fr; intro fr hA
  refine wp_ret ?_
  refine cR (cs := [none]) (us := [i64 ((((x + 128) - 1) / 128) * 128)]) hA [] trivial ?_
  have hF := hO.only; clear hA hO
  exact ⟨by unfold upP; rw [show x + 127 = x + 128 - 1 by omega]; rfl, hF⟩

theorem end_any (cp dp : Option Addr) (kc kd : Nat) (cs ds : List Int) (z et : Int) (w : World) (hc : cs.length ≤ 2000) (hd : ds.length ≤ 2000) (h0 : 0 ≤ z) (h1 : z ≤ 3072) :
    Calls Tryd.prog 23 #[.agg #[.slice cp cs.length kc, .slice dp ds.length kd, i64 z, i64 et]] w fun e w' => e = .returned (.int .i64 (endP ((cs.length : Nat) : Int) ((ds.length : Nat) : Int) z)) ∧ Only none' w w' := by
  refine c_enter (args := [.agg #[.slice cp cs.length kc, .slice dp ds.length kd, i64 z, i64 et]]) (m := 14) (n := 15) Tryd.func23 rfl (by kernel_rfl) (by kernel_rfl) fun fr hA => ?_
  have hO := Ow.nil Tryd.prog none' w
  have hu1 := upP_b (x := ((cs.length : Nat) : Int)) (by omega); have hu2 := upP_b (x := upP ((cs.length : Nat) : Int) + ((ds.length : Nat) : Int) + z) (by omega)
  refine sR (l := [0, 1]) ?_
  refine wpOps_cons' (mN (l := [.slice cp cs.length kc, .slice dp ds.length kd, i64 z, i64 et]) (t := 27) (v := pt) (d := 1) hA hO ?_)
  clear hA hO fr; intro fr w1 b1 hA hO
  replace hA := hA.sb (e' := [(1, pt b1)])
  refine ck (l := [1]) (r := []) (e' := [(1, pt b1), (2, i64 0)]) hA [] c0 ?_
  clear hA fr; intro fr hA
  refine end_ops ?_
  refine then_normal ?_
  refine wp_seq ?_
  have hS := hO
  refine rP [(0, true), (1, true), (2, true), (4, true), (5, true), (6, true), (8, true), (9, true), (3, false), (7, true), (10, true), (11, false), (12, true)] hS ?_
  intro w2 ho; replace hO := hO.st ho; clear ho
  refine ckS (l := [0, 1, 2, 4, 5, 6, 8, 9]) (r := [(3, false), (7, true), (10, true), (11, false), (12, true)]) (e' := [(2, i64 0), (5, i64 ((cs.length : Nat) : Int)), (9, i64 ((ds.length : Nat) : Int)), (12, i64 z)]) hA [.slice cp cs.length kc, .slice dp ds.length kd, i64 z] (cc (hS.s1 0 0 22 (.slice cp cs.length kc)) (cc (hS.s1 0 1 22 (.slice dp ds.length kd)) (cc (hS.s1 0 2 3 (i64 z)) c0))) ?_
  clear hA fr; intro fr hA
  refine plan_mem (mK (f := 22) (args := [i64 ((cs.length : Nat) : Int)]) (d := (some 6)) (v := i64 (upP ((cs.length : Nat) : Int))) hA hO Tryd.func22 (up_any ((cs.length : Nat) : Int) _ (by omega) (by omega)) ?_)
  clear hA hO fr; intro fr w3 hA hO
  refine ⟨hO, ?_⟩
  replace hA := hA.sb (e' := [(2, i64 0), (6, i64 (upP ((cs.length : Nat) : Int))), (9, i64 ((ds.length : Nat) : Int)), (12, i64 z)])
  refine ckS (l := [7, 10]) (r := [(11, false), (12, true)]) (e' := [(2, i64 0), (13, i64 (((upP ((cs.length : Nat) : Int)) + ((ds.length : Nat) : Int)) + z))]) hA [bl true, bl true] (cc ((inK_i64 (by omega) (by omega)) : inK .i64 ((upP ((cs.length : Nat) : Int)) + ((ds.length : Nat) : Int))) (cc ((inK_i64 (by omega) (by omega)) : inK .i64 (((upP ((cs.length : Nat) : Int)) + ((ds.length : Nat) : Int)) + z)) c0)) ?_
  clear hA fr; intro fr hA
  refine plan_mem (mK (f := 22) (args := [i64 (((upP ((cs.length : Nat) : Int)) + ((ds.length : Nat) : Int)) + z)]) (d := (some 14)) (v := i64 (upP (((upP ((cs.length : Nat) : Int)) + ((ds.length : Nat) : Int)) + z))) hA hO Tryd.func22 (up_any (((upP ((cs.length : Nat) : Int)) + ((ds.length : Nat) : Int)) + z) _ (by omega) (by omega)) ?_)
  clear hA hO fr; intro fr w4 hA hO
  refine ⟨hO, ?_⟩
  replace hA := hA.sb (e' := [(2, i64 0), (14, i64 (upP (((upP ((cs.length : Nat) : Int)) + ((ds.length : Nat) : Int)) + z)))])
  refine ckS (l := [12]) (r := []) (e' := [(2, i64 (upP (((upP ((cs.length : Nat) : Int)) + ((ds.length : Nat) : Int)) + z)))]) hA [] c0 ?_
  clear hA fr; intro fr hA
  refine end_plan ?_
  refine then_normal ?_
  refine wp_ret ?_
  refine cR (cs := [none]) (us := [i64 (upP (((upP ((cs.length : Nat) : Int)) + ((ds.length : Nat) : Int)) + z))]) hA [] trivial ?_
  have hF := hO.only; clear hA hO
  exact ⟨rfl, hF⟩

theorem valid_nil (dp : Option Addr) (kd : Nat) (ds : List Int) (z et : Int) (w : World) :
    Calls Tryd.prog 9 #[.agg #[.slice none 0 0, .slice dp ds.length kd, i64 z, i64 et]] w fun e w' => e = .returned (.bool false) ∧ Only none' w w' := by
  refine c_enter (args := [.agg #[.slice none 0 0, .slice dp ds.length kd, i64 z, i64 et]]) (m := 65) (n := 66) Tryd.func9 rfl (by kernel_rfl) (by kernel_rfl) fun fr hA => ?_
  have hO := Ow.nil Tryd.prog none' w
  refine sR (l := [0, 1]) ?_
  refine wpOps_cons' (mN (l := [.slice none 0 0, .slice dp ds.length kd, i64 z, i64 et]) (t := 27) (v := pt) (d := 1) hA hO ?_)
  clear hA hO fr; intro fr w1 b1 hA hO
  replace hA := hA.sb (e' := [(1, pt b1)])
  refine ck (l := [1]) (r := []) (e' := [(1, pt b1), (2, bl false)]) hA [] c0 ?_
  clear hA fr; intro fr hA
  refine end_ops ?_
  refine then_normal ?_
  refine sC (e' := [(1, pt b1), (2, bl false), (3, i64 0)]) 4 hA [.slice none 0 0] (cc (hO.l1 0 0 22 (.slice none 0 0)) c0) ?_
  clear hA fr; intro fr hA
  refine wp_seq ?_
  refine sC (e' := [(1, pt b1), (2, bl false), (3, i64 0), (48, bl true)]) 39 hA [] c0 ?_
  clear hA fr; intro fr hA
  refine cT hA ?_
  refine sC (e' := [(1, pt b1), (2, bl false), (3, i64 0)]) 1 hA [] c0 ?_
  clear hA fr; intro fr hA
  refine wp_ret ?_
  refine then_ret ?_
  refine cR (cs := [none]) (us := [bl false]) hA [] trivial ?_
  have hF := hO.only; clear hA hO
  exact ⟨rfl, hF⟩

theorem valid_some (ca : Addr) (dp : Option Addr) (kc kd : Nat) (cs ds : List Int) (z et : Int) (w : World) (hc : cs.length ≤ 2000) (hd : ds.length ≤ 2000) (hT : Tab w) (hs : SlI w (.slice (some ca) cs.length kc) cs) (hkc : cs.length ≤ kc) :
    Calls Tryd.prog 9 #[.agg #[.slice (some ca) cs.length kc, .slice dp ds.length kd, i64 z, i64 et]] w fun e w' => e = .returned (.bool (validB cs ((ds.length : Nat) : Int) z et)) ∧ Only none' w w' := by
  refine c_enter (args := [.agg #[.slice (some ca) cs.length kc, .slice dp ds.length kd, i64 z, i64 et]]) (m := 65) (n := 66) Tryd.func9 rfl (by kernel_rfl) (by kernel_rfl) fun fr hA => ?_
  have hO := Ow.nil Tryd.prog none' w
  refine sR (l := [0, 1]) ?_
  refine wpOps_cons' (mN (l := [.slice (some ca) cs.length kc, .slice dp ds.length kd, i64 z, i64 et]) (t := 27) (v := pt) (d := 1) hA hO ?_)
  clear hA hO fr; intro fr w1 b1 hA hO
  replace hA := hA.sb (e' := [(1, pt b1)])
  refine ck (l := [1]) (r := []) (e' := [(1, pt b1), (2, bl false)]) hA [] c0 ?_
  clear hA fr; intro fr hA
  refine end_ops ?_
  refine then_normal ?_
  refine sC (e' := [(1, pt b1), (2, bl false), (3, i64 ((cs.length : Nat) : Int))]) 4 hA [.slice (some ca) cs.length kc] (cc (hO.l1 0 0 22 (.slice (some ca) cs.length kc)) c0) ?_
  clear hA fr; intro fr hA
  refine wp_seq ?_
  refine sR (l := (rg 0 39)) ?_
  refine ck (l := [0, 1, 2]) (r := (rg 3 36)) (e' := [(1, pt b1), (2, bl false), (3, i64 ((cs.length : Nat) : Int)), (11, bl (decide (((cs.length : Nat) : Int) < 4))), (12, bl (decide (((cs.length : Nat) : Int) < 4)))]) hA [] c0 ?_
  clear hA fr; intro fr hA
  rcases Bool.eq_false_or_eq_true (decide (((cs.length : Nat) : Int) < 4)) with h1 | h1
  ·
    replace hA := hA.bool (f := fun z_ => [(1, pt b1), (2, bl false), (3, i64 ((cs.length : Nat) : Int)), (11, .bool z_), (12, .bool z_)]) h1
    have h1p := of_decide_eq_true h1
    refine ck (l := (rg 3 36)) (r := []) (e' := [(1, pt b1), (2, bl false), (3, i64 ((cs.length : Nat) : Int)), (48, bl true)]) hA [] c0 ?_
    clear hA fr; intro fr hA
    refine end_ops ?_
    refine then_normal ?_
    refine cT hA ?_
    refine sC (e' := [(1, pt b1), (2, bl false), (3, i64 ((cs.length : Nat) : Int))]) 1 hA [] c0 ?_
    clear hA fr; intro fr hA
    refine wp_ret ?_
    refine then_ret ?_
    refine cR (cs := [none]) (us := [bl false]) hA [] trivial ?_
    have hF := hO.only; clear hA hO
    exact ⟨congrArg (fun b => Ending.returned (.bool b)) (valid_no (by omega)).symm, hF⟩
  ·
    replace hA := hA.bool (f := fun z_ => [(1, pt b1), (2, bl false), (3, i64 ((cs.length : Nat) : Int)), (11, .bool z_), (12, .bool z_)]) h1
    have h1p := of_decide_eq_false h1
    refine ck (l := (rg 3 5)) (r := (rg 8 31)) (e' := [(1, pt b1), (2, bl false), (3, i64 ((cs.length : Nat) : Int)), (15, bl ((((cs.length : Nat) : Int) % 4) != 0)), (16, bl ((((cs.length : Nat) : Int) % 4) != 0)), (17, bl ((((cs.length : Nat) : Int) % 4) != 0))]) hA [bl true] (cc (⟨by omega, by omega, inK_i64 (by omega) (by omega)⟩ : (0 : Int) ≤ ((cs.length : Nat) : Int) ∧ (0 : Int) < 4 ∧ inK .i64 ((cs.length : Nat) : Int)) c0) ?_
    clear hA fr; intro fr hA
    rcases Bool.eq_false_or_eq_true ((((cs.length : Nat) : Int) % 4) != 0) with h2 | h2
    ·
      replace hA := hA.bool (f := fun z_ => [(1, pt b1), (2, bl false), (3, i64 ((cs.length : Nat) : Int)), (15, .bool z_), (16, .bool z_), (17, .bool z_)]) h2
      have h2p := ne_of_bne h2
      refine ck (l := (rg 8 31)) (r := []) (e' := [(1, pt b1), (2, bl false), (3, i64 ((cs.length : Nat) : Int)), (48, bl true)]) hA [] c0 ?_
      clear hA fr; intro fr hA
      refine end_ops ?_
      refine then_normal ?_
      refine cT hA ?_
      refine sC (e' := [(1, pt b1), (2, bl false), (3, i64 ((cs.length : Nat) : Int))]) 1 hA [] c0 ?_
      clear hA fr; intro fr hA
      refine wp_ret ?_
      refine then_ret ?_
      refine cR (cs := [none]) (us := [bl false]) hA [] trivial ?_
      have hF := hO.only; clear hA hO
      exact ⟨congrArg (fun b => Ending.returned (.bool b)) (valid_no (by omega)).symm, hF⟩
    ·
      replace hA := hA.bool (f := fun z_ => [(1, pt b1), (2, bl false), (3, i64 ((cs.length : Nat) : Int)), (15, .bool z_), (16, .bool z_), (17, .bool z_)]) h2
      have h2p := eq_of_bne_false h2
      refine ck (l := (rg 8 5)) (r := (rg 13 26)) (e' := [(1, pt b1), (2, bl false), (3, i64 ((cs.length : Nat) : Int)), (20, bl (decide (et < 0))), (21, bl (decide (et < 0))), (22, bl (decide (et < 0)))]) hA [i64 et] (cc (hO.l1 0 3 3 (i64 et)) c0) ?_
      clear hA fr; intro fr hA
      rcases Bool.eq_false_or_eq_true (decide (et < 0)) with h3 | h3
      ·
        replace hA := hA.bool (f := fun z_ => [(1, pt b1), (2, bl false), (3, i64 ((cs.length : Nat) : Int)), (20, .bool z_), (21, .bool z_), (22, .bool z_)]) h3
        have h3p := of_decide_eq_true h3
        refine ck (l := (rg 13 26)) (r := []) (e' := [(1, pt b1), (2, bl false), (3, i64 ((cs.length : Nat) : Int)), (48, bl true)]) hA [] c0 ?_
        clear hA fr; intro fr hA
        refine end_ops ?_
        refine then_normal ?_
        refine cT hA ?_
        refine sC (e' := [(1, pt b1), (2, bl false), (3, i64 ((cs.length : Nat) : Int))]) 1 hA [] c0 ?_
        clear hA fr; intro fr hA
        refine wp_ret ?_
        refine then_ret ?_
        refine cR (cs := [none]) (us := [bl false]) hA [] trivial ?_
        have hF := hO.only; clear hA hO
        exact ⟨congrArg (fun b => Ending.returned (.bool b)) (valid_no (by omega)).symm, hF⟩
      ·
        replace hA := hA.bool (f := fun z_ => [(1, pt b1), (2, bl false), (3, i64 ((cs.length : Nat) : Int)), (20, .bool z_), (21, .bool z_), (22, .bool z_)]) h3
        have h3p := of_decide_eq_false h3
        refine ck (l := (rg 13 6)) (r := (rg 19 20)) (e' := [(1, pt b1), (2, bl false), (3, i64 ((cs.length : Nat) : Int)), (26, bl (decide (et ≥ ((cs.length : Nat) : Int)))), (27, bl (decide (et ≥ ((cs.length : Nat) : Int)))), (28, bl (decide (et ≥ ((cs.length : Nat) : Int))))]) hA [i64 et] (cc (hO.l1 0 3 3 (i64 et)) c0) ?_
        clear hA fr; intro fr hA
        rcases Bool.eq_false_or_eq_true (decide (et ≥ ((cs.length : Nat) : Int))) with h4 | h4
        ·
          replace hA := hA.bool (f := fun z_ => [(1, pt b1), (2, bl false), (3, i64 ((cs.length : Nat) : Int)), (26, .bool z_), (27, .bool z_), (28, .bool z_)]) h4
          have h4p := of_decide_eq_true h4
          refine ck (l := (rg 19 20)) (r := []) (e' := [(1, pt b1), (2, bl false), (3, i64 ((cs.length : Nat) : Int)), (48, bl true)]) hA [] c0 ?_
          clear hA fr; intro fr hA
          refine end_ops ?_
          refine then_normal ?_
          refine cT hA ?_
          refine sC (e' := [(1, pt b1), (2, bl false), (3, i64 ((cs.length : Nat) : Int))]) 1 hA [] c0 ?_
          clear hA fr; intro fr hA
          refine wp_ret ?_
          refine then_ret ?_
          refine cR (cs := [none]) (us := [bl false]) hA [] trivial ?_
          have hF := hO.only; clear hA hO
          exact ⟨congrArg (fun b => Ending.returned (.bool b)) (valid_no (by omega)).symm, hF⟩
        ·
          replace hA := hA.bool (f := fun z_ => [(1, pt b1), (2, bl false), (3, i64 ((cs.length : Nat) : Int)), (26, .bool z_), (27, .bool z_), (28, .bool z_)]) h4
          have h4p := of_decide_eq_false h4
          refine ck (l := (rg 19 6)) (r := (rg 25 14)) (e' := [(1, pt b1), (2, bl false), (3, i64 ((cs.length : Nat) : Int)), (32, bl ((et % 4) != 0)), (33, bl ((et % 4) != 0)), (34, bl ((et % 4) != 0))]) hA [i64 et, bl true] (cc (hO.l1 0 3 3 (i64 et)) (cc (⟨by omega, by omega, inK_i64 (by omega) (by omega)⟩ : (0 : Int) ≤ et ∧ (0 : Int) < 4 ∧ inK .i64 et) c0)) ?_
          clear hA fr; intro fr hA
          rcases Bool.eq_false_or_eq_true ((et % 4) != 0) with h5 | h5
          ·
            replace hA := hA.bool (f := fun z_ => [(1, pt b1), (2, bl false), (3, i64 ((cs.length : Nat) : Int)), (32, .bool z_), (33, .bool z_), (34, .bool z_)]) h5
            have h5p := ne_of_bne h5
            refine ck (l := (rg 25 14)) (r := []) (e' := [(1, pt b1), (2, bl false), (3, i64 ((cs.length : Nat) : Int)), (48, bl true)]) hA [] c0 ?_
            clear hA fr; intro fr hA
            refine end_ops ?_
            refine then_normal ?_
            refine cT hA ?_
            refine sC (e' := [(1, pt b1), (2, bl false), (3, i64 ((cs.length : Nat) : Int))]) 1 hA [] c0 ?_
            clear hA fr; intro fr hA
            refine wp_ret ?_
            refine then_ret ?_
            refine cR (cs := [none]) (us := [bl false]) hA [] trivial ?_
            have hF := hO.only; clear hA hO
            exact ⟨congrArg (fun b => Ending.returned (.bool b)) (valid_no (by omega)).symm, hF⟩
          ·
            replace hA := hA.bool (f := fun z_ => [(1, pt b1), (2, bl false), (3, i64 ((cs.length : Nat) : Int)), (32, .bool z_), (33, .bool z_), (34, .bool z_)]) h5
            have h5p := eq_of_bne_false h5
            refine ck (l := (rg 25 5)) (r := (rg 30 9)) (e' := [(1, pt b1), (2, bl false), (3, i64 ((cs.length : Nat) : Int)), (37, bl (decide (z < 0))), (38, bl (decide (z < 0))), (39, bl (decide (z < 0)))]) hA [i64 z] (cc (hO.l1 0 2 3 (i64 z)) c0) ?_
            clear hA fr; intro fr hA
            rcases Bool.eq_false_or_eq_true (decide (z < 0)) with h6 | h6
            ·
              replace hA := hA.bool (f := fun z_ => [(1, pt b1), (2, bl false), (3, i64 ((cs.length : Nat) : Int)), (37, .bool z_), (38, .bool z_), (39, .bool z_)]) h6
              have h6p := of_decide_eq_true h6
              refine ck (l := (rg 30 9)) (r := []) (e' := [(1, pt b1), (2, bl false), (3, i64 ((cs.length : Nat) : Int)), (48, bl true)]) hA [] c0 ?_
              clear hA fr; intro fr hA
              refine end_ops ?_
              refine then_normal ?_
              refine cT hA ?_
              refine sC (e' := [(1, pt b1), (2, bl false), (3, i64 ((cs.length : Nat) : Int))]) 1 hA [] c0 ?_
              clear hA fr; intro fr hA
              refine wp_ret ?_
              refine then_ret ?_
              refine cR (cs := [none]) (us := [bl false]) hA [] trivial ?_
              have hF := hO.only; clear hA hO
              exact ⟨congrArg (fun b => Ending.returned (.bool b)) (valid_no (by omega)).symm, hF⟩
            ·
              replace hA := hA.bool (f := fun z_ => [(1, pt b1), (2, bl false), (3, i64 ((cs.length : Nat) : Int)), (37, .bool z_), (38, .bool z_), (39, .bool z_)]) h6
              have h6p := of_decide_eq_false h6
              refine ck (l := (rg 30 5)) (r := [35, 36, 37, 38]) (e' := [(1, pt b1), (2, bl false), (3, i64 ((cs.length : Nat) : Int)), (42, bl (decide (z > 3072))), (43, bl (decide (z > 3072))), (44, bl (decide (z > 3072)))]) hA [i64 z] (cc (hO.l1 0 2 3 (i64 z)) c0) ?_
              clear hA fr; intro fr hA
              rcases Bool.eq_false_or_eq_true (decide (z > 3072)) with h7 | h7
              ·
                replace hA := hA.bool (f := fun z_ => [(1, pt b1), (2, bl false), (3, i64 ((cs.length : Nat) : Int)), (42, .bool z_), (43, .bool z_), (44, .bool z_)]) h7
                have h7p := of_decide_eq_true h7
                refine ck (l := [35, 36, 37, 38]) (r := []) (e' := [(1, pt b1), (2, bl false), (3, i64 ((cs.length : Nat) : Int)), (48, bl true)]) hA [] c0 ?_
                clear hA fr; intro fr hA
                refine end_ops ?_
                refine then_normal ?_
                refine cT hA ?_
                refine sC (e' := [(1, pt b1), (2, bl false), (3, i64 ((cs.length : Nat) : Int))]) 1 hA [] c0 ?_
                clear hA fr; intro fr hA
                refine wp_ret ?_
                refine then_ret ?_
                refine cR (cs := [none]) (us := [bl false]) hA [] trivial ?_
                have hF := hO.only; clear hA hO
                exact ⟨congrArg (fun b => Ending.returned (.bool b)) (valid_no (by omega)).symm, hF⟩
              ·
                replace hA := hA.bool (f := fun z_ => [(1, pt b1), (2, bl false), (3, i64 ((cs.length : Nat) : Int)), (42, .bool z_), (43, .bool z_), (44, .bool z_)]) h7
                have h7p := of_decide_eq_false h7
                refine ck (l := [35]) (r := [36, 37, 38]) (e' := [(1, pt b1), (2, bl false), (3, i64 ((cs.length : Nat) : Int)), (44, bl false), (45, .agg #[.slice (some ca) cs.length kc, .slice dp ds.length kd, i64 z, i64 et])]) hA [.agg #[.slice (some ca) cs.length kc, .slice dp ds.length kd, i64 z, i64 et]] (cc (hO.ln 0 0 27 [.slice (some ca) cs.length kc, .slice dp ds.length kd, i64 z, i64 et]) c0) ?_
                clear hA fr; intro fr hA
                refine wpOps_cons' (mK (f := 23) (args := [.agg #[.slice (some ca) cs.length kc, .slice dp ds.length kd, i64 z, i64 et]]) (d := (some 46)) (v := i64 (endP ((cs.length : Nat) : Int) ((ds.length : Nat) : Int) z)) hA hO Tryd.func23 (end_any (some ca) dp kc kd cs ds z et _ hc hd (by omega) (by omega)) ?_)
                clear hA hO fr; intro fr w2 hA hO
                replace hA := hA.sb (e' := [(1, pt b1), (2, bl false), (3, i64 ((cs.length : Nat) : Int)), (44, bl false), (46, i64 (endP ((cs.length : Nat) : Int) ((ds.length : Nat) : Int) z))])
                refine ck (l := [37, 38]) (r := []) (e' := [(1, pt b1), (2, bl false), (3, i64 ((cs.length : Nat) : Int)), (48, bl (decide ((endP ((cs.length : Nat) : Int) ((ds.length : Nat) : Int) z) > 3072)))]) hA [] c0 ?_
                clear hA fr; intro fr hA
                refine end_ops ?_
                refine then_normal ?_
                rcases Bool.eq_false_or_eq_true (decide ((endP ((cs.length : Nat) : Int) ((ds.length : Nat) : Int) z) > 3072)) with h8 | h8
                ·
                  replace hA := hA.bool (f := fun z_ => [(1, pt b1), (2, bl false), (3, i64 ((cs.length : Nat) : Int)), (48, .bool z_)]) h8
                  have h8p := of_decide_eq_true h8
                  refine cT hA ?_
                  refine sC (e' := [(1, pt b1), (2, bl false), (3, i64 ((cs.length : Nat) : Int))]) 1 hA [] c0 ?_
                  clear hA fr; intro fr hA
                  refine wp_ret ?_
                  refine then_ret ?_
                  refine cR (cs := [none]) (us := [bl false]) hA [] trivial ?_
                  have hF := hO.only; clear hA hO
                  exact ⟨congrArg (fun b => Ending.returned (.bool b)) (valid_no (by omega)).symm, hF⟩
                ·
                  replace hA := hA.bool (f := fun z_ => [(1, pt b1), (2, bl false), (3, i64 ((cs.length : Nat) : Int)), (48, .bool z_)]) h8
                  have h8p := of_decide_eq_false h8
                  refine cF hA ?_
                  refine wp_skip ?_
                  refine then_normal ?_
                  refine wp_seq ?_
                  refine sC (e' := [(1, pt b1), (2, bl false), (3, i64 ((cs.length : Nat) : Int)), (4, i64 0)]) 1 hA [] c0 ?_
                  clear hA fr; intro fr hA
                  refine wp_block ?_
                  refine c_loop (fun mm fr W => ∃ (i : Nat), mm = cs.length - 4 * i ∧ Holds 66 [] fr [(1, pt b1), (2, bl false), (3, i64 ((cs.length : Nat) : Int)), (4, i64 ((4 * i : Nat) : Int))] ∧ Ow Tryd.prog none' w W [(b1, 27, [.slice (some ca) cs.length kc, .slice dp ds.length kd, i64 z, i64 et])] ∧ 4 * i ≤ cs.length ∧ okAll cs i = true ∧ True) ?_ ?_
                  · exact ⟨_, 0, rfl, (hA.sub (e' := [(1, pt b1), (2, bl false), (3, i64 ((cs.length : Nat) : Int)), (4, i64 0)]) [1, 2, 3, 4] (by kernel_rfl)).cast (by kernel_rfl), hO.to, (by omega), rfl, trivial⟩
                  · rintro _ fr w3 ⟨i, rfl, hA, hO, hi, ho, -⟩
                    refine wp_seq ?_
                    refine sC (e' := [(1, pt b1), (2, bl false), (3, i64 ((cs.length : Nat) : Int)), (4, i64 ((4 * i : Nat) : Int)), (49, i64 ((4 * i : Nat) : Int)), (50, i64 ((cs.length : Nat) : Int)), (51, bl (decide (((4 * i : Nat) : Int) < ((cs.length : Nat) : Int))))]) 3 hA [] c0 ?_
                    clear hA fr; intro fr hA
                    rcases Bool.eq_false_or_eq_true (decide (((4 * i : Nat) : Int) < ((cs.length : Nat) : Int))) with h9 | h9
                    ·
                      replace hA := hA.bool (f := fun z_ => [(1, pt b1), (2, bl false), (3, i64 ((cs.length : Nat) : Int)), (4, i64 ((4 * i : Nat) : Int)), (49, i64 ((4 * i : Nat) : Int)), (50, i64 ((cs.length : Nat) : Int)), (51, .bool z_)]) h9
                      have h9p := of_decide_eq_true h9
                      refine cT hA ?_
                      refine wp_skip ?_
                      refine then_normal ?_
                      refine wp_seq ?_
                      refine wp_block ?_
                      refine sR (l := (rg 0 13)) ?_
                      refine ck (l := (rg 0 6)) (r := (rg 6 7)) (e' := [(1, pt b1), (2, bl false), (3, i64 ((cs.length : Nat) : Int)), (4, i64 ((4 * i : Nat) : Int)), (49, i64 ((4 * i : Nat) : Int)), (50, i64 ((cs.length : Nat) : Int)), (51, bl true), (55, pt b1), (56, .slice (some ca) cs.length kc), (57, i64 ((4 * i : Nat) : Int)), (58, i64 ((4 * i : Nat) : Int)), (59, i64 (((4 * i : Nat) : Int) + 4)), (60, .slice (some (atIx ca 1 ((4 * i : Nat) : Int))) (((((4 * i : Nat) : Int) + 4).toNat) - (4 * i)) ((kc) - (4 * i)))]) hA [.slice (some ca) cs.length kc, bl true, bl true] (cc (hO.l1 0 0 22 (.slice (some ca) cs.length kc)) (cc ((inK_i64 (by omega) (by omega)) : inK .i64 (((4 * i : Nat) : Int) + 4)) (cc (⟨by omega, by omega, by omega, by omega, by omega⟩ : (0 : Int) ≤ ((4 * i : Nat) : Int) ∧ ((4 * i : Nat) : Int) ≤ ((4 * i : Nat) : Int) + 4 ∧ ((4 * i : Nat) : Int) + 4 ≤ ((kc : Nat) : Int) ∧ ((kc : Nat) : Int) ≤ ((kc : Nat) : Int) ∧ ((4 * i : Nat) : Int) < ((kc : Nat) : Int)) c0))) ?_
                      clear hA fr; intro fr hA
                      replace hA := hA.int (f := fun z_ => [(1, pt b1), (2, bl false), (3, i64 ((cs.length : Nat) : Int)), (4, i64 ((4 * i : Nat) : Int)), (49, i64 ((4 * i : Nat) : Int)), (50, i64 ((cs.length : Nat) : Int)), (51, bl true), (55, pt b1), (56, .slice (some ca) cs.length kc), (57, i64 ((4 * i : Nat) : Int)), (58, i64 ((4 * i : Nat) : Int)), (59, .int .i64 z_), (60, .slice (some (atIx ca 1 ((4 * i : Nat) : Int))) (((((4 * i : Nat) : Int) + 4).toNat) - (4 * i)) ((kc) - (4 * i)))]) (by omega : ((4 * i : Nat) : Int) + 4 = ((4 * (i + 1) : Nat) : Int))
                      obtain ⟨oq1, aq1, bq1, cq1, vq1, erq1, hiq1, hrq1, hzq1, hyq1⟩ := dec_form (decX (chunk cs i))
                      refine wpOps_cons' (mK (f := 24) (args := [.slice (some (atIx ca 1 ((4 * i : Nat) : Int))) (((((4 * i : Nat) : Int) + 4).toNat) - (4 * i)) ((kc) - (4 * i))]) (d := (some 61)) (v := .tuple #[.agg #[i64 oq1, i64 aq1, i64 bq1, i64 cq1, i64 vq1], i64 erq1]) hA hO Tryd.func24 (rs (decode_any _ (chunk cs i) _ (hT.keep hO.only (fun h => h)) (SlI.as (SlI.cut (hs.keep hO.only) (by omega) (by omega) (by omega)) (chunk_cut cs i))) (by rw [hiq1, hrq1]; rfl)) ?_)
                      clear hA hO fr; intro fr w4 hA hO
                      refine ck (l := [7, 8, 9]) (r := [10, 11, 12]) (e' := [(1, pt b1), (2, bl false), (3, i64 ((cs.length : Nat) : Int)), (4, i64 ((4 * i : Nat) : Int)), (49, i64 ((4 * i : Nat) : Int)), (50, i64 ((cs.length : Nat) : Int)), (51, bl true), (54, .tuple #[.agg #[i64 oq1, i64 aq1, i64 bq1, i64 cq1, i64 vq1], i64 erq1]), (55, pt b1), (56, .slice (some ca) cs.length kc), (57, i64 ((4 * i : Nat) : Int)), (58, i64 ((4 * i : Nat) : Int)), (59, i64 ((4 * (i + 1) : Nat) : Int)), (60, .slice (some (atIx ca 1 ((4 * i : Nat) : Int))) (((((4 * i : Nat) : Int) + 4).toNat) - (4 * i)) ((kc) - (4 * i))), (61, .tuple #[.agg #[i64 oq1, i64 aq1, i64 bq1, i64 cq1, i64 vq1], i64 erq1]), (62, .agg #[i64 oq1, i64 aq1, i64 bq1, i64 cq1, i64 vq1]), (63, i64 erq1)]) hA [] c0 ?_
                      clear hA fr; intro fr hA
                      refine wpOps_cons' (mN (l := [i64 0, i64 0, i64 0, i64 0, i64 0]) (t := 46) (v := pt) (d := 5) hA hO ?_)
                      clear hA hO fr; intro fr w5 b2 hA hO
                      refine wpOps_cons' (mS (off := 0) (vc := [i64 oq1, i64 aq1, i64 bq1, i64 cq1, i64 vq1]) 0 hA hO ?_)
                      clear hO; intro w6 hO
                      refine ck (l := [12]) (r := []) (e' := [(1, pt b1), (2, bl false), (3, i64 ((cs.length : Nat) : Int)), (4, i64 ((4 * i : Nat) : Int)), (5, pt b2), (6, i64 erq1), (49, i64 ((4 * i : Nat) : Int)), (50, i64 ((cs.length : Nat) : Int)), (51, bl true), (54, .tuple #[.agg #[i64 oq1, i64 aq1, i64 bq1, i64 cq1, i64 vq1], i64 erq1]), (55, pt b1), (56, .slice (some ca) cs.length kc), (57, i64 ((4 * i : Nat) : Int)), (58, i64 ((4 * i : Nat) : Int)), (59, i64 ((4 * (i + 1) : Nat) : Int)), (60, .slice (some (atIx ca 1 ((4 * i : Nat) : Int))) (((((4 * i : Nat) : Int) + 4).toNat) - (4 * i)) ((kc) - (4 * i))), (61, .tuple #[.agg #[i64 oq1, i64 aq1, i64 bq1, i64 cq1, i64 vq1], i64 erq1]), (62, .agg #[i64 oq1, i64 aq1, i64 bq1, i64 cq1, i64 vq1]), (63, i64 erq1)]) hA [] c0 ?_
                      clear hA fr; intro fr hA
                      refine end_ops ?_
                      refine then_normal ?_
                      refine sC (e' := [(1, pt b1), (2, bl false), (3, i64 ((cs.length : Nat) : Int)), (4, i64 ((4 * i : Nat) : Int)), (5, pt b2), (6, i64 erq1), (49, i64 ((4 * i : Nat) : Int)), (50, i64 ((cs.length : Nat) : Int)), (51, bl true), (54, .tuple #[.agg #[i64 oq1, i64 aq1, i64 bq1, i64 cq1, i64 vq1], i64 erq1]), (55, pt b1), (56, .slice (some ca) cs.length kc), (57, i64 ((4 * i : Nat) : Int)), (58, i64 ((4 * i : Nat) : Int)), (59, i64 ((4 * (i + 1) : Nat) : Int)), (60, .slice (some (atIx ca 1 ((4 * i : Nat) : Int))) (((((4 * i : Nat) : Int) + 4).toNat) - (4 * i)) ((kc) - (4 * i))), (61, .tuple #[.agg #[i64 oq1, i64 aq1, i64 bq1, i64 cq1, i64 vq1], i64 erq1]), (62, .agg #[i64 oq1, i64 aq1, i64 bq1, i64 cq1, i64 vq1]), (63, i64 erq1), (64, i64 erq1), (65, bl (erq1 != 0))]) 2 hA [] c0 ?_
                      clear hA fr; intro fr hA
                      rcases Bool.eq_false_or_eq_true (erq1 != 0) with h10 | h10
                      ·
                        replace hA := hA.bool (f := fun z_ => [(1, pt b1), (2, bl false), (3, i64 ((cs.length : Nat) : Int)), (4, i64 ((4 * i : Nat) : Int)), (5, pt b2), (6, i64 erq1), (49, i64 ((4 * i : Nat) : Int)), (50, i64 ((cs.length : Nat) : Int)), (51, bl true), (54, .tuple #[.agg #[i64 oq1, i64 aq1, i64 bq1, i64 cq1, i64 vq1], i64 erq1]), (55, pt b1), (56, .slice (some ca) cs.length kc), (57, i64 ((4 * i : Nat) : Int)), (58, i64 ((4 * i : Nat) : Int)), (59, i64 ((4 * (i + 1) : Nat) : Int)), (60, .slice (some (atIx ca 1 ((4 * i : Nat) : Int))) (((((4 * i : Nat) : Int) + 4).toNat) - (4 * i)) ((kc) - (4 * i))), (61, .tuple #[.agg #[i64 oq1, i64 aq1, i64 bq1, i64 cq1, i64 vq1], i64 erq1]), (62, .agg #[i64 oq1, i64 aq1, i64 bq1, i64 cq1, i64 vq1]), (63, i64 erq1), (64, i64 erq1), (65, .bool z_)]) h10
                        have h10p := ne_of_bne h10
                        refine cT hA ?_
                        refine sC (e' := [(1, pt b1), (2, bl false), (3, i64 ((cs.length : Nat) : Int)), (4, i64 ((4 * i : Nat) : Int)), (5, pt b2), (6, i64 erq1), (49, i64 ((4 * i : Nat) : Int)), (50, i64 ((cs.length : Nat) : Int)), (51, bl true), (54, .tuple #[.agg #[i64 oq1, i64 aq1, i64 bq1, i64 cq1, i64 vq1], i64 erq1]), (55, pt b1), (56, .slice (some ca) cs.length kc), (57, i64 ((4 * i : Nat) : Int)), (58, i64 ((4 * i : Nat) : Int)), (59, i64 ((4 * (i + 1) : Nat) : Int)), (60, .slice (some (atIx ca 1 ((4 * i : Nat) : Int))) (((((4 * i : Nat) : Int) + 4).toNat) - (4 * i)) ((kc) - (4 * i))), (61, .tuple #[.agg #[i64 oq1, i64 aq1, i64 bq1, i64 cq1, i64 vq1], i64 erq1]), (62, .agg #[i64 oq1, i64 aq1, i64 bq1, i64 cq1, i64 vq1]), (63, i64 erq1), (64, i64 erq1), (65, bl true)]) 1 hA [] c0 ?_
                        clear hA fr; intro fr hA
                        refine wp_ret ?_
                        refine inBlock_ret ?_
                        refine then_ret ?_
                        refine then_ret ?_
                        refine inBlock_ret ?_
                        refine then_ret ?_
                        refine cR (cs := [none]) (us := [bl false]) hA [] trivial ?_
                        have hF := hO.only; clear hA hO
                        exact ⟨congrArg (fun b => Ending.returned (.bool b)) (valid_chunk (i := i) (fun hh => by have := hyq1.1 hh; omega) (by omega)).symm, hF⟩
                      ·
                        replace hA := hA.bool (f := fun z_ => [(1, pt b1), (2, bl false), (3, i64 ((cs.length : Nat) : Int)), (4, i64 ((4 * i : Nat) : Int)), (5, pt b2), (6, i64 erq1), (49, i64 ((4 * i : Nat) : Int)), (50, i64 ((cs.length : Nat) : Int)), (51, bl true), (54, .tuple #[.agg #[i64 oq1, i64 aq1, i64 bq1, i64 cq1, i64 vq1], i64 erq1]), (55, pt b1), (56, .slice (some ca) cs.length kc), (57, i64 ((4 * i : Nat) : Int)), (58, i64 ((4 * i : Nat) : Int)), (59, i64 ((4 * (i + 1) : Nat) : Int)), (60, .slice (some (atIx ca 1 ((4 * i : Nat) : Int))) (((((4 * i : Nat) : Int) + 4).toNat) - (4 * i)) ((kc) - (4 * i))), (61, .tuple #[.agg #[i64 oq1, i64 aq1, i64 bq1, i64 cq1, i64 vq1], i64 erq1]), (62, .agg #[i64 oq1, i64 aq1, i64 bq1, i64 cq1, i64 vq1]), (63, i64 erq1), (64, i64 erq1), (65, .bool z_)]) h10
                        have h10p := eq_of_bne_false h10
                        refine cF hA ?_
                        refine wp_skip ?_
                        refine inBlock_normal ?_
                        refine then_normal ?_
                        refine rC (e' := [(1, pt b1), (2, bl false), (3, i64 ((cs.length : Nat) : Int)), (4, i64 (((4 * i : Nat) : Int) + 4)), (5, pt b2), (6, i64 erq1), (49, i64 ((4 * i : Nat) : Int)), (50, i64 ((cs.length : Nat) : Int)), (51, bl true), (52, i64 ((4 * i : Nat) : Int)), (53, i64 (((4 * i : Nat) : Int) + 4)), (54, .tuple #[.agg #[i64 oq1, i64 aq1, i64 bq1, i64 cq1, i64 vq1], i64 erq1]), (55, pt b1), (56, .slice (some ca) cs.length kc), (57, i64 ((4 * i : Nat) : Int)), (58, i64 ((4 * i : Nat) : Int)), (59, i64 ((4 * (i + 1) : Nat) : Int)), (60, .slice (some (atIx ca 1 ((4 * i : Nat) : Int))) (((((4 * i : Nat) : Int) + 4).toNat) - (4 * i)) ((kc) - (4 * i))), (61, .tuple #[.agg #[i64 oq1, i64 aq1, i64 bq1, i64 cq1, i64 vq1], i64 erq1]), (62, .agg #[i64 oq1, i64 aq1, i64 bq1, i64 cq1, i64 vq1]), (63, i64 erq1), (64, i64 erq1), (65, bl false)]) 3 hA [bl true] (cc ((inK_i64 (by omega) (by omega)) : inK .i64 (((4 * i : Nat) : Int) + 4)) c0) ?_
                        clear hA fr; intro fr hA
                        replace hA := hA.int (f := fun z_ => [(1, pt b1), (2, bl false), (3, i64 ((cs.length : Nat) : Int)), (4, .int .i64 z_), (5, pt b2), (6, i64 erq1), (49, i64 ((4 * i : Nat) : Int)), (50, i64 ((cs.length : Nat) : Int)), (51, bl true), (52, i64 ((4 * i : Nat) : Int)), (53, .int .i64 z_), (54, .tuple #[.agg #[i64 oq1, i64 aq1, i64 bq1, i64 cq1, i64 vq1], i64 erq1]), (55, pt b1), (56, .slice (some ca) cs.length kc), (57, i64 ((4 * i : Nat) : Int)), (58, i64 ((4 * i : Nat) : Int)), (59, i64 ((4 * (i + 1) : Nat) : Int)), (60, .slice (some (atIx ca 1 ((4 * i : Nat) : Int))) (((((4 * i : Nat) : Int) + 4).toNat) - (4 * i)) ((kc) - (4 * i))), (61, .tuple #[.agg #[i64 oq1, i64 aq1, i64 bq1, i64 cq1, i64 vq1], i64 erq1]), (62, .agg #[i64 oq1, i64 aq1, i64 bq1, i64 cq1, i64 vq1]), (63, i64 erq1), (64, i64 erq1), (65, bl false)]) (by omega : ((4 * i : Nat) : Int) + 4 = ((4 * (i + 1) : Nat) : Int))
                        refine then_normal ?_
                        exact ⟨_, by omega, i + 1, rfl, (hA.sub (e' := [(1, pt b1), (2, bl false), (3, i64 ((cs.length : Nat) : Int)), (4, i64 ((4 * (i + 1) : Nat) : Int))]) [1, 2, 3, 4] (by kernel_rfl)).cast (by kernel_rfl), (hO.sub [1]), (by omega), (by simp only [okAll, ho, Bool.true_and]; exact hyq1.2 (by omega)), trivial⟩
                    ·
                      replace hA := hA.bool (f := fun z_ => [(1, pt b1), (2, bl false), (3, i64 ((cs.length : Nat) : Int)), (4, i64 ((4 * i : Nat) : Int)), (49, i64 ((4 * i : Nat) : Int)), (50, i64 ((cs.length : Nat) : Int)), (51, .bool z_)]) h9
                      have h9p := of_decide_eq_false h9
                      refine cF hA ?_
                      refine wp_exit ?_
                      refine then_exit ?_
                      refine then_exit ?_
                      refine inBlock_exit ?_
                      refine then_normal ?_
                      refine sC (e' := [(2, bl true)]) 1 hA [] c0 ?_
                      clear hA fr; intro fr hA
                      refine wp_ret ?_
                      refine cR (cs := [none]) (us := [bl true]) hA [] trivial ?_
                      have hF := hO.only; clear hA hO
                      exact ⟨congrArg (fun b => Ending.returned (.bool b)) (valid_yes (i := i) (by omega) ho (by omega)).symm, hF⟩

theorem valid_any (cp dp : Option Addr) (kc kd : Nat) (cs ds : List Int) (z et : Int) (w : World) (hc : cs.length ≤ 2000) (hd : ds.length ≤ 2000) (hT : Tab w) (hs : SlI w (.slice cp cs.length kc) cs) (hkc : cs.length ≤ kc) :
    Calls Tryd.prog 9 #[.agg #[.slice cp cs.length kc, .slice dp ds.length kd, .int .i64 z, .int .i64 et]] w fun e w' => e = .returned (.bool (validB cs ((ds.length : Nat) : Int) z et)) ∧ Only none' w w' := by
  rcases hs.2 with ⟨e, rfl⟩ | ⟨ca, cap, e, _⟩
  · cases e
    have : validB [] ((ds.length : Nat) : Int) z et = false := valid_no (by simp)
    rw [this]
    exact valid_nil dp kd ds z et w
  · cases e
    exact valid_some ca dp kc kd cs ds z et w hc hd hT hs hkc

end Go.Proofs.YtkfnkcpdabdboaaDoor
