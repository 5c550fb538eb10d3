/- The layer exe: the reference: up, size, Valid. -/
import Derived.Test.YtkfnkcpdabdboaaDoorPages
import Derived.Test.YtkfnkcpdabdboaaDoorRdecode
set_option linter.unusedVariables false
set_option linter.unusedSimpArgs false
set_option maxRecDepth 10000
namespace Go.Proofs.YtkfnkcpdabdboaaDoor
open Go Go.RowKit Go.Proofs.Sx

theorem rup_any (x : Int) (w : World) (h0 : 0 ≤ x) (h1 : x ≤ 2000000) :
    Calls Tryd.prog 34 #[i64 x] w fun e w' => e = .returned (.int .i64 ((x + 127) / 128)) ∧ Only none' w w' := by
  refine c_enter (args := [i64 x]) (m := 6) (n := 7) Tryd.func34 rfl (by kernel_rfl) (by kernel_rfl) fun fr hA => ?_
  have hO := Ow.nil Tryd.prog none' w
  refine sC (e' := [(0, i64 x), (2, i64 0)]) 1 hA [] c0 ?_
  clear hA fr; intro fr hA
  refine sC (e' := [(2, i64 (((x + 128) - 1) / 128))]) 5 hA [bl true, bl true, bl true] (cc ((inK_i64 (by omega) (by omega)) : inK .i64 (x + 128)) (cc ((inK_i64 (by omega) (by omega)) : inK .i64 ((x + 128) - 1)) (cc (⟨by omega, by omega, inK_i64 (by omega) (by omega)⟩ : (0 : Int) ≤ (x + 128) - 1 ∧ (0 : Int) < 128 ∧ inK .i64 ((x + 128) - 1)) c0))) ?_
  clear hA fr; intro fr hA
  refine wp_ret ?_
  refine cR (cs := [none]) (us := [i64 (((x + 128) - 1) / 128)]) hA [] trivial ?_
  have hF := hO.only; clear hA hO
  exact ⟨by rw [show x + 127 = x + 128 - 1 by omega]; rfl, hF⟩

theorem rsize_any (cp dp : Option Addr) (kc kd : Nat) (cs ds : List Int) (z et : Int) (w : World) (hc : cs.length ≤ 2000) (hd : ds.length ≤ 2000) (h0 : 0 ≤ z) (h1 : z ≤ 1048576) :
    Calls Tryd.prog 33 #[.agg #[.slice cp cs.length kc, .slice dp ds.length kd, i64 z, i64 et]] w fun e w' => e = .returned (.int .i64 (((((cs.length : Nat) : Int) + 127) / 128 + (((ds.length : Nat) : Int) + z + 127) / 128))) ∧ Only none' w w' := by
  refine c_enter (args := [.agg #[.slice cp cs.length kc, .slice dp ds.length kd, i64 z, i64 et]]) (m := 14) (n := 15) Tryd.func33 rfl (by kernel_rfl) (by kernel_rfl) fun fr hA => ?_
  have hO := Ow.nil Tryd.prog none' w
  refine sR (l := [0, 1]) ?_
  refine wpOps_cons' (mN (l := [.slice cp cs.length kc, .slice dp ds.length kd, i64 z, i64 et]) (t := 24) (v := pt) (d := 1) hA hO ?_)
  clear hA hO fr; intro fr w1 b1 hA hO
  replace hA := hA.sb (e' := [(1, pt b1)])
  refine ck (l := [1]) (r := []) (e' := [(1, pt b1), (2, i64 0)]) hA [] c0 ?_
  clear hA fr; intro fr hA
  refine end_ops ?_
  refine then_normal ?_
  refine wp_seq ?_
  have hS := hO
  refine rP [(0, true), (1, true), (2, true), (4, true), (5, true), (6, true), (7, true), (8, true), (9, true), (3, false), (10, false), (11, true), (12, true)] hS ?_
  intro w2 ho; replace hO := hO.st ho; clear ho
  refine ckS (l := [0, 1, 2, 4, 5, 6, 7, 8, 9]) (r := [(3, false), (10, false), (11, true), (12, true)]) (e' := [(2, i64 0), (5, i64 ((cs.length : Nat) : Int)), (12, i64 (((ds.length : Nat) : Int) + z))]) hA [.slice cp cs.length kc, .slice dp ds.length kd, i64 z, bl true] (cc (hS.s1 0 0 22 (.slice cp cs.length kc)) (cc (hS.s1 0 1 22 (.slice dp ds.length kd)) (cc (hS.s1 0 2 3 (i64 z)) (cc ((inK_i64 (by omega) (by omega)) : inK .i64 (((ds.length : Nat) : Int) + z)) c0)))) ?_
  clear hA fr; intro fr hA
  refine plan_mem (mK (f := 34) (args := [i64 ((cs.length : Nat) : Int)]) (d := (some 6)) (v := i64 ((((cs.length : Nat) : Int) + 127) / 128)) hA hO Tryd.func34 (rup_any ((cs.length : Nat) : Int) _ (by omega) (by omega)) ?_)
  clear hA hO fr; intro fr w3 hA hO
  refine ⟨hO, ?_⟩
  replace hA := hA.sb (e' := [(2, i64 0), (6, i64 ((((cs.length : Nat) : Int) + 127) / 128)), (12, i64 (((ds.length : Nat) : Int) + z))])
  refine plan_mem (mK (f := 34) (args := [i64 (((ds.length : Nat) : Int) + z)]) (d := (some 13)) (v := i64 (((((ds.length : Nat) : Int) + z) + 127) / 128)) hA hO Tryd.func34 (rup_any (((ds.length : Nat) : Int) + z) _ (by omega) (by omega)) ?_)
  clear hA hO fr; intro fr w4 hA hO
  refine ⟨hO, ?_⟩
  replace hA := hA.sb (e' := [(2, i64 0), (6, i64 ((((cs.length : Nat) : Int) + 127) / 128)), (13, i64 (((((ds.length : Nat) : Int) + z) + 127) / 128))])
  refine ckS (l := [11, 12]) (r := []) (e' := [(2, i64 (((((cs.length : Nat) : Int) + 127) / 128) + (((((ds.length : Nat) : Int) + z) + 127) / 128)))]) hA [bl true] (cc ((inK_i64 (by omega) (by omega)) : inK .i64 (((((cs.length : Nat) : Int) + 127) / 128) + (((((ds.length : Nat) : Int) + z) + 127) / 128))) c0) ?_
  clear hA fr; intro fr hA
  refine end_plan ?_
  refine then_normal ?_
  refine wp_ret ?_
  refine cR (cs := [none]) (us := [i64 (((((cs.length : Nat) : Int) + 127) / 128) + (((((ds.length : Nat) : Int) + z) + 127) / 128))]) hA [] trivial ?_
  have hF := hO.only; clear hA hO
  exact ⟨rfl, hF⟩

theorem rend {cn dn z : Int} (h0 : 0 ≤ cn) (h1 : 0 ≤ dn) (h2 : 0 ≤ z) : endP cn dn z = 128 * ((cn + 127) / 128 + (dn + z + 127) / 128) := by
  unfold endP upP; omega

theorem rvalid_nil (dp : Option Addr) (kd : Nat) (ds : List Int) (z et : Int) (w : World) :
    Calls Tryd.prog 16 #[.agg #[.slice none 0 0, .slice dp ds.length kd, i64 z, i64 et]] w fun e w' => e = .returned (.bool false) ∧ Only none' w w' := by
  refine c_enter (args := [.agg #[.slice none 0 0, .slice dp ds.length kd, i64 z, i64 et]]) (m := 73) (n := 74) Tryd.func16 rfl (by kernel_rfl) (by kernel_rfl) fun fr hA => ?_
  have hO := Ow.nil Tryd.prog none' w
  refine sR (l := [0, 1]) ?_
  refine wpOps_cons' (mN (l := [.slice none 0 0, .slice dp ds.length kd, i64 z, i64 et]) (t := 24) (v := pt) (d := 1) hA hO ?_)
  clear hA hO fr; intro fr w1 b1 hA hO
  replace hA := hA.sb (e' := [(1, pt b1)])
  refine ck (l := [1]) (r := []) (e' := [(1, pt b1), (2, bl false)]) hA [] c0 ?_
  clear hA fr; intro fr hA
  refine end_ops ?_
  refine then_normal ?_
  refine wp_seq ?_
  refine sC (e' := [(1, pt b1), (2, bl false), (51, bl true)]) 46 hA [.slice none 0 0] (cc (hO.l1 0 0 22 (.slice none 0 0)) c0) ?_
  clear hA fr; intro fr hA
  refine cT hA ?_
  refine sC (e' := [(1, pt b1), (2, bl false)]) 1 hA [] c0 ?_
  clear hA fr; intro fr hA
  refine wp_ret ?_
  refine then_ret ?_
  refine cR (cs := [none]) (us := [bl false]) hA [] trivial ?_
  have hF := hO.only; clear hA hO
  exact ⟨rfl, hF⟩

theorem rvalid_some (ca : Addr) (dp : Option Addr) (kc kd : Nat) (cs ds : List Int) (z et : Int) (w : World) (hc : cs.length ≤ 2000) (hd : ds.length ≤ 2000) (hs : SlI w (.slice (some ca) cs.length kc) cs) (hkc : cs.length ≤ kc) :
    Calls Tryd.prog 16 #[.agg #[.slice (some ca) cs.length kc, .slice dp ds.length kd, i64 z, i64 et]] w fun e w' => e = .returned (.bool (validB cs ((ds.length : Nat) : Int) z et)) ∧ Only none' w w' := by
  refine c_enter (args := [.agg #[.slice (some ca) cs.length kc, .slice dp ds.length kd, i64 z, i64 et]]) (m := 73) (n := 74) Tryd.func16 rfl (by kernel_rfl) (by kernel_rfl) fun fr hA => ?_
  have hO := Ow.nil Tryd.prog none' w
  refine sR (l := [0, 1]) ?_
  refine wpOps_cons' (mN (l := [.slice (some ca) cs.length kc, .slice dp ds.length kd, i64 z, i64 et]) (t := 24) (v := pt) (d := 1) hA hO ?_)
  clear hA hO fr; intro fr w1 b1 hA hO
  replace hA := hA.sb (e' := [(1, pt b1)])
  refine ck (l := [1]) (r := []) (e' := [(1, pt b1), (2, bl false)]) hA [] c0 ?_
  clear hA fr; intro fr hA
  refine end_ops ?_
  refine then_normal ?_
  refine wp_seq ?_
  refine sR (l := (rg 0 46)) ?_
  refine ck (l := (rg 0 5)) (r := (rg 5 41)) (e' := [(1, pt b1), (2, bl false), (9, bl (decide (((cs.length : Nat) : Int) < 4))), (10, bl (decide (((cs.length : Nat) : Int) < 4)))]) hA [.slice (some ca) cs.length kc] (cc (hO.l1 0 0 22 (.slice (some ca) cs.length kc)) c0) ?_
  clear hA fr; intro fr hA
  rcases Bool.eq_false_or_eq_true (decide (((cs.length : Nat) : Int) < 4)) with h1 | h1
  ·
    replace hA := hA.bool (f := fun z_ => [(1, pt b1), (2, bl false), (9, .bool z_), (10, .bool z_)]) h1
    have h1p := of_decide_eq_true h1
    refine ck (l := (rg 5 41)) (r := []) (e' := [(1, pt b1), (2, bl false), (51, bl true)]) hA [] c0 ?_
    clear hA fr; intro fr hA
    refine end_ops ?_
    refine then_normal ?_
    refine cT hA ?_
    refine sC (e' := [(1, pt b1), (2, bl false)]) 1 hA [] c0 ?_
    clear hA fr; intro fr hA
    refine wp_ret ?_
    refine then_ret ?_
    refine cR (cs := [none]) (us := [bl false]) hA [] trivial ?_
    have hF := hO.only; clear hA hO
    have hrend := rend (cn := ((cs.length : Nat) : Int)) (dn := ((ds.length : Nat) : Int)) (z := z)
    exact ⟨congrArg (fun b => Ending.returned (.bool b)) (valid_no (by omega)).symm, hF⟩
  ·
    replace hA := hA.bool (f := fun z_ => [(1, pt b1), (2, bl false), (9, .bool z_), (10, .bool z_)]) h1
    have h1p := of_decide_eq_false h1
    refine ck (l := (rg 5 7)) (r := (rg 12 34)) (e' := [(1, pt b1), (2, bl false), (15, bl ((((cs.length : Nat) : Int) % 4) != 0)), (16, bl ((((cs.length : Nat) : Int) % 4) != 0)), (17, bl ((((cs.length : Nat) : Int) % 4) != 0))]) hA [.slice (some ca) cs.length kc, bl true] (cc (hO.l1 0 0 22 (.slice (some ca) cs.length kc)) (cc (⟨by omega, by omega, inK_i64 (by omega) (by omega)⟩ : (0 : Int) ≤ ((cs.length : Nat) : Int) ∧ (0 : Int) < 4 ∧ inK .i64 ((cs.length : Nat) : Int)) c0)) ?_
    clear hA fr; intro fr hA
    rcases Bool.eq_false_or_eq_true ((((cs.length : Nat) : Int) % 4) != 0) with h2 | h2
    ·
      replace hA := hA.bool (f := fun z_ => [(1, pt b1), (2, bl false), (15, .bool z_), (16, .bool z_), (17, .bool z_)]) h2
      have h2p := ne_of_bne h2
      refine ck (l := (rg 12 34)) (r := []) (e' := [(1, pt b1), (2, bl false), (51, bl true)]) hA [] c0 ?_
      clear hA fr; intro fr hA
      refine end_ops ?_
      refine then_normal ?_
      refine cT hA ?_
      refine sC (e' := [(1, pt b1), (2, bl false)]) 1 hA [] c0 ?_
      clear hA fr; intro fr hA
      refine wp_ret ?_
      refine then_ret ?_
      refine cR (cs := [none]) (us := [bl false]) hA [] trivial ?_
      have hF := hO.only; clear hA hO
      have hrend := rend (cn := ((cs.length : Nat) : Int)) (dn := ((ds.length : Nat) : Int)) (z := z)
      exact ⟨congrArg (fun b => Ending.returned (.bool b)) (valid_no (by omega)).symm, hF⟩
    ·
      replace hA := hA.bool (f := fun z_ => [(1, pt b1), (2, bl false), (15, .bool z_), (16, .bool z_), (17, .bool z_)]) h2
      have h2p := eq_of_bne_false h2
      refine ck (l := (rg 12 5)) (r := (rg 17 29)) (e' := [(1, pt b1), (2, bl false), (20, bl (decide (et < 0))), (21, bl (decide (et < 0))), (22, bl (decide (et < 0)))]) hA [i64 et] (cc (hO.l1 0 3 3 (i64 et)) c0) ?_
      clear hA fr; intro fr hA
      rcases Bool.eq_false_or_eq_true (decide (et < 0)) with h3 | h3
      ·
        replace hA := hA.bool (f := fun z_ => [(1, pt b1), (2, bl false), (20, .bool z_), (21, .bool z_), (22, .bool z_)]) h3
        have h3p := of_decide_eq_true h3
        refine ck (l := (rg 17 29)) (r := []) (e' := [(1, pt b1), (2, bl false), (51, bl true)]) hA [] c0 ?_
        clear hA fr; intro fr hA
        refine end_ops ?_
        refine then_normal ?_
        refine cT hA ?_
        refine sC (e' := [(1, pt b1), (2, bl false)]) 1 hA [] c0 ?_
        clear hA fr; intro fr hA
        refine wp_ret ?_
        refine then_ret ?_
        refine cR (cs := [none]) (us := [bl false]) hA [] trivial ?_
        have hF := hO.only; clear hA hO
        have hrend := rend (cn := ((cs.length : Nat) : Int)) (dn := ((ds.length : Nat) : Int)) (z := z)
        exact ⟨congrArg (fun b => Ending.returned (.bool b)) (valid_no (by omega)).symm, hF⟩
      ·
        replace hA := hA.bool (f := fun z_ => [(1, pt b1), (2, bl false), (20, .bool z_), (21, .bool z_), (22, .bool z_)]) h3
        have h3p := of_decide_eq_false h3
        refine ck (l := (rg 17 8)) (r := (rg 25 21)) (e' := [(1, pt b1), (2, bl false), (28, bl (decide (et ≥ ((cs.length : Nat) : Int)))), (29, bl (decide (et ≥ ((cs.length : Nat) : Int)))), (30, bl (decide (et ≥ ((cs.length : Nat) : Int))))]) hA [i64 et, .slice (some ca) cs.length kc] (cc (hO.l1 0 3 3 (i64 et)) (cc (hO.l1 0 0 22 (.slice (some ca) cs.length kc)) c0)) ?_
        clear hA fr; intro fr hA
        rcases Bool.eq_false_or_eq_true (decide (et ≥ ((cs.length : Nat) : Int))) with h4 | h4
        ·
          replace hA := hA.bool (f := fun z_ => [(1, pt b1), (2, bl false), (28, .bool z_), (29, .bool z_), (30, .bool z_)]) h4
          have h4p := of_decide_eq_true h4
          refine ck (l := (rg 25 21)) (r := []) (e' := [(1, pt b1), (2, bl false), (51, bl true)]) hA [] c0 ?_
          clear hA fr; intro fr hA
          refine end_ops ?_
          refine then_normal ?_
          refine cT hA ?_
          refine sC (e' := [(1, pt b1), (2, bl false)]) 1 hA [] c0 ?_
          clear hA fr; intro fr hA
          refine wp_ret ?_
          refine then_ret ?_
          refine cR (cs := [none]) (us := [bl false]) hA [] trivial ?_
          have hF := hO.only; clear hA hO
          have hrend := rend (cn := ((cs.length : Nat) : Int)) (dn := ((ds.length : Nat) : Int)) (z := z)
          exact ⟨congrArg (fun b => Ending.returned (.bool b)) (valid_no (by omega)).symm, hF⟩
        ·
          replace hA := hA.bool (f := fun z_ => [(1, pt b1), (2, bl false), (28, .bool z_), (29, .bool z_), (30, .bool z_)]) h4
          have h4p := of_decide_eq_false h4
          refine ck (l := (rg 25 6)) (r := (rg 31 15)) (e' := [(1, pt b1), (2, bl false), (34, bl ((et % 4) != 0)), (35, bl ((et % 4) != 0)), (36, bl ((et % 4) != 0))]) hA [i64 et, bl true] (cc (hO.l1 0 3 3 (i64 et)) (cc (⟨by omega, by omega, inK_i64 (by omega) (by omega)⟩ : (0 : Int) ≤ et ∧ (0 : Int) < 4 ∧ inK .i64 et) c0)) ?_
          clear hA fr; intro fr hA
          rcases Bool.eq_false_or_eq_true ((et % 4) != 0) with h5 | h5
          ·
            replace hA := hA.bool (f := fun z_ => [(1, pt b1), (2, bl false), (34, .bool z_), (35, .bool z_), (36, .bool z_)]) h5
            have h5p := ne_of_bne h5
            refine ck (l := (rg 31 15)) (r := []) (e' := [(1, pt b1), (2, bl false), (51, bl true)]) hA [] c0 ?_
            clear hA fr; intro fr hA
            refine end_ops ?_
            refine then_normal ?_
            refine cT hA ?_
            refine sC (e' := [(1, pt b1), (2, bl false)]) 1 hA [] c0 ?_
            clear hA fr; intro fr hA
            refine wp_ret ?_
            refine then_ret ?_
            refine cR (cs := [none]) (us := [bl false]) hA [] trivial ?_
            have hF := hO.only; clear hA hO
            have hrend := rend (cn := ((cs.length : Nat) : Int)) (dn := ((ds.length : Nat) : Int)) (z := z)
            exact ⟨congrArg (fun b => Ending.returned (.bool b)) (valid_no (by omega)).symm, hF⟩
          ·
            replace hA := hA.bool (f := fun z_ => [(1, pt b1), (2, bl false), (34, .bool z_), (35, .bool z_), (36, .bool z_)]) h5
            have h5p := eq_of_bne_false h5
            refine ck (l := (rg 31 5)) (r := (rg 36 10)) (e' := [(1, pt b1), (2, bl false), (39, bl (decide (z < 0))), (40, bl (decide (z < 0))), (41, bl (decide (z < 0)))]) hA [i64 z] (cc (hO.l1 0 2 3 (i64 z)) c0) ?_
            clear hA fr; intro fr hA
            rcases Bool.eq_false_or_eq_true (decide (z < 0)) with h6 | h6
            ·
              replace hA := hA.bool (f := fun z_ => [(1, pt b1), (2, bl false), (39, .bool z_), (40, .bool z_), (41, .bool z_)]) h6
              have h6p := of_decide_eq_true h6
              refine ck (l := (rg 36 10)) (r := []) (e' := [(1, pt b1), (2, bl false), (51, bl true)]) hA [] c0 ?_
              clear hA fr; intro fr hA
              refine end_ops ?_
              refine then_normal ?_
              refine cT hA ?_
              refine sC (e' := [(1, pt b1), (2, bl false)]) 1 hA [] c0 ?_
              clear hA fr; intro fr hA
              refine wp_ret ?_
              refine then_ret ?_
              refine cR (cs := [none]) (us := [bl false]) hA [] trivial ?_
              have hF := hO.only; clear hA hO
              have hrend := rend (cn := ((cs.length : Nat) : Int)) (dn := ((ds.length : Nat) : Int)) (z := z)
              exact ⟨congrArg (fun b => Ending.returned (.bool b)) (valid_no (by omega)).symm, hF⟩
            ·
              replace hA := hA.bool (f := fun z_ => [(1, pt b1), (2, bl false), (39, .bool z_), (40, .bool z_), (41, .bool z_)]) h6
              have h6p := of_decide_eq_false h6
              refine ck (l := (rg 36 5)) (r := (rg 41 5)) (e' := [(1, pt b1), (2, bl false), (44, bl (decide (z > 1048576))), (45, bl (decide (z > 1048576))), (46, bl (decide (z > 1048576)))]) hA [i64 z] (cc (hO.l1 0 2 3 (i64 z)) c0) ?_
              clear hA fr; intro fr hA
              rcases Bool.eq_false_or_eq_true (decide (z > 1048576)) with h7 | h7
              ·
                replace hA := hA.bool (f := fun z_ => [(1, pt b1), (2, bl false), (44, .bool z_), (45, .bool z_), (46, .bool z_)]) h7
                have h7p := of_decide_eq_true h7
                refine ck (l := (rg 41 5)) (r := []) (e' := [(1, pt b1), (2, bl false), (51, bl true)]) hA [] c0 ?_
                clear hA fr; intro fr hA
                refine end_ops ?_
                refine then_normal ?_
                refine cT hA ?_
                refine sC (e' := [(1, pt b1), (2, bl false)]) 1 hA [] c0 ?_
                clear hA fr; intro fr hA
                refine wp_ret ?_
                refine then_ret ?_
                refine cR (cs := [none]) (us := [bl false]) hA [] trivial ?_
                have hF := hO.only; clear hA hO
                have hrend := rend (cn := ((cs.length : Nat) : Int)) (dn := ((ds.length : Nat) : Int)) (z := z)
                exact ⟨congrArg (fun b => Ending.returned (.bool b)) (valid_no (by omega)).symm, hF⟩
              ·
                replace hA := hA.bool (f := fun z_ => [(1, pt b1), (2, bl false), (44, .bool z_), (45, .bool z_), (46, .bool z_)]) h7
                have h7p := of_decide_eq_false h7
                refine ck (l := (rg 41 5)) (r := []) (e' := [(1, pt b1), (2, bl false), (51, bl (decide (((ds.length : Nat) : Int) > 1048576)))]) hA [.slice dp ds.length kd] (cc (hO.l1 0 1 22 (.slice dp ds.length kd)) c0) ?_
                clear hA fr; intro fr hA
                refine end_ops ?_
                refine then_normal ?_
                rcases Bool.eq_false_or_eq_true (decide (((ds.length : Nat) : Int) > 1048576)) with h8 | h8
                ·
                  replace hA := hA.bool (f := fun z_ => [(1, pt b1), (2, bl false), (51, .bool z_)]) h8
                  have h8p := of_decide_eq_true h8
                  refine cT hA ?_
                  refine sC (e' := [(1, pt b1), (2, bl false)]) 1 hA [] c0 ?_
                  clear hA fr; intro fr hA
                  refine wp_ret ?_
                  refine then_ret ?_
                  refine cR (cs := [none]) (us := [bl false]) hA [] trivial ?_
                  have hF := hO.only; clear hA hO
                  have hrend := rend (cn := ((cs.length : Nat) : Int)) (dn := ((ds.length : Nat) : Int)) (z := z)
                  exact ⟨congrArg (fun b => Ending.returned (.bool b)) (valid_no (by omega)).symm, hF⟩
                ·
                  replace hA := hA.bool (f := fun z_ => [(1, pt b1), (2, bl false), (51, .bool z_)]) h8
                  have h8p := of_decide_eq_false h8
                  refine cF hA ?_
                  refine wp_skip ?_
                  refine then_normal ?_
                  refine wp_seq ?_
                  refine sC (e' := [(1, pt b1), (2, bl false), (3, i64 0)]) 1 hA [] c0 ?_
                  clear hA fr; intro fr hA
                  refine wp_block ?_
                  refine c_loop (fun mm fr W => ∃ (i : Nat), mm = cs.length - 4 * i ∧ Holds 74 [] fr [(1, pt b1), (2, bl false), (3, i64 ((4 * i : Nat) : Int))] ∧ Ow Tryd.prog none' w W [(b1, 24, [.slice (some ca) cs.length kc, .slice dp ds.length kd, i64 z, i64 et])] ∧ 4 * i ≤ cs.length ∧ okAll cs i = true ∧ True) ?_ ?_
                  · exact ⟨_, 0, rfl, (hA.sub (e' := [(1, pt b1), (2, bl false), (3, i64 0)]) [1, 2, 3] (by kernel_rfl)).cast (by kernel_rfl), hO.to, (by omega), rfl, trivial⟩
                  · rintro _ fr w2 ⟨i, rfl, hA, hO, hi, ho, -⟩
                    refine wp_seq ?_
                    refine sC (e' := [(1, pt b1), (2, bl false), (3, i64 ((4 * i : Nat) : Int)), (52, i64 ((4 * i : Nat) : Int)), (53, pt b1), (54, .slice (some ca) cs.length kc), (55, i64 ((cs.length : Nat) : Int)), (56, bl (decide (((4 * i : Nat) : Int) < ((cs.length : Nat) : Int))))]) 5 hA [.slice (some ca) cs.length kc] (cc (hO.l1 0 0 22 (.slice (some ca) cs.length kc)) c0) ?_
                    clear hA fr; intro fr hA
                    rcases Bool.eq_false_or_eq_true (decide (((4 * i : Nat) : Int) < ((cs.length : Nat) : Int))) with h9 | h9
                    ·
                      replace hA := hA.bool (f := fun z_ => [(1, pt b1), (2, bl false), (3, i64 ((4 * i : Nat) : Int)), (52, i64 ((4 * i : Nat) : Int)), (53, pt b1), (54, .slice (some ca) cs.length kc), (55, i64 ((cs.length : Nat) : Int)), (56, .bool z_)]) h9
                      have h9p := of_decide_eq_true h9
                      refine cT hA ?_
                      refine wp_skip ?_
                      refine then_normal ?_
                      refine wp_seq ?_
                      refine wp_block ?_
                      refine sR (l := (rg 0 13)) ?_
                      refine ck (l := (rg 0 6)) (r := (rg 6 7)) (e' := [(1, pt b1), (2, bl false), (3, i64 ((4 * i : Nat) : Int)), (52, i64 ((4 * i : Nat) : Int)), (53, pt b1), (54, .slice (some ca) cs.length kc), (55, i64 ((cs.length : Nat) : Int)), (56, bl true), (60, pt b1), (61, .slice (some ca) cs.length kc), (62, i64 ((4 * i : Nat) : Int)), (63, i64 ((4 * i : Nat) : Int)), (64, i64 (((4 * i : Nat) : Int) + 4)), (65, .slice (some (atIx ca 1 ((4 * i : Nat) : Int))) (((((4 * i : Nat) : Int) + 4).toNat) - (4 * i)) ((kc) - (4 * i)))]) hA [.slice (some ca) cs.length kc, bl true, bl true] (cc (hO.l1 0 0 22 (.slice (some ca) cs.length kc)) (cc ((inK_i64 (by omega) (by omega)) : inK .i64 (((4 * i : Nat) : Int) + 4)) (cc (⟨by omega, by omega, by omega, by omega, by omega⟩ : (0 : Int) ≤ ((4 * i : Nat) : Int) ∧ ((4 * i : Nat) : Int) ≤ ((4 * i : Nat) : Int) + 4 ∧ ((4 * i : Nat) : Int) + 4 ≤ ((kc : Nat) : Int) ∧ ((kc : Nat) : Int) ≤ ((kc : Nat) : Int) ∧ ((4 * i : Nat) : Int) < ((kc : Nat) : Int)) c0))) ?_
                      clear hA fr; intro fr hA
                      replace hA := hA.int (f := fun z_ => [(1, pt b1), (2, bl false), (3, i64 ((4 * i : Nat) : Int)), (52, i64 ((4 * i : Nat) : Int)), (53, pt b1), (54, .slice (some ca) cs.length kc), (55, i64 ((cs.length : Nat) : Int)), (56, bl true), (60, pt b1), (61, .slice (some ca) cs.length kc), (62, i64 ((4 * i : Nat) : Int)), (63, i64 ((4 * i : Nat) : Int)), (64, .int .i64 z_), (65, .slice (some (atIx ca 1 ((4 * i : Nat) : Int))) (((((4 * i : Nat) : Int) + 4).toNat) - (4 * i)) ((kc) - (4 * i)))]) (by omega : ((4 * i : Nat) : Int) + 4 = ((4 * (i + 1) : Nat) : Int))
                      obtain ⟨oq1, aq1, bq1, cq1, vq1, erq1, hiq1, hrq1, hzq1, hyq1⟩ := dec_form (decX (chunk cs i))
                      refine wpOps_cons' (mK (f := 32) (args := [.slice (some (atIx ca 1 ((4 * i : Nat) : Int))) (((((4 * i : Nat) : Int) + 4).toNat) - (4 * i)) ((kc) - (4 * i))]) (d := (some 66)) (v := .tuple #[.agg #[i64 oq1, i64 aq1, i64 bq1, i64 cq1, i64 vq1], i64 erq1]) hA hO Tryd.func32 (rs (rdecode_any _ (chunk cs i) _ (SlI.as (SlI.cut (hs.keep hO.only) (by omega) (by omega) (by omega)) (chunk_cut cs i))) (by rw [hiq1, hrq1]; rfl)) ?_)
                      clear hA hO fr; intro fr w3 hA hO
                      refine ck (l := [7, 8, 9]) (r := [10, 11, 12]) (e' := [(1, pt b1), (2, bl false), (3, i64 ((4 * i : Nat) : Int)), (52, i64 ((4 * i : Nat) : Int)), (53, pt b1), (54, .slice (some ca) cs.length kc), (55, i64 ((cs.length : Nat) : Int)), (56, bl true), (59, .tuple #[.agg #[i64 oq1, i64 aq1, i64 bq1, i64 cq1, i64 vq1], i64 erq1]), (60, pt b1), (61, .slice (some ca) cs.length kc), (62, i64 ((4 * i : Nat) : Int)), (63, i64 ((4 * i : Nat) : Int)), (64, i64 ((4 * (i + 1) : Nat) : Int)), (65, .slice (some (atIx ca 1 ((4 * i : Nat) : Int))) (((((4 * i : Nat) : Int) + 4).toNat) - (4 * i)) ((kc) - (4 * i))), (66, .tuple #[.agg #[i64 oq1, i64 aq1, i64 bq1, i64 cq1, i64 vq1], i64 erq1]), (67, .agg #[i64 oq1, i64 aq1, i64 bq1, i64 cq1, i64 vq1]), (68, i64 erq1)]) hA [] c0 ?_
                      clear hA fr; intro fr hA
                      refine wpOps_cons' (mN (l := [i64 0, i64 0, i64 0, i64 0, i64 0]) (t := 56) (v := pt) (d := 4) hA hO ?_)
                      clear hA hO fr; intro fr w4 b2 hA hO
                      refine wpOps_cons' (mS (off := 0) (vc := [i64 oq1, i64 aq1, i64 bq1, i64 cq1, i64 vq1]) 0 hA hO ?_)
                      clear hO; intro w5 hO
                      refine ck (l := [12]) (r := []) (e' := [(1, pt b1), (2, bl false), (3, i64 ((4 * i : Nat) : Int)), (4, pt b2), (5, i64 erq1), (52, i64 ((4 * i : Nat) : Int)), (53, pt b1), (54, .slice (some ca) cs.length kc), (55, i64 ((cs.length : Nat) : Int)), (56, bl true), (59, .tuple #[.agg #[i64 oq1, i64 aq1, i64 bq1, i64 cq1, i64 vq1], i64 erq1]), (60, pt b1), (61, .slice (some ca) cs.length kc), (62, i64 ((4 * i : Nat) : Int)), (63, i64 ((4 * i : Nat) : Int)), (64, i64 ((4 * (i + 1) : Nat) : Int)), (65, .slice (some (atIx ca 1 ((4 * i : Nat) : Int))) (((((4 * i : Nat) : Int) + 4).toNat) - (4 * i)) ((kc) - (4 * i))), (66, .tuple #[.agg #[i64 oq1, i64 aq1, i64 bq1, i64 cq1, i64 vq1], i64 erq1]), (67, .agg #[i64 oq1, i64 aq1, i64 bq1, i64 cq1, i64 vq1]), (68, i64 erq1)]) hA [] c0 ?_
                      clear hA fr; intro fr hA
                      refine end_ops ?_
                      refine then_normal ?_
                      refine sC (e' := [(1, pt b1), (2, bl false), (3, i64 ((4 * i : Nat) : Int)), (4, pt b2), (5, i64 erq1), (52, i64 ((4 * i : Nat) : Int)), (53, pt b1), (54, .slice (some ca) cs.length kc), (55, i64 ((cs.length : Nat) : Int)), (56, bl true), (59, .tuple #[.agg #[i64 oq1, i64 aq1, i64 bq1, i64 cq1, i64 vq1], i64 erq1]), (60, pt b1), (61, .slice (some ca) cs.length kc), (62, i64 ((4 * i : Nat) : Int)), (63, i64 ((4 * i : Nat) : Int)), (64, i64 ((4 * (i + 1) : Nat) : Int)), (65, .slice (some (atIx ca 1 ((4 * i : Nat) : Int))) (((((4 * i : Nat) : Int) + 4).toNat) - (4 * i)) ((kc) - (4 * i))), (66, .tuple #[.agg #[i64 oq1, i64 aq1, i64 bq1, i64 cq1, i64 vq1], i64 erq1]), (67, .agg #[i64 oq1, i64 aq1, i64 bq1, i64 cq1, i64 vq1]), (68, i64 erq1), (69, i64 erq1), (70, bl (erq1 != 0))]) 2 hA [] c0 ?_
                      clear hA fr; intro fr hA
                      rcases Bool.eq_false_or_eq_true (erq1 != 0) with h10 | h10
                      ·
                        replace hA := hA.bool (f := fun z_ => [(1, pt b1), (2, bl false), (3, i64 ((4 * i : Nat) : Int)), (4, pt b2), (5, i64 erq1), (52, i64 ((4 * i : Nat) : Int)), (53, pt b1), (54, .slice (some ca) cs.length kc), (55, i64 ((cs.length : Nat) : Int)), (56, bl true), (59, .tuple #[.agg #[i64 oq1, i64 aq1, i64 bq1, i64 cq1, i64 vq1], i64 erq1]), (60, pt b1), (61, .slice (some ca) cs.length kc), (62, i64 ((4 * i : Nat) : Int)), (63, i64 ((4 * i : Nat) : Int)), (64, i64 ((4 * (i + 1) : Nat) : Int)), (65, .slice (some (atIx ca 1 ((4 * i : Nat) : Int))) (((((4 * i : Nat) : Int) + 4).toNat) - (4 * i)) ((kc) - (4 * i))), (66, .tuple #[.agg #[i64 oq1, i64 aq1, i64 bq1, i64 cq1, i64 vq1], i64 erq1]), (67, .agg #[i64 oq1, i64 aq1, i64 bq1, i64 cq1, i64 vq1]), (68, i64 erq1), (69, i64 erq1), (70, .bool z_)]) h10
                        have h10p := ne_of_bne h10
                        refine cT hA ?_
                        refine sC (e' := [(1, pt b1), (2, bl false), (3, i64 ((4 * i : Nat) : Int)), (4, pt b2), (5, i64 erq1), (52, i64 ((4 * i : Nat) : Int)), (53, pt b1), (54, .slice (some ca) cs.length kc), (55, i64 ((cs.length : Nat) : Int)), (56, bl true), (59, .tuple #[.agg #[i64 oq1, i64 aq1, i64 bq1, i64 cq1, i64 vq1], i64 erq1]), (60, pt b1), (61, .slice (some ca) cs.length kc), (62, i64 ((4 * i : Nat) : Int)), (63, i64 ((4 * i : Nat) : Int)), (64, i64 ((4 * (i + 1) : Nat) : Int)), (65, .slice (some (atIx ca 1 ((4 * i : Nat) : Int))) (((((4 * i : Nat) : Int) + 4).toNat) - (4 * i)) ((kc) - (4 * i))), (66, .tuple #[.agg #[i64 oq1, i64 aq1, i64 bq1, i64 cq1, i64 vq1], i64 erq1]), (67, .agg #[i64 oq1, i64 aq1, i64 bq1, i64 cq1, i64 vq1]), (68, i64 erq1), (69, i64 erq1), (70, bl true)]) 1 hA [] c0 ?_
                        clear hA fr; intro fr hA
                        refine wp_ret ?_
                        refine inBlock_ret ?_
                        refine then_ret ?_
                        refine then_ret ?_
                        refine inBlock_ret ?_
                        refine then_ret ?_
                        refine cR (cs := [none]) (us := [bl false]) hA [] trivial ?_
                        have hF := hO.only; clear hA hO
                        exact ⟨congrArg (fun b => Ending.returned (.bool b)) (valid_chunk (i := i) (fun hh => by have := hyq1.1 hh; omega) (by omega)).symm, hF⟩
                      ·
                        replace hA := hA.bool (f := fun z_ => [(1, pt b1), (2, bl false), (3, i64 ((4 * i : Nat) : Int)), (4, pt b2), (5, i64 erq1), (52, i64 ((4 * i : Nat) : Int)), (53, pt b1), (54, .slice (some ca) cs.length kc), (55, i64 ((cs.length : Nat) : Int)), (56, bl true), (59, .tuple #[.agg #[i64 oq1, i64 aq1, i64 bq1, i64 cq1, i64 vq1], i64 erq1]), (60, pt b1), (61, .slice (some ca) cs.length kc), (62, i64 ((4 * i : Nat) : Int)), (63, i64 ((4 * i : Nat) : Int)), (64, i64 ((4 * (i + 1) : Nat) : Int)), (65, .slice (some (atIx ca 1 ((4 * i : Nat) : Int))) (((((4 * i : Nat) : Int) + 4).toNat) - (4 * i)) ((kc) - (4 * i))), (66, .tuple #[.agg #[i64 oq1, i64 aq1, i64 bq1, i64 cq1, i64 vq1], i64 erq1]), (67, .agg #[i64 oq1, i64 aq1, i64 bq1, i64 cq1, i64 vq1]), (68, i64 erq1), (69, i64 erq1), (70, .bool z_)]) h10
                        have h10p := eq_of_bne_false h10
                        refine cF hA ?_
                        refine wp_skip ?_
                        refine inBlock_normal ?_
                        refine then_normal ?_
                        refine rC (e' := [(1, pt b1), (2, bl false), (3, i64 (((4 * i : Nat) : Int) + 4)), (4, pt b2), (5, i64 erq1), (52, i64 ((4 * i : Nat) : Int)), (53, pt b1), (54, .slice (some ca) cs.length kc), (55, i64 ((cs.length : Nat) : Int)), (56, bl true), (57, i64 ((4 * i : Nat) : Int)), (58, i64 (((4 * i : Nat) : Int) + 4)), (59, .tuple #[.agg #[i64 oq1, i64 aq1, i64 bq1, i64 cq1, i64 vq1], i64 erq1]), (60, pt b1), (61, .slice (some ca) cs.length kc), (62, i64 ((4 * i : Nat) : Int)), (63, i64 ((4 * i : Nat) : Int)), (64, i64 ((4 * (i + 1) : Nat) : Int)), (65, .slice (some (atIx ca 1 ((4 * i : Nat) : Int))) (((((4 * i : Nat) : Int) + 4).toNat) - (4 * i)) ((kc) - (4 * i))), (66, .tuple #[.agg #[i64 oq1, i64 aq1, i64 bq1, i64 cq1, i64 vq1], i64 erq1]), (67, .agg #[i64 oq1, i64 aq1, i64 bq1, i64 cq1, i64 vq1]), (68, i64 erq1), (69, i64 erq1), (70, bl false)]) 3 hA [bl true] (cc ((inK_i64 (by omega) (by omega)) : inK .i64 (((4 * i : Nat) : Int) + 4)) c0) ?_
                        clear hA fr; intro fr hA
                        replace hA := hA.int (f := fun z_ => [(1, pt b1), (2, bl false), (3, .int .i64 z_), (4, pt b2), (5, i64 erq1), (52, i64 ((4 * i : Nat) : Int)), (53, pt b1), (54, .slice (some ca) cs.length kc), (55, i64 ((cs.length : Nat) : Int)), (56, bl true), (57, i64 ((4 * i : Nat) : Int)), (58, .int .i64 z_), (59, .tuple #[.agg #[i64 oq1, i64 aq1, i64 bq1, i64 cq1, i64 vq1], i64 erq1]), (60, pt b1), (61, .slice (some ca) cs.length kc), (62, i64 ((4 * i : Nat) : Int)), (63, i64 ((4 * i : Nat) : Int)), (64, i64 ((4 * (i + 1) : Nat) : Int)), (65, .slice (some (atIx ca 1 ((4 * i : Nat) : Int))) (((((4 * i : Nat) : Int) + 4).toNat) - (4 * i)) ((kc) - (4 * i))), (66, .tuple #[.agg #[i64 oq1, i64 aq1, i64 bq1, i64 cq1, i64 vq1], i64 erq1]), (67, .agg #[i64 oq1, i64 aq1, i64 bq1, i64 cq1, i64 vq1]), (68, i64 erq1), (69, i64 erq1), (70, bl false)]) (by omega : ((4 * i : Nat) : Int) + 4 = ((4 * (i + 1) : Nat) : Int))
                        refine then_normal ?_
                        exact ⟨_, by omega, i + 1, rfl, (hA.sub (e' := [(1, pt b1), (2, bl false), (3, i64 ((4 * (i + 1) : Nat) : Int))]) [1, 2, 3] (by kernel_rfl)).cast (by kernel_rfl), (hO.sub [1]), (by omega), (by simp only [okAll, ho, Bool.true_and]; exact hyq1.2 (by omega)), trivial⟩
                    ·
                      replace hA := hA.bool (f := fun z_ => [(1, pt b1), (2, bl false), (3, i64 ((4 * i : Nat) : Int)), (52, i64 ((4 * i : Nat) : Int)), (53, pt b1), (54, .slice (some ca) cs.length kc), (55, i64 ((cs.length : Nat) : Int)), (56, .bool z_)]) h9
                      have h9p := of_decide_eq_false h9
                      refine cF hA ?_
                      refine wp_exit ?_
                      refine then_exit ?_
                      refine then_exit ?_
                      refine inBlock_exit ?_
                      refine then_normal ?_
                      refine sR (l := [0, 1, 2, 3]) ?_
                      refine ck (l := [0]) (r := [1, 2, 3]) (e' := [(2, bl false), (71, .agg #[.slice (some ca) cs.length kc, .slice dp ds.length kd, i64 z, i64 et])]) hA [.agg #[.slice (some ca) cs.length kc, .slice dp ds.length kd, i64 z, i64 et]] (cc (hO.ln 0 0 24 [.slice (some ca) cs.length kc, .slice dp ds.length kd, i64 z, i64 et]) c0) ?_
                      clear hA fr; intro fr hA
                      refine wpOps_cons' (mK (f := 33) (args := [.agg #[.slice (some ca) cs.length kc, .slice dp ds.length kd, i64 z, i64 et]]) (d := (some 72)) (v := i64 ((((cs.length : Nat) : Int) + 127) / 128 + (((ds.length : Nat) : Int) + z + 127) / 128)) hA hO Tryd.func33 (rsize_any (some ca) dp kc kd cs ds z et _ hc hd (by omega) (by omega)) ?_)
                      clear hA hO fr; intro fr w6 hA hO
                      replace hA := hA.sb (e' := [(2, bl false), (72, i64 ((((cs.length : Nat) : Int) + 127) / 128 + (((ds.length : Nat) : Int) + z + 127) / 128))])
                      refine ck (l := [2, 3]) (r := []) (e' := [(2, bl (decide (((((cs.length : Nat) : Int) + 127) / 128 + (((ds.length : Nat) : Int) + z + 127) / 128) ≤ 24)))]) hA [] c0 ?_
                      clear hA fr; intro fr hA
                      refine end_ops ?_
                      refine then_normal ?_
                      refine wp_ret ?_
                      refine cR (cs := [none]) (us := [bl (decide (((((cs.length : Nat) : Int) + 127) / 128 + (((ds.length : Nat) : Int) + z + 127) / 128) ≤ 24))]) hA [] trivial ?_
                      have hF := hO.only; clear hA hO
                      have hrend := rend (cn := ((cs.length : Nat) : Int)) (dn := ((ds.length : Nat) : Int)) (z := z) (by omega) (by omega) (by omega)
                      refine ⟨congrArg (fun b => Ending.returned (.bool b)) ?_, hF⟩
                      by_cases hq : ((((cs.length : Nat) : Int) + 127) / 128 + (((ds.length : Nat) : Int) + z + 127) / 128) ≤ 24
                      · rw [decide_eq_true (by omega)]; exact (valid_yes (i := i) (by omega) ho (by omega)).symm
                      · rw [decide_eq_false (by omega)]; exact (valid_no (by omega)).symm

theorem rvalid_any (cp dp : Option Addr) (kc kd : Nat) (cs ds : List Int) (z et : Int) (w : World) (hc : cs.length ≤ 2000) (hd : ds.length ≤ 2000) (hs : SlI w (.slice cp cs.length kc) cs) (hkc : cs.length ≤ kc) :
    Calls Tryd.prog 16 #[.agg #[.slice cp cs.length kc, .slice dp ds.length kd, .int .i64 z, .int .i64 et]] w fun e w' => e = .returned (.bool (validB cs ((ds.length : Nat) : Int) z et)) ∧ Only none' w w' := by
  rcases hs.2 with ⟨e, rfl⟩ | ⟨ca, cap, e, _⟩
  · cases e
    have : validB [] ((ds.length : Nat) : Int) z et = false := valid_no (by simp)
    rw [this]
    exact rvalid_nil dp kd ds z et w
  · cases e
    exact rvalid_some ca dp kc kd cs ds z et w hc hd hs hkc

end Go.Proofs.YtkfnkcpdabdboaaDoor
