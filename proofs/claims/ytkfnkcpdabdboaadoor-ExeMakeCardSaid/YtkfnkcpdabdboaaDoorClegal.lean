/- The layer cpu: walks of Legal and what it calls. -/
import Derived.Test.YtkfnkcpdabdboaaDoorCbase
set_option linter.unusedVariables false
set_option linter.unusedSimpArgs false
set_option maxRecDepth 10000
namespace Go.Proofs.YtkfnkcpdabdboaaDoor
open Go Go.RowKit Go.Proofs.Sx

theorem register_any (n : Int) (u : Bool) (w : World) :
    Calls Tryd.prog 48 #[i64 n, bl u] w fun e w' => e = .returned (.bool (regB n u)) ∧ Only none' w w' := by
  refine c_enter (args := [i64 n, bl u]) (m := 16) (n := 18) Tryd.func48 rfl (by kernel_rfl) (by kernel_rfl) fun fr hA => ?_
  have hO := Ow.nil Tryd.prog none' w
  refine sC (e' := [(0, i64 n), (1, bl u), (4, bl false)]) 1 hA [] c0 ?_
  clear hA fr; intro fr hA
  refine sR (l := (rg 0 14)) ?_
  refine ck (l := [0, 1, 2]) (r := (rg 3 11)) (e' := [(0, i64 n), (1, bl u), (4, bl false), (6, bl (n == 0)), (7, bl (n == 0))]) hA [] c0 ?_
  clear hA fr; intro fr hA
  rcases Bool.eq_false_or_eq_true (n == 0) with h1 | h1
  ·
    replace hA := hA.bool (f := fun z_ => [(0, i64 n), (1, bl u), (4, bl false), (6, .bool z_), (7, .bool z_)]) h1
    have h1p := eq_of_beq h1
    refine ck (l := (rg 3 11)) (r := []) (e' := [(4, bl true)]) hA [] c0 ?_
    clear hA fr; intro fr hA
    refine end_ops ?_
    refine then_normal ?_
    refine wp_ret ?_
    refine cR (cs := [none]) (us := [bl true]) hA [] trivial ?_
    have hF := hO.only; clear hA hO
    exact ⟨by simp_all [pack, regB] <;> omega, hF⟩
  ·
    replace hA := hA.bool (f := fun z_ => [(0, i64 n), (1, bl u), (4, bl false), (6, .bool z_), (7, .bool z_)]) h1
    have h1p := ne_of_beq_false h1
    refine ck (l := [3, 4]) (r := (rg 5 9)) (e' := [(0, i64 n), (1, bl u), (4, bl false), (7, bl false), (8, bl u), (9, bl u)]) hA [] c0 ?_
    clear hA fr; intro fr hA
    rcases Bool.eq_false_or_eq_true (u) with h2 | h2
    ·
      replace hA := hA.bool (f := fun z_ => [(0, i64 n), (1, .bool z_), (4, bl false), (7, bl false), (8, .bool z_), (9, .bool z_)]) h2
      refine ck (l := [5, 6, 7, 8]) (r := (rg 9 5)) (e' := [(0, i64 n), (4, bl false), (7, bl false), (11, bl (decide (n > 0))), (12, bl (decide (n > 0))), (13, bl (decide (n > 0)))]) hA [] c0 ?_
      clear hA fr; intro fr hA
      rcases Bool.eq_false_or_eq_true (decide (n > 0)) with h3 | h3
      ·
        replace hA := hA.bool (f := fun z_ => [(0, i64 n), (4, bl false), (7, bl false), (11, .bool z_), (12, .bool z_), (13, .bool z_)]) h3
        have h3p := of_decide_eq_true h3
        refine ck (l := (rg 9 5)) (r := []) (e' := [(4, bl (decide (n < 16)))]) hA [] c0 ?_
        clear hA fr; intro fr hA
        refine end_ops ?_
        refine then_normal ?_
        refine wp_ret ?_
        refine cR (cs := [none]) (us := [bl (decide (n < 16))]) hA [] trivial ?_
        have hF := hO.only; clear hA hO
        exact ⟨by simp_all [pack, regB] <;> omega, hF⟩
      ·
        replace hA := hA.bool (f := fun z_ => [(0, i64 n), (4, bl false), (7, bl false), (11, .bool z_), (12, .bool z_), (13, .bool z_)]) h3
        have h3p := of_decide_eq_false h3
        refine ck (l := (rg 9 5)) (r := []) (e' := [(4, bl false)]) hA [] c0 ?_
        clear hA fr; intro fr hA
        refine end_ops ?_
        refine then_normal ?_
        refine wp_ret ?_
        refine cR (cs := [none]) (us := [bl false]) hA [] trivial ?_
        have hF := hO.only; clear hA hO
        exact ⟨by simp_all [pack, regB] <;> omega, hF⟩
    ·
      replace hA := hA.bool (f := fun z_ => [(0, i64 n), (1, .bool z_), (4, bl false), (7, bl false), (8, .bool z_), (9, .bool z_)]) h2
      refine ck (l := (rg 5 9)) (r := []) (e' := [(4, bl false)]) hA [] c0 ?_
      clear hA fr; intro fr hA
      refine end_ops ?_
      refine then_normal ?_
      refine wp_ret ?_
      refine cR (cs := [none]) (us := [bl false]) hA [] trivial ?_
      have hF := hO.only; clear hA hO
      exact ⟨by simp_all [pack, regB] <;> omega, hF⟩

theorem legal_gen (k : Nat) (a b c v : Int) (nm : ByteArray) (fa fb fc fv fs : Bool) (w : World) (h1 : 1 ≤ k) (h2 : k ≤ 22) (hrow : RowAt Tryd.prog w 63 k nm fa fb fc fv fs) :
    Calls Tryd.prog 39 #[.agg #[i64 ((k : Nat) : Int), i64 a, i64 b, i64 c, i64 v]] w fun e w' => e = .returned (.bool (legF fa fb fc fv fs a b c v)) ∧ Only none' w w' := by
  refine c_enter (args := [.agg #[i64 ((k : Nat) : Int), i64 a, i64 b, i64 c, i64 v]]) (m := 65) (n := 66) Tryd.func39 rfl (by kernel_rfl) (by kernel_rfl) fun fr hA => ?_
  have hO := Ow.nil Tryd.prog none' w
  refine sR (l := [0, 1]) ?_
  refine wpOps_cons' (mN (l := [i64 ((k : Nat) : Int), i64 a, i64 b, i64 c, i64 v]) (t := 46) (v := pt) (d := 1) hA hO ?_)
  clear hA hO fr; intro fr w1 b1 hA hO
  replace hA := hA.sb (e' := [(1, pt b1)])
  refine ck (l := [1]) (r := []) (e' := [(1, pt b1), (2, bl false)]) hA [] c0 ?_
  clear hA fr; intro fr hA
  refine end_ops ?_
  refine then_normal ?_
  refine wp_seq ?_
  refine sR (l := (rg 0 8)) ?_
  refine ck (l := [0, 1, 2, 3]) (r := [4, 5, 6, 7]) (e' := [(1, pt b1), (2, bl false), (7, bl (decide (((k : Nat) : Int) < 1))), (8, bl (decide (((k : Nat) : Int) < 1)))]) hA [i64 ((k : Nat) : Int)] (cc (hO.l1 0 0 3 (i64 ((k : Nat) : Int))) c0) ?_
  clear hA fr; intro fr hA
  rcases Bool.eq_false_or_eq_true (decide (((k : Nat) : Int) < 1)) with h1 | h1
  ·
    simp at h1; omega
  ·
    replace hA := hA.bool (f := fun z_ => [(1, pt b1), (2, bl false), (7, .bool z_), (8, .bool z_)]) h1
    have h1p := of_decide_eq_false h1
    refine ck (l := [4, 5, 6, 7]) (r := []) (e' := [(1, pt b1), (2, bl false), (12, bl (decide (((k : Nat) : Int) > 22)))]) hA [i64 ((k : Nat) : Int)] (cc (hO.l1 0 0 3 (i64 ((k : Nat) : Int))) c0) ?_
    clear hA fr; intro fr hA
    refine end_ops ?_
    refine then_normal ?_
    rcases Bool.eq_false_or_eq_true (decide (((k : Nat) : Int) > 22)) with h2 | h2
    ·
      simp at h2; omega
    ·
      replace hA := hA.bool (f := fun z_ => [(1, pt b1), (2, bl false), (12, .bool z_)]) h2
      have h2p := of_decide_eq_false h2
      refine cF hA ?_
      refine wp_skip ?_
      refine then_normal ?_
      refine sR (l := (rg 0 6)) ?_
      refine ck (l := [0, 1, 2, 3]) (r := [4, 5]) (e' := [(1, pt b1), (2, bl false), (16, .agg #[str nm, bl fa, bl fb, bl fc, bl fv, bl fs])]) hA [i64 ((k : Nat) : Int), .agg #[str nm, bl fa, bl fb, bl fc, bl fv, bl fs]] (cc (hO.l1 0 0 3 (i64 ((k : Nat) : Int))) (cc (⟨by omega, by omega⟩ : (0 : Int) ≤ ((k : Nat) : Int) ∧ ((k : Nat) : Int) < ((23 : Nat) : Int)) (cc ((hrow _ hO.only) : Ld Tryd.prog w1 ((⟨0, 0, none⟩ : Addr).add (k * 6)) 63 (.agg #[str nm, bl fa, bl fb, bl fc, bl fv, bl fs])) c0))) ?_
      clear hA fr; intro fr hA
      refine wpOps_cons' (mN (l := [str (⟨#[]⟩), bl false, bl false, bl false, bl false, bl false]) (t := 63) (v := pt) (d := 3) hA hO ?_)
      clear hA hO fr; intro fr w2 b2 hA hO
      refine wpOps_cons' (mS (off := 0) (vc := [str nm, bl fa, bl fb, bl fc, bl fv, bl fs]) 0 hA hO ?_)
      clear hO; intro w3 hO
      replace hA := hA.sb (e' := [(1, pt b1), (2, bl false), (3, pt b2)])
      refine end_ops ?_
      refine then_normal ?_
      refine sR (l := (rg 0 6)) ?_
      refine ck (l := [0, 1, 2, 3]) (r := [4, 5]) (e' := [(1, pt b1), (2, bl false), (3, pt b2), (18, i64 c), (20, bl fc)]) hA [i64 c, bl fc] (cc (hO.l1 1 3 3 (i64 c)) (cc (hO.l1 0 3 4 (bl fc)) c0)) ?_
      clear hA fr; intro fr hA
      refine wpOps_cons' (mK (f := 48) (args := [i64 c, bl fc]) (d := (some 21)) (v := bl (regB c fc)) hA hO Tryd.func48 (register_any c fc _) ?_)
      clear hA hO fr; intro fr w4 hA hO
      replace hA := hA.sb (e' := [(1, pt b1), (2, bl false), (3, pt b2), (21, bl (regB c fc))])
      refine ck (l := [5]) (r := []) (e' := [(1, pt b1), (2, bl false), (3, pt b2), (4, bl (regB c fc))]) hA [] c0 ?_
      clear hA fr; intro fr hA
      refine end_ops ?_
      refine then_normal ?_
      refine wp_seq ?_
      refine sC (e' := [(1, pt b1), (2, bl false), (3, pt b2), (4, bl (regB c fc)), (23, bl fs)]) 2 hA [bl fs] (cc (hO.l1 0 5 4 (bl fs)) c0) ?_
      clear hA fr; intro fr hA
      rcases Bool.eq_false_or_eq_true (fs) with h3 | h3
      ·
        replace hA := hA.bool (f := fun z_ => [(1, pt b1), (2, bl false), (3, pt b2), (4, bl (regB c fc)), (23, .bool z_)]) h3
        refine cT hA ?_
        refine rR (l := (rg 0 9)) ?_
        refine ck (l := [0, 1, 2, 3]) (r := (rg 4 5)) (e' := [(1, pt b1), (2, bl false), (3, pt b2), (4, bl (regB c fc)), (26, bl (decide (c ≥ (-128)))), (27, bl (decide (c ≥ (-128))))]) hA [i64 c] (cc (hO.l1 1 3 3 (i64 c)) c0) ?_
        clear hA fr; intro fr hA
        rcases Bool.eq_false_or_eq_true (decide (c ≥ (-128))) with h4 | h4
        ·
          replace hA := hA.bool (f := fun z_ => [(1, pt b1), (2, bl false), (3, pt b2), (4, bl (regB c fc)), (26, .bool z_), (27, .bool z_)]) h4
          have h4p := of_decide_eq_true h4
          refine ck (l := (rg 4 5)) (r := []) (e' := [(1, pt b1), (2, bl false), (3, pt b2), (4, bl (decide (c ≤ 127)))]) hA [i64 c] (cc (hO.l1 1 3 3 (i64 c)) c0) ?_
          clear hA fr; intro fr hA
          refine end_ops ?_
          refine then_normal ?_
          refine sR (l := (rg 0 35)) ?_
          refine ck (l := [0, 1, 2, 3]) (r := (rg 4 31)) (e' := [(1, pt b1), (2, bl false), (3, pt b2), (4, bl (decide (c ≤ 127))), (33, i64 a), (35, bl fa)]) hA [i64 a, bl fa] (cc (hO.l1 1 1 3 (i64 a)) (cc (hO.l1 0 1 4 (bl fa)) c0)) ?_
          clear hA fr; intro fr hA
          refine wpOps_cons' (mK (f := 48) (args := [i64 a, bl fa]) (d := (some 36)) (v := bl (regB a fa)) hA hO Tryd.func48 (register_any a fa _) ?_)
          clear hA hO fr; intro fr w5 hA hO
          replace hA := hA.sb (e' := [(1, pt b1), (2, bl false), (3, pt b2), (4, bl (decide (c ≤ 127))), (36, bl (regB a fa))])
          refine ck (l := [5]) (r := (rg 6 29)) (e' := [(1, pt b1), (2, bl false), (3, pt b2), (4, bl (decide (c ≤ 127))), (36, bl (regB a fa)), (37, bl (regB a fa))]) hA [] c0 ?_
          clear hA fr; intro fr hA
          rcases Bool.eq_false_or_eq_true (regB a fa) with h5 | h5
          ·
            replace hA := hA.bool (f := fun z_ => [(1, pt b1), (2, bl false), (3, pt b2), (4, bl (decide (c ≤ 127))), (36, .bool z_), (37, .bool z_)]) h5
            refine ck (l := [6, 7, 8, 9]) (r := (rg 10 25)) (e' := [(1, pt b1), (2, bl false), (3, pt b2), (4, bl (decide (c ≤ 127))), (37, bl true), (39, i64 b), (41, bl fb)]) hA [i64 b, bl fb] (cc (hO.l1 1 2 3 (i64 b)) (cc (hO.l1 0 2 4 (bl fb)) c0)) ?_
            clear hA fr; intro fr hA
            refine wpOps_cons' (mK (f := 48) (args := [i64 b, bl fb]) (d := (some 42)) (v := bl (regB b fb)) hA hO Tryd.func48 (register_any b fb _) ?_)
            clear hA hO fr; intro fr w6 hA hO
            replace hA := hA.sb (e' := [(1, pt b1), (2, bl false), (3, pt b2), (4, bl (decide (c ≤ 127))), (37, bl true), (42, bl (regB b fb))])
            refine ck (l := [11, 12]) (r := (rg 13 22)) (e' := [(1, pt b1), (2, bl false), (3, pt b2), (4, bl (decide (c ≤ 127))), (42, bl (regB b fb)), (43, bl (regB b fb)), (44, bl (regB b fb))]) hA [] c0 ?_
            clear hA fr; intro fr hA
            rcases Bool.eq_false_or_eq_true (regB b fb) with h6 | h6
            ·
              replace hA := hA.bool (f := fun z_ => [(1, pt b1), (2, bl false), (3, pt b2), (4, bl (decide (c ≤ 127))), (42, .bool z_), (43, .bool z_), (44, .bool z_)]) h6
              refine ck (l := [13, 14, 15]) (r := (rg 16 19)) (e' := [(1, pt b1), (2, bl false), (3, pt b2), (4, bl (decide (c ≤ 127))), (45, bl (decide (c ≤ 127))), (46, bl (decide (c ≤ 127))), (47, bl (decide (c ≤ 127)))]) hA [] c0 ?_
              clear hA fr; intro fr hA
              rcases Bool.eq_false_or_eq_true (decide (c ≤ 127)) with h7 | h7
              ·
                replace hA := hA.bool (f := fun z_ => [(1, pt b1), (2, bl false), (3, pt b2), (4, .bool z_), (45, .bool z_), (46, .bool z_), (47, .bool z_)]) h7
                have h7p := of_decide_eq_true h7
                refine ck (l := [16, 17, 18, 19]) (r := (rg 20 15)) (e' := [(1, pt b1), (2, bl false), (3, pt b2), (47, bl true), (50, bl (v == 0)), (51, bl (v == 0))]) hA [i64 v] (cc (hO.l1 1 4 3 (i64 v)) c0) ?_
                clear hA fr; intro fr hA
                rcases Bool.eq_false_or_eq_true (v == 0) with h8 | h8
                ·
                  replace hA := hA.bool (f := fun z_ => [(1, pt b1), (2, bl false), (3, pt b2), (47, bl true), (50, .bool z_), (51, .bool z_)]) h8
                  have h8p := eq_of_beq h8
                  refine ck (l := (rg 20 15)) (r := []) (e' := [(2, bl true)]) hA [] c0 ?_
                  clear hA fr; intro fr hA
                  refine end_ops ?_
                  refine then_normal ?_
                  refine wp_ret ?_
                  refine cR (cs := [none]) (us := [bl true]) hA [] trivial ?_
                  have hF := hO.only; clear hA hO
                  exact ⟨by simp_all [pack, legF] <;> omega, hF⟩
                ·
                  replace hA := hA.bool (f := fun z_ => [(1, pt b1), (2, bl false), (3, pt b2), (47, bl true), (50, .bool z_), (51, .bool z_)]) h8
                  have h8p := ne_of_beq_false h8
                  refine ck (l := [20, 21, 22]) (r := (rg 23 12)) (e' := [(1, pt b1), (2, bl false), (47, bl true), (51, bl false), (53, bl fv), (54, bl fv)]) hA [bl fv] (cc (hO.l1 0 4 4 (bl fv)) c0) ?_
                  clear hA fr; intro fr hA
                  rcases Bool.eq_false_or_eq_true (fv) with h9 | h9
                  ·
                    replace hA := hA.bool (f := fun z_ => [(1, pt b1), (2, bl false), (47, bl true), (51, bl false), (53, .bool z_), (54, .bool z_)]) h9
                    refine ck (l := (rg 23 5)) (r := (rg 28 7)) (e' := [(1, pt b1), (2, bl false), (47, bl true), (51, bl false), (57, bl (decide (v ≥ (-32768)))), (58, bl (decide (v ≥ (-32768)))), (59, bl (decide (v ≥ (-32768))))]) hA [i64 v] (cc (hO.l1 1 4 3 (i64 v)) c0) ?_
                    clear hA fr; intro fr hA
                    rcases Bool.eq_false_or_eq_true (decide (v ≥ (-32768))) with h10 | h10
                    ·
                      replace hA := hA.bool (f := fun z_ => [(1, pt b1), (2, bl false), (47, bl true), (51, bl false), (57, .bool z_), (58, .bool z_), (59, .bool z_)]) h10
                      have h10p := of_decide_eq_true h10
                      refine ck (l := (rg 28 7)) (r := []) (e' := [(2, bl (decide (v ≤ 32767)))]) hA [i64 v] (cc (hO.l1 1 4 3 (i64 v)) c0) ?_
                      clear hA fr; intro fr hA
                      refine end_ops ?_
                      refine then_normal ?_
                      refine wp_ret ?_
                      refine cR (cs := [none]) (us := [bl (decide (v ≤ 32767))]) hA [] trivial ?_
                      have hF := hO.only; clear hA hO
                      exact ⟨by simp_all [pack, legF] <;> omega, hF⟩
                    ·
                      replace hA := hA.bool (f := fun z_ => [(1, pt b1), (2, bl false), (47, bl true), (51, bl false), (57, .bool z_), (58, .bool z_), (59, .bool z_)]) h10
                      have h10p := of_decide_eq_false h10
                      refine ck (l := (rg 28 7)) (r := []) (e' := [(2, bl false)]) hA [] c0 ?_
                      clear hA fr; intro fr hA
                      refine end_ops ?_
                      refine then_normal ?_
                      refine wp_ret ?_
                      refine cR (cs := [none]) (us := [bl false]) hA [] trivial ?_
                      have hF := hO.only; clear hA hO
                      exact ⟨by simp_all [pack, legF] <;> omega, hF⟩
                  ·
                    replace hA := hA.bool (f := fun z_ => [(1, pt b1), (2, bl false), (47, bl true), (51, bl false), (53, .bool z_), (54, .bool z_)]) h9
                    refine ck (l := (rg 23 12)) (r := []) (e' := [(2, bl false)]) hA [] c0 ?_
                    clear hA fr; intro fr hA
                    refine end_ops ?_
                    refine then_normal ?_
                    refine wp_ret ?_
                    refine cR (cs := [none]) (us := [bl false]) hA [] trivial ?_
                    have hF := hO.only; clear hA hO
                    exact ⟨by simp_all [pack, legF] <;> omega, hF⟩
              ·
                replace hA := hA.bool (f := fun z_ => [(1, pt b1), (2, bl false), (3, pt b2), (4, .bool z_), (45, .bool z_), (46, .bool z_), (47, .bool z_)]) h7
                have h7p := of_decide_eq_false h7
                refine ck (l := (rg 16 19)) (r := []) (e' := [(2, bl false)]) hA [] c0 ?_
                clear hA fr; intro fr hA
                refine end_ops ?_
                refine then_normal ?_
                refine wp_ret ?_
                refine cR (cs := [none]) (us := [bl false]) hA [] trivial ?_
                have hF := hO.only; clear hA hO
                exact ⟨by simp_all [pack, legF] <;> omega, hF⟩
            ·
              replace hA := hA.bool (f := fun z_ => [(1, pt b1), (2, bl false), (3, pt b2), (4, bl (decide (c ≤ 127))), (42, .bool z_), (43, .bool z_), (44, .bool z_)]) h6
              refine ck (l := (rg 13 22)) (r := []) (e' := [(2, bl false)]) hA [] c0 ?_
              clear hA fr; intro fr hA
              refine end_ops ?_
              refine then_normal ?_
              refine wp_ret ?_
              refine cR (cs := [none]) (us := [bl false]) hA [] trivial ?_
              have hF := hO.only; clear hA hO
              exact ⟨by simp_all [pack, legF] <;> omega, hF⟩
          ·
            replace hA := hA.bool (f := fun z_ => [(1, pt b1), (2, bl false), (3, pt b2), (4, bl (decide (c ≤ 127))), (36, .bool z_), (37, .bool z_)]) h5
            refine ck (l := (rg 6 29)) (r := []) (e' := [(2, bl false)]) hA [] c0 ?_
            clear hA fr; intro fr hA
            refine end_ops ?_
            refine then_normal ?_
            refine wp_ret ?_
            refine cR (cs := [none]) (us := [bl false]) hA [] trivial ?_
            have hF := hO.only; clear hA hO
            exact ⟨by simp_all [pack, legF] <;> omega, hF⟩
        ·
          replace hA := hA.bool (f := fun z_ => [(1, pt b1), (2, bl false), (3, pt b2), (4, bl (regB c fc)), (26, .bool z_), (27, .bool z_)]) h4
          have h4p := of_decide_eq_false h4
          refine ck (l := (rg 4 5)) (r := []) (e' := [(1, pt b1), (2, bl false), (3, pt b2), (4, bl false)]) hA [] c0 ?_
          clear hA fr; intro fr hA
          refine end_ops ?_
          refine then_normal ?_
          refine sR (l := (rg 0 35)) ?_
          refine ck (l := [0, 1, 2, 3]) (r := (rg 4 31)) (e' := [(1, pt b1), (2, bl false), (3, pt b2), (4, bl false), (33, i64 a), (35, bl fa)]) hA [i64 a, bl fa] (cc (hO.l1 1 1 3 (i64 a)) (cc (hO.l1 0 1 4 (bl fa)) c0)) ?_
          clear hA fr; intro fr hA
          refine wpOps_cons' (mK (f := 48) (args := [i64 a, bl fa]) (d := (some 36)) (v := bl (regB a fa)) hA hO Tryd.func48 (register_any a fa _) ?_)
          clear hA hO fr; intro fr w7 hA hO
          replace hA := hA.sb (e' := [(1, pt b1), (2, bl false), (3, pt b2), (4, bl false), (36, bl (regB a fa))])
          refine ck (l := [5]) (r := (rg 6 29)) (e' := [(1, pt b1), (2, bl false), (3, pt b2), (4, bl false), (36, bl (regB a fa)), (37, bl (regB a fa))]) hA [] c0 ?_
          clear hA fr; intro fr hA
          rcases Bool.eq_false_or_eq_true (regB a fa) with h11 | h11
          ·
            replace hA := hA.bool (f := fun z_ => [(1, pt b1), (2, bl false), (3, pt b2), (4, bl false), (36, .bool z_), (37, .bool z_)]) h11
            refine ck (l := [6, 7, 8, 9]) (r := (rg 10 25)) (e' := [(1, pt b1), (2, bl false), (3, pt b2), (4, bl false), (37, bl true), (39, i64 b), (41, bl fb)]) hA [i64 b, bl fb] (cc (hO.l1 1 2 3 (i64 b)) (cc (hO.l1 0 2 4 (bl fb)) c0)) ?_
            clear hA fr; intro fr hA
            refine wpOps_cons' (mK (f := 48) (args := [i64 b, bl fb]) (d := (some 42)) (v := bl (regB b fb)) hA hO Tryd.func48 (register_any b fb _) ?_)
            clear hA hO fr; intro fr w8 hA hO
            replace hA := hA.sb (e' := [(1, pt b1), (2, bl false), (3, pt b2), (4, bl false), (37, bl true), (42, bl (regB b fb))])
            refine ck (l := [11, 12]) (r := (rg 13 22)) (e' := [(1, pt b1), (2, bl false), (3, pt b2), (4, bl false), (42, bl (regB b fb)), (43, bl (regB b fb)), (44, bl (regB b fb))]) hA [] c0 ?_
            clear hA fr; intro fr hA
            rcases Bool.eq_false_or_eq_true (regB b fb) with h12 | h12
            ·
              replace hA := hA.bool (f := fun z_ => [(1, pt b1), (2, bl false), (3, pt b2), (4, bl false), (42, .bool z_), (43, .bool z_), (44, .bool z_)]) h12
              refine ck (l := (rg 13 22)) (r := []) (e' := [(2, bl false)]) hA [] c0 ?_
              clear hA fr; intro fr hA
              refine end_ops ?_
              refine then_normal ?_
              refine wp_ret ?_
              refine cR (cs := [none]) (us := [bl false]) hA [] trivial ?_
              have hF := hO.only; clear hA hO
              exact ⟨by simp_all [pack, legF] <;> omega, hF⟩
            ·
              replace hA := hA.bool (f := fun z_ => [(1, pt b1), (2, bl false), (3, pt b2), (4, bl false), (42, .bool z_), (43, .bool z_), (44, .bool z_)]) h12
              refine ck (l := (rg 13 22)) (r := []) (e' := [(2, bl false)]) hA [] c0 ?_
              clear hA fr; intro fr hA
              refine end_ops ?_
              refine then_normal ?_
              refine wp_ret ?_
              refine cR (cs := [none]) (us := [bl false]) hA [] trivial ?_
              have hF := hO.only; clear hA hO
              exact ⟨by simp_all [pack, legF] <;> omega, hF⟩
          ·
            replace hA := hA.bool (f := fun z_ => [(1, pt b1), (2, bl false), (3, pt b2), (4, bl false), (36, .bool z_), (37, .bool z_)]) h11
            refine ck (l := (rg 6 29)) (r := []) (e' := [(2, bl false)]) hA [] c0 ?_
            clear hA fr; intro fr hA
            refine end_ops ?_
            refine then_normal ?_
            refine wp_ret ?_
            refine cR (cs := [none]) (us := [bl false]) hA [] trivial ?_
            have hF := hO.only; clear hA hO
            exact ⟨by simp_all [pack, legF] <;> omega, hF⟩
      ·
        replace hA := hA.bool (f := fun z_ => [(1, pt b1), (2, bl false), (3, pt b2), (4, bl (regB c fc)), (23, .bool z_)]) h3
        refine cF hA ?_
        refine wp_skip ?_
        refine then_normal ?_
        refine sR (l := (rg 0 35)) ?_
        refine ck (l := [0, 1, 2, 3]) (r := (rg 4 31)) (e' := [(1, pt b1), (2, bl false), (3, pt b2), (4, bl (regB c fc)), (33, i64 a), (35, bl fa)]) hA [i64 a, bl fa] (cc (hO.l1 1 1 3 (i64 a)) (cc (hO.l1 0 1 4 (bl fa)) c0)) ?_
        clear hA fr; intro fr hA
        refine wpOps_cons' (mK (f := 48) (args := [i64 a, bl fa]) (d := (some 36)) (v := bl (regB a fa)) hA hO Tryd.func48 (register_any a fa _) ?_)
        clear hA hO fr; intro fr w9 hA hO
        replace hA := hA.sb (e' := [(1, pt b1), (2, bl false), (3, pt b2), (4, bl (regB c fc)), (36, bl (regB a fa))])
        refine ck (l := [5]) (r := (rg 6 29)) (e' := [(1, pt b1), (2, bl false), (3, pt b2), (4, bl (regB c fc)), (36, bl (regB a fa)), (37, bl (regB a fa))]) hA [] c0 ?_
        clear hA fr; intro fr hA
        rcases Bool.eq_false_or_eq_true (regB a fa) with h13 | h13
        ·
          replace hA := hA.bool (f := fun z_ => [(1, pt b1), (2, bl false), (3, pt b2), (4, bl (regB c fc)), (36, .bool z_), (37, .bool z_)]) h13
          refine ck (l := [6, 7, 8, 9]) (r := (rg 10 25)) (e' := [(1, pt b1), (2, bl false), (3, pt b2), (4, bl (regB c fc)), (37, bl true), (39, i64 b), (41, bl fb)]) hA [i64 b, bl fb] (cc (hO.l1 1 2 3 (i64 b)) (cc (hO.l1 0 2 4 (bl fb)) c0)) ?_
          clear hA fr; intro fr hA
          refine wpOps_cons' (mK (f := 48) (args := [i64 b, bl fb]) (d := (some 42)) (v := bl (regB b fb)) hA hO Tryd.func48 (register_any b fb _) ?_)
          clear hA hO fr; intro fr w10 hA hO
          replace hA := hA.sb (e' := [(1, pt b1), (2, bl false), (3, pt b2), (4, bl (regB c fc)), (37, bl true), (42, bl (regB b fb))])
          refine ck (l := [11, 12]) (r := (rg 13 22)) (e' := [(1, pt b1), (2, bl false), (3, pt b2), (4, bl (regB c fc)), (42, bl (regB b fb)), (43, bl (regB b fb)), (44, bl (regB b fb))]) hA [] c0 ?_
          clear hA fr; intro fr hA
          rcases Bool.eq_false_or_eq_true (regB b fb) with h14 | h14
          ·
            replace hA := hA.bool (f := fun z_ => [(1, pt b1), (2, bl false), (3, pt b2), (4, bl (regB c fc)), (42, .bool z_), (43, .bool z_), (44, .bool z_)]) h14
            refine ck (l := [13, 14, 15]) (r := (rg 16 19)) (e' := [(1, pt b1), (2, bl false), (3, pt b2), (4, bl (regB c fc)), (45, bl (regB c fc)), (46, bl (regB c fc)), (47, bl (regB c fc))]) hA [] c0 ?_
            clear hA fr; intro fr hA
            rcases Bool.eq_false_or_eq_true (regB c fc) with h15 | h15
            ·
              replace hA := hA.bool (f := fun z_ => [(1, pt b1), (2, bl false), (3, pt b2), (4, .bool z_), (45, .bool z_), (46, .bool z_), (47, .bool z_)]) h15
              refine ck (l := [16, 17, 18, 19]) (r := (rg 20 15)) (e' := [(1, pt b1), (2, bl false), (3, pt b2), (47, bl true), (50, bl (v == 0)), (51, bl (v == 0))]) hA [i64 v] (cc (hO.l1 1 4 3 (i64 v)) c0) ?_
              clear hA fr; intro fr hA
              rcases Bool.eq_false_or_eq_true (v == 0) with h16 | h16
              ·
                replace hA := hA.bool (f := fun z_ => [(1, pt b1), (2, bl false), (3, pt b2), (47, bl true), (50, .bool z_), (51, .bool z_)]) h16
                have h16p := eq_of_beq h16
                refine ck (l := (rg 20 15)) (r := []) (e' := [(2, bl true)]) hA [] c0 ?_
                clear hA fr; intro fr hA
                refine end_ops ?_
                refine then_normal ?_
                refine wp_ret ?_
                refine cR (cs := [none]) (us := [bl true]) hA [] trivial ?_
                have hF := hO.only; clear hA hO
                exact ⟨by simp_all [pack, legF] <;> omega, hF⟩
              ·
                replace hA := hA.bool (f := fun z_ => [(1, pt b1), (2, bl false), (3, pt b2), (47, bl true), (50, .bool z_), (51, .bool z_)]) h16
                have h16p := ne_of_beq_false h16
                refine ck (l := [20, 21, 22]) (r := (rg 23 12)) (e' := [(1, pt b1), (2, bl false), (47, bl true), (51, bl false), (53, bl fv), (54, bl fv)]) hA [bl fv] (cc (hO.l1 0 4 4 (bl fv)) c0) ?_
                clear hA fr; intro fr hA
                rcases Bool.eq_false_or_eq_true (fv) with h17 | h17
                ·
                  replace hA := hA.bool (f := fun z_ => [(1, pt b1), (2, bl false), (47, bl true), (51, bl false), (53, .bool z_), (54, .bool z_)]) h17
                  refine ck (l := (rg 23 5)) (r := (rg 28 7)) (e' := [(1, pt b1), (2, bl false), (47, bl true), (51, bl false), (57, bl (decide (v ≥ (-32768)))), (58, bl (decide (v ≥ (-32768)))), (59, bl (decide (v ≥ (-32768))))]) hA [i64 v] (cc (hO.l1 1 4 3 (i64 v)) c0) ?_
                  clear hA fr; intro fr hA
                  rcases Bool.eq_false_or_eq_true (decide (v ≥ (-32768))) with h18 | h18
                  ·
                    replace hA := hA.bool (f := fun z_ => [(1, pt b1), (2, bl false), (47, bl true), (51, bl false), (57, .bool z_), (58, .bool z_), (59, .bool z_)]) h18
                    have h18p := of_decide_eq_true h18
                    refine ck (l := (rg 28 7)) (r := []) (e' := [(2, bl (decide (v ≤ 32767)))]) hA [i64 v] (cc (hO.l1 1 4 3 (i64 v)) c0) ?_
                    clear hA fr; intro fr hA
                    refine end_ops ?_
                    refine then_normal ?_
                    refine wp_ret ?_
                    refine cR (cs := [none]) (us := [bl (decide (v ≤ 32767))]) hA [] trivial ?_
                    have hF := hO.only; clear hA hO
                    exact ⟨by simp_all [pack, legF] <;> omega, hF⟩
                  ·
                    replace hA := hA.bool (f := fun z_ => [(1, pt b1), (2, bl false), (47, bl true), (51, bl false), (57, .bool z_), (58, .bool z_), (59, .bool z_)]) h18
                    have h18p := of_decide_eq_false h18
                    refine ck (l := (rg 28 7)) (r := []) (e' := [(2, bl false)]) hA [] c0 ?_
                    clear hA fr; intro fr hA
                    refine end_ops ?_
                    refine then_normal ?_
                    refine wp_ret ?_
                    refine cR (cs := [none]) (us := [bl false]) hA [] trivial ?_
                    have hF := hO.only; clear hA hO
                    exact ⟨by simp_all [pack, legF] <;> omega, hF⟩
                ·
                  replace hA := hA.bool (f := fun z_ => [(1, pt b1), (2, bl false), (47, bl true), (51, bl false), (53, .bool z_), (54, .bool z_)]) h17
                  refine ck (l := (rg 23 12)) (r := []) (e' := [(2, bl false)]) hA [] c0 ?_
                  clear hA fr; intro fr hA
                  refine end_ops ?_
                  refine then_normal ?_
                  refine wp_ret ?_
                  refine cR (cs := [none]) (us := [bl false]) hA [] trivial ?_
                  have hF := hO.only; clear hA hO
                  exact ⟨by simp_all [pack, legF] <;> omega, hF⟩
            ·
              replace hA := hA.bool (f := fun z_ => [(1, pt b1), (2, bl false), (3, pt b2), (4, .bool z_), (45, .bool z_), (46, .bool z_), (47, .bool z_)]) h15
              refine ck (l := (rg 16 19)) (r := []) (e' := [(2, bl false)]) hA [] c0 ?_
              clear hA fr; intro fr hA
              refine end_ops ?_
              refine then_normal ?_
              refine wp_ret ?_
              refine cR (cs := [none]) (us := [bl false]) hA [] trivial ?_
              have hF := hO.only; clear hA hO
              exact ⟨by simp_all [pack, legF] <;> omega, hF⟩
          ·
            replace hA := hA.bool (f := fun z_ => [(1, pt b1), (2, bl false), (3, pt b2), (4, bl (regB c fc)), (42, .bool z_), (43, .bool z_), (44, .bool z_)]) h14
            refine ck (l := (rg 13 22)) (r := []) (e' := [(2, bl false)]) hA [] c0 ?_
            clear hA fr; intro fr hA
            refine end_ops ?_
            refine then_normal ?_
            refine wp_ret ?_
            refine cR (cs := [none]) (us := [bl false]) hA [] trivial ?_
            have hF := hO.only; clear hA hO
            exact ⟨by simp_all [pack, legF] <;> omega, hF⟩
        ·
          replace hA := hA.bool (f := fun z_ => [(1, pt b1), (2, bl false), (3, pt b2), (4, bl (regB c fc)), (36, .bool z_), (37, .bool z_)]) h13
          refine ck (l := (rg 6 29)) (r := []) (e' := [(2, bl false)]) hA [] c0 ?_
          clear hA fr; intro fr hA
          refine end_ops ?_
          refine then_normal ?_
          refine wp_ret ?_
          refine cR (cs := [none]) (us := [bl false]) hA [] trivial ?_
          have hF := hO.only; clear hA hO
          exact ⟨by simp_all [pack, legF] <;> omega, hF⟩

end Go.Proofs.YtkfnkcpdabdboaaDoor
