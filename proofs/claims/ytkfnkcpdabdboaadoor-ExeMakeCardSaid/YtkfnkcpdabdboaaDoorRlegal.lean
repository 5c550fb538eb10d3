/- The layer cpu: walks of the reference: Legal, Decode. -/
import Derived.Test.YtkfnkcpdabdboaaDoorCdecode
set_option linter.unusedVariables false
set_option linter.unusedSimpArgs false
set_option maxRecDepth 10000
namespace Go.Proofs.YtkfnkcpdabdboaaDoor
open Go Go.RowKit Go.Proofs.Sx

theorem form_any (o : Int) (w : World) :
    Calls Tryd.prog 43 #[i64 o] w fun e w' => e = .returned (.int .i64 (formF o)) ∧ Only none' w w' := by
  refine c_enter (args := [i64 o]) (m := 44) (n := 45) Tryd.func43 rfl (by kernel_rfl) (by kernel_rfl) fun fr hA => ?_
  have hO := Ow.nil Tryd.prog none' w
  refine sC (e' := [(0, i64 o), (2, i64 0)]) 1 hA [] c0 ?_
  clear hA fr; intro fr hA
  refine wp_seq ?_
  refine wp_block ?_
  refine sR (l := (rg 0 15)) ?_
  refine ck (l := [0, 1, 2]) (r := (rg 3 12)) (e' := [(0, i64 o), (2, i64 0), (5, bl (o == 1)), (6, bl (o == 1))]) hA [] c0 ?_
  clear hA fr; intro fr hA
  rcases Bool.eq_false_or_eq_true (o == 1) with h1 | h1
  ·
    replace hA := hA.bool (f := fun z_ => [(0, i64 o), (2, i64 0), (5, .bool z_), (6, .bool z_)]) h1
    have h1p := eq_of_beq h1
    refine ck (l := (rg 3 12)) (r := []) (e' := [(0, i64 o), (2, i64 0), (3, bl true)]) hA [] c0 ?_
    clear hA fr; intro fr hA
    refine end_ops ?_
    refine then_normal ?_
    refine cT hA ?_
    refine sC (e' := [(2, i64 1)]) 1 hA [] c0 ?_
    clear hA fr; intro fr hA
    refine wp_ret ?_
    refine inBlock_ret ?_
    refine then_ret ?_
    refine cR (cs := [none]) (us := [i64 1]) hA [] trivial ?_
    have hF := hO.only; clear hA hO
    exact ⟨congrArg (fun z => Ending.returned (.int .i64 z)) (by unfold formF; (repeat' split) <;> omega), hF⟩
  ·
    replace hA := hA.bool (f := fun z_ => [(0, i64 o), (2, i64 0), (5, .bool z_), (6, .bool z_)]) h1
    have h1p := ne_of_beq_false h1
    refine ck (l := [3, 4, 5, 6]) (r := (rg 7 8)) (e' := [(0, i64 o), (2, i64 0), (8, bl (o == 2)), (9, bl (o == 2)), (10, bl (o == 2))]) hA [] c0 ?_
    clear hA fr; intro fr hA
    rcases Bool.eq_false_or_eq_true (o == 2) with h2 | h2
    ·
      replace hA := hA.bool (f := fun z_ => [(0, i64 o), (2, i64 0), (8, .bool z_), (9, .bool z_), (10, .bool z_)]) h2
      have h2p := eq_of_beq h2
      refine ck (l := (rg 7 8)) (r := []) (e' := [(0, i64 o), (2, i64 0), (3, bl true)]) hA [] c0 ?_
      clear hA fr; intro fr hA
      refine end_ops ?_
      refine then_normal ?_
      refine cT hA ?_
      refine sC (e' := [(2, i64 1)]) 1 hA [] c0 ?_
      clear hA fr; intro fr hA
      refine wp_ret ?_
      refine inBlock_ret ?_
      refine then_ret ?_
      refine cR (cs := [none]) (us := [i64 1]) hA [] trivial ?_
      have hF := hO.only; clear hA hO
      exact ⟨congrArg (fun z => Ending.returned (.int .i64 z)) (by unfold formF; (repeat' split) <;> omega), hF⟩
    ·
      replace hA := hA.bool (f := fun z_ => [(0, i64 o), (2, i64 0), (8, .bool z_), (9, .bool z_), (10, .bool z_)]) h2
      have h2p := ne_of_beq_false h2
      refine ck (l := [7, 8, 9, 10]) (r := [11, 12, 13, 14]) (e' := [(0, i64 o), (2, i64 0), (12, bl (o == 19)), (13, bl (o == 19)), (14, bl (o == 19))]) hA [] c0 ?_
      clear hA fr; intro fr hA
      rcases Bool.eq_false_or_eq_true (o == 19) with h3 | h3
      ·
        replace hA := hA.bool (f := fun z_ => [(0, i64 o), (2, i64 0), (12, .bool z_), (13, .bool z_), (14, .bool z_)]) h3
        have h3p := eq_of_beq h3
        refine ck (l := [11, 12, 13, 14]) (r := []) (e' := [(0, i64 o), (2, i64 0), (3, bl true)]) hA [] c0 ?_
        clear hA fr; intro fr hA
        refine end_ops ?_
        refine then_normal ?_
        refine cT hA ?_
        refine sC (e' := [(2, i64 1)]) 1 hA [] c0 ?_
        clear hA fr; intro fr hA
        refine wp_ret ?_
        refine inBlock_ret ?_
        refine then_ret ?_
        refine cR (cs := [none]) (us := [i64 1]) hA [] trivial ?_
        have hF := hO.only; clear hA hO
        exact ⟨congrArg (fun z => Ending.returned (.int .i64 z)) (by unfold formF; (repeat' split) <;> omega), hF⟩
      ·
        replace hA := hA.bool (f := fun z_ => [(0, i64 o), (2, i64 0), (12, .bool z_), (13, .bool z_), (14, .bool z_)]) h3
        have h3p := ne_of_beq_false h3
        refine ck (l := [11, 12, 13, 14]) (r := []) (e' := [(0, i64 o), (2, i64 0), (3, bl (o == 20))]) hA [] c0 ?_
        clear hA fr; intro fr hA
        refine end_ops ?_
        refine then_normal ?_
        rcases Bool.eq_false_or_eq_true (o == 20) with h4 | h4
        ·
          replace hA := hA.bool (f := fun z_ => [(0, i64 o), (2, i64 0), (3, .bool z_)]) h4
          have h4p := eq_of_beq h4
          refine cT hA ?_
          refine sC (e' := [(2, i64 1)]) 1 hA [] c0 ?_
          clear hA fr; intro fr hA
          refine wp_ret ?_
          refine inBlock_ret ?_
          refine then_ret ?_
          refine cR (cs := [none]) (us := [i64 1]) hA [] trivial ?_
          have hF := hO.only; clear hA hO
          exact ⟨congrArg (fun z => Ending.returned (.int .i64 z)) (by unfold formF; (repeat' split) <;> omega), hF⟩
        ·
          replace hA := hA.bool (f := fun z_ => [(0, i64 o), (2, i64 0), (3, .bool z_)]) h4
          have h4p := ne_of_beq_false h4
          refine cF hA ?_
          refine sR (l := (rg 0 11)) ?_
          refine ck (l := [0, 1, 2]) (r := (rg 3 8)) (e' := [(0, i64 o), (2, i64 0), (20, bl (o == 3)), (21, bl (o == 3))]) hA [] c0 ?_
          clear hA fr; intro fr hA
          rcases Bool.eq_false_or_eq_true (o == 3) with h5 | h5
          ·
            replace hA := hA.bool (f := fun z_ => [(0, i64 o), (2, i64 0), (20, .bool z_), (21, .bool z_)]) h5
            have h5p := eq_of_beq h5
            refine ck (l := (rg 3 8)) (r := []) (e' := [(0, i64 o), (2, i64 0), (18, bl true)]) hA [] c0 ?_
            clear hA fr; intro fr hA
            refine end_ops ?_
            refine then_normal ?_
            refine cT hA ?_
            refine sC (e' := [(2, i64 2)]) 1 hA [] c0 ?_
            clear hA fr; intro fr hA
            refine wp_ret ?_
            refine inBlock_ret ?_
            refine then_ret ?_
            refine cR (cs := [none]) (us := [i64 2]) hA [] trivial ?_
            have hF := hO.only; clear hA hO
            exact ⟨congrArg (fun z => Ending.returned (.int .i64 z)) (by unfold formF; (repeat' split) <;> omega), hF⟩
          ·
            replace hA := hA.bool (f := fun z_ => [(0, i64 o), (2, i64 0), (20, .bool z_), (21, .bool z_)]) h5
            have h5p := ne_of_beq_false h5
            refine ck (l := [3, 4, 5]) (r := (rg 6 5)) (e' := [(0, i64 o), (2, i64 0), (21, bl false), (23, bl (decide (o ≥ 14))), (24, bl (decide (o ≥ 14)))]) hA [] c0 ?_
            clear hA fr; intro fr hA
            rcases Bool.eq_false_or_eq_true (decide (o ≥ 14)) with h6 | h6
            ·
              replace hA := hA.bool (f := fun z_ => [(0, i64 o), (2, i64 0), (21, bl false), (23, .bool z_), (24, .bool z_)]) h6
              have h6p := of_decide_eq_true h6
              refine ck (l := (rg 6 5)) (r := []) (e' := [(0, i64 o), (2, i64 0), (18, bl (decide (o ≤ 17)))]) hA [] c0 ?_
              clear hA fr; intro fr hA
              refine end_ops ?_
              refine then_normal ?_
              rcases Bool.eq_false_or_eq_true (decide (o ≤ 17)) with h7 | h7
              ·
                replace hA := hA.bool (f := fun z_ => [(0, i64 o), (2, i64 0), (18, .bool z_)]) h7
                have h7p := of_decide_eq_true h7
                refine cT hA ?_
                refine sC (e' := [(2, i64 2)]) 1 hA [] c0 ?_
                clear hA fr; intro fr hA
                refine wp_ret ?_
                refine inBlock_ret ?_
                refine then_ret ?_
                refine cR (cs := [none]) (us := [i64 2]) hA [] trivial ?_
                have hF := hO.only; clear hA hO
                exact ⟨congrArg (fun z => Ending.returned (.int .i64 z)) (by unfold formF; (repeat' split) <;> omega), hF⟩
              ·
                replace hA := hA.bool (f := fun z_ => [(0, i64 o), (2, i64 0), (18, .bool z_)]) h7
                have h7p := of_decide_eq_false h7
                refine cF hA ?_
                refine sR (l := (rg 0 7)) ?_
                refine ck (l := [0, 1, 2]) (r := [3, 4, 5, 6]) (e' := [(0, i64 o), (2, i64 0), (31, bl (decide (o ≥ 4))), (32, bl (decide (o ≥ 4)))]) hA [] c0 ?_
                clear hA fr; intro fr hA
                rcases Bool.eq_false_or_eq_true (decide (o ≥ 4)) with h8 | h8
                ·
                  replace hA := hA.bool (f := fun z_ => [(0, i64 o), (2, i64 0), (31, .bool z_), (32, .bool z_)]) h8
                  have h8p := of_decide_eq_true h8
                  refine ck (l := [3, 4, 5, 6]) (r := []) (e' := [(0, i64 o), (2, i64 0), (29, bl (decide (o ≤ 13)))]) hA [] c0 ?_
                  clear hA fr; intro fr hA
                  refine end_ops ?_
                  refine then_normal ?_
                  rcases Bool.eq_false_or_eq_true (decide (o ≤ 13)) with h9 | h9
                  ·
                    replace hA := hA.bool (f := fun z_ => [(0, i64 o), (2, i64 0), (29, .bool z_)]) h9
                    have h9p := of_decide_eq_true h9
                    refine cT hA ?_
                    refine sC (e' := [(2, i64 3)]) 1 hA [] c0 ?_
                    clear hA fr; intro fr hA
                    refine wp_ret ?_
                    refine inBlock_ret ?_
                    refine then_ret ?_
                    refine cR (cs := [none]) (us := [i64 3]) hA [] trivial ?_
                    have hF := hO.only; clear hA hO
                    exact ⟨congrArg (fun z => Ending.returned (.int .i64 z)) (by unfold formF; (repeat' split) <;> omega), hF⟩
                  ·
                    replace hA := hA.bool (f := fun z_ => [(0, i64 o), (2, i64 0), (29, .bool z_)]) h9
                    have h9p := of_decide_eq_false h9
                    refine cF hA ?_
                    refine sC (e' := [(0, i64 o), (2, i64 0), (36, bl (o == 18))]) 3 hA [] c0 ?_
                    clear hA fr; intro fr hA
                    rcases Bool.eq_false_or_eq_true (o == 18) with h10 | h10
                    ·
                      replace hA := hA.bool (f := fun z_ => [(0, i64 o), (2, i64 0), (36, .bool z_)]) h10
                      have h10p := eq_of_beq h10
                      refine cT hA ?_
                      refine sC (e' := [(2, i64 4)]) 1 hA [] c0 ?_
                      clear hA fr; intro fr hA
                      refine wp_ret ?_
                      refine inBlock_ret ?_
                      refine then_ret ?_
                      refine cR (cs := [none]) (us := [i64 4]) hA [] trivial ?_
                      have hF := hO.only; clear hA hO
                      exact ⟨congrArg (fun z => Ending.returned (.int .i64 z)) (by unfold formF; (repeat' split) <;> omega), hF⟩
                    ·
                      replace hA := hA.bool (f := fun z_ => [(0, i64 o), (2, i64 0), (36, .bool z_)]) h10
                      have h10p := ne_of_beq_false h10
                      refine cF hA ?_
                      refine sC (e' := [(0, i64 o), (2, i64 0), (39, bl (o == 21))]) 3 hA [] c0 ?_
                      clear hA fr; intro fr hA
                      rcases Bool.eq_false_or_eq_true (o == 21) with h11 | h11
                      ·
                        replace hA := hA.bool (f := fun z_ => [(0, i64 o), (2, i64 0), (39, .bool z_)]) h11
                        have h11p := eq_of_beq h11
                        refine cT hA ?_
                        refine sC (e' := [(2, i64 5)]) 1 hA [] c0 ?_
                        clear hA fr; intro fr hA
                        refine wp_ret ?_
                        refine inBlock_ret ?_
                        refine then_ret ?_
                        refine cR (cs := [none]) (us := [i64 5]) hA [] trivial ?_
                        have hF := hO.only; clear hA hO
                        exact ⟨congrArg (fun z => Ending.returned (.int .i64 z)) (by unfold formF; (repeat' split) <;> omega), hF⟩
                      ·
                        replace hA := hA.bool (f := fun z_ => [(0, i64 o), (2, i64 0), (39, .bool z_)]) h11
                        have h11p := ne_of_beq_false h11
                        refine cF hA ?_
                        refine sC (e' := [(2, i64 0), (42, bl (o == 22))]) 3 hA [] c0 ?_
                        clear hA fr; intro fr hA
                        rcases Bool.eq_false_or_eq_true (o == 22) with h12 | h12
                        ·
                          replace hA := hA.bool (f := fun z_ => [(2, i64 0), (42, .bool z_)]) h12
                          have h12p := eq_of_beq h12
                          refine cT hA ?_
                          refine sC (e' := [(2, i64 6)]) 1 hA [] c0 ?_
                          clear hA fr; intro fr hA
                          refine wp_ret ?_
                          refine inBlock_ret ?_
                          refine then_ret ?_
                          refine cR (cs := [none]) (us := [i64 6]) hA [] trivial ?_
                          have hF := hO.only; clear hA hO
                          exact ⟨congrArg (fun z => Ending.returned (.int .i64 z)) (by unfold formF; (repeat' split) <;> omega), hF⟩
                        ·
                          replace hA := hA.bool (f := fun z_ => [(2, i64 0), (42, .bool z_)]) h12
                          have h12p := ne_of_beq_false h12
                          refine cF hA ?_
                          refine wp_skip ?_
                          refine inBlock_normal ?_
                          refine then_normal ?_
                          refine sC (e' := [(2, i64 0)]) 1 hA [] c0 ?_
                          clear hA fr; intro fr hA
                          refine wp_ret ?_
                          refine cR (cs := [none]) (us := [i64 0]) hA [] trivial ?_
                          have hF := hO.only; clear hA hO
                          exact ⟨congrArg (fun z => Ending.returned (.int .i64 z)) (by unfold formF; (repeat' split) <;> omega), hF⟩
                ·
                  replace hA := hA.bool (f := fun z_ => [(0, i64 o), (2, i64 0), (31, .bool z_), (32, .bool z_)]) h8
                  have h8p := of_decide_eq_false h8
                  refine ck (l := [3, 4, 5, 6]) (r := []) (e' := [(0, i64 o), (2, i64 0), (29, bl false)]) hA [] c0 ?_
                  clear hA fr; intro fr hA
                  refine end_ops ?_
                  refine then_normal ?_
                  refine cF hA ?_
                  refine sC (e' := [(0, i64 o), (2, i64 0), (36, bl (o == 18))]) 3 hA [] c0 ?_
                  clear hA fr; intro fr hA
                  rcases Bool.eq_false_or_eq_true (o == 18) with h13 | h13
                  ·
                    replace hA := hA.bool (f := fun z_ => [(0, i64 o), (2, i64 0), (36, .bool z_)]) h13
                    have h13p := eq_of_beq h13
                    refine cT hA ?_
                    refine sC (e' := [(2, i64 4)]) 1 hA [] c0 ?_
                    clear hA fr; intro fr hA
                    refine wp_ret ?_
                    refine inBlock_ret ?_
                    refine then_ret ?_
                    refine cR (cs := [none]) (us := [i64 4]) hA [] trivial ?_
                    have hF := hO.only; clear hA hO
                    exact ⟨congrArg (fun z => Ending.returned (.int .i64 z)) (by unfold formF; (repeat' split) <;> omega), hF⟩
                  ·
                    replace hA := hA.bool (f := fun z_ => [(0, i64 o), (2, i64 0), (36, .bool z_)]) h13
                    have h13p := ne_of_beq_false h13
                    refine cF hA ?_
                    refine sC (e' := [(0, i64 o), (2, i64 0), (39, bl (o == 21))]) 3 hA [] c0 ?_
                    clear hA fr; intro fr hA
                    rcases Bool.eq_false_or_eq_true (o == 21) with h14 | h14
                    ·
                      replace hA := hA.bool (f := fun z_ => [(0, i64 o), (2, i64 0), (39, .bool z_)]) h14
                      have h14p := eq_of_beq h14
                      refine cT hA ?_
                      refine sC (e' := [(2, i64 5)]) 1 hA [] c0 ?_
                      clear hA fr; intro fr hA
                      refine wp_ret ?_
                      refine inBlock_ret ?_
                      refine then_ret ?_
                      refine cR (cs := [none]) (us := [i64 5]) hA [] trivial ?_
                      have hF := hO.only; clear hA hO
                      exact ⟨congrArg (fun z => Ending.returned (.int .i64 z)) (by unfold formF; (repeat' split) <;> omega), hF⟩
                    ·
                      replace hA := hA.bool (f := fun z_ => [(0, i64 o), (2, i64 0), (39, .bool z_)]) h14
                      have h14p := ne_of_beq_false h14
                      refine cF hA ?_
                      refine sC (e' := [(2, i64 0), (42, bl (o == 22))]) 3 hA [] c0 ?_
                      clear hA fr; intro fr hA
                      rcases Bool.eq_false_or_eq_true (o == 22) with h15 | h15
                      ·
                        replace hA := hA.bool (f := fun z_ => [(2, i64 0), (42, .bool z_)]) h15
                        have h15p := eq_of_beq h15
                        refine cT hA ?_
                        refine sC (e' := [(2, i64 6)]) 1 hA [] c0 ?_
                        clear hA fr; intro fr hA
                        refine wp_ret ?_
                        refine inBlock_ret ?_
                        refine then_ret ?_
                        refine cR (cs := [none]) (us := [i64 6]) hA [] trivial ?_
                        have hF := hO.only; clear hA hO
                        exact ⟨congrArg (fun z => Ending.returned (.int .i64 z)) (by unfold formF; (repeat' split) <;> omega), hF⟩
                      ·
                        replace hA := hA.bool (f := fun z_ => [(2, i64 0), (42, .bool z_)]) h15
                        have h15p := ne_of_beq_false h15
                        refine cF hA ?_
                        refine wp_skip ?_
                        refine inBlock_normal ?_
                        refine then_normal ?_
                        refine sC (e' := [(2, i64 0)]) 1 hA [] c0 ?_
                        clear hA fr; intro fr hA
                        refine wp_ret ?_
                        refine cR (cs := [none]) (us := [i64 0]) hA [] trivial ?_
                        have hF := hO.only; clear hA hO
                        exact ⟨congrArg (fun z => Ending.returned (.int .i64 z)) (by unfold formF; (repeat' split) <;> omega), hF⟩
            ·
              replace hA := hA.bool (f := fun z_ => [(0, i64 o), (2, i64 0), (21, bl false), (23, .bool z_), (24, .bool z_)]) h6
              have h6p := of_decide_eq_false h6
              refine ck (l := (rg 6 5)) (r := []) (e' := [(0, i64 o), (2, i64 0), (18, bl false)]) hA [] c0 ?_
              clear hA fr; intro fr hA
              refine end_ops ?_
              refine then_normal ?_
              refine cF hA ?_
              refine sR (l := (rg 0 7)) ?_
              refine ck (l := [0, 1, 2]) (r := [3, 4, 5, 6]) (e' := [(0, i64 o), (2, i64 0), (31, bl (decide (o ≥ 4))), (32, bl (decide (o ≥ 4)))]) hA [] c0 ?_
              clear hA fr; intro fr hA
              rcases Bool.eq_false_or_eq_true (decide (o ≥ 4)) with h16 | h16
              ·
                replace hA := hA.bool (f := fun z_ => [(0, i64 o), (2, i64 0), (31, .bool z_), (32, .bool z_)]) h16
                have h16p := of_decide_eq_true h16
                refine ck (l := [3, 4, 5, 6]) (r := []) (e' := [(0, i64 o), (2, i64 0), (29, bl (decide (o ≤ 13)))]) hA [] c0 ?_
                clear hA fr; intro fr hA
                refine end_ops ?_
                refine then_normal ?_
                rcases Bool.eq_false_or_eq_true (decide (o ≤ 13)) with h17 | h17
                ·
                  replace hA := hA.bool (f := fun z_ => [(0, i64 o), (2, i64 0), (29, .bool z_)]) h17
                  have h17p := of_decide_eq_true h17
                  refine cT hA ?_
                  refine sC (e' := [(2, i64 3)]) 1 hA [] c0 ?_
                  clear hA fr; intro fr hA
                  refine wp_ret ?_
                  refine inBlock_ret ?_
                  refine then_ret ?_
                  refine cR (cs := [none]) (us := [i64 3]) hA [] trivial ?_
                  have hF := hO.only; clear hA hO
                  exact ⟨congrArg (fun z => Ending.returned (.int .i64 z)) (by unfold formF; (repeat' split) <;> omega), hF⟩
                ·
                  replace hA := hA.bool (f := fun z_ => [(0, i64 o), (2, i64 0), (29, .bool z_)]) h17
                  have h17p := of_decide_eq_false h17
                  refine cF hA ?_
                  refine sC (e' := [(0, i64 o), (2, i64 0), (36, bl (o == 18))]) 3 hA [] c0 ?_
                  clear hA fr; intro fr hA
                  rcases Bool.eq_false_or_eq_true (o == 18) with h18 | h18
                  ·
                    replace hA := hA.bool (f := fun z_ => [(0, i64 o), (2, i64 0), (36, .bool z_)]) h18
                    have h18p := eq_of_beq h18
                    refine cT hA ?_
                    refine sC (e' := [(2, i64 4)]) 1 hA [] c0 ?_
                    clear hA fr; intro fr hA
                    refine wp_ret ?_
                    refine inBlock_ret ?_
                    refine then_ret ?_
                    refine cR (cs := [none]) (us := [i64 4]) hA [] trivial ?_
                    have hF := hO.only; clear hA hO
                    exact ⟨congrArg (fun z => Ending.returned (.int .i64 z)) (by unfold formF; (repeat' split) <;> omega), hF⟩
                  ·
                    replace hA := hA.bool (f := fun z_ => [(0, i64 o), (2, i64 0), (36, .bool z_)]) h18
                    have h18p := ne_of_beq_false h18
                    refine cF hA ?_
                    refine sC (e' := [(0, i64 o), (2, i64 0), (39, bl (o == 21))]) 3 hA [] c0 ?_
                    clear hA fr; intro fr hA
                    rcases Bool.eq_false_or_eq_true (o == 21) with h19 | h19
                    ·
                      replace hA := hA.bool (f := fun z_ => [(0, i64 o), (2, i64 0), (39, .bool z_)]) h19
                      have h19p := eq_of_beq h19
                      refine cT hA ?_
                      refine sC (e' := [(2, i64 5)]) 1 hA [] c0 ?_
                      clear hA fr; intro fr hA
                      refine wp_ret ?_
                      refine inBlock_ret ?_
                      refine then_ret ?_
                      refine cR (cs := [none]) (us := [i64 5]) hA [] trivial ?_
                      have hF := hO.only; clear hA hO
                      exact ⟨congrArg (fun z => Ending.returned (.int .i64 z)) (by unfold formF; (repeat' split) <;> omega), hF⟩
                    ·
                      replace hA := hA.bool (f := fun z_ => [(0, i64 o), (2, i64 0), (39, .bool z_)]) h19
                      have h19p := ne_of_beq_false h19
                      refine cF hA ?_
                      refine sC (e' := [(2, i64 0), (42, bl (o == 22))]) 3 hA [] c0 ?_
                      clear hA fr; intro fr hA
                      rcases Bool.eq_false_or_eq_true (o == 22) with h20 | h20
                      ·
                        replace hA := hA.bool (f := fun z_ => [(2, i64 0), (42, .bool z_)]) h20
                        have h20p := eq_of_beq h20
                        refine cT hA ?_
                        refine sC (e' := [(2, i64 6)]) 1 hA [] c0 ?_
                        clear hA fr; intro fr hA
                        refine wp_ret ?_
                        refine inBlock_ret ?_
                        refine then_ret ?_
                        refine cR (cs := [none]) (us := [i64 6]) hA [] trivial ?_
                        have hF := hO.only; clear hA hO
                        exact ⟨congrArg (fun z => Ending.returned (.int .i64 z)) (by unfold formF; (repeat' split) <;> omega), hF⟩
                      ·
                        replace hA := hA.bool (f := fun z_ => [(2, i64 0), (42, .bool z_)]) h20
                        have h20p := ne_of_beq_false h20
                        refine cF hA ?_
                        refine wp_skip ?_
                        refine inBlock_normal ?_
                        refine then_normal ?_
                        refine sC (e' := [(2, i64 0)]) 1 hA [] c0 ?_
                        clear hA fr; intro fr hA
                        refine wp_ret ?_
                        refine cR (cs := [none]) (us := [i64 0]) hA [] trivial ?_
                        have hF := hO.only; clear hA hO
                        exact ⟨congrArg (fun z => Ending.returned (.int .i64 z)) (by unfold formF; (repeat' split) <;> omega), hF⟩
              ·
                replace hA := hA.bool (f := fun z_ => [(0, i64 o), (2, i64 0), (31, .bool z_), (32, .bool z_)]) h16
                have h16p := of_decide_eq_false h16
                refine ck (l := [3, 4, 5, 6]) (r := []) (e' := [(0, i64 o), (2, i64 0), (29, bl false)]) hA [] c0 ?_
                clear hA fr; intro fr hA
                refine end_ops ?_
                refine then_normal ?_
                refine cF hA ?_
                refine sC (e' := [(0, i64 o), (2, i64 0), (36, bl (o == 18))]) 3 hA [] c0 ?_
                clear hA fr; intro fr hA
                rcases Bool.eq_false_or_eq_true (o == 18) with h21 | h21
                ·
                  replace hA := hA.bool (f := fun z_ => [(0, i64 o), (2, i64 0), (36, .bool z_)]) h21
                  have h21p := eq_of_beq h21
                  refine cT hA ?_
                  refine sC (e' := [(2, i64 4)]) 1 hA [] c0 ?_
                  clear hA fr; intro fr hA
                  refine wp_ret ?_
                  refine inBlock_ret ?_
                  refine then_ret ?_
                  refine cR (cs := [none]) (us := [i64 4]) hA [] trivial ?_
                  have hF := hO.only; clear hA hO
                  exact ⟨congrArg (fun z => Ending.returned (.int .i64 z)) (by unfold formF; (repeat' split) <;> omega), hF⟩
                ·
                  replace hA := hA.bool (f := fun z_ => [(0, i64 o), (2, i64 0), (36, .bool z_)]) h21
                  have h21p := ne_of_beq_false h21
                  refine cF hA ?_
                  refine sC (e' := [(0, i64 o), (2, i64 0), (39, bl (o == 21))]) 3 hA [] c0 ?_
                  clear hA fr; intro fr hA
                  rcases Bool.eq_false_or_eq_true (o == 21) with h22 | h22
                  ·
                    replace hA := hA.bool (f := fun z_ => [(0, i64 o), (2, i64 0), (39, .bool z_)]) h22
                    have h22p := eq_of_beq h22
                    refine cT hA ?_
                    refine sC (e' := [(2, i64 5)]) 1 hA [] c0 ?_
                    clear hA fr; intro fr hA
                    refine wp_ret ?_
                    refine inBlock_ret ?_
                    refine then_ret ?_
                    refine cR (cs := [none]) (us := [i64 5]) hA [] trivial ?_
                    have hF := hO.only; clear hA hO
                    exact ⟨congrArg (fun z => Ending.returned (.int .i64 z)) (by unfold formF; (repeat' split) <;> omega), hF⟩
                  ·
                    replace hA := hA.bool (f := fun z_ => [(0, i64 o), (2, i64 0), (39, .bool z_)]) h22
                    have h22p := ne_of_beq_false h22
                    refine cF hA ?_
                    refine sC (e' := [(2, i64 0), (42, bl (o == 22))]) 3 hA [] c0 ?_
                    clear hA fr; intro fr hA
                    rcases Bool.eq_false_or_eq_true (o == 22) with h23 | h23
                    ·
                      replace hA := hA.bool (f := fun z_ => [(2, i64 0), (42, .bool z_)]) h23
                      have h23p := eq_of_beq h23
                      refine cT hA ?_
                      refine sC (e' := [(2, i64 6)]) 1 hA [] c0 ?_
                      clear hA fr; intro fr hA
                      refine wp_ret ?_
                      refine inBlock_ret ?_
                      refine then_ret ?_
                      refine cR (cs := [none]) (us := [i64 6]) hA [] trivial ?_
                      have hF := hO.only; clear hA hO
                      exact ⟨congrArg (fun z => Ending.returned (.int .i64 z)) (by unfold formF; (repeat' split) <;> omega), hF⟩
                    ·
                      replace hA := hA.bool (f := fun z_ => [(2, i64 0), (42, .bool z_)]) h23
                      have h23p := ne_of_beq_false h23
                      refine cF hA ?_
                      refine wp_skip ?_
                      refine inBlock_normal ?_
                      refine then_normal ?_
                      refine sC (e' := [(2, i64 0)]) 1 hA [] c0 ?_
                      clear hA fr; intro fr hA
                      refine wp_ret ?_
                      refine cR (cs := [none]) (us := [i64 0]) hA [] trivial ?_
                      have hF := hO.only; clear hA hO
                      exact ⟨congrArg (fun z => Ending.returned (.int .i64 z)) (by unfold formF; (repeat' split) <;> omega), hF⟩

theorem in_any (x l m : Int) (w : World) :
    Calls Tryd.prog 52 #[i64 x, i64 l, i64 m] w fun e w' => e = .returned (.bool (inB x l m)) ∧ Only none' w w' := by
  refine c_enter (args := [i64 x, i64 l, i64 m]) (m := 12) (n := 15) Tryd.func52 rfl (by kernel_rfl) (by kernel_rfl) fun fr hA => ?_
  have hO := Ow.nil Tryd.prog none' w
  refine sC (e' := [(0, i64 x), (1, i64 l), (2, i64 m), (6, bl false)]) 1 hA [] c0 ?_
  clear hA fr; intro fr hA
  refine sR (l := (rg 0 9)) ?_
  refine ck (l := [0, 1, 2, 3]) (r := (rg 4 5)) (e' := [(0, i64 x), (2, i64 m), (6, bl false), (9, bl (decide (x ≥ l))), (10, bl (decide (x ≥ l)))]) hA [] c0 ?_
  clear hA fr; intro fr hA
  rcases Bool.eq_false_or_eq_true (decide (x ≥ l)) with h1 | h1
  ·
    replace hA := hA.bool (f := fun z_ => [(0, i64 x), (2, i64 m), (6, bl false), (9, .bool z_), (10, .bool z_)]) h1
    have h1p := of_decide_eq_true h1
    refine ck (l := (rg 4 5)) (r := []) (e' := [(6, bl (decide (x ≤ m)))]) hA [] c0 ?_
    clear hA fr; intro fr hA
    refine end_ops ?_
    refine then_normal ?_
    refine wp_ret ?_
    refine cR (cs := [none]) (us := [bl (decide (x ≤ m))]) hA [] trivial ?_
    have hF := hO.only; clear hA hO
    exact ⟨by simp_all [pack, inB] <;> omega, hF⟩
  ·
    replace hA := hA.bool (f := fun z_ => [(0, i64 x), (2, i64 m), (6, bl false), (9, .bool z_), (10, .bool z_)]) h1
    have h1p := of_decide_eq_false h1
    refine ck (l := (rg 4 5)) (r := []) (e' := [(6, bl false)]) hA [] c0 ?_
    clear hA fr; intro fr hA
    refine end_ops ?_
    refine then_normal ?_
    refine wp_ret ?_
    refine cR (cs := [none]) (us := [bl false]) hA [] trivial ?_
    have hF := hO.only; clear hA hO
    exact ⟨by simp_all [pack, inB] <;> omega, hF⟩

theorem rlegal_0 (o a b c v : Int) (w : World) (hf : formF o = 0) :
    Calls Tryd.prog 44 #[.agg #[i64 o, i64 a, i64 b, i64 c, i64 v]] w fun e w' => e = .returned (.bool false) ∧ Only none' w w' := by
  refine c_enter (args := [.agg #[i64 o, i64 a, i64 b, i64 c, i64 v]]) (m := 81) (n := 82) Tryd.func44 rfl (by kernel_rfl) (by kernel_rfl) fun fr hA => ?_
  have hO := Ow.nil Tryd.prog none' w
  refine sR (l := [0, 1]) ?_
  refine wpOps_cons' (mN (l := [i64 o, i64 a, i64 b, i64 c, i64 v]) (t := 56) (v := pt) (d := 1) hA hO ?_)
  clear hA hO fr; intro fr w1 b1 hA hO
  replace hA := hA.sb (e' := [(1, pt b1)])
  refine ck (l := [1]) (r := []) (e' := [(1, pt b1), (2, bl false)]) hA [] c0 ?_
  clear hA fr; intro fr hA
  refine end_ops ?_
  refine then_normal ?_
  refine sR (l := [0, 1, 2, 3]) ?_
  refine ck (l := [0, 1]) (r := [2, 3]) (e' := [(1, pt b1), (2, bl false), (8, i64 o)]) hA [i64 o] (cc (hO.l1 0 0 3 (i64 o)) c0) ?_
  clear hA fr; intro fr hA
  refine wpOps_cons' (mK (f := 43) (args := [i64 o]) (d := (some 9)) (v := i64 0) hA hO Tryd.func43 (rs (form_any o _) (congrArg _ hf)) ?_)
  clear hA hO fr; intro fr w2 hA hO
  replace hA := hA.sb (e' := [(1, pt b1), (2, bl false), (9, i64 0)])
  refine ck (l := [3]) (r := []) (e' := [(1, pt b1), (2, bl false), (3, i64 0)]) hA [] c0 ?_
  clear hA fr; intro fr hA
  refine end_ops ?_
  refine then_normal ?_
  refine sR (l := (rg 0 5)) ?_
  refine ck (l := [0, 1, 2]) (r := [3, 4]) (e' := [(1, pt b1), (2, bl false), (3, i64 0), (12, .agg #[i64 o, i64 0, i64 0, i64 0, i64 0])]) hA [i64 o] (cc (hO.l1 0 0 3 (i64 o)) c0) ?_
  clear hA fr; intro fr hA
  refine wpOps_cons' (mN (l := [i64 0, i64 0, i64 0, i64 0, i64 0]) (t := 56) (v := pt) (d := 4) hA hO ?_)
  clear hA hO fr; intro fr w3 b2 hA hO
  refine wpOps_cons' (mS (off := 0) (vc := [i64 o, i64 0, i64 0, i64 0, i64 0]) 0 hA hO ?_)
  clear hO; intro w4 hO
  replace hA := hA.sb (e' := [(1, pt b1), (2, bl false), (3, i64 0), (4, pt b2)])
  refine end_ops ?_
  refine then_normal ?_
  refine wp_seq ?_
  refine sC (e' := [(1, pt b1), (2, bl false), (3, i64 0), (4, pt b2), (26, bl false)]) 14 hA [] c0 ?_
  clear hA fr; intro fr hA
  refine cF hA ?_
  refine wp_skip ?_
  refine then_normal ?_
  refine wp_seq ?_
  refine sC (e' := [(1, pt b1), (2, bl false), (3, i64 0), (4, pt b2), (35, bl false)]) 6 hA [] c0 ?_
  clear hA fr; intro fr hA
  refine cF hA ?_
  refine wp_skip ?_
  refine then_normal ?_
  refine wp_seq ?_
  refine sC (e' := [(1, pt b1), (2, bl false), (3, i64 0), (4, pt b2), (47, bl false)]) 6 hA [] c0 ?_
  clear hA fr; intro fr hA
  refine cF hA ?_
  refine wp_skip ?_
  refine then_normal ?_
  refine sC (e' := [(1, pt b1), (2, bl false), (3, i64 0), (4, pt b2), (5, i64 0), (6, i64 15)]) 2 hA [] c0 ?_
  clear hA fr; intro fr hA
  refine wp_seq ?_
  refine sC (e' := [(1, pt b1), (2, bl false), (3, i64 0), (4, pt b2), (5, i64 0), (6, i64 15), (52, bl false)]) 2 hA [] c0 ?_
  clear hA fr; intro fr hA
  refine cF hA ?_
  refine wp_skip ?_
  refine then_normal ?_
  refine sC (e' := [(2, bl false)]) 30 hA [] c0 ?_
  clear hA fr; intro fr hA
  refine wp_ret ?_
  refine cR (cs := [none]) (us := [bl false]) hA [] trivial ?_
  have hF := hO.only; clear hA hO
  exact ⟨by simp_all [pack], hF⟩

theorem rlegal_1 (o a b c v : Int) (w : World) (hf : formF o = 1) :
    Calls Tryd.prog 44 #[.agg #[i64 o, i64 a, i64 b, i64 c, i64 v]] w fun e w' => e = .returned (.bool (legF true false false true false a b c v)) ∧ Only none' w w' := by
  refine c_enter (args := [.agg #[i64 o, i64 a, i64 b, i64 c, i64 v]]) (m := 81) (n := 82) Tryd.func44 rfl (by kernel_rfl) (by kernel_rfl) fun fr hA => ?_
  have hO := Ow.nil Tryd.prog none' w
  refine sR (l := [0, 1]) ?_
  refine wpOps_cons' (mN (l := [i64 o, i64 a, i64 b, i64 c, i64 v]) (t := 56) (v := pt) (d := 1) hA hO ?_)
  clear hA hO fr; intro fr w1 b1 hA hO
  replace hA := hA.sb (e' := [(1, pt b1)])
  refine ck (l := [1]) (r := []) (e' := [(1, pt b1), (2, bl false)]) hA [] c0 ?_
  clear hA fr; intro fr hA
  refine end_ops ?_
  refine then_normal ?_
  refine sR (l := [0, 1, 2, 3]) ?_
  refine ck (l := [0, 1]) (r := [2, 3]) (e' := [(1, pt b1), (2, bl false), (8, i64 o)]) hA [i64 o] (cc (hO.l1 0 0 3 (i64 o)) c0) ?_
  clear hA fr; intro fr hA
  refine wpOps_cons' (mK (f := 43) (args := [i64 o]) (d := (some 9)) (v := i64 1) hA hO Tryd.func43 (rs (form_any o _) (congrArg _ hf)) ?_)
  clear hA hO fr; intro fr w2 hA hO
  replace hA := hA.sb (e' := [(1, pt b1), (2, bl false), (9, i64 1)])
  refine ck (l := [3]) (r := []) (e' := [(1, pt b1), (2, bl false), (3, i64 1)]) hA [] c0 ?_
  clear hA fr; intro fr hA
  refine end_ops ?_
  refine then_normal ?_
  refine sR (l := (rg 0 5)) ?_
  refine ck (l := [0, 1, 2]) (r := [3, 4]) (e' := [(1, pt b1), (2, bl false), (3, i64 1), (12, .agg #[i64 o, i64 0, i64 0, i64 0, i64 0])]) hA [i64 o] (cc (hO.l1 0 0 3 (i64 o)) c0) ?_
  clear hA fr; intro fr hA
  refine wpOps_cons' (mN (l := [i64 0, i64 0, i64 0, i64 0, i64 0]) (t := 56) (v := pt) (d := 4) hA hO ?_)
  clear hA hO fr; intro fr w3 b2 hA hO
  refine wpOps_cons' (mS (off := 0) (vc := [i64 o, i64 0, i64 0, i64 0, i64 0]) 0 hA hO ?_)
  clear hO; intro w4 hO
  replace hA := hA.sb (e' := [(1, pt b1), (2, bl false), (3, i64 1), (4, pt b2)])
  refine end_ops ?_
  refine then_normal ?_
  refine wp_seq ?_
  refine sC (e' := [(1, pt b1), (2, bl false), (3, i64 1), (4, pt b2), (26, bl true)]) 14 hA [] c0 ?_
  clear hA fr; intro fr hA
  refine cT hA ?_
  refine rR (l := [0, 1, 2, 3]) ?_
  refine ck (l := [0, 1, 2]) (r := [3]) (e' := [(1, pt b1), (2, bl false), (3, i64 1), (4, pt b2), (28, i64 a), (29, pf b2 1)]) hA [i64 a] (cc (hO.l1 1 1 3 (i64 a)) c0) ?_
  clear hA fr; intro fr hA
  refine wpOps_cons' (mS (off := 1) (vc := [i64 a]) 0 hA hO ?_)
  clear hO; intro w5 hO
  replace hA := hA.sb (e' := [(1, pt b1), (2, bl false), (3, i64 1), (4, pt b2)])
  refine end_ops ?_
  refine then_normal ?_
  refine wp_seq ?_
  refine sC (e' := [(1, pt b1), (2, bl false), (3, i64 1), (4, pt b2), (35, bl false)]) 6 hA [] c0 ?_
  clear hA fr; intro fr hA
  refine cF hA ?_
  refine wp_skip ?_
  refine then_normal ?_
  refine wp_seq ?_
  refine sC (e' := [(1, pt b1), (2, bl false), (3, i64 1), (4, pt b2), (47, bl true)]) 6 hA [] c0 ?_
  clear hA fr; intro fr hA
  refine cT hA ?_
  refine rR (l := [0, 1, 2, 3]) ?_
  refine ck (l := [0, 1, 2]) (r := [3]) (e' := [(1, pt b1), (2, bl false), (3, i64 1), (4, pt b2), (49, i64 v), (50, pf b2 4)]) hA [i64 v] (cc (hO.l1 1 4 3 (i64 v)) c0) ?_
  clear hA fr; intro fr hA
  refine wpOps_cons' (mS (off := 4) (vc := [i64 v]) 0 hA hO ?_)
  clear hO; intro w6 hO
  replace hA := hA.sb (e' := [(1, pt b1), (2, bl false), (3, i64 1), (4, pt b2)])
  refine end_ops ?_
  refine then_normal ?_
  refine sC (e' := [(1, pt b1), (2, bl false), (3, i64 1), (4, pt b2), (5, i64 0), (6, i64 15)]) 2 hA [] c0 ?_
  clear hA fr; intro fr hA
  refine wp_seq ?_
  refine sC (e' := [(1, pt b1), (2, bl false), (3, i64 1), (4, pt b2), (5, i64 0), (6, i64 15), (52, bl false)]) 2 hA [] c0 ?_
  clear hA fr; intro fr hA
  refine cF hA ?_
  refine wp_skip ?_
  refine then_normal ?_
  refine sR (l := (rg 0 30)) ?_
  refine ck (l := (rg 0 8)) (r := (rg 8 22)) (e' := [(1, pt b1), (2, bl false), (5, i64 0), (6, i64 15), (58, bl ((o == o) && ((a == a) && ((b == 0) && ((c == 0) && ((v == v) && true)))))), (59, bl ((o == o) && ((a == a) && ((b == 0) && ((c == 0) && ((v == v) && true)))))), (60, bl ((o == o) && ((a == a) && ((b == 0) && ((c == 0) && ((v == v) && true))))))]) hA [.agg #[i64 o, i64 a, i64 b, i64 c, i64 v], .agg #[i64 o, i64 a, i64 0, i64 0, i64 v], bl ((o == o) && ((a == a) && ((b == 0) && ((c == 0) && ((v == v) && true)))))] (cc (hO.ln 1 0 56 [i64 o, i64 a, i64 b, i64 c, i64 v]) (cc (hO.ln 0 0 56 [i64 o, i64 a, i64 0, i64 0, i64 v]) (cc ((eqG_of (by kernel_rfl) (by kernel_rfl)) : EqG Tryd.prog 56 (.agg #[i64 o, i64 a, i64 b, i64 c, i64 v]) (.agg #[i64 o, i64 a, i64 0, i64 0, i64 v]) ((o == o) && ((a == a) && ((b == 0) && ((c == 0) && ((v == v) && true)))))) c0))) ?_
  clear hA fr; intro fr hA
  rcases Bool.eq_false_or_eq_true ((o == o) && ((a == a) && ((b == 0) && ((c == 0) && ((v == v) && true))))) with h1 | h1
  ·
    replace hA := hA.bool (f := fun z_ => [(1, pt b1), (2, bl false), (5, i64 0), (6, i64 15), (58, .bool z_), (59, .bool z_), (60, .bool z_)]) h1
    refine ck (l := [8, 9]) (r := (rg 10 20)) (e' := [(1, pt b1), (2, bl false), (5, i64 0), (6, i64 15), (60, bl true), (62, i64 a)]) hA [i64 a] (cc (hO.l1 1 1 3 (i64 a)) c0) ?_
    clear hA fr; intro fr hA
    refine wpOps_cons' (mK (f := 52) (args := [i64 a, i64 0, i64 15]) (d := (some 63)) (v := bl (inB a 0 15)) hA hO Tryd.func52 (in_any a 0 15 _) ?_)
    clear hA hO fr; intro fr w7 hA hO
    replace hA := hA.sb (e' := [(1, pt b1), (2, bl false), (5, i64 0), (6, i64 15), (60, bl true), (63, bl (inB a 0 15))])
    refine ck (l := [11, 12]) (r := (rg 13 17)) (e' := [(1, pt b1), (2, bl false), (5, i64 0), (6, i64 15), (63, bl (inB a 0 15)), (64, bl (inB a 0 15)), (65, bl (inB a 0 15))]) hA [] c0 ?_
    clear hA fr; intro fr hA
    rcases Bool.eq_false_or_eq_true (inB a 0 15) with h2 | h2
    ·
      replace hA := hA.bool (f := fun z_ => [(1, pt b1), (2, bl false), (5, i64 0), (6, i64 15), (63, .bool z_), (64, .bool z_), (65, .bool z_)]) h2
      refine ck (l := [13, 14]) (r := (rg 15 15)) (e' := [(1, pt b1), (2, bl false), (5, i64 0), (6, i64 15), (65, bl true), (67, i64 b)]) hA [i64 b] (cc (hO.l1 1 2 3 (i64 b)) c0) ?_
      clear hA fr; intro fr hA
      refine wpOps_cons' (mK (f := 52) (args := [i64 b, i64 0, i64 15]) (d := (some 68)) (v := bl (inB b 0 15)) hA hO Tryd.func52 (in_any b 0 15 _) ?_)
      clear hA hO fr; intro fr w8 hA hO
      replace hA := hA.sb (e' := [(1, pt b1), (2, bl false), (5, i64 0), (6, i64 15), (65, bl true), (68, bl (inB b 0 15))])
      refine ck (l := [16, 17]) (r := (rg 18 12)) (e' := [(1, pt b1), (2, bl false), (5, i64 0), (6, i64 15), (68, bl (inB b 0 15)), (69, bl (inB b 0 15)), (70, bl (inB b 0 15))]) hA [] c0 ?_
      clear hA fr; intro fr hA
      rcases Bool.eq_false_or_eq_true (inB b 0 15) with h3 | h3
      ·
        replace hA := hA.bool (f := fun z_ => [(1, pt b1), (2, bl false), (5, i64 0), (6, i64 15), (68, .bool z_), (69, .bool z_), (70, .bool z_)]) h3
        refine ck (l := [18, 19, 20, 21]) (r := (rg 22 8)) (e' := [(1, pt b1), (2, bl false), (70, bl true), (72, i64 c), (73, i64 0), (74, i64 15)]) hA [i64 c] (cc (hO.l1 1 3 3 (i64 c)) c0) ?_
        clear hA fr; intro fr hA
        refine wpOps_cons' (mK (f := 52) (args := [i64 c, i64 0, i64 15]) (d := (some 75)) (v := bl (inB c 0 15)) hA hO Tryd.func52 (in_any c 0 15 _) ?_)
        clear hA hO fr; intro fr w9 hA hO
        replace hA := hA.sb (e' := [(1, pt b1), (2, bl false), (70, bl true), (75, bl (inB c 0 15))])
        refine ck (l := [23, 24]) (r := (rg 25 5)) (e' := [(1, pt b1), (2, bl false), (75, bl (inB c 0 15)), (76, bl (inB c 0 15)), (77, bl (inB c 0 15))]) hA [] c0 ?_
        clear hA fr; intro fr hA
        rcases Bool.eq_false_or_eq_true (inB c 0 15) with h4 | h4
        ·
          replace hA := hA.bool (f := fun z_ => [(1, pt b1), (2, bl false), (75, .bool z_), (76, .bool z_), (77, .bool z_)]) h4
          refine ck (l := [25, 26]) (r := [27, 28, 29]) (e' := [(2, bl false), (77, bl true), (79, i64 v)]) hA [i64 v] (cc (hO.l1 1 4 3 (i64 v)) c0) ?_
          clear hA fr; intro fr hA
          refine wpOps_cons' (mK (f := 52) (args := [i64 v, i64 (-32768), i64 32767]) (d := (some 80)) (v := bl (inB v (-32768) 32767)) hA hO Tryd.func52 (in_any v (-32768) 32767 _) ?_)
          clear hA hO fr; intro fr w10 hA hO
          replace hA := hA.sb (e' := [(2, bl false), (77, bl true), (80, bl (inB v (-32768) 32767))])
          refine ck (l := [28, 29]) (r := []) (e' := [(2, bl (inB v (-32768) 32767))]) hA [] c0 ?_
          clear hA fr; intro fr hA
          refine end_ops ?_
          refine then_normal ?_
          refine wp_ret ?_
          refine cR (cs := [none]) (us := [bl (inB v (-32768) 32767)]) hA [] trivial ?_
          have hF := hO.only; clear hA hO
          exact ⟨congrArg (fun b => Ending.returned (.bool b)) (Bool.eq_iff_iff.2 (by simp [legF, regB, inB] at * <;> omega)), hF⟩
        ·
          replace hA := hA.bool (f := fun z_ => [(1, pt b1), (2, bl false), (75, .bool z_), (76, .bool z_), (77, .bool z_)]) h4
          refine ck (l := (rg 25 5)) (r := []) (e' := [(2, bl false)]) hA [] c0 ?_
          clear hA fr; intro fr hA
          refine end_ops ?_
          refine then_normal ?_
          refine wp_ret ?_
          refine cR (cs := [none]) (us := [bl false]) hA [] trivial ?_
          have hF := hO.only; clear hA hO
          exact ⟨congrArg (fun b => Ending.returned (.bool b)) (Bool.eq_iff_iff.2 (by simp [legF, regB, inB] at * <;> omega)), hF⟩
      ·
        replace hA := hA.bool (f := fun z_ => [(1, pt b1), (2, bl false), (5, i64 0), (6, i64 15), (68, .bool z_), (69, .bool z_), (70, .bool z_)]) h3
        refine ck (l := (rg 18 12)) (r := []) (e' := [(2, bl false)]) hA [] c0 ?_
        clear hA fr; intro fr hA
        refine end_ops ?_
        refine then_normal ?_
        refine wp_ret ?_
        refine cR (cs := [none]) (us := [bl false]) hA [] trivial ?_
        have hF := hO.only; clear hA hO
        exact ⟨congrArg (fun b => Ending.returned (.bool b)) (Bool.eq_iff_iff.2 (by simp [legF, regB, inB] at * <;> omega)), hF⟩
    ·
      replace hA := hA.bool (f := fun z_ => [(1, pt b1), (2, bl false), (5, i64 0), (6, i64 15), (63, .bool z_), (64, .bool z_), (65, .bool z_)]) h2
      refine ck (l := (rg 13 17)) (r := []) (e' := [(2, bl false)]) hA [] c0 ?_
      clear hA fr; intro fr hA
      refine end_ops ?_
      refine then_normal ?_
      refine wp_ret ?_
      refine cR (cs := [none]) (us := [bl false]) hA [] trivial ?_
      have hF := hO.only; clear hA hO
      exact ⟨congrArg (fun b => Ending.returned (.bool b)) (Bool.eq_iff_iff.2 (by simp [legF, regB, inB] at * <;> omega)), hF⟩
  ·
    replace hA := hA.bool (f := fun z_ => [(1, pt b1), (2, bl false), (5, i64 0), (6, i64 15), (58, .bool z_), (59, .bool z_), (60, .bool z_)]) h1
    refine ck (l := (rg 8 22)) (r := []) (e' := [(2, bl false)]) hA [] c0 ?_
    clear hA fr; intro fr hA
    refine end_ops ?_
    refine then_normal ?_
    refine wp_ret ?_
    refine cR (cs := [none]) (us := [bl false]) hA [] trivial ?_
    have hF := hO.only; clear hA hO
    exact ⟨congrArg (fun b => Ending.returned (.bool b)) (Bool.eq_iff_iff.2 (by simp [legF, regB, inB] at * <;> omega)), hF⟩

theorem rlegal_2 (o a b c v : Int) (w : World) (hf : formF o = 2) :
    Calls Tryd.prog 44 #[.agg #[i64 o, i64 a, i64 b, i64 c, i64 v]] w fun e w' => e = .returned (.bool (legF true true true false true a b c v)) ∧ Only none' w w' := by
  refine c_enter (args := [.agg #[i64 o, i64 a, i64 b, i64 c, i64 v]]) (m := 81) (n := 82) Tryd.func44 rfl (by kernel_rfl) (by kernel_rfl) fun fr hA => ?_
  have hO := Ow.nil Tryd.prog none' w
  refine sR (l := [0, 1]) ?_
  refine wpOps_cons' (mN (l := [i64 o, i64 a, i64 b, i64 c, i64 v]) (t := 56) (v := pt) (d := 1) hA hO ?_)
  clear hA hO fr; intro fr w1 b1 hA hO
  replace hA := hA.sb (e' := [(1, pt b1)])
  refine ck (l := [1]) (r := []) (e' := [(1, pt b1), (2, bl false)]) hA [] c0 ?_
  clear hA fr; intro fr hA
  refine end_ops ?_
  refine then_normal ?_
  refine sR (l := [0, 1, 2, 3]) ?_
  refine ck (l := [0, 1]) (r := [2, 3]) (e' := [(1, pt b1), (2, bl false), (8, i64 o)]) hA [i64 o] (cc (hO.l1 0 0 3 (i64 o)) c0) ?_
  clear hA fr; intro fr hA
  refine wpOps_cons' (mK (f := 43) (args := [i64 o]) (d := (some 9)) (v := i64 2) hA hO Tryd.func43 (rs (form_any o _) (congrArg _ hf)) ?_)
  clear hA hO fr; intro fr w2 hA hO
  replace hA := hA.sb (e' := [(1, pt b1), (2, bl false), (9, i64 2)])
  refine ck (l := [3]) (r := []) (e' := [(1, pt b1), (2, bl false), (3, i64 2)]) hA [] c0 ?_
  clear hA fr; intro fr hA
  refine end_ops ?_
  refine then_normal ?_
  refine sR (l := (rg 0 5)) ?_
  refine ck (l := [0, 1, 2]) (r := [3, 4]) (e' := [(1, pt b1), (2, bl false), (3, i64 2), (12, .agg #[i64 o, i64 0, i64 0, i64 0, i64 0])]) hA [i64 o] (cc (hO.l1 0 0 3 (i64 o)) c0) ?_
  clear hA fr; intro fr hA
  refine wpOps_cons' (mN (l := [i64 0, i64 0, i64 0, i64 0, i64 0]) (t := 56) (v := pt) (d := 4) hA hO ?_)
  clear hA hO fr; intro fr w3 b2 hA hO
  refine wpOps_cons' (mS (off := 0) (vc := [i64 o, i64 0, i64 0, i64 0, i64 0]) 0 hA hO ?_)
  clear hO; intro w4 hO
  replace hA := hA.sb (e' := [(1, pt b1), (2, bl false), (3, i64 2), (4, pt b2)])
  refine end_ops ?_
  refine then_normal ?_
  refine wp_seq ?_
  refine sC (e' := [(1, pt b1), (2, bl false), (3, i64 2), (4, pt b2), (26, bl true)]) 14 hA [] c0 ?_
  clear hA fr; intro fr hA
  refine cT hA ?_
  refine rR (l := [0, 1, 2, 3]) ?_
  refine ck (l := [0, 1, 2]) (r := [3]) (e' := [(1, pt b1), (2, bl false), (3, i64 2), (4, pt b2), (28, i64 a), (29, pf b2 1)]) hA [i64 a] (cc (hO.l1 1 1 3 (i64 a)) c0) ?_
  clear hA fr; intro fr hA
  refine wpOps_cons' (mS (off := 1) (vc := [i64 a]) 0 hA hO ?_)
  clear hO; intro w5 hO
  replace hA := hA.sb (e' := [(1, pt b1), (2, bl false), (3, i64 2), (4, pt b2)])
  refine end_ops ?_
  refine then_normal ?_
  refine wp_seq ?_
  refine sC (e' := [(1, pt b1), (2, bl false), (3, i64 2), (4, pt b2), (35, bl true)]) 6 hA [] c0 ?_
  clear hA fr; intro fr hA
  refine cT hA ?_
  have hS : Ow Tryd.prog none' w _ [(b1, 56, [i64 o, i64 a, i64 b, i64 c, i64 v])] := hO.sub [1]
  refine rP [(0, true), (1, true), (2, true), (3, true), (4, true), (5, false), (6, true), (7, false)] hS ?_
  intro w6 ho; replace hO := hO.st ho; clear ho
  refine ckS (l := (rg 0 5)) (r := [(5, false), (6, true), (7, false)]) (e' := [(1, pt b1), (2, bl false), (3, i64 2), (4, pt b2), (37, i64 b), (39, i64 c), (40, pf b2 2)]) hA [i64 b, i64 c] (cc (hS.s1 0 2 3 (i64 b)) (cc (hS.s1 0 3 3 (i64 c)) c0)) ?_
  clear hA fr; intro fr hA
  refine plan_mem (mS (off := 2) (vc := [i64 b]) 0 hA hO ?_)
  clear hO; intro w7 hO
  refine ⟨(hO.sub [1]), ?_⟩
  replace hA := hA.sb (e' := [(1, pt b1), (2, bl false), (3, i64 2), (4, pt b2), (39, i64 c)])
  refine ckS (l := [6]) (r := [(7, false)]) (e' := [(1, pt b1), (2, bl false), (3, i64 2), (4, pt b2), (39, i64 c), (41, pf b2 3)]) hA [] c0 ?_
  clear hA fr; intro fr hA
  refine plan_mem (mS (off := 3) (vc := [i64 c]) 0 hA hO ?_)
  clear hO; intro w8 hO
  refine ⟨(hO.sub [1]), ?_⟩
  replace hA := hA.sb (e' := [(1, pt b1), (2, bl false), (3, i64 2), (4, pt b2)])
  refine end_plan ?_
  refine then_normal ?_
  refine wp_seq ?_
  refine sC (e' := [(1, pt b1), (2, bl false), (3, i64 2), (4, pt b2), (47, bl false)]) 6 hA [] c0 ?_
  clear hA fr; intro fr hA
  refine cF hA ?_
  refine wp_skip ?_
  refine then_normal ?_
  refine sC (e' := [(1, pt b1), (2, bl false), (3, i64 2), (4, pt b2), (5, i64 0), (6, i64 15)]) 2 hA [] c0 ?_
  clear hA fr; intro fr hA
  refine wp_seq ?_
  refine sC (e' := [(1, pt b1), (2, bl false), (3, i64 2), (4, pt b2), (5, i64 0), (6, i64 15), (52, bl true)]) 2 hA [] c0 ?_
  clear hA fr; intro fr hA
  refine cT hA ?_
  refine rC (e' := [(1, pt b1), (2, bl false), (3, i64 2), (4, pt b2), (5, i64 (-128)), (6, i64 127)]) 2 hA [] c0 ?_
  clear hA fr; intro fr hA
  refine then_normal ?_
  refine sR (l := (rg 0 30)) ?_
  refine ck (l := (rg 0 8)) (r := (rg 8 22)) (e' := [(1, pt b1), (2, bl false), (5, i64 (-128)), (6, i64 127), (58, bl ((o == o) && ((a == a) && ((b == b) && ((c == c) && ((v == 0) && true)))))), (59, bl ((o == o) && ((a == a) && ((b == b) && ((c == c) && ((v == 0) && true)))))), (60, bl ((o == o) && ((a == a) && ((b == b) && ((c == c) && ((v == 0) && true))))))]) hA [.agg #[i64 o, i64 a, i64 b, i64 c, i64 v], .agg #[i64 o, i64 a, i64 b, i64 c, i64 0], bl ((o == o) && ((a == a) && ((b == b) && ((c == c) && ((v == 0) && true)))))] (cc (hO.ln 1 0 56 [i64 o, i64 a, i64 b, i64 c, i64 v]) (cc (hO.ln 0 0 56 [i64 o, i64 a, i64 b, i64 c, i64 0]) (cc ((eqG_of (by kernel_rfl) (by kernel_rfl)) : EqG Tryd.prog 56 (.agg #[i64 o, i64 a, i64 b, i64 c, i64 v]) (.agg #[i64 o, i64 a, i64 b, i64 c, i64 0]) ((o == o) && ((a == a) && ((b == b) && ((c == c) && ((v == 0) && true)))))) c0))) ?_
  clear hA fr; intro fr hA
  rcases Bool.eq_false_or_eq_true ((o == o) && ((a == a) && ((b == b) && ((c == c) && ((v == 0) && true))))) with h1 | h1
  ·
    replace hA := hA.bool (f := fun z_ => [(1, pt b1), (2, bl false), (5, i64 (-128)), (6, i64 127), (58, .bool z_), (59, .bool z_), (60, .bool z_)]) h1
    refine ck (l := [8, 9]) (r := (rg 10 20)) (e' := [(1, pt b1), (2, bl false), (5, i64 (-128)), (6, i64 127), (60, bl true), (62, i64 a)]) hA [i64 a] (cc (hO.l1 1 1 3 (i64 a)) c0) ?_
    clear hA fr; intro fr hA
    refine wpOps_cons' (mK (f := 52) (args := [i64 a, i64 0, i64 15]) (d := (some 63)) (v := bl (inB a 0 15)) hA hO Tryd.func52 (in_any a 0 15 _) ?_)
    clear hA hO fr; intro fr w9 hA hO
    replace hA := hA.sb (e' := [(1, pt b1), (2, bl false), (5, i64 (-128)), (6, i64 127), (60, bl true), (63, bl (inB a 0 15))])
    refine ck (l := [11, 12]) (r := (rg 13 17)) (e' := [(1, pt b1), (2, bl false), (5, i64 (-128)), (6, i64 127), (63, bl (inB a 0 15)), (64, bl (inB a 0 15)), (65, bl (inB a 0 15))]) hA [] c0 ?_
    clear hA fr; intro fr hA
    rcases Bool.eq_false_or_eq_true (inB a 0 15) with h2 | h2
    ·
      replace hA := hA.bool (f := fun z_ => [(1, pt b1), (2, bl false), (5, i64 (-128)), (6, i64 127), (63, .bool z_), (64, .bool z_), (65, .bool z_)]) h2
      refine ck (l := [13, 14]) (r := (rg 15 15)) (e' := [(1, pt b1), (2, bl false), (5, i64 (-128)), (6, i64 127), (65, bl true), (67, i64 b)]) hA [i64 b] (cc (hO.l1 1 2 3 (i64 b)) c0) ?_
      clear hA fr; intro fr hA
      refine wpOps_cons' (mK (f := 52) (args := [i64 b, i64 0, i64 15]) (d := (some 68)) (v := bl (inB b 0 15)) hA hO Tryd.func52 (in_any b 0 15 _) ?_)
      clear hA hO fr; intro fr w10 hA hO
      replace hA := hA.sb (e' := [(1, pt b1), (2, bl false), (5, i64 (-128)), (6, i64 127), (65, bl true), (68, bl (inB b 0 15))])
      refine ck (l := [16, 17]) (r := (rg 18 12)) (e' := [(1, pt b1), (2, bl false), (5, i64 (-128)), (6, i64 127), (68, bl (inB b 0 15)), (69, bl (inB b 0 15)), (70, bl (inB b 0 15))]) hA [] c0 ?_
      clear hA fr; intro fr hA
      rcases Bool.eq_false_or_eq_true (inB b 0 15) with h3 | h3
      ·
        replace hA := hA.bool (f := fun z_ => [(1, pt b1), (2, bl false), (5, i64 (-128)), (6, i64 127), (68, .bool z_), (69, .bool z_), (70, .bool z_)]) h3
        refine ck (l := [18, 19, 20, 21]) (r := (rg 22 8)) (e' := [(1, pt b1), (2, bl false), (70, bl true), (72, i64 c), (73, i64 (-128)), (74, i64 127)]) hA [i64 c] (cc (hO.l1 1 3 3 (i64 c)) c0) ?_
        clear hA fr; intro fr hA
        refine wpOps_cons' (mK (f := 52) (args := [i64 c, i64 (-128), i64 127]) (d := (some 75)) (v := bl (inB c (-128) 127)) hA hO Tryd.func52 (in_any c (-128) 127 _) ?_)
        clear hA hO fr; intro fr w11 hA hO
        replace hA := hA.sb (e' := [(1, pt b1), (2, bl false), (70, bl true), (75, bl (inB c (-128) 127))])
        refine ck (l := [23, 24]) (r := (rg 25 5)) (e' := [(1, pt b1), (2, bl false), (75, bl (inB c (-128) 127)), (76, bl (inB c (-128) 127)), (77, bl (inB c (-128) 127))]) hA [] c0 ?_
        clear hA fr; intro fr hA
        rcases Bool.eq_false_or_eq_true (inB c (-128) 127) with h4 | h4
        ·
          replace hA := hA.bool (f := fun z_ => [(1, pt b1), (2, bl false), (75, .bool z_), (76, .bool z_), (77, .bool z_)]) h4
          refine ck (l := [25, 26]) (r := [27, 28, 29]) (e' := [(2, bl false), (77, bl true), (79, i64 v)]) hA [i64 v] (cc (hO.l1 1 4 3 (i64 v)) c0) ?_
          clear hA fr; intro fr hA
          refine wpOps_cons' (mK (f := 52) (args := [i64 v, i64 (-32768), i64 32767]) (d := (some 80)) (v := bl (inB v (-32768) 32767)) hA hO Tryd.func52 (in_any v (-32768) 32767 _) ?_)
          clear hA hO fr; intro fr w12 hA hO
          replace hA := hA.sb (e' := [(2, bl false), (77, bl true), (80, bl (inB v (-32768) 32767))])
          refine ck (l := [28, 29]) (r := []) (e' := [(2, bl (inB v (-32768) 32767))]) hA [] c0 ?_
          clear hA fr; intro fr hA
          refine end_ops ?_
          refine then_normal ?_
          refine wp_ret ?_
          refine cR (cs := [none]) (us := [bl (inB v (-32768) 32767)]) hA [] trivial ?_
          have hF := hO.only; clear hA hO
          exact ⟨congrArg (fun b => Ending.returned (.bool b)) (Bool.eq_iff_iff.2 (by simp [legF, regB, inB] at * <;> omega)), hF⟩
        ·
          replace hA := hA.bool (f := fun z_ => [(1, pt b1), (2, bl false), (75, .bool z_), (76, .bool z_), (77, .bool z_)]) h4
          refine ck (l := (rg 25 5)) (r := []) (e' := [(2, bl false)]) hA [] c0 ?_
          clear hA fr; intro fr hA
          refine end_ops ?_
          refine then_normal ?_
          refine wp_ret ?_
          refine cR (cs := [none]) (us := [bl false]) hA [] trivial ?_
          have hF := hO.only; clear hA hO
          exact ⟨congrArg (fun b => Ending.returned (.bool b)) (Bool.eq_iff_iff.2 (by simp [legF, regB, inB] at * <;> omega)), hF⟩
      ·
        replace hA := hA.bool (f := fun z_ => [(1, pt b1), (2, bl false), (5, i64 (-128)), (6, i64 127), (68, .bool z_), (69, .bool z_), (70, .bool z_)]) h3
        refine ck (l := (rg 18 12)) (r := []) (e' := [(2, bl false)]) hA [] c0 ?_
        clear hA fr; intro fr hA
        refine end_ops ?_
        refine then_normal ?_
        refine wp_ret ?_
        refine cR (cs := [none]) (us := [bl false]) hA [] trivial ?_
        have hF := hO.only; clear hA hO
        exact ⟨congrArg (fun b => Ending.returned (.bool b)) (Bool.eq_iff_iff.2 (by simp [legF, regB, inB] at * <;> omega)), hF⟩
    ·
      replace hA := hA.bool (f := fun z_ => [(1, pt b1), (2, bl false), (5, i64 (-128)), (6, i64 127), (63, .bool z_), (64, .bool z_), (65, .bool z_)]) h2
      refine ck (l := (rg 13 17)) (r := []) (e' := [(2, bl false)]) hA [] c0 ?_
      clear hA fr; intro fr hA
      refine end_ops ?_
      refine then_normal ?_
      refine wp_ret ?_
      refine cR (cs := [none]) (us := [bl false]) hA [] trivial ?_
      have hF := hO.only; clear hA hO
      exact ⟨congrArg (fun b => Ending.returned (.bool b)) (Bool.eq_iff_iff.2 (by simp [legF, regB, inB] at * <;> omega)), hF⟩
  ·
    replace hA := hA.bool (f := fun z_ => [(1, pt b1), (2, bl false), (5, i64 (-128)), (6, i64 127), (58, .bool z_), (59, .bool z_), (60, .bool z_)]) h1
    refine ck (l := (rg 8 22)) (r := []) (e' := [(2, bl false)]) hA [] c0 ?_
    clear hA fr; intro fr hA
    refine end_ops ?_
    refine then_normal ?_
    refine wp_ret ?_
    refine cR (cs := [none]) (us := [bl false]) hA [] trivial ?_
    have hF := hO.only; clear hA hO
    exact ⟨congrArg (fun b => Ending.returned (.bool b)) (Bool.eq_iff_iff.2 (by simp [legF, regB, inB] at * <;> omega)), hF⟩

theorem rlegal_3 (o a b c v : Int) (w : World) (hf : formF o = 3) :
    Calls Tryd.prog 44 #[.agg #[i64 o, i64 a, i64 b, i64 c, i64 v]] w fun e w' => e = .returned (.bool (legF true true true false false a b c v)) ∧ Only none' w w' := by
  refine c_enter (args := [.agg #[i64 o, i64 a, i64 b, i64 c, i64 v]]) (m := 81) (n := 82) Tryd.func44 rfl (by kernel_rfl) (by kernel_rfl) fun fr hA => ?_
  have hO := Ow.nil Tryd.prog none' w
  refine sR (l := [0, 1]) ?_
  refine wpOps_cons' (mN (l := [i64 o, i64 a, i64 b, i64 c, i64 v]) (t := 56) (v := pt) (d := 1) hA hO ?_)
  clear hA hO fr; intro fr w1 b1 hA hO
  replace hA := hA.sb (e' := [(1, pt b1)])
  refine ck (l := [1]) (r := []) (e' := [(1, pt b1), (2, bl false)]) hA [] c0 ?_
  clear hA fr; intro fr hA
  refine end_ops ?_
  refine then_normal ?_
  refine sR (l := [0, 1, 2, 3]) ?_
  refine ck (l := [0, 1]) (r := [2, 3]) (e' := [(1, pt b1), (2, bl false), (8, i64 o)]) hA [i64 o] (cc (hO.l1 0 0 3 (i64 o)) c0) ?_
  clear hA fr; intro fr hA
  refine wpOps_cons' (mK (f := 43) (args := [i64 o]) (d := (some 9)) (v := i64 3) hA hO Tryd.func43 (rs (form_any o _) (congrArg _ hf)) ?_)
  clear hA hO fr; intro fr w2 hA hO
  replace hA := hA.sb (e' := [(1, pt b1), (2, bl false), (9, i64 3)])
  refine ck (l := [3]) (r := []) (e' := [(1, pt b1), (2, bl false), (3, i64 3)]) hA [] c0 ?_
  clear hA fr; intro fr hA
  refine end_ops ?_
  refine then_normal ?_
  refine sR (l := (rg 0 5)) ?_
  refine ck (l := [0, 1, 2]) (r := [3, 4]) (e' := [(1, pt b1), (2, bl false), (3, i64 3), (12, .agg #[i64 o, i64 0, i64 0, i64 0, i64 0])]) hA [i64 o] (cc (hO.l1 0 0 3 (i64 o)) c0) ?_
  clear hA fr; intro fr hA
  refine wpOps_cons' (mN (l := [i64 0, i64 0, i64 0, i64 0, i64 0]) (t := 56) (v := pt) (d := 4) hA hO ?_)
  clear hA hO fr; intro fr w3 b2 hA hO
  refine wpOps_cons' (mS (off := 0) (vc := [i64 o, i64 0, i64 0, i64 0, i64 0]) 0 hA hO ?_)
  clear hO; intro w4 hO
  replace hA := hA.sb (e' := [(1, pt b1), (2, bl false), (3, i64 3), (4, pt b2)])
  refine end_ops ?_
  refine then_normal ?_
  refine wp_seq ?_
  refine sC (e' := [(1, pt b1), (2, bl false), (3, i64 3), (4, pt b2), (26, bl true)]) 14 hA [] c0 ?_
  clear hA fr; intro fr hA
  refine cT hA ?_
  refine rR (l := [0, 1, 2, 3]) ?_
  refine ck (l := [0, 1, 2]) (r := [3]) (e' := [(1, pt b1), (2, bl false), (3, i64 3), (4, pt b2), (28, i64 a), (29, pf b2 1)]) hA [i64 a] (cc (hO.l1 1 1 3 (i64 a)) c0) ?_
  clear hA fr; intro fr hA
  refine wpOps_cons' (mS (off := 1) (vc := [i64 a]) 0 hA hO ?_)
  clear hO; intro w5 hO
  replace hA := hA.sb (e' := [(1, pt b1), (2, bl false), (3, i64 3), (4, pt b2)])
  refine end_ops ?_
  refine then_normal ?_
  refine wp_seq ?_
  refine sC (e' := [(1, pt b1), (2, bl false), (3, i64 3), (4, pt b2), (35, bl true)]) 6 hA [] c0 ?_
  clear hA fr; intro fr hA
  refine cT hA ?_
  have hS : Ow Tryd.prog none' w _ [(b1, 56, [i64 o, i64 a, i64 b, i64 c, i64 v])] := hO.sub [1]
  refine rP [(0, true), (1, true), (2, true), (3, true), (4, true), (5, false), (6, true), (7, false)] hS ?_
  intro w6 ho; replace hO := hO.st ho; clear ho
  refine ckS (l := (rg 0 5)) (r := [(5, false), (6, true), (7, false)]) (e' := [(1, pt b1), (2, bl false), (3, i64 3), (4, pt b2), (37, i64 b), (39, i64 c), (40, pf b2 2)]) hA [i64 b, i64 c] (cc (hS.s1 0 2 3 (i64 b)) (cc (hS.s1 0 3 3 (i64 c)) c0)) ?_
  clear hA fr; intro fr hA
  refine plan_mem (mS (off := 2) (vc := [i64 b]) 0 hA hO ?_)
  clear hO; intro w7 hO
  refine ⟨(hO.sub [1]), ?_⟩
  replace hA := hA.sb (e' := [(1, pt b1), (2, bl false), (3, i64 3), (4, pt b2), (39, i64 c)])
  refine ckS (l := [6]) (r := [(7, false)]) (e' := [(1, pt b1), (2, bl false), (3, i64 3), (4, pt b2), (39, i64 c), (41, pf b2 3)]) hA [] c0 ?_
  clear hA fr; intro fr hA
  refine plan_mem (mS (off := 3) (vc := [i64 c]) 0 hA hO ?_)
  clear hO; intro w8 hO
  refine ⟨(hO.sub [1]), ?_⟩
  replace hA := hA.sb (e' := [(1, pt b1), (2, bl false), (3, i64 3), (4, pt b2)])
  refine end_plan ?_
  refine then_normal ?_
  refine wp_seq ?_
  refine sC (e' := [(1, pt b1), (2, bl false), (3, i64 3), (4, pt b2), (47, bl false)]) 6 hA [] c0 ?_
  clear hA fr; intro fr hA
  refine cF hA ?_
  refine wp_skip ?_
  refine then_normal ?_
  refine sC (e' := [(1, pt b1), (2, bl false), (3, i64 3), (4, pt b2), (5, i64 0), (6, i64 15)]) 2 hA [] c0 ?_
  clear hA fr; intro fr hA
  refine wp_seq ?_
  refine sC (e' := [(1, pt b1), (2, bl false), (3, i64 3), (4, pt b2), (5, i64 0), (6, i64 15), (52, bl false)]) 2 hA [] c0 ?_
  clear hA fr; intro fr hA
  refine cF hA ?_
  refine wp_skip ?_
  refine then_normal ?_
  refine sR (l := (rg 0 30)) ?_
  refine ck (l := (rg 0 8)) (r := (rg 8 22)) (e' := [(1, pt b1), (2, bl false), (5, i64 0), (6, i64 15), (58, bl ((o == o) && ((a == a) && ((b == b) && ((c == c) && ((v == 0) && true)))))), (59, bl ((o == o) && ((a == a) && ((b == b) && ((c == c) && ((v == 0) && true)))))), (60, bl ((o == o) && ((a == a) && ((b == b) && ((c == c) && ((v == 0) && true))))))]) hA [.agg #[i64 o, i64 a, i64 b, i64 c, i64 v], .agg #[i64 o, i64 a, i64 b, i64 c, i64 0], bl ((o == o) && ((a == a) && ((b == b) && ((c == c) && ((v == 0) && true)))))] (cc (hO.ln 1 0 56 [i64 o, i64 a, i64 b, i64 c, i64 v]) (cc (hO.ln 0 0 56 [i64 o, i64 a, i64 b, i64 c, i64 0]) (cc ((eqG_of (by kernel_rfl) (by kernel_rfl)) : EqG Tryd.prog 56 (.agg #[i64 o, i64 a, i64 b, i64 c, i64 v]) (.agg #[i64 o, i64 a, i64 b, i64 c, i64 0]) ((o == o) && ((a == a) && ((b == b) && ((c == c) && ((v == 0) && true)))))) c0))) ?_
  clear hA fr; intro fr hA
  rcases Bool.eq_false_or_eq_true ((o == o) && ((a == a) && ((b == b) && ((c == c) && ((v == 0) && true))))) with h1 | h1
  ·
    replace hA := hA.bool (f := fun z_ => [(1, pt b1), (2, bl false), (5, i64 0), (6, i64 15), (58, .bool z_), (59, .bool z_), (60, .bool z_)]) h1
    refine ck (l := [8, 9]) (r := (rg 10 20)) (e' := [(1, pt b1), (2, bl false), (5, i64 0), (6, i64 15), (60, bl true), (62, i64 a)]) hA [i64 a] (cc (hO.l1 1 1 3 (i64 a)) c0) ?_
    clear hA fr; intro fr hA
    refine wpOps_cons' (mK (f := 52) (args := [i64 a, i64 0, i64 15]) (d := (some 63)) (v := bl (inB a 0 15)) hA hO Tryd.func52 (in_any a 0 15 _) ?_)
    clear hA hO fr; intro fr w9 hA hO
    replace hA := hA.sb (e' := [(1, pt b1), (2, bl false), (5, i64 0), (6, i64 15), (60, bl true), (63, bl (inB a 0 15))])
    refine ck (l := [11, 12]) (r := (rg 13 17)) (e' := [(1, pt b1), (2, bl false), (5, i64 0), (6, i64 15), (63, bl (inB a 0 15)), (64, bl (inB a 0 15)), (65, bl (inB a 0 15))]) hA [] c0 ?_
    clear hA fr; intro fr hA
    rcases Bool.eq_false_or_eq_true (inB a 0 15) with h2 | h2
    ·
      replace hA := hA.bool (f := fun z_ => [(1, pt b1), (2, bl false), (5, i64 0), (6, i64 15), (63, .bool z_), (64, .bool z_), (65, .bool z_)]) h2
      refine ck (l := [13, 14]) (r := (rg 15 15)) (e' := [(1, pt b1), (2, bl false), (5, i64 0), (6, i64 15), (65, bl true), (67, i64 b)]) hA [i64 b] (cc (hO.l1 1 2 3 (i64 b)) c0) ?_
      clear hA fr; intro fr hA
      refine wpOps_cons' (mK (f := 52) (args := [i64 b, i64 0, i64 15]) (d := (some 68)) (v := bl (inB b 0 15)) hA hO Tryd.func52 (in_any b 0 15 _) ?_)
      clear hA hO fr; intro fr w10 hA hO
      replace hA := hA.sb (e' := [(1, pt b1), (2, bl false), (5, i64 0), (6, i64 15), (65, bl true), (68, bl (inB b 0 15))])
      refine ck (l := [16, 17]) (r := (rg 18 12)) (e' := [(1, pt b1), (2, bl false), (5, i64 0), (6, i64 15), (68, bl (inB b 0 15)), (69, bl (inB b 0 15)), (70, bl (inB b 0 15))]) hA [] c0 ?_
      clear hA fr; intro fr hA
      rcases Bool.eq_false_or_eq_true (inB b 0 15) with h3 | h3
      ·
        replace hA := hA.bool (f := fun z_ => [(1, pt b1), (2, bl false), (5, i64 0), (6, i64 15), (68, .bool z_), (69, .bool z_), (70, .bool z_)]) h3
        refine ck (l := [18, 19, 20, 21]) (r := (rg 22 8)) (e' := [(1, pt b1), (2, bl false), (70, bl true), (72, i64 c), (73, i64 0), (74, i64 15)]) hA [i64 c] (cc (hO.l1 1 3 3 (i64 c)) c0) ?_
        clear hA fr; intro fr hA
        refine wpOps_cons' (mK (f := 52) (args := [i64 c, i64 0, i64 15]) (d := (some 75)) (v := bl (inB c 0 15)) hA hO Tryd.func52 (in_any c 0 15 _) ?_)
        clear hA hO fr; intro fr w11 hA hO
        replace hA := hA.sb (e' := [(1, pt b1), (2, bl false), (70, bl true), (75, bl (inB c 0 15))])
        refine ck (l := [23, 24]) (r := (rg 25 5)) (e' := [(1, pt b1), (2, bl false), (75, bl (inB c 0 15)), (76, bl (inB c 0 15)), (77, bl (inB c 0 15))]) hA [] c0 ?_
        clear hA fr; intro fr hA
        rcases Bool.eq_false_or_eq_true (inB c 0 15) with h4 | h4
        ·
          replace hA := hA.bool (f := fun z_ => [(1, pt b1), (2, bl false), (75, .bool z_), (76, .bool z_), (77, .bool z_)]) h4
          refine ck (l := [25, 26]) (r := [27, 28, 29]) (e' := [(2, bl false), (77, bl true), (79, i64 v)]) hA [i64 v] (cc (hO.l1 1 4 3 (i64 v)) c0) ?_
          clear hA fr; intro fr hA
          refine wpOps_cons' (mK (f := 52) (args := [i64 v, i64 (-32768), i64 32767]) (d := (some 80)) (v := bl (inB v (-32768) 32767)) hA hO Tryd.func52 (in_any v (-32768) 32767 _) ?_)
          clear hA hO fr; intro fr w12 hA hO
          replace hA := hA.sb (e' := [(2, bl false), (77, bl true), (80, bl (inB v (-32768) 32767))])
          refine ck (l := [28, 29]) (r := []) (e' := [(2, bl (inB v (-32768) 32767))]) hA [] c0 ?_
          clear hA fr; intro fr hA
          refine end_ops ?_
          refine then_normal ?_
          refine wp_ret ?_
          refine cR (cs := [none]) (us := [bl (inB v (-32768) 32767)]) hA [] trivial ?_
          have hF := hO.only; clear hA hO
          exact ⟨congrArg (fun b => Ending.returned (.bool b)) (Bool.eq_iff_iff.2 (by simp [legF, regB, inB] at * <;> omega)), hF⟩
        ·
          replace hA := hA.bool (f := fun z_ => [(1, pt b1), (2, bl false), (75, .bool z_), (76, .bool z_), (77, .bool z_)]) h4
          refine ck (l := (rg 25 5)) (r := []) (e' := [(2, bl false)]) hA [] c0 ?_
          clear hA fr; intro fr hA
          refine end_ops ?_
          refine then_normal ?_
          refine wp_ret ?_
          refine cR (cs := [none]) (us := [bl false]) hA [] trivial ?_
          have hF := hO.only; clear hA hO
          exact ⟨congrArg (fun b => Ending.returned (.bool b)) (Bool.eq_iff_iff.2 (by simp [legF, regB, inB] at * <;> omega)), hF⟩
      ·
        replace hA := hA.bool (f := fun z_ => [(1, pt b1), (2, bl false), (5, i64 0), (6, i64 15), (68, .bool z_), (69, .bool z_), (70, .bool z_)]) h3
        refine ck (l := (rg 18 12)) (r := []) (e' := [(2, bl false)]) hA [] c0 ?_
        clear hA fr; intro fr hA
        refine end_ops ?_
        refine then_normal ?_
        refine wp_ret ?_
        refine cR (cs := [none]) (us := [bl false]) hA [] trivial ?_
        have hF := hO.only; clear hA hO
        exact ⟨congrArg (fun b => Ending.returned (.bool b)) (Bool.eq_iff_iff.2 (by simp [legF, regB, inB] at * <;> omega)), hF⟩
    ·
      replace hA := hA.bool (f := fun z_ => [(1, pt b1), (2, bl false), (5, i64 0), (6, i64 15), (63, .bool z_), (64, .bool z_), (65, .bool z_)]) h2
      refine ck (l := (rg 13 17)) (r := []) (e' := [(2, bl false)]) hA [] c0 ?_
      clear hA fr; intro fr hA
      refine end_ops ?_
      refine then_normal ?_
      refine wp_ret ?_
      refine cR (cs := [none]) (us := [bl false]) hA [] trivial ?_
      have hF := hO.only; clear hA hO
      exact ⟨congrArg (fun b => Ending.returned (.bool b)) (Bool.eq_iff_iff.2 (by simp [legF, regB, inB] at * <;> omega)), hF⟩
  ·
    replace hA := hA.bool (f := fun z_ => [(1, pt b1), (2, bl false), (5, i64 0), (6, i64 15), (58, .bool z_), (59, .bool z_), (60, .bool z_)]) h1
    refine ck (l := (rg 8 22)) (r := []) (e' := [(2, bl false)]) hA [] c0 ?_
    clear hA fr; intro fr hA
    refine end_ops ?_
    refine then_normal ?_
    refine wp_ret ?_
    refine cR (cs := [none]) (us := [bl false]) hA [] trivial ?_
    have hF := hO.only; clear hA hO
    exact ⟨congrArg (fun b => Ending.returned (.bool b)) (Bool.eq_iff_iff.2 (by simp [legF, regB, inB] at * <;> omega)), hF⟩

theorem rlegal_4 (o a b c v : Int) (w : World) (hf : formF o = 4) :
    Calls Tryd.prog 44 #[.agg #[i64 o, i64 a, i64 b, i64 c, i64 v]] w fun e w' => e = .returned (.bool (legF false false false true false a b c v)) ∧ Only none' w w' := by
  refine c_enter (args := [.agg #[i64 o, i64 a, i64 b, i64 c, i64 v]]) (m := 81) (n := 82) Tryd.func44 rfl (by kernel_rfl) (by kernel_rfl) fun fr hA => ?_
  have hO := Ow.nil Tryd.prog none' w
  refine sR (l := [0, 1]) ?_
  refine wpOps_cons' (mN (l := [i64 o, i64 a, i64 b, i64 c, i64 v]) (t := 56) (v := pt) (d := 1) hA hO ?_)
  clear hA hO fr; intro fr w1 b1 hA hO
  replace hA := hA.sb (e' := [(1, pt b1)])
  refine ck (l := [1]) (r := []) (e' := [(1, pt b1), (2, bl false)]) hA [] c0 ?_
  clear hA fr; intro fr hA
  refine end_ops ?_
  refine then_normal ?_
  refine sR (l := [0, 1, 2, 3]) ?_
  refine ck (l := [0, 1]) (r := [2, 3]) (e' := [(1, pt b1), (2, bl false), (8, i64 o)]) hA [i64 o] (cc (hO.l1 0 0 3 (i64 o)) c0) ?_
  clear hA fr; intro fr hA
  refine wpOps_cons' (mK (f := 43) (args := [i64 o]) (d := (some 9)) (v := i64 4) hA hO Tryd.func43 (rs (form_any o _) (congrArg _ hf)) ?_)
  clear hA hO fr; intro fr w2 hA hO
  replace hA := hA.sb (e' := [(1, pt b1), (2, bl false), (9, i64 4)])
  refine ck (l := [3]) (r := []) (e' := [(1, pt b1), (2, bl false), (3, i64 4)]) hA [] c0 ?_
  clear hA fr; intro fr hA
  refine end_ops ?_
  refine then_normal ?_
  refine sR (l := (rg 0 5)) ?_
  refine ck (l := [0, 1, 2]) (r := [3, 4]) (e' := [(1, pt b1), (2, bl false), (3, i64 4), (12, .agg #[i64 o, i64 0, i64 0, i64 0, i64 0])]) hA [i64 o] (cc (hO.l1 0 0 3 (i64 o)) c0) ?_
  clear hA fr; intro fr hA
  refine wpOps_cons' (mN (l := [i64 0, i64 0, i64 0, i64 0, i64 0]) (t := 56) (v := pt) (d := 4) hA hO ?_)
  clear hA hO fr; intro fr w3 b2 hA hO
  refine wpOps_cons' (mS (off := 0) (vc := [i64 o, i64 0, i64 0, i64 0, i64 0]) 0 hA hO ?_)
  clear hO; intro w4 hO
  replace hA := hA.sb (e' := [(1, pt b1), (2, bl false), (3, i64 4), (4, pt b2)])
  refine end_ops ?_
  refine then_normal ?_
  refine wp_seq ?_
  refine sC (e' := [(1, pt b1), (2, bl false), (3, i64 4), (4, pt b2), (26, bl false)]) 14 hA [] c0 ?_
  clear hA fr; intro fr hA
  refine cF hA ?_
  refine wp_skip ?_
  refine then_normal ?_
  refine wp_seq ?_
  refine sC (e' := [(1, pt b1), (2, bl false), (3, i64 4), (4, pt b2), (35, bl false)]) 6 hA [] c0 ?_
  clear hA fr; intro fr hA
  refine cF hA ?_
  refine wp_skip ?_
  refine then_normal ?_
  refine wp_seq ?_
  refine sC (e' := [(1, pt b1), (2, bl false), (3, i64 4), (4, pt b2), (47, bl true)]) 6 hA [] c0 ?_
  clear hA fr; intro fr hA
  refine cT hA ?_
  refine rR (l := [0, 1, 2, 3]) ?_
  refine ck (l := [0, 1, 2]) (r := [3]) (e' := [(1, pt b1), (2, bl false), (3, i64 4), (4, pt b2), (49, i64 v), (50, pf b2 4)]) hA [i64 v] (cc (hO.l1 1 4 3 (i64 v)) c0) ?_
  clear hA fr; intro fr hA
  refine wpOps_cons' (mS (off := 4) (vc := [i64 v]) 0 hA hO ?_)
  clear hO; intro w5 hO
  replace hA := hA.sb (e' := [(1, pt b1), (2, bl false), (3, i64 4), (4, pt b2)])
  refine end_ops ?_
  refine then_normal ?_
  refine sC (e' := [(1, pt b1), (2, bl false), (3, i64 4), (4, pt b2), (5, i64 0), (6, i64 15)]) 2 hA [] c0 ?_
  clear hA fr; intro fr hA
  refine wp_seq ?_
  refine sC (e' := [(1, pt b1), (2, bl false), (3, i64 4), (4, pt b2), (5, i64 0), (6, i64 15), (52, bl false)]) 2 hA [] c0 ?_
  clear hA fr; intro fr hA
  refine cF hA ?_
  refine wp_skip ?_
  refine then_normal ?_
  refine sR (l := (rg 0 30)) ?_
  refine ck (l := (rg 0 8)) (r := (rg 8 22)) (e' := [(1, pt b1), (2, bl false), (5, i64 0), (6, i64 15), (58, bl ((o == o) && ((a == 0) && ((b == 0) && ((c == 0) && ((v == v) && true)))))), (59, bl ((o == o) && ((a == 0) && ((b == 0) && ((c == 0) && ((v == v) && true)))))), (60, bl ((o == o) && ((a == 0) && ((b == 0) && ((c == 0) && ((v == v) && true))))))]) hA [.agg #[i64 o, i64 a, i64 b, i64 c, i64 v], .agg #[i64 o, i64 0, i64 0, i64 0, i64 v], bl ((o == o) && ((a == 0) && ((b == 0) && ((c == 0) && ((v == v) && true)))))] (cc (hO.ln 1 0 56 [i64 o, i64 a, i64 b, i64 c, i64 v]) (cc (hO.ln 0 0 56 [i64 o, i64 0, i64 0, i64 0, i64 v]) (cc ((eqG_of (by kernel_rfl) (by kernel_rfl)) : EqG Tryd.prog 56 (.agg #[i64 o, i64 a, i64 b, i64 c, i64 v]) (.agg #[i64 o, i64 0, i64 0, i64 0, i64 v]) ((o == o) && ((a == 0) && ((b == 0) && ((c == 0) && ((v == v) && true)))))) c0))) ?_
  clear hA fr; intro fr hA
  rcases Bool.eq_false_or_eq_true ((o == o) && ((a == 0) && ((b == 0) && ((c == 0) && ((v == v) && true))))) with h1 | h1
  ·
    replace hA := hA.bool (f := fun z_ => [(1, pt b1), (2, bl false), (5, i64 0), (6, i64 15), (58, .bool z_), (59, .bool z_), (60, .bool z_)]) h1
    refine ck (l := [8, 9]) (r := (rg 10 20)) (e' := [(1, pt b1), (2, bl false), (5, i64 0), (6, i64 15), (60, bl true), (62, i64 a)]) hA [i64 a] (cc (hO.l1 1 1 3 (i64 a)) c0) ?_
    clear hA fr; intro fr hA
    refine wpOps_cons' (mK (f := 52) (args := [i64 a, i64 0, i64 15]) (d := (some 63)) (v := bl (inB a 0 15)) hA hO Tryd.func52 (in_any a 0 15 _) ?_)
    clear hA hO fr; intro fr w6 hA hO
    replace hA := hA.sb (e' := [(1, pt b1), (2, bl false), (5, i64 0), (6, i64 15), (60, bl true), (63, bl (inB a 0 15))])
    refine ck (l := [11, 12]) (r := (rg 13 17)) (e' := [(1, pt b1), (2, bl false), (5, i64 0), (6, i64 15), (63, bl (inB a 0 15)), (64, bl (inB a 0 15)), (65, bl (inB a 0 15))]) hA [] c0 ?_
    clear hA fr; intro fr hA
    rcases Bool.eq_false_or_eq_true (inB a 0 15) with h2 | h2
    ·
      replace hA := hA.bool (f := fun z_ => [(1, pt b1), (2, bl false), (5, i64 0), (6, i64 15), (63, .bool z_), (64, .bool z_), (65, .bool z_)]) h2
      refine ck (l := [13, 14]) (r := (rg 15 15)) (e' := [(1, pt b1), (2, bl false), (5, i64 0), (6, i64 15), (65, bl true), (67, i64 b)]) hA [i64 b] (cc (hO.l1 1 2 3 (i64 b)) c0) ?_
      clear hA fr; intro fr hA
      refine wpOps_cons' (mK (f := 52) (args := [i64 b, i64 0, i64 15]) (d := (some 68)) (v := bl (inB b 0 15)) hA hO Tryd.func52 (in_any b 0 15 _) ?_)
      clear hA hO fr; intro fr w7 hA hO
      replace hA := hA.sb (e' := [(1, pt b1), (2, bl false), (5, i64 0), (6, i64 15), (65, bl true), (68, bl (inB b 0 15))])
      refine ck (l := [16, 17]) (r := (rg 18 12)) (e' := [(1, pt b1), (2, bl false), (5, i64 0), (6, i64 15), (68, bl (inB b 0 15)), (69, bl (inB b 0 15)), (70, bl (inB b 0 15))]) hA [] c0 ?_
      clear hA fr; intro fr hA
      rcases Bool.eq_false_or_eq_true (inB b 0 15) with h3 | h3
      ·
        replace hA := hA.bool (f := fun z_ => [(1, pt b1), (2, bl false), (5, i64 0), (6, i64 15), (68, .bool z_), (69, .bool z_), (70, .bool z_)]) h3
        refine ck (l := [18, 19, 20, 21]) (r := (rg 22 8)) (e' := [(1, pt b1), (2, bl false), (70, bl true), (72, i64 c), (73, i64 0), (74, i64 15)]) hA [i64 c] (cc (hO.l1 1 3 3 (i64 c)) c0) ?_
        clear hA fr; intro fr hA
        refine wpOps_cons' (mK (f := 52) (args := [i64 c, i64 0, i64 15]) (d := (some 75)) (v := bl (inB c 0 15)) hA hO Tryd.func52 (in_any c 0 15 _) ?_)
        clear hA hO fr; intro fr w8 hA hO
        replace hA := hA.sb (e' := [(1, pt b1), (2, bl false), (70, bl true), (75, bl (inB c 0 15))])
        refine ck (l := [23, 24]) (r := (rg 25 5)) (e' := [(1, pt b1), (2, bl false), (75, bl (inB c 0 15)), (76, bl (inB c 0 15)), (77, bl (inB c 0 15))]) hA [] c0 ?_
        clear hA fr; intro fr hA
        rcases Bool.eq_false_or_eq_true (inB c 0 15) with h4 | h4
        ·
          replace hA := hA.bool (f := fun z_ => [(1, pt b1), (2, bl false), (75, .bool z_), (76, .bool z_), (77, .bool z_)]) h4
          refine ck (l := [25, 26]) (r := [27, 28, 29]) (e' := [(2, bl false), (77, bl true), (79, i64 v)]) hA [i64 v] (cc (hO.l1 1 4 3 (i64 v)) c0) ?_
          clear hA fr; intro fr hA
          refine wpOps_cons' (mK (f := 52) (args := [i64 v, i64 (-32768), i64 32767]) (d := (some 80)) (v := bl (inB v (-32768) 32767)) hA hO Tryd.func52 (in_any v (-32768) 32767 _) ?_)
          clear hA hO fr; intro fr w9 hA hO
          replace hA := hA.sb (e' := [(2, bl false), (77, bl true), (80, bl (inB v (-32768) 32767))])
          refine ck (l := [28, 29]) (r := []) (e' := [(2, bl (inB v (-32768) 32767))]) hA [] c0 ?_
          clear hA fr; intro fr hA
          refine end_ops ?_
          refine then_normal ?_
          refine wp_ret ?_
          refine cR (cs := [none]) (us := [bl (inB v (-32768) 32767)]) hA [] trivial ?_
          have hF := hO.only; clear hA hO
          exact ⟨congrArg (fun b => Ending.returned (.bool b)) (Bool.eq_iff_iff.2 (by simp [legF, regB, inB] at * <;> omega)), hF⟩
        ·
          replace hA := hA.bool (f := fun z_ => [(1, pt b1), (2, bl false), (75, .bool z_), (76, .bool z_), (77, .bool z_)]) h4
          refine ck (l := (rg 25 5)) (r := []) (e' := [(2, bl false)]) hA [] c0 ?_
          clear hA fr; intro fr hA
          refine end_ops ?_
          refine then_normal ?_
          refine wp_ret ?_
          refine cR (cs := [none]) (us := [bl false]) hA [] trivial ?_
          have hF := hO.only; clear hA hO
          exact ⟨congrArg (fun b => Ending.returned (.bool b)) (Bool.eq_iff_iff.2 (by simp [legF, regB, inB] at * <;> omega)), hF⟩
      ·
        replace hA := hA.bool (f := fun z_ => [(1, pt b1), (2, bl false), (5, i64 0), (6, i64 15), (68, .bool z_), (69, .bool z_), (70, .bool z_)]) h3
        refine ck (l := (rg 18 12)) (r := []) (e' := [(2, bl false)]) hA [] c0 ?_
        clear hA fr; intro fr hA
        refine end_ops ?_
        refine then_normal ?_
        refine wp_ret ?_
        refine cR (cs := [none]) (us := [bl false]) hA [] trivial ?_
        have hF := hO.only; clear hA hO
        exact ⟨congrArg (fun b => Ending.returned (.bool b)) (Bool.eq_iff_iff.2 (by simp [legF, regB, inB] at * <;> omega)), hF⟩
    ·
      replace hA := hA.bool (f := fun z_ => [(1, pt b1), (2, bl false), (5, i64 0), (6, i64 15), (63, .bool z_), (64, .bool z_), (65, .bool z_)]) h2
      refine ck (l := (rg 13 17)) (r := []) (e' := [(2, bl false)]) hA [] c0 ?_
      clear hA fr; intro fr hA
      refine end_ops ?_
      refine then_normal ?_
      refine wp_ret ?_
      refine cR (cs := [none]) (us := [bl false]) hA [] trivial ?_
      have hF := hO.only; clear hA hO
      exact ⟨congrArg (fun b => Ending.returned (.bool b)) (Bool.eq_iff_iff.2 (by simp [legF, regB, inB] at * <;> omega)), hF⟩
  ·
    replace hA := hA.bool (f := fun z_ => [(1, pt b1), (2, bl false), (5, i64 0), (6, i64 15), (58, .bool z_), (59, .bool z_), (60, .bool z_)]) h1
    refine ck (l := (rg 8 22)) (r := []) (e' := [(2, bl false)]) hA [] c0 ?_
    clear hA fr; intro fr hA
    refine end_ops ?_
    refine then_normal ?_
    refine wp_ret ?_
    refine cR (cs := [none]) (us := [bl false]) hA [] trivial ?_
    have hF := hO.only; clear hA hO
    exact ⟨congrArg (fun b => Ending.returned (.bool b)) (Bool.eq_iff_iff.2 (by simp [legF, regB, inB] at * <;> omega)), hF⟩

theorem rlegal_5 (o a b c v : Int) (w : World) (hf : formF o = 5) :
    Calls Tryd.prog 44 #[.agg #[i64 o, i64 a, i64 b, i64 c, i64 v]] w fun e w' => e = .returned (.bool (legF true false false false false a b c v)) ∧ Only none' w w' := by
  refine c_enter (args := [.agg #[i64 o, i64 a, i64 b, i64 c, i64 v]]) (m := 81) (n := 82) Tryd.func44 rfl (by kernel_rfl) (by kernel_rfl) fun fr hA => ?_
  have hO := Ow.nil Tryd.prog none' w
  refine sR (l := [0, 1]) ?_
  refine wpOps_cons' (mN (l := [i64 o, i64 a, i64 b, i64 c, i64 v]) (t := 56) (v := pt) (d := 1) hA hO ?_)
  clear hA hO fr; intro fr w1 b1 hA hO
  replace hA := hA.sb (e' := [(1, pt b1)])
  refine ck (l := [1]) (r := []) (e' := [(1, pt b1), (2, bl false)]) hA [] c0 ?_
  clear hA fr; intro fr hA
  refine end_ops ?_
  refine then_normal ?_
  refine sR (l := [0, 1, 2, 3]) ?_
  refine ck (l := [0, 1]) (r := [2, 3]) (e' := [(1, pt b1), (2, bl false), (8, i64 o)]) hA [i64 o] (cc (hO.l1 0 0 3 (i64 o)) c0) ?_
  clear hA fr; intro fr hA
  refine wpOps_cons' (mK (f := 43) (args := [i64 o]) (d := (some 9)) (v := i64 5) hA hO Tryd.func43 (rs (form_any o _) (congrArg _ hf)) ?_)
  clear hA hO fr; intro fr w2 hA hO
  replace hA := hA.sb (e' := [(1, pt b1), (2, bl false), (9, i64 5)])
  refine ck (l := [3]) (r := []) (e' := [(1, pt b1), (2, bl false), (3, i64 5)]) hA [] c0 ?_
  clear hA fr; intro fr hA
  refine end_ops ?_
  refine then_normal ?_
  refine sR (l := (rg 0 5)) ?_
  refine ck (l := [0, 1, 2]) (r := [3, 4]) (e' := [(1, pt b1), (2, bl false), (3, i64 5), (12, .agg #[i64 o, i64 0, i64 0, i64 0, i64 0])]) hA [i64 o] (cc (hO.l1 0 0 3 (i64 o)) c0) ?_
  clear hA fr; intro fr hA
  refine wpOps_cons' (mN (l := [i64 0, i64 0, i64 0, i64 0, i64 0]) (t := 56) (v := pt) (d := 4) hA hO ?_)
  clear hA hO fr; intro fr w3 b2 hA hO
  refine wpOps_cons' (mS (off := 0) (vc := [i64 o, i64 0, i64 0, i64 0, i64 0]) 0 hA hO ?_)
  clear hO; intro w4 hO
  replace hA := hA.sb (e' := [(1, pt b1), (2, bl false), (3, i64 5), (4, pt b2)])
  refine end_ops ?_
  refine then_normal ?_
  refine wp_seq ?_
  refine sC (e' := [(1, pt b1), (2, bl false), (3, i64 5), (4, pt b2), (26, bl true)]) 14 hA [] c0 ?_
  clear hA fr; intro fr hA
  refine cT hA ?_
  refine rR (l := [0, 1, 2, 3]) ?_
  refine ck (l := [0, 1, 2]) (r := [3]) (e' := [(1, pt b1), (2, bl false), (3, i64 5), (4, pt b2), (28, i64 a), (29, pf b2 1)]) hA [i64 a] (cc (hO.l1 1 1 3 (i64 a)) c0) ?_
  clear hA fr; intro fr hA
  refine wpOps_cons' (mS (off := 1) (vc := [i64 a]) 0 hA hO ?_)
  clear hO; intro w5 hO
  replace hA := hA.sb (e' := [(1, pt b1), (2, bl false), (3, i64 5), (4, pt b2)])
  refine end_ops ?_
  refine then_normal ?_
  refine wp_seq ?_
  refine sC (e' := [(1, pt b1), (2, bl false), (3, i64 5), (4, pt b2), (35, bl false)]) 6 hA [] c0 ?_
  clear hA fr; intro fr hA
  refine cF hA ?_
  refine wp_skip ?_
  refine then_normal ?_
  refine wp_seq ?_
  refine sC (e' := [(1, pt b1), (2, bl false), (3, i64 5), (4, pt b2), (47, bl false)]) 6 hA [] c0 ?_
  clear hA fr; intro fr hA
  refine cF hA ?_
  refine wp_skip ?_
  refine then_normal ?_
  refine sC (e' := [(1, pt b1), (2, bl false), (3, i64 5), (4, pt b2), (5, i64 0), (6, i64 15)]) 2 hA [] c0 ?_
  clear hA fr; intro fr hA
  refine wp_seq ?_
  refine sC (e' := [(1, pt b1), (2, bl false), (3, i64 5), (4, pt b2), (5, i64 0), (6, i64 15), (52, bl false)]) 2 hA [] c0 ?_
  clear hA fr; intro fr hA
  refine cF hA ?_
  refine wp_skip ?_
  refine then_normal ?_
  refine sR (l := (rg 0 30)) ?_
  refine ck (l := (rg 0 8)) (r := (rg 8 22)) (e' := [(1, pt b1), (2, bl false), (5, i64 0), (6, i64 15), (58, bl ((o == o) && ((a == a) && ((b == 0) && ((c == 0) && ((v == 0) && true)))))), (59, bl ((o == o) && ((a == a) && ((b == 0) && ((c == 0) && ((v == 0) && true)))))), (60, bl ((o == o) && ((a == a) && ((b == 0) && ((c == 0) && ((v == 0) && true))))))]) hA [.agg #[i64 o, i64 a, i64 b, i64 c, i64 v], .agg #[i64 o, i64 a, i64 0, i64 0, i64 0], bl ((o == o) && ((a == a) && ((b == 0) && ((c == 0) && ((v == 0) && true)))))] (cc (hO.ln 1 0 56 [i64 o, i64 a, i64 b, i64 c, i64 v]) (cc (hO.ln 0 0 56 [i64 o, i64 a, i64 0, i64 0, i64 0]) (cc ((eqG_of (by kernel_rfl) (by kernel_rfl)) : EqG Tryd.prog 56 (.agg #[i64 o, i64 a, i64 b, i64 c, i64 v]) (.agg #[i64 o, i64 a, i64 0, i64 0, i64 0]) ((o == o) && ((a == a) && ((b == 0) && ((c == 0) && ((v == 0) && true)))))) c0))) ?_
  clear hA fr; intro fr hA
  rcases Bool.eq_false_or_eq_true ((o == o) && ((a == a) && ((b == 0) && ((c == 0) && ((v == 0) && true))))) with h1 | h1
  ·
    replace hA := hA.bool (f := fun z_ => [(1, pt b1), (2, bl false), (5, i64 0), (6, i64 15), (58, .bool z_), (59, .bool z_), (60, .bool z_)]) h1
    refine ck (l := [8, 9]) (r := (rg 10 20)) (e' := [(1, pt b1), (2, bl false), (5, i64 0), (6, i64 15), (60, bl true), (62, i64 a)]) hA [i64 a] (cc (hO.l1 1 1 3 (i64 a)) c0) ?_
    clear hA fr; intro fr hA
    refine wpOps_cons' (mK (f := 52) (args := [i64 a, i64 0, i64 15]) (d := (some 63)) (v := bl (inB a 0 15)) hA hO Tryd.func52 (in_any a 0 15 _) ?_)
    clear hA hO fr; intro fr w6 hA hO
    replace hA := hA.sb (e' := [(1, pt b1), (2, bl false), (5, i64 0), (6, i64 15), (60, bl true), (63, bl (inB a 0 15))])
    refine ck (l := [11, 12]) (r := (rg 13 17)) (e' := [(1, pt b1), (2, bl false), (5, i64 0), (6, i64 15), (63, bl (inB a 0 15)), (64, bl (inB a 0 15)), (65, bl (inB a 0 15))]) hA [] c0 ?_
    clear hA fr; intro fr hA
    rcases Bool.eq_false_or_eq_true (inB a 0 15) with h2 | h2
    ·
      replace hA := hA.bool (f := fun z_ => [(1, pt b1), (2, bl false), (5, i64 0), (6, i64 15), (63, .bool z_), (64, .bool z_), (65, .bool z_)]) h2
      refine ck (l := [13, 14]) (r := (rg 15 15)) (e' := [(1, pt b1), (2, bl false), (5, i64 0), (6, i64 15), (65, bl true), (67, i64 b)]) hA [i64 b] (cc (hO.l1 1 2 3 (i64 b)) c0) ?_
      clear hA fr; intro fr hA
      refine wpOps_cons' (mK (f := 52) (args := [i64 b, i64 0, i64 15]) (d := (some 68)) (v := bl (inB b 0 15)) hA hO Tryd.func52 (in_any b 0 15 _) ?_)
      clear hA hO fr; intro fr w7 hA hO
      replace hA := hA.sb (e' := [(1, pt b1), (2, bl false), (5, i64 0), (6, i64 15), (65, bl true), (68, bl (inB b 0 15))])
      refine ck (l := [16, 17]) (r := (rg 18 12)) (e' := [(1, pt b1), (2, bl false), (5, i64 0), (6, i64 15), (68, bl (inB b 0 15)), (69, bl (inB b 0 15)), (70, bl (inB b 0 15))]) hA [] c0 ?_
      clear hA fr; intro fr hA
      rcases Bool.eq_false_or_eq_true (inB b 0 15) with h3 | h3
      ·
        replace hA := hA.bool (f := fun z_ => [(1, pt b1), (2, bl false), (5, i64 0), (6, i64 15), (68, .bool z_), (69, .bool z_), (70, .bool z_)]) h3
        refine ck (l := [18, 19, 20, 21]) (r := (rg 22 8)) (e' := [(1, pt b1), (2, bl false), (70, bl true), (72, i64 c), (73, i64 0), (74, i64 15)]) hA [i64 c] (cc (hO.l1 1 3 3 (i64 c)) c0) ?_
        clear hA fr; intro fr hA
        refine wpOps_cons' (mK (f := 52) (args := [i64 c, i64 0, i64 15]) (d := (some 75)) (v := bl (inB c 0 15)) hA hO Tryd.func52 (in_any c 0 15 _) ?_)
        clear hA hO fr; intro fr w8 hA hO
        replace hA := hA.sb (e' := [(1, pt b1), (2, bl false), (70, bl true), (75, bl (inB c 0 15))])
        refine ck (l := [23, 24]) (r := (rg 25 5)) (e' := [(1, pt b1), (2, bl false), (75, bl (inB c 0 15)), (76, bl (inB c 0 15)), (77, bl (inB c 0 15))]) hA [] c0 ?_
        clear hA fr; intro fr hA
        rcases Bool.eq_false_or_eq_true (inB c 0 15) with h4 | h4
        ·
          replace hA := hA.bool (f := fun z_ => [(1, pt b1), (2, bl false), (75, .bool z_), (76, .bool z_), (77, .bool z_)]) h4
          refine ck (l := [25, 26]) (r := [27, 28, 29]) (e' := [(2, bl false), (77, bl true), (79, i64 v)]) hA [i64 v] (cc (hO.l1 1 4 3 (i64 v)) c0) ?_
          clear hA fr; intro fr hA
          refine wpOps_cons' (mK (f := 52) (args := [i64 v, i64 (-32768), i64 32767]) (d := (some 80)) (v := bl (inB v (-32768) 32767)) hA hO Tryd.func52 (in_any v (-32768) 32767 _) ?_)
          clear hA hO fr; intro fr w9 hA hO
          replace hA := hA.sb (e' := [(2, bl false), (77, bl true), (80, bl (inB v (-32768) 32767))])
          refine ck (l := [28, 29]) (r := []) (e' := [(2, bl (inB v (-32768) 32767))]) hA [] c0 ?_
          clear hA fr; intro fr hA
          refine end_ops ?_
          refine then_normal ?_
          refine wp_ret ?_
          refine cR (cs := [none]) (us := [bl (inB v (-32768) 32767)]) hA [] trivial ?_
          have hF := hO.only; clear hA hO
          exact ⟨congrArg (fun b => Ending.returned (.bool b)) (Bool.eq_iff_iff.2 (by simp [legF, regB, inB] at * <;> omega)), hF⟩
        ·
          replace hA := hA.bool (f := fun z_ => [(1, pt b1), (2, bl false), (75, .bool z_), (76, .bool z_), (77, .bool z_)]) h4
          refine ck (l := (rg 25 5)) (r := []) (e' := [(2, bl false)]) hA [] c0 ?_
          clear hA fr; intro fr hA
          refine end_ops ?_
          refine then_normal ?_
          refine wp_ret ?_
          refine cR (cs := [none]) (us := [bl false]) hA [] trivial ?_
          have hF := hO.only; clear hA hO
          exact ⟨congrArg (fun b => Ending.returned (.bool b)) (Bool.eq_iff_iff.2 (by simp [legF, regB, inB] at * <;> omega)), hF⟩
      ·
        replace hA := hA.bool (f := fun z_ => [(1, pt b1), (2, bl false), (5, i64 0), (6, i64 15), (68, .bool z_), (69, .bool z_), (70, .bool z_)]) h3
        refine ck (l := (rg 18 12)) (r := []) (e' := [(2, bl false)]) hA [] c0 ?_
        clear hA fr; intro fr hA
        refine end_ops ?_
        refine then_normal ?_
        refine wp_ret ?_
        refine cR (cs := [none]) (us := [bl false]) hA [] trivial ?_
        have hF := hO.only; clear hA hO
        exact ⟨congrArg (fun b => Ending.returned (.bool b)) (Bool.eq_iff_iff.2 (by simp [legF, regB, inB] at * <;> omega)), hF⟩
    ·
      replace hA := hA.bool (f := fun z_ => [(1, pt b1), (2, bl false), (5, i64 0), (6, i64 15), (63, .bool z_), (64, .bool z_), (65, .bool z_)]) h2
      refine ck (l := (rg 13 17)) (r := []) (e' := [(2, bl false)]) hA [] c0 ?_
      clear hA fr; intro fr hA
      refine end_ops ?_
      refine then_normal ?_
      refine wp_ret ?_
      refine cR (cs := [none]) (us := [bl false]) hA [] trivial ?_
      have hF := hO.only; clear hA hO
      exact ⟨congrArg (fun b => Ending.returned (.bool b)) (Bool.eq_iff_iff.2 (by simp [legF, regB, inB] at * <;> omega)), hF⟩
  ·
    replace hA := hA.bool (f := fun z_ => [(1, pt b1), (2, bl false), (5, i64 0), (6, i64 15), (58, .bool z_), (59, .bool z_), (60, .bool z_)]) h1
    refine ck (l := (rg 8 22)) (r := []) (e' := [(2, bl false)]) hA [] c0 ?_
    clear hA fr; intro fr hA
    refine end_ops ?_
    refine then_normal ?_
    refine wp_ret ?_
    refine cR (cs := [none]) (us := [bl false]) hA [] trivial ?_
    have hF := hO.only; clear hA hO
    exact ⟨congrArg (fun b => Ending.returned (.bool b)) (Bool.eq_iff_iff.2 (by simp [legF, regB, inB] at * <;> omega)), hF⟩

theorem rlegal_6 (o a b c v : Int) (w : World) (hf : formF o = 6) :
    Calls Tryd.prog 44 #[.agg #[i64 o, i64 a, i64 b, i64 c, i64 v]] w fun e w' => e = .returned (.bool (legF false false false false false a b c v)) ∧ Only none' w w' := by
  refine c_enter (args := [.agg #[i64 o, i64 a, i64 b, i64 c, i64 v]]) (m := 81) (n := 82) Tryd.func44 rfl (by kernel_rfl) (by kernel_rfl) fun fr hA => ?_
  have hO := Ow.nil Tryd.prog none' w
  refine sR (l := [0, 1]) ?_
  refine wpOps_cons' (mN (l := [i64 o, i64 a, i64 b, i64 c, i64 v]) (t := 56) (v := pt) (d := 1) hA hO ?_)
  clear hA hO fr; intro fr w1 b1 hA hO
  replace hA := hA.sb (e' := [(1, pt b1)])
  refine ck (l := [1]) (r := []) (e' := [(1, pt b1), (2, bl false)]) hA [] c0 ?_
  clear hA fr; intro fr hA
  refine end_ops ?_
  refine then_normal ?_
  refine sR (l := [0, 1, 2, 3]) ?_
  refine ck (l := [0, 1]) (r := [2, 3]) (e' := [(1, pt b1), (2, bl false), (8, i64 o)]) hA [i64 o] (cc (hO.l1 0 0 3 (i64 o)) c0) ?_
  clear hA fr; intro fr hA
  refine wpOps_cons' (mK (f := 43) (args := [i64 o]) (d := (some 9)) (v := i64 6) hA hO Tryd.func43 (rs (form_any o _) (congrArg _ hf)) ?_)
  clear hA hO fr; intro fr w2 hA hO
  replace hA := hA.sb (e' := [(1, pt b1), (2, bl false), (9, i64 6)])
  refine ck (l := [3]) (r := []) (e' := [(1, pt b1), (2, bl false), (3, i64 6)]) hA [] c0 ?_
  clear hA fr; intro fr hA
  refine end_ops ?_
  refine then_normal ?_
  refine sR (l := (rg 0 5)) ?_
  refine ck (l := [0, 1, 2]) (r := [3, 4]) (e' := [(1, pt b1), (2, bl false), (3, i64 6), (12, .agg #[i64 o, i64 0, i64 0, i64 0, i64 0])]) hA [i64 o] (cc (hO.l1 0 0 3 (i64 o)) c0) ?_
  clear hA fr; intro fr hA
  refine wpOps_cons' (mN (l := [i64 0, i64 0, i64 0, i64 0, i64 0]) (t := 56) (v := pt) (d := 4) hA hO ?_)
  clear hA hO fr; intro fr w3 b2 hA hO
  refine wpOps_cons' (mS (off := 0) (vc := [i64 o, i64 0, i64 0, i64 0, i64 0]) 0 hA hO ?_)
  clear hO; intro w4 hO
  replace hA := hA.sb (e' := [(1, pt b1), (2, bl false), (3, i64 6), (4, pt b2)])
  refine end_ops ?_
  refine then_normal ?_
  refine wp_seq ?_
  refine sC (e' := [(1, pt b1), (2, bl false), (3, i64 6), (4, pt b2), (26, bl false)]) 14 hA [] c0 ?_
  clear hA fr; intro fr hA
  refine cF hA ?_
  refine wp_skip ?_
  refine then_normal ?_
  refine wp_seq ?_
  refine sC (e' := [(1, pt b1), (2, bl false), (3, i64 6), (4, pt b2), (35, bl false)]) 6 hA [] c0 ?_
  clear hA fr; intro fr hA
  refine cF hA ?_
  refine wp_skip ?_
  refine then_normal ?_
  refine wp_seq ?_
  refine sC (e' := [(1, pt b1), (2, bl false), (3, i64 6), (4, pt b2), (47, bl false)]) 6 hA [] c0 ?_
  clear hA fr; intro fr hA
  refine cF hA ?_
  refine wp_skip ?_
  refine then_normal ?_
  refine sC (e' := [(1, pt b1), (2, bl false), (3, i64 6), (4, pt b2), (5, i64 0), (6, i64 15)]) 2 hA [] c0 ?_
  clear hA fr; intro fr hA
  refine wp_seq ?_
  refine sC (e' := [(1, pt b1), (2, bl false), (3, i64 6), (4, pt b2), (5, i64 0), (6, i64 15), (52, bl false)]) 2 hA [] c0 ?_
  clear hA fr; intro fr hA
  refine cF hA ?_
  refine wp_skip ?_
  refine then_normal ?_
  refine sR (l := (rg 0 30)) ?_
  refine ck (l := (rg 0 8)) (r := (rg 8 22)) (e' := [(1, pt b1), (2, bl false), (5, i64 0), (6, i64 15), (58, bl ((o == o) && ((a == 0) && ((b == 0) && ((c == 0) && ((v == 0) && true)))))), (59, bl ((o == o) && ((a == 0) && ((b == 0) && ((c == 0) && ((v == 0) && true)))))), (60, bl ((o == o) && ((a == 0) && ((b == 0) && ((c == 0) && ((v == 0) && true))))))]) hA [.agg #[i64 o, i64 a, i64 b, i64 c, i64 v], .agg #[i64 o, i64 0, i64 0, i64 0, i64 0], bl ((o == o) && ((a == 0) && ((b == 0) && ((c == 0) && ((v == 0) && true)))))] (cc (hO.ln 1 0 56 [i64 o, i64 a, i64 b, i64 c, i64 v]) (cc (hO.ln 0 0 56 [i64 o, i64 0, i64 0, i64 0, i64 0]) (cc ((eqG_of (by kernel_rfl) (by kernel_rfl)) : EqG Tryd.prog 56 (.agg #[i64 o, i64 a, i64 b, i64 c, i64 v]) (.agg #[i64 o, i64 0, i64 0, i64 0, i64 0]) ((o == o) && ((a == 0) && ((b == 0) && ((c == 0) && ((v == 0) && true)))))) c0))) ?_
  clear hA fr; intro fr hA
  rcases Bool.eq_false_or_eq_true ((o == o) && ((a == 0) && ((b == 0) && ((c == 0) && ((v == 0) && true))))) with h1 | h1
  ·
    replace hA := hA.bool (f := fun z_ => [(1, pt b1), (2, bl false), (5, i64 0), (6, i64 15), (58, .bool z_), (59, .bool z_), (60, .bool z_)]) h1
    refine ck (l := [8, 9]) (r := (rg 10 20)) (e' := [(1, pt b1), (2, bl false), (5, i64 0), (6, i64 15), (60, bl true), (62, i64 a)]) hA [i64 a] (cc (hO.l1 1 1 3 (i64 a)) c0) ?_
    clear hA fr; intro fr hA
    refine wpOps_cons' (mK (f := 52) (args := [i64 a, i64 0, i64 15]) (d := (some 63)) (v := bl (inB a 0 15)) hA hO Tryd.func52 (in_any a 0 15 _) ?_)
    clear hA hO fr; intro fr w5 hA hO
    replace hA := hA.sb (e' := [(1, pt b1), (2, bl false), (5, i64 0), (6, i64 15), (60, bl true), (63, bl (inB a 0 15))])
    refine ck (l := [11, 12]) (r := (rg 13 17)) (e' := [(1, pt b1), (2, bl false), (5, i64 0), (6, i64 15), (63, bl (inB a 0 15)), (64, bl (inB a 0 15)), (65, bl (inB a 0 15))]) hA [] c0 ?_
    clear hA fr; intro fr hA
    rcases Bool.eq_false_or_eq_true (inB a 0 15) with h2 | h2
    ·
      replace hA := hA.bool (f := fun z_ => [(1, pt b1), (2, bl false), (5, i64 0), (6, i64 15), (63, .bool z_), (64, .bool z_), (65, .bool z_)]) h2
      refine ck (l := [13, 14]) (r := (rg 15 15)) (e' := [(1, pt b1), (2, bl false), (5, i64 0), (6, i64 15), (65, bl true), (67, i64 b)]) hA [i64 b] (cc (hO.l1 1 2 3 (i64 b)) c0) ?_
      clear hA fr; intro fr hA
      refine wpOps_cons' (mK (f := 52) (args := [i64 b, i64 0, i64 15]) (d := (some 68)) (v := bl (inB b 0 15)) hA hO Tryd.func52 (in_any b 0 15 _) ?_)
      clear hA hO fr; intro fr w6 hA hO
      replace hA := hA.sb (e' := [(1, pt b1), (2, bl false), (5, i64 0), (6, i64 15), (65, bl true), (68, bl (inB b 0 15))])
      refine ck (l := [16, 17]) (r := (rg 18 12)) (e' := [(1, pt b1), (2, bl false), (5, i64 0), (6, i64 15), (68, bl (inB b 0 15)), (69, bl (inB b 0 15)), (70, bl (inB b 0 15))]) hA [] c0 ?_
      clear hA fr; intro fr hA
      rcases Bool.eq_false_or_eq_true (inB b 0 15) with h3 | h3
      ·
        replace hA := hA.bool (f := fun z_ => [(1, pt b1), (2, bl false), (5, i64 0), (6, i64 15), (68, .bool z_), (69, .bool z_), (70, .bool z_)]) h3
        refine ck (l := [18, 19, 20, 21]) (r := (rg 22 8)) (e' := [(1, pt b1), (2, bl false), (70, bl true), (72, i64 c), (73, i64 0), (74, i64 15)]) hA [i64 c] (cc (hO.l1 1 3 3 (i64 c)) c0) ?_
        clear hA fr; intro fr hA
        refine wpOps_cons' (mK (f := 52) (args := [i64 c, i64 0, i64 15]) (d := (some 75)) (v := bl (inB c 0 15)) hA hO Tryd.func52 (in_any c 0 15 _) ?_)
        clear hA hO fr; intro fr w7 hA hO
        replace hA := hA.sb (e' := [(1, pt b1), (2, bl false), (70, bl true), (75, bl (inB c 0 15))])
        refine ck (l := [23, 24]) (r := (rg 25 5)) (e' := [(1, pt b1), (2, bl false), (75, bl (inB c 0 15)), (76, bl (inB c 0 15)), (77, bl (inB c 0 15))]) hA [] c0 ?_
        clear hA fr; intro fr hA
        rcases Bool.eq_false_or_eq_true (inB c 0 15) with h4 | h4
        ·
          replace hA := hA.bool (f := fun z_ => [(1, pt b1), (2, bl false), (75, .bool z_), (76, .bool z_), (77, .bool z_)]) h4
          refine ck (l := [25, 26]) (r := [27, 28, 29]) (e' := [(2, bl false), (77, bl true), (79, i64 v)]) hA [i64 v] (cc (hO.l1 1 4 3 (i64 v)) c0) ?_
          clear hA fr; intro fr hA
          refine wpOps_cons' (mK (f := 52) (args := [i64 v, i64 (-32768), i64 32767]) (d := (some 80)) (v := bl (inB v (-32768) 32767)) hA hO Tryd.func52 (in_any v (-32768) 32767 _) ?_)
          clear hA hO fr; intro fr w8 hA hO
          replace hA := hA.sb (e' := [(2, bl false), (77, bl true), (80, bl (inB v (-32768) 32767))])
          refine ck (l := [28, 29]) (r := []) (e' := [(2, bl (inB v (-32768) 32767))]) hA [] c0 ?_
          clear hA fr; intro fr hA
          refine end_ops ?_
          refine then_normal ?_
          refine wp_ret ?_
          refine cR (cs := [none]) (us := [bl (inB v (-32768) 32767)]) hA [] trivial ?_
          have hF := hO.only; clear hA hO
          exact ⟨congrArg (fun b => Ending.returned (.bool b)) (Bool.eq_iff_iff.2 (by simp [legF, regB, inB] at * <;> omega)), hF⟩
        ·
          replace hA := hA.bool (f := fun z_ => [(1, pt b1), (2, bl false), (75, .bool z_), (76, .bool z_), (77, .bool z_)]) h4
          refine ck (l := (rg 25 5)) (r := []) (e' := [(2, bl false)]) hA [] c0 ?_
          clear hA fr; intro fr hA
          refine end_ops ?_
          refine then_normal ?_
          refine wp_ret ?_
          refine cR (cs := [none]) (us := [bl false]) hA [] trivial ?_
          have hF := hO.only; clear hA hO
          exact ⟨congrArg (fun b => Ending.returned (.bool b)) (Bool.eq_iff_iff.2 (by simp [legF, regB, inB] at * <;> omega)), hF⟩
      ·
        replace hA := hA.bool (f := fun z_ => [(1, pt b1), (2, bl false), (5, i64 0), (6, i64 15), (68, .bool z_), (69, .bool z_), (70, .bool z_)]) h3
        refine ck (l := (rg 18 12)) (r := []) (e' := [(2, bl false)]) hA [] c0 ?_
        clear hA fr; intro fr hA
        refine end_ops ?_
        refine then_normal ?_
        refine wp_ret ?_
        refine cR (cs := [none]) (us := [bl false]) hA [] trivial ?_
        have hF := hO.only; clear hA hO
        exact ⟨congrArg (fun b => Ending.returned (.bool b)) (Bool.eq_iff_iff.2 (by simp [legF, regB, inB] at * <;> omega)), hF⟩
    ·
      replace hA := hA.bool (f := fun z_ => [(1, pt b1), (2, bl false), (5, i64 0), (6, i64 15), (63, .bool z_), (64, .bool z_), (65, .bool z_)]) h2
      refine ck (l := (rg 13 17)) (r := []) (e' := [(2, bl false)]) hA [] c0 ?_
      clear hA fr; intro fr hA
      refine end_ops ?_
      refine then_normal ?_
      refine wp_ret ?_
      refine cR (cs := [none]) (us := [bl false]) hA [] trivial ?_
      have hF := hO.only; clear hA hO
      exact ⟨congrArg (fun b => Ending.returned (.bool b)) (Bool.eq_iff_iff.2 (by simp [legF, regB, inB] at * <;> omega)), hF⟩
  ·
    replace hA := hA.bool (f := fun z_ => [(1, pt b1), (2, bl false), (5, i64 0), (6, i64 15), (58, .bool z_), (59, .bool z_), (60, .bool z_)]) h1
    refine ck (l := (rg 8 22)) (r := []) (e' := [(2, bl false)]) hA [] c0 ?_
    clear hA fr; intro fr hA
    refine end_ops ?_
    refine then_normal ?_
    refine wp_ret ?_
    refine cR (cs := [none]) (us := [bl false]) hA [] trivial ?_
    have hF := hO.only; clear hA hO
    exact ⟨congrArg (fun b => Ending.returned (.bool b)) (Bool.eq_iff_iff.2 (by simp [legF, regB, inB] at * <;> omega)), hF⟩

theorem rlegal_any (o a b c v : Int) (w : World) : Calls Tryd.prog 44 #[insV o a b c v] w fun e w' => e = .returned (.bool (legalB o a b c v)) ∧ Only none' w w' := by
  have hk := form_flags o
  rcases form_cases o with h | h | h | h | h | h | h
  · have : legalB o a b c v = false := by
      have := form_zero h
      simp only [legalB, Bool.and_eq_false_iff, decide_eq_false_iff_not]
      left; omega
    rw [this]; exact rlegal_0 o a b c v w h
  · rw [← (hk.1 h).legal]; exact rlegal_1 o a b c v w h
  · rw [← (hk.2.1 h).legal]; exact rlegal_2 o a b c v w h
  · rw [← (hk.2.2.1 h).legal]; exact rlegal_3 o a b c v w h
  · rw [← (hk.2.2.2.1 h).legal]; exact rlegal_4 o a b c v w h
  · rw [← (hk.2.2.2.2.1 h).legal]; exact rlegal_5 o a b c v w h
  · rw [← (hk.2.2.2.2.2 h).legal]; exact rlegal_6 o a b c v w h

end Go.Proofs.YtkfnkcpdabdboaaDoor
