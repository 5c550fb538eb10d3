/- The layer cpu: walks of Exec and what it calls. -/
import Derived.Test.YtcaokjdihhbkjaaDoorDecode
set_option linter.unusedVariables false
set_option linter.unusedSimpArgs false
set_option maxRecDepth 10000
namespace Go.Proofs.YtcaokjdihhbkjaaDoor
open Go Go.RowKit Go.Proofs.Sx

theorem bit_any (v : Bool) (w : World) :
    Calls Tryd.prog 46 #[bl v] w fun e w' => e = .returned (.int .i32 (cond v 1 0)) ∧ Only none' w w' := by
  refine c_enter (args := [bl v]) (m := 3) (n := 4) Tryd.func46 rfl (by kernel_rfl) (by kernel_rfl) fun fr hA => ?_
  have hO := Ow.nil Tryd.prog none' w
  refine sC (e' := [(0, bl v), (2, i32 0)]) 1 hA [] c0 ?_
  clear hA fr; intro fr hA
  refine wp_seq ?_
  refine sC (e' := [(2, i32 0), (3, bl v)]) 1 hA [] c0 ?_
  clear hA fr; intro fr hA
  rcases Bool.eq_false_or_eq_true (v) with h1 | h1
  ·
    replace hA := hA.bool (f := fun z_ => [(2, i32 0), (3, .bool z_)]) h1
    refine cT hA ?_
    refine sC (e' := [(2, i32 1)]) 1 hA [] c0 ?_
    clear hA fr; intro fr hA
    refine wp_ret ?_
    refine then_ret ?_
    refine cR (cs := [none]) (us := [i32 1]) hA [] trivial ?_
    have hF := hO.only; clear hA hO
    exact ⟨by simp_all [pack], hF⟩
  ·
    replace hA := hA.bool (f := fun z_ => [(2, i32 0), (3, .bool z_)]) h1
    refine cF hA ?_
    refine wp_skip ?_
    refine then_normal ?_
    refine sC (e' := [(2, i32 0)]) 1 hA [] c0 ?_
    clear hA fr; intro fr hA
    refine wp_ret ?_
    refine cR (cs := [none]) (us := [i32 0]) hA [] trivial ?_
    have hF := hO.only; clear hA hO
    exact ⟨by simp_all [pack], hF⟩

theorem exception_any (n : Int) (w : World) :
    Calls Tryd.prog 35 #[i64 n] w fun e w' => e = .returned (.agg (trapL 2 n 0 0 0 0 0).toArray) ∧ Only none' w w' := by
  refine c_enter (args := [i64 n]) (m := 4) (n := 5) Tryd.func35 rfl (by kernel_rfl) (by kernel_rfl) fun fr hA => ?_
  have hO := Ow.nil Tryd.prog none' w
  refine sR (l := [0]) ?_
  refine wpOps_cons' (mN (l := [i64 0, i64 0, i64 0, i64 0, i64 0, i64 0, i64 0]) (t := 43) (v := pt) (d := 2) hA hO ?_)
  clear hA hO fr; intro fr w1 b1 hA hO
  refine end_ops ?_
  refine then_normal ?_
  refine sR (l := [0, 1, 2]) ?_
  refine ck (l := [0, 1]) (r := [2]) (e' := [(2, pt b1), (4, .agg #[i64 2, i64 n, i64 0, i64 0, i64 0, i64 0, i64 0])]) hA [] c0 ?_
  clear hA fr; intro fr hA
  refine wpOps_cons' (mS (off := 0) (vc := [i64 2, i64 n, i64 0, i64 0, i64 0, i64 0, i64 0]) 0 hA hO ?_)
  clear hO; intro w2 hO
  replace hA := hA.sb (e' := [(2, pt b1)])
  refine end_ops ?_
  refine then_normal ?_
  refine wp_ret ?_
  refine cR (cs := [some (⟨b1, 0, none⟩, 43)]) (us := [.agg #[i64 2, i64 n, i64 0, i64 0, i64 0, i64 0, i64 0]]) hA [.agg #[i64 2, i64 n, i64 0, i64 0, i64 0, i64 0, i64 0]] ⟨(hO.ln 0 0 43 [i64 2, i64 n, i64 0, i64 0, i64 0, i64 0, i64 0]), trivial⟩ ?_
  have hF := hO.only; clear hA hO
  exact ⟨rfl, hF⟩

theorem arithmetic_any (o b c : Int) (w : World) (h0 : o = 7 ∨ o = 8 → c ≠ 0) :
    Calls Tryd.prog 37 #[i64 o, i32 b, i32 c] w fun e w' => e = .returned (.int .i32 (arithS o b c)) ∧ Only none' w w' := by
  refine c_enter (args := [i64 o, i32 b, i32 c]) (m := 55) (n := 58) Tryd.func37 rfl (by kernel_rfl) (by kernel_rfl) fun fr hA => ?_
  have hO := Ow.nil Tryd.prog none' w
  refine sC (e' := [(0, i64 o), (1, i32 b), (2, i32 c), (6, i32 0)]) 1 hA [] c0 ?_
  clear hA fr; intro fr hA
  refine wp_seq ?_
  refine sC (e' := [(1, i32 b), (2, i32 c), (6, i32 0), (7, i64 o)]) 1 hA [] c0 ?_
  clear hA fr; intro fr hA
  refine wp_block ?_
  refine sC (e' := [(1, i32 b), (2, i32 c), (6, i32 0), (7, i64 o), (8, bl (o == 4))]) 2 hA [] c0 ?_
  clear hA fr; intro fr hA
  rcases Bool.eq_false_or_eq_true (o == 4) with h1 | h1
  ·
    replace hA := hA.bool (f := fun z_ => [(1, i32 b), (2, i32 c), (6, i32 0), (7, i64 o), (8, .bool z_)]) h1
    have h1p := eq_of_beq h1
    refine cT hA ?_
    refine sC (e' := [(1, i32 b), (2, i32 c), (6, i32 (IntKind.i32.wrap (b + c)))]) 4 hA [bl false] c0 ?_
    clear hA fr; intro fr hA
    refine wp_ret ?_
    refine inBlock_ret ?_
    refine then_ret ?_
    refine cR (cs := [none]) (us := [i32 (IntKind.i32.wrap (b + c))]) hA [] trivial ?_
    have hF := hO.only; clear hA hO
    exact ⟨by simp_all [pack, arithS], hF⟩
  ·
    replace hA := hA.bool (f := fun z_ => [(1, i32 b), (2, i32 c), (6, i32 0), (7, i64 o), (8, .bool z_)]) h1
    have h1p := ne_of_beq_false h1
    refine cF hA ?_
    refine sC (e' := [(1, i32 b), (2, i32 c), (6, i32 0), (7, i64 o), (13, bl (o == 5))]) 2 hA [] c0 ?_
    clear hA fr; intro fr hA
    rcases Bool.eq_false_or_eq_true (o == 5) with h2 | h2
    ·
      replace hA := hA.bool (f := fun z_ => [(1, i32 b), (2, i32 c), (6, i32 0), (7, i64 o), (13, .bool z_)]) h2
      have h2p := eq_of_beq h2
      refine cT hA ?_
      refine sC (e' := [(1, i32 b), (2, i32 c), (6, i32 (IntKind.i32.wrap (b - c)))]) 4 hA [bl false] c0 ?_
      clear hA fr; intro fr hA
      refine wp_ret ?_
      refine inBlock_ret ?_
      refine then_ret ?_
      refine cR (cs := [none]) (us := [i32 (IntKind.i32.wrap (b - c))]) hA [] trivial ?_
      have hF := hO.only; clear hA hO
      exact ⟨by simp_all [pack, arithS], hF⟩
    ·
      replace hA := hA.bool (f := fun z_ => [(1, i32 b), (2, i32 c), (6, i32 0), (7, i64 o), (13, .bool z_)]) h2
      have h2p := ne_of_beq_false h2
      refine cF hA ?_
      refine sC (e' := [(1, i32 b), (2, i32 c), (6, i32 0), (7, i64 o), (18, bl (o == 6))]) 2 hA [] c0 ?_
      clear hA fr; intro fr hA
      rcases Bool.eq_false_or_eq_true (o == 6) with h3 | h3
      ·
        replace hA := hA.bool (f := fun z_ => [(1, i32 b), (2, i32 c), (6, i32 0), (7, i64 o), (18, .bool z_)]) h3
        have h3p := eq_of_beq h3
        refine cT hA ?_
        refine sC (e' := [(1, i32 b), (2, i32 c), (6, i32 (IntKind.i32.wrap (b * c)))]) 4 hA [bl false] c0 ?_
        clear hA fr; intro fr hA
        refine wp_ret ?_
        refine inBlock_ret ?_
        refine then_ret ?_
        refine cR (cs := [none]) (us := [i32 (IntKind.i32.wrap (b * c))]) hA [] trivial ?_
        have hF := hO.only; clear hA hO
        exact ⟨by simp_all [pack, arithS], hF⟩
      ·
        replace hA := hA.bool (f := fun z_ => [(1, i32 b), (2, i32 c), (6, i32 0), (7, i64 o), (18, .bool z_)]) h3
        have h3p := ne_of_beq_false h3
        refine cF hA ?_
        refine sC (e' := [(1, i32 b), (2, i32 c), (6, i32 0), (7, i64 o), (23, bl (o == 7))]) 2 hA [] c0 ?_
        clear hA fr; intro fr hA
        rcases Bool.eq_false_or_eq_true (o == 7) with h4 | h4
        ·
          replace hA := hA.bool (f := fun z_ => [(1, i32 b), (2, i32 c), (6, i32 0), (7, i64 o), (23, .bool z_)]) h4
          have h4p := eq_of_beq h4
          refine cT hA ?_
          refine sC (e' := [(1, i32 b), (2, i32 c), (6, i32 (IntKind.i32.wrap (b.tdiv c)))]) 4 hA [bl false] (cc (by omega : c ≠ (0 : Int)) c0) ?_
          clear hA fr; intro fr hA
          refine wp_ret ?_
          refine inBlock_ret ?_
          refine then_ret ?_
          refine cR (cs := [none]) (us := [i32 (IntKind.i32.wrap (b.tdiv c))]) hA [] trivial ?_
          have hF := hO.only; clear hA hO
          exact ⟨by simp_all [pack, arithS], hF⟩
        ·
          replace hA := hA.bool (f := fun z_ => [(1, i32 b), (2, i32 c), (6, i32 0), (7, i64 o), (23, .bool z_)]) h4
          have h4p := ne_of_beq_false h4
          refine cF hA ?_
          refine sC (e' := [(1, i32 b), (2, i32 c), (6, i32 0), (7, i64 o), (28, bl (o == 8))]) 2 hA [] c0 ?_
          clear hA fr; intro fr hA
          rcases Bool.eq_false_or_eq_true (o == 8) with h5 | h5
          ·
            replace hA := hA.bool (f := fun z_ => [(1, i32 b), (2, i32 c), (6, i32 0), (7, i64 o), (28, .bool z_)]) h5
            have h5p := eq_of_beq h5
            refine cT hA ?_
            refine sC (e' := [(1, i32 b), (2, i32 c), (6, i32 (b.tmod c))]) 4 hA [bl false] (cc (by omega : c ≠ (0 : Int)) c0) ?_
            clear hA fr; intro fr hA
            refine wp_ret ?_
            refine inBlock_ret ?_
            refine then_ret ?_
            refine cR (cs := [none]) (us := [i32 (b.tmod c)]) hA [] trivial ?_
            have hF := hO.only; clear hA hO
            exact ⟨by simp_all [pack, arithS], hF⟩
          ·
            replace hA := hA.bool (f := fun z_ => [(1, i32 b), (2, i32 c), (6, i32 0), (7, i64 o), (28, .bool z_)]) h5
            have h5p := ne_of_beq_false h5
            refine cF hA ?_
            refine sC (e' := [(1, i32 b), (2, i32 c), (6, i32 0), (7, i64 o), (33, bl (o == 9))]) 2 hA [] c0 ?_
            clear hA fr; intro fr hA
            rcases Bool.eq_false_or_eq_true (o == 9) with h6 | h6
            ·
              replace hA := hA.bool (f := fun z_ => [(1, i32 b), (2, i32 c), (6, i32 0), (7, i64 o), (33, .bool z_)]) h6
              have h6p := eq_of_beq h6
              refine cT hA ?_
              refine sC (e' := [(1, i32 b), (2, i32 c), (6, i32 (bits .and .i32 b c))]) 4 hA [] c0 ?_
              clear hA fr; intro fr hA
              refine wp_ret ?_
              refine inBlock_ret ?_
              refine then_ret ?_
              refine cR (cs := [none]) (us := [i32 (bits .and .i32 b c)]) hA [] trivial ?_
              have hF := hO.only; clear hA hO
              exact ⟨by simp_all [pack, arithS], hF⟩
            ·
              replace hA := hA.bool (f := fun z_ => [(1, i32 b), (2, i32 c), (6, i32 0), (7, i64 o), (33, .bool z_)]) h6
              have h6p := ne_of_beq_false h6
              refine cF hA ?_
              refine sC (e' := [(1, i32 b), (2, i32 c), (6, i32 0), (7, i64 o), (38, bl (o == 10))]) 2 hA [] c0 ?_
              clear hA fr; intro fr hA
              rcases Bool.eq_false_or_eq_true (o == 10) with h7 | h7
              ·
                replace hA := hA.bool (f := fun z_ => [(1, i32 b), (2, i32 c), (6, i32 0), (7, i64 o), (38, .bool z_)]) h7
                have h7p := eq_of_beq h7
                refine cT hA ?_
                refine sC (e' := [(1, i32 b), (2, i32 c), (6, i32 (bits .or .i32 b c))]) 4 hA [] c0 ?_
                clear hA fr; intro fr hA
                refine wp_ret ?_
                refine inBlock_ret ?_
                refine then_ret ?_
                refine cR (cs := [none]) (us := [i32 (bits .or .i32 b c)]) hA [] trivial ?_
                have hF := hO.only; clear hA hO
                exact ⟨by simp_all [pack, arithS], hF⟩
              ·
                replace hA := hA.bool (f := fun z_ => [(1, i32 b), (2, i32 c), (6, i32 0), (7, i64 o), (38, .bool z_)]) h7
                have h7p := ne_of_beq_false h7
                refine cF hA ?_
                refine sC (e' := [(1, i32 b), (2, i32 c), (6, i32 0), (7, i64 o), (43, bl (o == 11))]) 2 hA [] c0 ?_
                clear hA fr; intro fr hA
                rcases Bool.eq_false_or_eq_true (o == 11) with h8 | h8
                ·
                  replace hA := hA.bool (f := fun z_ => [(1, i32 b), (2, i32 c), (6, i32 0), (7, i64 o), (43, .bool z_)]) h8
                  have h8p := eq_of_beq h8
                  refine cT hA ?_
                  refine sC (e' := [(1, i32 b), (2, i32 c), (6, i32 (bits .xor .i32 b c))]) 4 hA [] c0 ?_
                  clear hA fr; intro fr hA
                  refine wp_ret ?_
                  refine inBlock_ret ?_
                  refine then_ret ?_
                  refine cR (cs := [none]) (us := [i32 (bits .xor .i32 b c)]) hA [] trivial ?_
                  have hF := hO.only; clear hA hO
                  exact ⟨by simp_all [pack, arithS], hF⟩
                ·
                  replace hA := hA.bool (f := fun z_ => [(1, i32 b), (2, i32 c), (6, i32 0), (7, i64 o), (43, .bool z_)]) h8
                  have h8p := ne_of_beq_false h8
                  refine cF hA ?_
                  refine sC (e' := [(1, i32 b), (2, i32 c), (6, i32 0), (48, bl (o == 12))]) 2 hA [] c0 ?_
                  clear hA fr; intro fr hA
                  rcases Bool.eq_false_or_eq_true (o == 12) with h9 | h9
                  ·
                    replace hA := hA.bool (f := fun z_ => [(1, i32 b), (2, i32 c), (6, i32 0), (48, .bool z_)]) h9
                    have h9p := eq_of_beq h9
                    refine cT hA ?_
                    refine sR (l := (rg 0 5)) ?_
                    refine ck (l := [0, 1, 2]) (r := [3, 4]) (e' := [(1, i32 b), (2, i32 c), (6, i32 0), (52, bl (decide (b < c)))]) hA [] c0 ?_
                    clear hA fr; intro fr hA
                    refine wpOps_cons' (mK (f := 46) (args := [bl (decide (b < c))]) (d := (some 53)) (v := i32 (cond (decide (b < c)) 1 0)) hA hO Tryd.func46 (bit_any (decide (b < c)) _) ?_)
                    clear hA hO fr; intro fr w1 hA hO
                    replace hA := hA.sb (e' := [(1, i32 b), (2, i32 c), (6, i32 0), (53, i32 (cond (decide (b < c)) 1 0))])
                    refine ck (l := [4]) (r := []) (e' := [(1, i32 b), (2, i32 c), (6, i32 (cond (decide (b < c)) 1 0))]) hA [] c0 ?_
                    clear hA fr; intro fr hA
                    refine end_ops ?_
                    refine then_normal ?_
                    refine wp_ret ?_
                    refine inBlock_ret ?_
                    refine then_ret ?_
                    refine cR (cs := [none]) (us := [i32 (cond (decide (b < c)) 1 0)]) hA [] trivial ?_
                    have hF := hO.only; clear hA hO
                    exact ⟨by simp_all [pack, arithS], hF⟩
                  ·
                    replace hA := hA.bool (f := fun z_ => [(1, i32 b), (2, i32 c), (6, i32 0), (48, .bool z_)]) h9
                    have h9p := ne_of_beq_false h9
                    refine cF hA ?_
                    refine wp_skip ?_
                    refine inBlock_normal ?_
                    refine then_normal ?_
                    refine sR (l := (rg 0 5)) ?_
                    refine ck (l := [0, 1, 2]) (r := [3, 4]) (e' := [(6, i32 0), (56, bl (b == c))]) hA [] c0 ?_
                    clear hA fr; intro fr hA
                    refine wpOps_cons' (mK (f := 46) (args := [bl (b == c)]) (d := (some 57)) (v := i32 (cond (b == c) 1 0)) hA hO Tryd.func46 (bit_any (b == c) _) ?_)
                    clear hA hO fr; intro fr w2 hA hO
                    replace hA := hA.sb (e' := [(6, i32 0), (57, i32 (cond (b == c) 1 0))])
                    refine ck (l := [4]) (r := []) (e' := [(6, i32 (cond (b == c) 1 0))]) hA [] c0 ?_
                    clear hA fr; intro fr hA
                    refine end_ops ?_
                    refine then_normal ?_
                    refine wp_ret ?_
                    refine cR (cs := [none]) (us := [i32 (cond (b == c) 1 0)]) hA [] trivial ?_
                    have hF := hO.only; clear hA hO
                    exact ⟨by simp_all [pack, arithS], hF⟩

theorem place_any (R : Nat → Int) (pc o a b c v : Int) (w : World) (hR : RegsOk R) (hb : 0 ≤ b) (hb' : b ≤ 15) (hc : -128 ≤ c) (hc' : c ≤ 127) :
    Calls Tryd.prog 36 #[.agg (List.toArray (regsL R pc)), .agg #[i64 o, i64 a, i64 b, i64 c, i64 v]] w fun e w' => e = .returned (.tuple #[.int .i64 (placeA R o b c), .int .i64 (placeN o)]) ∧ Only none' w w' := by
  refine c_enter (args := [.agg (List.toArray (regsL R pc)), .agg #[i64 o, i64 a, i64 b, i64 c, i64 v]]) (m := 23) (n := 25) Tryd.func36 rfl (by kernel_rfl) (by kernel_rfl) fun fr hA => ?_
  have hO := Ow.nil Tryd.prog none' w
  have hRb := hR b.toNat; simp only [inK] at hRb
  refine sR (l := [0, 1, 2, 3]) ?_
  refine wpOps_cons' (mN (l := (regsL R pc)) (t := 40) (v := pt) (d := 2) hA hO ?_)
  clear hA hO fr; intro fr w1 b1 hA hO
  replace hA := hA.sb (e' := [(1, .agg #[i64 o, i64 a, i64 b, i64 c, i64 v]), (2, pt b1)])
  refine wpOps_cons' (mN (l := [i64 o, i64 a, i64 b, i64 c, i64 v]) (t := 25) (v := pt) (d := 3) hA hO ?_)
  clear hA hO fr; intro fr w2 b2 hA hO
  replace hA := hA.sb (e' := [(2, pt b1), (3, pt b2)])
  refine ck (l := [2, 3]) (r := []) (e' := [(2, pt b1), (3, pt b2), (4, i64 0), (5, i64 0)]) hA [] c0 ?_
  clear hA fr; intro fr hA
  refine end_ops ?_
  refine then_normal ?_
  refine wp_seq ?_
  have hS := hO
  refine rP [(0, true), (1, true), (2, true), (3, true), (4, true), (5, true), (6, true), (7, true), (8, true), (9, true)] hS ?_
  intro w3 ho; replace hO := hO.st ho; clear ho
  refine ckS (l := (rg 0 10)) (r := []) (e' := [(3, pt b2), (4, i64 ((R ((b).toNat)) + c)), (5, i64 0)]) hA [i64 b, i32 (R ((b).toNat)), bl true, i64 c, bl true] (cc (hS.s1 0 2 3 (i64 b)) (cc (⟨by omega, by omega⟩ : (0 : Int) ≤ b ∧ b < ((16 : Nat) : Int)) (cc (hS.sx ((⟨b1, 0, none⟩ : Addr).add ((b).toNat)) 21 (i32 (R ((b).toNat))) fun _ hO => (ld_regs (hO.b 1) (by omega) (by kernel_rfl))) (cc ((inK_up (by kernel_rfl) (hR _)) : inK .i64 (R ((b).toNat))) (cc (hS.s1 0 3 3 (i64 c)) (cc ((inK_i64 (by omega) (by omega)) : inK .i64 ((R ((b).toNat)) + c)) c0)))))) ?_
  clear hA fr; intro fr hA
  refine end_plan ?_
  refine then_normal ?_
  refine wp_seq ?_
  refine sC (e' := [(4, i64 ((R ((b).toNat)) + c)), (5, i64 0), (16, i64 o)]) 2 hA [i64 o] (cc (hO.l1 0 0 3 (i64 o)) c0) ?_
  clear hA fr; intro fr hA
  refine wp_block ?_
  refine wp_seq ?_
  refine sC (e' := [(4, i64 ((R ((b).toNat)) + c)), (5, i64 0), (16, i64 o), (17, bl (o == 14))]) 2 hA [] c0 ?_
  clear hA fr; intro fr hA
  rcases Bool.eq_false_or_eq_true (o == 14) with h1 | h1
  ·
    replace hA := hA.bool (f := fun z_ => [(4, i64 ((R ((b).toNat)) + c)), (5, i64 0), (16, i64 o), (17, .bool z_)]) h1
    have h1p := eq_of_beq h1
    refine cT hA ?_
    refine wp_skip ?_
    refine then_normal ?_
    refine cT hA ?_
    refine sC (e' := [(4, i64 ((R ((b).toNat)) + c)), (5, i64 4)]) 3 hA [] c0 ?_
    clear hA fr; intro fr hA
    refine wp_ret ?_
    refine inBlock_ret ?_
    refine then_ret ?_
    refine cR (cs := [none, none]) (us := [i64 ((R ((b).toNat)) + c), i64 4]) hA [] trivial ?_
    have hF := hO.only; clear hA hO
    exact ⟨by simp_all [pack, placeA, placeN], hF⟩
  ·
    replace hA := hA.bool (f := fun z_ => [(4, i64 ((R ((b).toNat)) + c)), (5, i64 0), (16, i64 o), (17, .bool z_)]) h1
    have h1p := ne_of_beq_false h1
    refine cF hA ?_
    refine rC (e' := [(4, i64 ((R ((b).toNat)) + c)), (5, i64 0), (16, i64 o), (17, bl (o == 15))]) 2 hA [] c0 ?_
    clear hA fr; intro fr hA
    refine then_normal ?_
    rcases Bool.eq_false_or_eq_true (o == 15) with h2 | h2
    ·
      replace hA := hA.bool (f := fun z_ => [(4, i64 ((R ((b).toNat)) + c)), (5, i64 0), (16, i64 o), (17, .bool z_)]) h2
      have h2p := eq_of_beq h2
      refine cT hA ?_
      refine sC (e' := [(4, i64 ((R ((b).toNat)) + c)), (5, i64 4)]) 3 hA [] c0 ?_
      clear hA fr; intro fr hA
      refine wp_ret ?_
      refine inBlock_ret ?_
      refine then_ret ?_
      refine cR (cs := [none, none]) (us := [i64 ((R ((b).toNat)) + c), i64 4]) hA [] trivial ?_
      have hF := hO.only; clear hA hO
      exact ⟨by simp_all [pack, placeA, placeN], hF⟩
    ·
      replace hA := hA.bool (f := fun z_ => [(4, i64 ((R ((b).toNat)) + c)), (5, i64 0), (16, i64 o), (17, .bool z_)]) h2
      have h2p := ne_of_beq_false h2
      refine cF hA ?_
      refine wp_seq ?_
      refine sC (e' := [(4, i64 ((R ((b).toNat)) + c)), (5, i64 0), (16, i64 o), (21, bl (o == 16))]) 2 hA [] c0 ?_
      clear hA fr; intro fr hA
      rcases Bool.eq_false_or_eq_true (o == 16) with h3 | h3
      ·
        replace hA := hA.bool (f := fun z_ => [(4, i64 ((R ((b).toNat)) + c)), (5, i64 0), (16, i64 o), (21, .bool z_)]) h3
        have h3p := eq_of_beq h3
        refine cT hA ?_
        refine wp_skip ?_
        refine then_normal ?_
        refine cT hA ?_
        refine sC (e' := [(4, i64 ((R ((b).toNat)) + c)), (5, i64 1)]) 3 hA [] c0 ?_
        clear hA fr; intro fr hA
        refine wp_ret ?_
        refine inBlock_ret ?_
        refine then_ret ?_
        refine cR (cs := [none, none]) (us := [i64 ((R ((b).toNat)) + c), i64 1]) hA [] trivial ?_
        have hF := hO.only; clear hA hO
        exact ⟨by simp_all [pack, placeA, placeN], hF⟩
      ·
        replace hA := hA.bool (f := fun z_ => [(4, i64 ((R ((b).toNat)) + c)), (5, i64 0), (16, i64 o), (21, .bool z_)]) h3
        have h3p := ne_of_beq_false h3
        refine cF hA ?_
        refine rC (e' := [(4, i64 ((R ((b).toNat)) + c)), (5, i64 0), (21, bl (o == 17))]) 2 hA [] c0 ?_
        clear hA fr; intro fr hA
        refine then_normal ?_
        rcases Bool.eq_false_or_eq_true (o == 17) with h4 | h4
        ·
          replace hA := hA.bool (f := fun z_ => [(4, i64 ((R ((b).toNat)) + c)), (5, i64 0), (21, .bool z_)]) h4
          have h4p := eq_of_beq h4
          refine cT hA ?_
          refine sC (e' := [(4, i64 ((R ((b).toNat)) + c)), (5, i64 1)]) 3 hA [] c0 ?_
          clear hA fr; intro fr hA
          refine wp_ret ?_
          refine inBlock_ret ?_
          refine then_ret ?_
          refine cR (cs := [none, none]) (us := [i64 ((R ((b).toNat)) + c), i64 1]) hA [] trivial ?_
          have hF := hO.only; clear hA hO
          exact ⟨by simp_all [pack, placeA, placeN], hF⟩
        ·
          replace hA := hA.bool (f := fun z_ => [(4, i64 ((R ((b).toNat)) + c)), (5, i64 0), (21, .bool z_)]) h4
          have h4p := ne_of_beq_false h4
          refine cF hA ?_
          refine wp_skip ?_
          refine inBlock_normal ?_
          refine then_normal ?_
          refine sC (e' := [(4, i64 0), (5, i64 0)]) 2 hA [] c0 ?_
          clear hA fr; intro fr hA
          refine wp_ret ?_
          refine cR (cs := [none, none]) (us := [i64 0, i64 0]) hA [] trivial ?_
          have hF := hO.only; clear hA hO
          exact ⟨by simp_all [pack, placeA, placeN], hF⟩

end Go.Proofs.YtcaokjdihhbkjaaDoor
