/- The layer cpu: walks of the reference: value, memory. -/
import Derived.Test.YtcaokjdihhbkjaaDoorRbits
set_option linter.unusedVariables false
set_option linter.unusedSimpArgs false
set_option maxRecDepth 10000
namespace Go.Proofs.YtcaokjdihhbkjaaDoor
open Go Go.RowKit Go.Proofs.Sx

theorem value_4 (b c : Int) (w : World) (hb : inK .i32 b) (hc : inK .i32 c) :
    Calls Tryd.prog 39 #[i64 4, i64 b, i64 c] w fun e w' => e = .returned (.int .i64 (b + c)) ∧ Only none' w w' := by
  refine c_enter (args := [i64 4, i64 b, i64 c]) (m := 49) (n := 52) Tryd.func39 rfl (by kernel_rfl) (by kernel_rfl) fun fr hA => ?_
  have hO := Ow.nil Tryd.prog none' w
  have hb1 : -2147483648 ≤ b ∧ b ≤ 2147483647 := hb
  have hc1 : -2147483648 ≤ c ∧ c ≤ 2147483647 := hc
  refine sC (e' := [(0, i64 4), (1, i64 b), (2, i64 c), (6, i64 0)]) 1 hA [] c0 ?_
  clear hA fr; intro fr hA
  refine wp_seq ?_
  refine sC (e' := [(0, i64 4), (1, i64 b), (2, i64 c), (6, i64 0), (7, i64 4)]) 1 hA [] c0 ?_
  clear hA fr; intro fr hA
  refine wp_block ?_
  refine wp_seq ?_
  refine sC (e' := [(0, i64 4), (1, i64 b), (2, i64 c), (6, i64 0), (7, i64 4), (8, bl false)]) 2 hA [] c0 ?_
  clear hA fr; intro fr hA
  refine cF hA ?_
  refine rC (e' := [(0, i64 4), (1, i64 b), (2, i64 c), (6, i64 0), (7, i64 4), (8, bl true)]) 2 hA [] c0 ?_
  clear hA fr; intro fr hA
  refine then_normal ?_
  refine cT hA ?_
  refine sC (e' := [(1, i64 b), (2, i64 c), (6, i64 (b + c))]) 4 hA [bl true] (cc ((inK_i64 (by omega) (by omega)) : inK .i64 (b + c)) c0) ?_
  clear hA fr; intro fr hA
  refine wp_ret ?_
  refine inBlock_ret ?_
  refine then_ret ?_
  refine cR (cs := [none]) (us := [i64 (b + c)]) hA [] trivial ?_
  have hF := hO.only; clear hA hO
  exact ⟨rfl, hF⟩

theorem value_5 (b c : Int) (w : World) (hb : inK .i32 b) (hc : inK .i32 c) :
    Calls Tryd.prog 39 #[i64 5, i64 b, i64 c] w fun e w' => e = .returned (.int .i64 (b - c)) ∧ Only none' w w' := by
  refine c_enter (args := [i64 5, i64 b, i64 c]) (m := 49) (n := 52) Tryd.func39 rfl (by kernel_rfl) (by kernel_rfl) fun fr hA => ?_
  have hO := Ow.nil Tryd.prog none' w
  have hb1 : -2147483648 ≤ b ∧ b ≤ 2147483647 := hb
  have hc1 : -2147483648 ≤ c ∧ c ≤ 2147483647 := hc
  refine sC (e' := [(0, i64 5), (1, i64 b), (2, i64 c), (6, i64 0)]) 1 hA [] c0 ?_
  clear hA fr; intro fr hA
  refine wp_seq ?_
  refine sC (e' := [(0, i64 5), (1, i64 b), (2, i64 c), (6, i64 0), (7, i64 5)]) 1 hA [] c0 ?_
  clear hA fr; intro fr hA
  refine wp_block ?_
  refine wp_seq ?_
  refine sC (e' := [(0, i64 5), (1, i64 b), (2, i64 c), (6, i64 0), (7, i64 5), (8, bl false)]) 2 hA [] c0 ?_
  clear hA fr; intro fr hA
  refine cF hA ?_
  refine rC (e' := [(0, i64 5), (1, i64 b), (2, i64 c), (6, i64 0), (7, i64 5), (8, bl false)]) 2 hA [] c0 ?_
  clear hA fr; intro fr hA
  refine then_normal ?_
  refine cF hA ?_
  refine sC (e' := [(0, i64 5), (1, i64 b), (2, i64 c), (6, i64 0), (7, i64 5), (14, bl true)]) 2 hA [] c0 ?_
  clear hA fr; intro fr hA
  refine cT hA ?_
  refine sC (e' := [(1, i64 b), (2, i64 c), (6, i64 (b - c))]) 4 hA [bl true] (cc ((inK_i64 (by omega) (by omega)) : inK .i64 (b - c)) c0) ?_
  clear hA fr; intro fr hA
  refine wp_ret ?_
  refine inBlock_ret ?_
  refine then_ret ?_
  refine cR (cs := [none]) (us := [i64 (b - c)]) hA [] trivial ?_
  have hF := hO.only; clear hA hO
  exact ⟨rfl, hF⟩

theorem value_6 (b c : Int) (w : World) (hb : inK .i32 b) (hc : inK .i32 c) :
    Calls Tryd.prog 39 #[i64 6, i64 b, i64 c] w fun e w' => e = .returned (.int .i64 (b * c)) ∧ Only none' w w' := by
  refine c_enter (args := [i64 6, i64 b, i64 c]) (m := 49) (n := 52) Tryd.func39 rfl (by kernel_rfl) (by kernel_rfl) fun fr hA => ?_
  have hO := Ow.nil Tryd.prog none' w
  have hb1 : -2147483648 ≤ b ∧ b ≤ 2147483647 := hb
  have hc1 : -2147483648 ≤ c ∧ c ≤ 2147483647 := hc
  refine sC (e' := [(0, i64 6), (1, i64 b), (2, i64 c), (6, i64 0)]) 1 hA [] c0 ?_
  clear hA fr; intro fr hA
  refine wp_seq ?_
  refine sC (e' := [(0, i64 6), (1, i64 b), (2, i64 c), (6, i64 0), (7, i64 6)]) 1 hA [] c0 ?_
  clear hA fr; intro fr hA
  refine wp_block ?_
  refine wp_seq ?_
  refine sC (e' := [(0, i64 6), (1, i64 b), (2, i64 c), (6, i64 0), (7, i64 6), (8, bl false)]) 2 hA [] c0 ?_
  clear hA fr; intro fr hA
  refine cF hA ?_
  refine rC (e' := [(0, i64 6), (1, i64 b), (2, i64 c), (6, i64 0), (7, i64 6), (8, bl false)]) 2 hA [] c0 ?_
  clear hA fr; intro fr hA
  refine then_normal ?_
  refine cF hA ?_
  refine sC (e' := [(0, i64 6), (1, i64 b), (2, i64 c), (6, i64 0), (7, i64 6), (14, bl false)]) 2 hA [] c0 ?_
  clear hA fr; intro fr hA
  refine cF hA ?_
  refine sC (e' := [(0, i64 6), (1, i64 b), (2, i64 c), (6, i64 0), (7, i64 6), (19, bl true)]) 2 hA [] c0 ?_
  clear hA fr; intro fr hA
  refine cT hA ?_
  refine sC (e' := [(1, i64 b), (2, i64 c), (6, i64 (b * c))]) 4 hA [bl true] (cc ((mul_i32 hb hc) : inK .i64 (b * c)) c0) ?_
  clear hA fr; intro fr hA
  refine wp_ret ?_
  refine inBlock_ret ?_
  refine then_ret ?_
  refine cR (cs := [none]) (us := [i64 (b * c)]) hA [] trivial ?_
  have hF := hO.only; clear hA hO
  exact ⟨rfl, hF⟩

theorem value_7 (b c : Int) (w : World) (hb : inK .i32 b) (hc : inK .i32 c) (h0 : c ≠ 0) :
    Calls Tryd.prog 39 #[i64 7, i64 b, i64 c] w fun e w' => e = .returned (.int .i64 (IntKind.i64.wrap (b.tdiv c))) ∧ Only none' w w' := by
  refine c_enter (args := [i64 7, i64 b, i64 c]) (m := 49) (n := 52) Tryd.func39 rfl (by kernel_rfl) (by kernel_rfl) fun fr hA => ?_
  have hO := Ow.nil Tryd.prog none' w
  have hb1 : -2147483648 ≤ b ∧ b ≤ 2147483647 := hb
  have hc1 : -2147483648 ≤ c ∧ c ≤ 2147483647 := hc
  refine sC (e' := [(0, i64 7), (1, i64 b), (2, i64 c), (6, i64 0)]) 1 hA [] c0 ?_
  clear hA fr; intro fr hA
  refine wp_seq ?_
  refine sC (e' := [(0, i64 7), (1, i64 b), (2, i64 c), (6, i64 0), (7, i64 7)]) 1 hA [] c0 ?_
  clear hA fr; intro fr hA
  refine wp_block ?_
  refine wp_seq ?_
  refine sC (e' := [(0, i64 7), (1, i64 b), (2, i64 c), (6, i64 0), (7, i64 7), (8, bl false)]) 2 hA [] c0 ?_
  clear hA fr; intro fr hA
  refine cF hA ?_
  refine rC (e' := [(0, i64 7), (1, i64 b), (2, i64 c), (6, i64 0), (7, i64 7), (8, bl false)]) 2 hA [] c0 ?_
  clear hA fr; intro fr hA
  refine then_normal ?_
  refine cF hA ?_
  refine sC (e' := [(0, i64 7), (1, i64 b), (2, i64 c), (6, i64 0), (7, i64 7), (14, bl false)]) 2 hA [] c0 ?_
  clear hA fr; intro fr hA
  refine cF hA ?_
  refine sC (e' := [(0, i64 7), (1, i64 b), (2, i64 c), (6, i64 0), (7, i64 7), (19, bl false)]) 2 hA [] c0 ?_
  clear hA fr; intro fr hA
  refine cF hA ?_
  refine sC (e' := [(0, i64 7), (1, i64 b), (2, i64 c), (6, i64 0), (7, i64 7), (24, bl true)]) 2 hA [] c0 ?_
  clear hA fr; intro fr hA
  refine cT hA ?_
  refine sC (e' := [(1, i64 b), (2, i64 c), (6, i64 (IntKind.i64.wrap (b.tdiv c)))]) 4 hA [bl false] (cc (by omega : c ≠ (0 : Int)) c0) ?_
  clear hA fr; intro fr hA
  refine wp_ret ?_
  refine inBlock_ret ?_
  refine then_ret ?_
  refine cR (cs := [none]) (us := [i64 (IntKind.i64.wrap (b.tdiv c))]) hA [] trivial ?_
  have hF := hO.only; clear hA hO
  exact ⟨rfl, hF⟩

theorem value_8 (b c : Int) (w : World) (hb : inK .i32 b) (hc : inK .i32 c) (h0 : c ≠ 0) :
    Calls Tryd.prog 39 #[i64 8, i64 b, i64 c] w fun e w' => e = .returned (.int .i64 (b.tmod c)) ∧ Only none' w w' := by
  refine c_enter (args := [i64 8, i64 b, i64 c]) (m := 49) (n := 52) Tryd.func39 rfl (by kernel_rfl) (by kernel_rfl) fun fr hA => ?_
  have hO := Ow.nil Tryd.prog none' w
  have hb1 : -2147483648 ≤ b ∧ b ≤ 2147483647 := hb
  have hc1 : -2147483648 ≤ c ∧ c ≤ 2147483647 := hc
  refine sC (e' := [(0, i64 8), (1, i64 b), (2, i64 c), (6, i64 0)]) 1 hA [] c0 ?_
  clear hA fr; intro fr hA
  refine wp_seq ?_
  refine sC (e' := [(0, i64 8), (1, i64 b), (2, i64 c), (6, i64 0), (7, i64 8)]) 1 hA [] c0 ?_
  clear hA fr; intro fr hA
  refine wp_block ?_
  refine wp_seq ?_
  refine sC (e' := [(0, i64 8), (1, i64 b), (2, i64 c), (6, i64 0), (7, i64 8), (8, bl false)]) 2 hA [] c0 ?_
  clear hA fr; intro fr hA
  refine cF hA ?_
  refine rC (e' := [(0, i64 8), (1, i64 b), (2, i64 c), (6, i64 0), (7, i64 8), (8, bl false)]) 2 hA [] c0 ?_
  clear hA fr; intro fr hA
  refine then_normal ?_
  refine cF hA ?_
  refine sC (e' := [(0, i64 8), (1, i64 b), (2, i64 c), (6, i64 0), (7, i64 8), (14, bl false)]) 2 hA [] c0 ?_
  clear hA fr; intro fr hA
  refine cF hA ?_
  refine sC (e' := [(0, i64 8), (1, i64 b), (2, i64 c), (6, i64 0), (7, i64 8), (19, bl false)]) 2 hA [] c0 ?_
  clear hA fr; intro fr hA
  refine cF hA ?_
  refine sC (e' := [(0, i64 8), (1, i64 b), (2, i64 c), (6, i64 0), (7, i64 8), (24, bl false)]) 2 hA [] c0 ?_
  clear hA fr; intro fr hA
  refine cF hA ?_
  refine sC (e' := [(0, i64 8), (1, i64 b), (2, i64 c), (6, i64 0), (7, i64 8), (29, bl true)]) 2 hA [] c0 ?_
  clear hA fr; intro fr hA
  refine cT hA ?_
  refine sC (e' := [(1, i64 b), (2, i64 c), (6, i64 (b.tmod c))]) 4 hA [bl false] (cc (by omega : c ≠ (0 : Int)) c0) ?_
  clear hA fr; intro fr hA
  refine wp_ret ?_
  refine inBlock_ret ?_
  refine then_ret ?_
  refine cR (cs := [none]) (us := [i64 (b.tmod c)]) hA [] trivial ?_
  have hF := hO.only; clear hA hO
  exact ⟨rfl, hF⟩

theorem value_9 (b c : Int) (w : World) (hb : inK .i32 b) (hc : inK .i32 c) :
    Calls Tryd.prog 39 #[i64 9, i64 b, i64 c] w fun e w' => e = .returned (.int .i64 (bsum fAnd b c 32)) ∧ Only none' w w' := by
  refine c_enter (args := [i64 9, i64 b, i64 c]) (m := 49) (n := 52) Tryd.func39 rfl (by kernel_rfl) (by kernel_rfl) fun fr hA => ?_
  have hO := Ow.nil Tryd.prog none' w
  have hb1 : -2147483648 ≤ b ∧ b ≤ 2147483647 := hb
  have hc1 : -2147483648 ≤ c ∧ c ≤ 2147483647 := hc
  refine sC (e' := [(0, i64 9), (1, i64 b), (2, i64 c), (6, i64 0)]) 1 hA [] c0 ?_
  clear hA fr; intro fr hA
  refine wp_seq ?_
  refine sC (e' := [(0, i64 9), (1, i64 b), (2, i64 c), (6, i64 0), (7, i64 9)]) 1 hA [] c0 ?_
  clear hA fr; intro fr hA
  refine wp_block ?_
  refine wp_seq ?_
  refine sC (e' := [(0, i64 9), (1, i64 b), (2, i64 c), (6, i64 0), (7, i64 9), (8, bl false)]) 2 hA [] c0 ?_
  clear hA fr; intro fr hA
  refine cF hA ?_
  refine rC (e' := [(0, i64 9), (1, i64 b), (2, i64 c), (6, i64 0), (7, i64 9), (8, bl false)]) 2 hA [] c0 ?_
  clear hA fr; intro fr hA
  refine then_normal ?_
  refine cF hA ?_
  refine sC (e' := [(0, i64 9), (1, i64 b), (2, i64 c), (6, i64 0), (7, i64 9), (14, bl false)]) 2 hA [] c0 ?_
  clear hA fr; intro fr hA
  refine cF hA ?_
  refine sC (e' := [(0, i64 9), (1, i64 b), (2, i64 c), (6, i64 0), (7, i64 9), (19, bl false)]) 2 hA [] c0 ?_
  clear hA fr; intro fr hA
  refine cF hA ?_
  refine sC (e' := [(0, i64 9), (1, i64 b), (2, i64 c), (6, i64 0), (7, i64 9), (24, bl false)]) 2 hA [] c0 ?_
  clear hA fr; intro fr hA
  refine cF hA ?_
  refine sC (e' := [(0, i64 9), (1, i64 b), (2, i64 c), (6, i64 0), (7, i64 9), (29, bl false)]) 2 hA [] c0 ?_
  clear hA fr; intro fr hA
  refine cF hA ?_
  refine wp_seq ?_
  refine sC (e' := [(0, i64 9), (1, i64 b), (2, i64 c), (6, i64 0), (7, i64 9), (34, bl true)]) 2 hA [] c0 ?_
  clear hA fr; intro fr hA
  refine cT hA ?_
  refine wp_skip ?_
  refine then_normal ?_
  refine cT hA ?_
  refine sR (l := (rg 0 5)) ?_
  refine ck (l := [0, 1, 2]) (r := [3, 4]) (e' := [(1, i64 b), (2, i64 c), (6, i64 0), (38, i64 b), (39, i64 c), (40, i64 9)]) hA [] c0 ?_
  clear hA fr; intro fr hA
  refine wpOps_cons' (mK (f := 47) (args := [i64 b, i64 c, i64 9]) (d := (some 41)) (v := i64 (bsum fAnd b c 32)) hA hO Tryd.func47 (rbits_9 b c _) ?_)
  clear hA hO fr; intro fr w1 hA hO
  replace hA := hA.sb (e' := [(1, i64 b), (2, i64 c), (6, i64 0), (41, i64 (bsum fAnd b c 32))])
  refine ck (l := [4]) (r := []) (e' := [(1, i64 b), (2, i64 c), (6, i64 (bsum fAnd b c 32))]) hA [] c0 ?_
  clear hA fr; intro fr hA
  refine end_ops ?_
  refine then_normal ?_
  refine wp_ret ?_
  refine inBlock_ret ?_
  refine then_ret ?_
  refine cR (cs := [none]) (us := [i64 (bsum fAnd b c 32)]) hA [] trivial ?_
  have hF := hO.only; clear hA hO
  exact ⟨rfl, hF⟩

theorem value_10 (b c : Int) (w : World) (hb : inK .i32 b) (hc : inK .i32 c) :
    Calls Tryd.prog 39 #[i64 10, i64 b, i64 c] w fun e w' => e = .returned (.int .i64 (bsum fOr b c 32)) ∧ Only none' w w' := by
  refine c_enter (args := [i64 10, i64 b, i64 c]) (m := 49) (n := 52) Tryd.func39 rfl (by kernel_rfl) (by kernel_rfl) fun fr hA => ?_
  have hO := Ow.nil Tryd.prog none' w
  have hb1 : -2147483648 ≤ b ∧ b ≤ 2147483647 := hb
  have hc1 : -2147483648 ≤ c ∧ c ≤ 2147483647 := hc
  refine sC (e' := [(0, i64 10), (1, i64 b), (2, i64 c), (6, i64 0)]) 1 hA [] c0 ?_
  clear hA fr; intro fr hA
  refine wp_seq ?_
  refine sC (e' := [(0, i64 10), (1, i64 b), (2, i64 c), (6, i64 0), (7, i64 10)]) 1 hA [] c0 ?_
  clear hA fr; intro fr hA
  refine wp_block ?_
  refine wp_seq ?_
  refine sC (e' := [(0, i64 10), (1, i64 b), (2, i64 c), (6, i64 0), (7, i64 10), (8, bl false)]) 2 hA [] c0 ?_
  clear hA fr; intro fr hA
  refine cF hA ?_
  refine rC (e' := [(0, i64 10), (1, i64 b), (2, i64 c), (6, i64 0), (7, i64 10), (8, bl false)]) 2 hA [] c0 ?_
  clear hA fr; intro fr hA
  refine then_normal ?_
  refine cF hA ?_
  refine sC (e' := [(0, i64 10), (1, i64 b), (2, i64 c), (6, i64 0), (7, i64 10), (14, bl false)]) 2 hA [] c0 ?_
  clear hA fr; intro fr hA
  refine cF hA ?_
  refine sC (e' := [(0, i64 10), (1, i64 b), (2, i64 c), (6, i64 0), (7, i64 10), (19, bl false)]) 2 hA [] c0 ?_
  clear hA fr; intro fr hA
  refine cF hA ?_
  refine sC (e' := [(0, i64 10), (1, i64 b), (2, i64 c), (6, i64 0), (7, i64 10), (24, bl false)]) 2 hA [] c0 ?_
  clear hA fr; intro fr hA
  refine cF hA ?_
  refine sC (e' := [(0, i64 10), (1, i64 b), (2, i64 c), (6, i64 0), (7, i64 10), (29, bl false)]) 2 hA [] c0 ?_
  clear hA fr; intro fr hA
  refine cF hA ?_
  refine wp_seq ?_
  refine sC (e' := [(0, i64 10), (1, i64 b), (2, i64 c), (6, i64 0), (7, i64 10), (34, bl false)]) 2 hA [] c0 ?_
  clear hA fr; intro fr hA
  refine cF hA ?_
  refine sC (e' := [(0, i64 10), (1, i64 b), (2, i64 c), (6, i64 0), (7, i64 10), (34, bl true)]) 2 hA [] c0 ?_
  clear hA fr; intro fr hA
  refine cT hA ?_
  refine wp_skip ?_
  refine then_normal ?_
  refine cT hA ?_
  refine sR (l := (rg 0 5)) ?_
  refine ck (l := [0, 1, 2]) (r := [3, 4]) (e' := [(1, i64 b), (2, i64 c), (6, i64 0), (38, i64 b), (39, i64 c), (40, i64 10)]) hA [] c0 ?_
  clear hA fr; intro fr hA
  refine wpOps_cons' (mK (f := 47) (args := [i64 b, i64 c, i64 10]) (d := (some 41)) (v := i64 (bsum fOr b c 32)) hA hO Tryd.func47 (rbits_10 b c _) ?_)
  clear hA hO fr; intro fr w1 hA hO
  replace hA := hA.sb (e' := [(1, i64 b), (2, i64 c), (6, i64 0), (41, i64 (bsum fOr b c 32))])
  refine ck (l := [4]) (r := []) (e' := [(1, i64 b), (2, i64 c), (6, i64 (bsum fOr b c 32))]) hA [] c0 ?_
  clear hA fr; intro fr hA
  refine end_ops ?_
  refine then_normal ?_
  refine wp_ret ?_
  refine inBlock_ret ?_
  refine then_ret ?_
  refine cR (cs := [none]) (us := [i64 (bsum fOr b c 32)]) hA [] trivial ?_
  have hF := hO.only; clear hA hO
  exact ⟨rfl, hF⟩

theorem value_11 (b c : Int) (w : World) (hb : inK .i32 b) (hc : inK .i32 c) :
    Calls Tryd.prog 39 #[i64 11, i64 b, i64 c] w fun e w' => e = .returned (.int .i64 (bsum fXor b c 32)) ∧ Only none' w w' := by
  refine c_enter (args := [i64 11, i64 b, i64 c]) (m := 49) (n := 52) Tryd.func39 rfl (by kernel_rfl) (by kernel_rfl) fun fr hA => ?_
  have hO := Ow.nil Tryd.prog none' w
  have hb1 : -2147483648 ≤ b ∧ b ≤ 2147483647 := hb
  have hc1 : -2147483648 ≤ c ∧ c ≤ 2147483647 := hc
  refine sC (e' := [(0, i64 11), (1, i64 b), (2, i64 c), (6, i64 0)]) 1 hA [] c0 ?_
  clear hA fr; intro fr hA
  refine wp_seq ?_
  refine sC (e' := [(0, i64 11), (1, i64 b), (2, i64 c), (6, i64 0), (7, i64 11)]) 1 hA [] c0 ?_
  clear hA fr; intro fr hA
  refine wp_block ?_
  refine wp_seq ?_
  refine sC (e' := [(0, i64 11), (1, i64 b), (2, i64 c), (6, i64 0), (7, i64 11), (8, bl false)]) 2 hA [] c0 ?_
  clear hA fr; intro fr hA
  refine cF hA ?_
  refine rC (e' := [(0, i64 11), (1, i64 b), (2, i64 c), (6, i64 0), (7, i64 11), (8, bl false)]) 2 hA [] c0 ?_
  clear hA fr; intro fr hA
  refine then_normal ?_
  refine cF hA ?_
  refine sC (e' := [(0, i64 11), (1, i64 b), (2, i64 c), (6, i64 0), (7, i64 11), (14, bl false)]) 2 hA [] c0 ?_
  clear hA fr; intro fr hA
  refine cF hA ?_
  refine sC (e' := [(0, i64 11), (1, i64 b), (2, i64 c), (6, i64 0), (7, i64 11), (19, bl false)]) 2 hA [] c0 ?_
  clear hA fr; intro fr hA
  refine cF hA ?_
  refine sC (e' := [(0, i64 11), (1, i64 b), (2, i64 c), (6, i64 0), (7, i64 11), (24, bl false)]) 2 hA [] c0 ?_
  clear hA fr; intro fr hA
  refine cF hA ?_
  refine sC (e' := [(0, i64 11), (1, i64 b), (2, i64 c), (6, i64 0), (7, i64 11), (29, bl false)]) 2 hA [] c0 ?_
  clear hA fr; intro fr hA
  refine cF hA ?_
  refine wp_seq ?_
  refine sC (e' := [(0, i64 11), (1, i64 b), (2, i64 c), (6, i64 0), (7, i64 11), (34, bl false)]) 2 hA [] c0 ?_
  clear hA fr; intro fr hA
  refine cF hA ?_
  refine sC (e' := [(0, i64 11), (1, i64 b), (2, i64 c), (6, i64 0), (7, i64 11), (34, bl false)]) 2 hA [] c0 ?_
  clear hA fr; intro fr hA
  refine cF hA ?_
  refine rC (e' := [(0, i64 11), (1, i64 b), (2, i64 c), (6, i64 0), (7, i64 11), (34, bl true)]) 2 hA [] c0 ?_
  clear hA fr; intro fr hA
  refine then_normal ?_
  refine cT hA ?_
  refine sR (l := (rg 0 5)) ?_
  refine ck (l := [0, 1, 2]) (r := [3, 4]) (e' := [(1, i64 b), (2, i64 c), (6, i64 0), (38, i64 b), (39, i64 c), (40, i64 11)]) hA [] c0 ?_
  clear hA fr; intro fr hA
  refine wpOps_cons' (mK (f := 47) (args := [i64 b, i64 c, i64 11]) (d := (some 41)) (v := i64 (bsum fXor b c 32)) hA hO Tryd.func47 (rbits_11 b c _) ?_)
  clear hA hO fr; intro fr w1 hA hO
  replace hA := hA.sb (e' := [(1, i64 b), (2, i64 c), (6, i64 0), (41, i64 (bsum fXor b c 32))])
  refine ck (l := [4]) (r := []) (e' := [(1, i64 b), (2, i64 c), (6, i64 (bsum fXor b c 32))]) hA [] c0 ?_
  clear hA fr; intro fr hA
  refine end_ops ?_
  refine then_normal ?_
  refine wp_ret ?_
  refine inBlock_ret ?_
  refine then_ret ?_
  refine cR (cs := [none]) (us := [i64 (bsum fXor b c 32)]) hA [] trivial ?_
  have hF := hO.only; clear hA hO
  exact ⟨rfl, hF⟩

theorem value_12 (b c : Int) (w : World) (hb : inK .i32 b) (hc : inK .i32 c) :
    Calls Tryd.prog 39 #[i64 12, i64 b, i64 c] w fun e w' => e = .returned (.int .i64 (cond (decide (b < c)) 1 0)) ∧ Only none' w w' := by
  refine c_enter (args := [i64 12, i64 b, i64 c]) (m := 49) (n := 52) Tryd.func39 rfl (by kernel_rfl) (by kernel_rfl) fun fr hA => ?_
  have hO := Ow.nil Tryd.prog none' w
  have hb1 : -2147483648 ≤ b ∧ b ≤ 2147483647 := hb
  have hc1 : -2147483648 ≤ c ∧ c ≤ 2147483647 := hc
  refine sC (e' := [(0, i64 12), (1, i64 b), (2, i64 c), (6, i64 0)]) 1 hA [] c0 ?_
  clear hA fr; intro fr hA
  refine wp_seq ?_
  refine sC (e' := [(0, i64 12), (1, i64 b), (2, i64 c), (6, i64 0), (7, i64 12)]) 1 hA [] c0 ?_
  clear hA fr; intro fr hA
  refine wp_block ?_
  refine wp_seq ?_
  refine sC (e' := [(0, i64 12), (1, i64 b), (2, i64 c), (6, i64 0), (7, i64 12), (8, bl false)]) 2 hA [] c0 ?_
  clear hA fr; intro fr hA
  refine cF hA ?_
  refine rC (e' := [(0, i64 12), (1, i64 b), (2, i64 c), (6, i64 0), (7, i64 12), (8, bl false)]) 2 hA [] c0 ?_
  clear hA fr; intro fr hA
  refine then_normal ?_
  refine cF hA ?_
  refine sC (e' := [(0, i64 12), (1, i64 b), (2, i64 c), (6, i64 0), (7, i64 12), (14, bl false)]) 2 hA [] c0 ?_
  clear hA fr; intro fr hA
  refine cF hA ?_
  refine sC (e' := [(0, i64 12), (1, i64 b), (2, i64 c), (6, i64 0), (7, i64 12), (19, bl false)]) 2 hA [] c0 ?_
  clear hA fr; intro fr hA
  refine cF hA ?_
  refine sC (e' := [(0, i64 12), (1, i64 b), (2, i64 c), (6, i64 0), (7, i64 12), (24, bl false)]) 2 hA [] c0 ?_
  clear hA fr; intro fr hA
  refine cF hA ?_
  refine sC (e' := [(0, i64 12), (1, i64 b), (2, i64 c), (6, i64 0), (7, i64 12), (29, bl false)]) 2 hA [] c0 ?_
  clear hA fr; intro fr hA
  refine cF hA ?_
  refine wp_seq ?_
  refine sC (e' := [(0, i64 12), (1, i64 b), (2, i64 c), (6, i64 0), (7, i64 12), (34, bl false)]) 2 hA [] c0 ?_
  clear hA fr; intro fr hA
  refine cF hA ?_
  refine sC (e' := [(0, i64 12), (1, i64 b), (2, i64 c), (6, i64 0), (7, i64 12), (34, bl false)]) 2 hA [] c0 ?_
  clear hA fr; intro fr hA
  refine cF hA ?_
  refine rC (e' := [(0, i64 12), (1, i64 b), (2, i64 c), (6, i64 0), (7, i64 12), (34, bl false)]) 2 hA [] c0 ?_
  clear hA fr; intro fr hA
  refine then_normal ?_
  refine cF hA ?_
  refine sC (e' := [(1, i64 b), (2, i64 c), (6, i64 0), (42, bl true)]) 2 hA [] c0 ?_
  clear hA fr; intro fr hA
  refine cT hA ?_
  refine sR (l := (rg 0 5)) ?_
  refine ck (l := [0, 1, 2]) (r := [3, 4]) (e' := [(1, i64 b), (2, i64 c), (6, i64 0), (46, bl (decide (b < c)))]) hA [] c0 ?_
  clear hA fr; intro fr hA
  refine wpOps_cons' (mK (f := 48) (args := [bl (decide (b < c))]) (d := (some 47)) (v := i64 (cond (decide (b < c)) 1 0)) hA hO Tryd.func48 (truth_any (decide (b < c)) _) ?_)
  clear hA hO fr; intro fr w1 hA hO
  replace hA := hA.sb (e' := [(1, i64 b), (2, i64 c), (6, i64 0), (47, i64 (cond (decide (b < c)) 1 0))])
  refine ck (l := [4]) (r := []) (e' := [(1, i64 b), (2, i64 c), (6, i64 (cond (decide (b < c)) 1 0))]) hA [] c0 ?_
  clear hA fr; intro fr hA
  refine end_ops ?_
  refine then_normal ?_
  refine wp_ret ?_
  refine inBlock_ret ?_
  refine then_ret ?_
  refine cR (cs := [none]) (us := [i64 (cond (decide (b < c)) 1 0)]) hA [] trivial ?_
  have hF := hO.only; clear hA hO
  exact ⟨rfl, hF⟩

theorem value_13 (b c : Int) (w : World) (hb : inK .i32 b) (hc : inK .i32 c) :
    Calls Tryd.prog 39 #[i64 13, i64 b, i64 c] w fun e w' => e = .returned (.int .i64 (cond (b == c) 1 0)) ∧ Only none' w w' := by
  refine c_enter (args := [i64 13, i64 b, i64 c]) (m := 49) (n := 52) Tryd.func39 rfl (by kernel_rfl) (by kernel_rfl) fun fr hA => ?_
  have hO := Ow.nil Tryd.prog none' w
  have hb1 : -2147483648 ≤ b ∧ b ≤ 2147483647 := hb
  have hc1 : -2147483648 ≤ c ∧ c ≤ 2147483647 := hc
  refine sC (e' := [(0, i64 13), (1, i64 b), (2, i64 c), (6, i64 0)]) 1 hA [] c0 ?_
  clear hA fr; intro fr hA
  refine wp_seq ?_
  refine sC (e' := [(0, i64 13), (1, i64 b), (2, i64 c), (6, i64 0), (7, i64 13)]) 1 hA [] c0 ?_
  clear hA fr; intro fr hA
  refine wp_block ?_
  refine wp_seq ?_
  refine sC (e' := [(0, i64 13), (1, i64 b), (2, i64 c), (6, i64 0), (7, i64 13), (8, bl false)]) 2 hA [] c0 ?_
  clear hA fr; intro fr hA
  refine cF hA ?_
  refine rC (e' := [(0, i64 13), (1, i64 b), (2, i64 c), (6, i64 0), (7, i64 13), (8, bl false)]) 2 hA [] c0 ?_
  clear hA fr; intro fr hA
  refine then_normal ?_
  refine cF hA ?_
  refine sC (e' := [(0, i64 13), (1, i64 b), (2, i64 c), (6, i64 0), (7, i64 13), (14, bl false)]) 2 hA [] c0 ?_
  clear hA fr; intro fr hA
  refine cF hA ?_
  refine sC (e' := [(0, i64 13), (1, i64 b), (2, i64 c), (6, i64 0), (7, i64 13), (19, bl false)]) 2 hA [] c0 ?_
  clear hA fr; intro fr hA
  refine cF hA ?_
  refine sC (e' := [(0, i64 13), (1, i64 b), (2, i64 c), (6, i64 0), (7, i64 13), (24, bl false)]) 2 hA [] c0 ?_
  clear hA fr; intro fr hA
  refine cF hA ?_
  refine sC (e' := [(0, i64 13), (1, i64 b), (2, i64 c), (6, i64 0), (7, i64 13), (29, bl false)]) 2 hA [] c0 ?_
  clear hA fr; intro fr hA
  refine cF hA ?_
  refine wp_seq ?_
  refine sC (e' := [(0, i64 13), (1, i64 b), (2, i64 c), (6, i64 0), (7, i64 13), (34, bl false)]) 2 hA [] c0 ?_
  clear hA fr; intro fr hA
  refine cF hA ?_
  refine sC (e' := [(0, i64 13), (1, i64 b), (2, i64 c), (6, i64 0), (7, i64 13), (34, bl false)]) 2 hA [] c0 ?_
  clear hA fr; intro fr hA
  refine cF hA ?_
  refine rC (e' := [(0, i64 13), (1, i64 b), (2, i64 c), (6, i64 0), (7, i64 13), (34, bl false)]) 2 hA [] c0 ?_
  clear hA fr; intro fr hA
  refine then_normal ?_
  refine cF hA ?_
  refine sC (e' := [(1, i64 b), (2, i64 c), (6, i64 0), (42, bl false)]) 2 hA [] c0 ?_
  clear hA fr; intro fr hA
  refine cF hA ?_
  refine wp_skip ?_
  refine inBlock_normal ?_
  refine then_normal ?_
  refine sR (l := (rg 0 5)) ?_
  refine ck (l := [0, 1, 2]) (r := [3, 4]) (e' := [(6, i64 0), (50, bl (b == c))]) hA [] c0 ?_
  clear hA fr; intro fr hA
  refine wpOps_cons' (mK (f := 48) (args := [bl (b == c)]) (d := (some 51)) (v := i64 (cond (b == c) 1 0)) hA hO Tryd.func48 (truth_any (b == c) _) ?_)
  clear hA hO fr; intro fr w1 hA hO
  replace hA := hA.sb (e' := [(6, i64 0), (51, i64 (cond (b == c) 1 0))])
  refine ck (l := [4]) (r := []) (e' := [(6, i64 (cond (b == c) 1 0))]) hA [] c0 ?_
  clear hA fr; intro fr hA
  refine end_ops ?_
  refine then_normal ?_
  refine wp_ret ?_
  refine cR (cs := [none]) (us := [i64 (cond (b == c) 1 0)]) hA [] trivial ?_
  have hF := hO.only; clear hA hO
  exact ⟨rfl, hF⟩

theorem arith_4 (b c : Int) (hb : inK .i32 b) : IntKind.i32.wrap (b + c) = arithS 4 b c := rfl
theorem arith_5 (b c : Int) (hb : inK .i32 b) : IntKind.i32.wrap (b - c) = arithS 5 b c := rfl
theorem arith_6 (b c : Int) (hb : inK .i32 b) : IntKind.i32.wrap (b * c) = arithS 6 b c := rfl
theorem arith_7 (b c : Int) (hb : inK .i32 b) : IntKind.i32.wrap (IntKind.i64.wrap (b.tdiv c)) = arithS 7 b c := i32_i64 _
theorem arith_8 (b c : Int) (hb : inK .i32 b) : IntKind.i32.wrap (b.tmod c) = arithS 8 b c := tmod_i32 hb
theorem arith_9 (b c : Int) (hb : inK .i32 b) : IntKind.i32.wrap (bsum fAnd b c 32) = arithS 9 b c := bsum_and b c
theorem arith_10 (b c : Int) (hb : inK .i32 b) : IntKind.i32.wrap (bsum fOr b c 32) = arithS 10 b c := bsum_or b c
theorem arith_11 (b c : Int) (hb : inK .i32 b) : IntKind.i32.wrap (bsum fXor b c 32) = arithS 11 b c := bsum_xor b c
theorem arith_12 (b c : Int) (hb : inK .i32 b) : IntKind.i32.wrap (cond (decide (b < c)) 1 0) = arithS 12 b c := cond_i32 _
theorem arith_13 (b c : Int) (hb : inK .i32 b) : IntKind.i32.wrap (cond (b == c) 1 0) = arithS 13 b c := cond_i32 _
theorem memory_any (o : Int) (w : World) :
    Calls Tryd.prog 40 #[i64 o] w fun e w' => e = .returned (.tuple #[.int .i64 (placeN o), .bool (!(placeN o == 0))]) ∧ Only none' w w' := by
  refine c_enter (args := [i64 o]) (m := 10) (n := 11) Tryd.func40 rfl (by kernel_rfl) (by kernel_rfl) fun fr hA => ?_
  have hO := Ow.nil Tryd.prog none' w
  refine sC (e' := [(0, i64 o), (2, i64 0), (3, bl false)]) 2 hA [] c0 ?_
  clear hA fr; intro fr hA
  refine wp_seq ?_
  refine sC (e' := [(2, i64 0), (3, bl false), (4, i64 o)]) 1 hA [] c0 ?_
  clear hA fr; intro fr hA
  refine wp_block ?_
  refine wp_seq ?_
  refine sC (e' := [(2, i64 0), (3, bl false), (4, i64 o), (5, bl (o == 14))]) 2 hA [] c0 ?_
  clear hA fr; intro fr hA
  rcases Bool.eq_false_or_eq_true (o == 14) with h1 | h1
  ·
    replace hA := hA.bool (f := fun z => [(2, i64 0), (3, bl false), (4, i64 o), (5, .bool z)]) h1
    have h1p := eq_of_beq h1
    refine cT hA ?_
    refine wp_skip ?_
    refine then_normal ?_
    refine cT hA ?_
    refine sC (e' := [(2, i64 4), (3, bl true)]) 2 hA [] c0 ?_
    clear hA fr; intro fr hA
    refine wp_ret ?_
    refine inBlock_ret ?_
    refine then_ret ?_
    refine cR (cs := [none, none]) (us := [i64 4, bl true]) hA [] trivial ?_
    have hF := hO.only; clear hA hO
    exact ⟨by simp_all [pack, placeN], hF⟩
  ·
    replace hA := hA.bool (f := fun z => [(2, i64 0), (3, bl false), (4, i64 o), (5, .bool z)]) h1
    have h1p := ne_of_beq_false h1
    refine cF hA ?_
    refine rC (e' := [(2, i64 0), (3, bl false), (4, i64 o), (5, bl (o == 15))]) 2 hA [] c0 ?_
    clear hA fr; intro fr hA
    refine then_normal ?_
    rcases Bool.eq_false_or_eq_true (o == 15) with h2 | h2
    ·
      replace hA := hA.bool (f := fun z => [(2, i64 0), (3, bl false), (4, i64 o), (5, .bool z)]) h2
      have h2p := eq_of_beq h2
      refine cT hA ?_
      refine sC (e' := [(2, i64 4), (3, bl true)]) 2 hA [] c0 ?_
      clear hA fr; intro fr hA
      refine wp_ret ?_
      refine inBlock_ret ?_
      refine then_ret ?_
      refine cR (cs := [none, none]) (us := [i64 4, bl true]) hA [] trivial ?_
      have hF := hO.only; clear hA hO
      exact ⟨by simp_all [pack, placeN], hF⟩
    ·
      replace hA := hA.bool (f := fun z => [(2, i64 0), (3, bl false), (4, i64 o), (5, .bool z)]) h2
      have h2p := ne_of_beq_false h2
      refine cF hA ?_
      refine wp_seq ?_
      refine sC (e' := [(2, i64 0), (3, bl false), (4, i64 o), (8, bl (o == 16))]) 2 hA [] c0 ?_
      clear hA fr; intro fr hA
      rcases Bool.eq_false_or_eq_true (o == 16) with h3 | h3
      ·
        replace hA := hA.bool (f := fun z => [(2, i64 0), (3, bl false), (4, i64 o), (8, .bool z)]) h3
        have h3p := eq_of_beq h3
        refine cT hA ?_
        refine wp_skip ?_
        refine then_normal ?_
        refine cT hA ?_
        refine sC (e' := [(2, i64 1), (3, bl true)]) 2 hA [] c0 ?_
        clear hA fr; intro fr hA
        refine wp_ret ?_
        refine inBlock_ret ?_
        refine then_ret ?_
        refine cR (cs := [none, none]) (us := [i64 1, bl true]) hA [] trivial ?_
        have hF := hO.only; clear hA hO
        exact ⟨by simp_all [pack, placeN], hF⟩
      ·
        replace hA := hA.bool (f := fun z => [(2, i64 0), (3, bl false), (4, i64 o), (8, .bool z)]) h3
        have h3p := ne_of_beq_false h3
        refine cF hA ?_
        refine rC (e' := [(2, i64 0), (3, bl false), (8, bl (o == 17))]) 2 hA [] c0 ?_
        clear hA fr; intro fr hA
        refine then_normal ?_
        rcases Bool.eq_false_or_eq_true (o == 17) with h4 | h4
        ·
          replace hA := hA.bool (f := fun z => [(2, i64 0), (3, bl false), (8, .bool z)]) h4
          have h4p := eq_of_beq h4
          refine cT hA ?_
          refine sC (e' := [(2, i64 1), (3, bl true)]) 2 hA [] c0 ?_
          clear hA fr; intro fr hA
          refine wp_ret ?_
          refine inBlock_ret ?_
          refine then_ret ?_
          refine cR (cs := [none, none]) (us := [i64 1, bl true]) hA [] trivial ?_
          have hF := hO.only; clear hA hO
          exact ⟨by simp_all [pack, placeN], hF⟩
        ·
          replace hA := hA.bool (f := fun z => [(2, i64 0), (3, bl false), (8, .bool z)]) h4
          have h4p := ne_of_beq_false h4
          refine cF hA ?_
          refine wp_skip ?_
          refine inBlock_normal ?_
          refine then_normal ?_
          refine sC (e' := [(2, i64 0), (3, bl false)]) 2 hA [] c0 ?_
          clear hA fr; intro fr hA
          refine wp_ret ?_
          refine cR (cs := [none, none]) (us := [i64 0, bl false]) hA [] trivial ?_
          have hF := hO.only; clear hA hO
          exact ⟨by simp_all [pack, placeN], hF⟩

end Go.Proofs.YtcaokjdihhbkjaaDoor
