/- The layer cpu: walks of the reference: value, Exec. -/
import Derived.Test.YtcaokjdihhbkjaaDoorRef
set_option linter.unusedVariables false
set_option linter.unusedSimpArgs false
set_option maxRecDepth 10000
namespace Go.Proofs.YtcaokjdihhbkjaaDoor
open Go Go.RowKit Go.Proofs.Sx

theorem rbits_9 (a b : Int) (w : World) :
    Calls Tryd.prog 47 #[i64 a, i64 b, i64 9] w fun e w' => e = .returned (.int .i64 (bsum fAnd a b 32)) ∧ Only none' w w' := by
  refine c_enter (args := [i64 a, i64 b, i64 9]) (m := 41) (n := 44) Tryd.func47 rfl (by kernel_rfl) (by kernel_rfl) fun fr hA => ?_
  have hO := Ow.nil Tryd.prog none' w
  refine sC (e' := [(0, i64 a), (1, i64 b), (2, i64 9), (6, i64 0)]) 1 hA [] c0 ?_
  clear hA fr; intro fr hA
  refine sC (e' := [(0, i64 a), (1, i64 b), (2, i64 9), (6, i64 0), (7, i64 0)]) 1 hA [] c0 ?_
  clear hA fr; intro fr hA
  refine wp_seq ?_
  refine sC (e' := [(0, i64 a), (1, i64 b), (2, i64 9), (6, i64 0), (7, i64 0), (8, i64 0)]) 1 hA [] c0 ?_
  clear hA fr; intro fr hA
  refine wp_block ?_
  refine c_loop (fun mm fr W => ∃ (j : Nat), mm = 32 - j ∧ Holds 44 [] fr [(0, i64 a), (1, i64 b), (2, i64 9), (6, i64 0), (7, i64 (bsum fAnd a b j)), (8, i64 ((j : Nat) : Int))] ∧ Ow Tryd.prog none' w W [] ∧ j ≤ 32 ∧ True) ?_ ?_
  · exact ⟨_, 0, rfl, (hA.sub (e' := [(0, i64 a), (1, i64 b), (2, i64 9), (6, i64 0), (7, i64 0), (8, i64 0)]) [0, 1, 2, 6, 7, 8] (by kernel_rfl)).cast (by kernel_rfl), hO.to, (by omega), trivial⟩
  · rintro _ fr w1 ⟨j, rfl, hA, hO, hj, -⟩
    refine wp_seq ?_
    refine sC (e' := [(0, i64 a), (1, i64 b), (2, i64 9), (6, i64 0), (7, i64 (bsum fAnd a b j)), (8, i64 ((j : Nat) : Int)), (12, i64 ((j : Nat) : Int)), (13, bl (decide (((j : Nat) : Int) < 32)))]) 2 hA [] c0 ?_
    clear hA fr; intro fr hA
    rcases Bool.eq_false_or_eq_true (decide (((j : Nat) : Int) < 32)) with h1 | h1
    ·
      replace hA := hA.bool (f := fun z => [(0, i64 a), (1, i64 b), (2, i64 9), (6, i64 0), (7, i64 (bsum fAnd a b j)), (8, i64 ((j : Nat) : Int)), (12, i64 ((j : Nat) : Int)), (13, .bool z)]) h1
      have h1p := of_decide_eq_true h1
      refine cT hA ?_
      refine wp_skip ?_
      refine then_normal ?_
      refine wp_seq ?_
      refine wp_block ?_
      refine wp_seq ?_
      have hS := hO
      refine rP [(0, true), (1, true), (2, true), (3, true), (4, true), (5, true), (6, true), (7, true), (8, true), (9, true)] hS ?_
      intro w2 ho; replace hO := hO.st ho; clear ho
      refine ckS (l := (rg 0 10)) (r := []) (e' := [(0, i64 a), (1, i64 b), (2, i64 9), (6, i64 0), (7, i64 (bsum fAnd a b j)), (8, i64 ((j : Nat) : Int)), (9, i64 (bits .and .i64 (a / 2 ^ (min (((j : Nat) : Int)).toNat 64)) 1)), (10, i64 (bits .and .i64 (b / 2 ^ (min (((j : Nat) : Int)).toNat 64)) 1)), (12, i64 ((j : Nat) : Int)), (13, bl true), (16, i64 a), (17, i64 ((j : Nat) : Int)), (18, i64 (a / 2 ^ (min (((j : Nat) : Int)).toNat 64))), (19, i64 (bits .and .i64 (a / 2 ^ (min (((j : Nat) : Int)).toNat 64)) 1)), (20, i64 b), (21, i64 ((j : Nat) : Int)), (22, i64 (b / 2 ^ (min (((j : Nat) : Int)).toNat 64))), (23, i64 (bits .and .i64 (b / 2 ^ (min (((j : Nat) : Int)).toNat 64)) 1))]) hA [bl false, bl false] (cc (by omega : (0 : Int) ≤ ((j : Nat) : Int)) (cc (by omega : (0 : Int) ≤ ((j : Nat) : Int)) c0)) ?_
      clear hA fr; intro fr hA
      replace hA := hA.int (f := fun z => [(0, i64 a), (1, i64 b), (2, i64 9), (6, i64 0), (7, i64 (bsum fAnd a b j)), (8, i64 ((j : Nat) : Int)), (9, .int .i64 z), (10, i64 (bits .and .i64 (b / 2 ^ (min (((j : Nat) : Int)).toNat 64)) 1)), (12, i64 ((j : Nat) : Int)), (13, bl true), (16, i64 a), (17, i64 ((j : Nat) : Int)), (18, i64 (a / 2 ^ (min (((j : Nat) : Int)).toNat 64))), (19, .int .i64 z), (20, i64 b), (21, i64 ((j : Nat) : Int)), (22, i64 (b / 2 ^ (min (((j : Nat) : Int)).toNat 64))), (23, i64 (bits .and .i64 (b / 2 ^ (min (((j : Nat) : Int)).toNat 64)) 1))]) (bit_go a j (by omega) : bits .and .i64 (a / 2 ^ (min (((j : Nat) : Int)).toNat 64)) 1 = bt a j)
      replace hA := hA.int (f := fun z => [(0, i64 a), (1, i64 b), (2, i64 9), (6, i64 0), (7, i64 (bsum fAnd a b j)), (8, i64 ((j : Nat) : Int)), (9, i64 (bt a j)), (10, .int .i64 z), (12, i64 ((j : Nat) : Int)), (13, bl true), (16, i64 a), (17, i64 ((j : Nat) : Int)), (18, i64 (a / 2 ^ (min (((j : Nat) : Int)).toNat 64))), (19, i64 (bt a j)), (20, i64 b), (21, i64 ((j : Nat) : Int)), (22, i64 (b / 2 ^ (min (((j : Nat) : Int)).toNat 64))), (23, .int .i64 z)]) (bit_go b j (by omega) : bits .and .i64 (b / 2 ^ (min (((j : Nat) : Int)).toNat 64)) 1 = bt b j)
      refine end_plan ?_
      refine then_normal ?_
      refine sC (e' := [(0, i64 a), (1, i64 b), (2, i64 9), (6, i64 0), (7, i64 (bsum fAnd a b j)), (8, i64 ((j : Nat) : Int)), (9, i64 (bt a j)), (10, i64 (bt b j)), (11, i64 (IntKind.i64.wrap ((bt a j) * (bt b j)))), (12, i64 ((j : Nat) : Int)), (13, bl true), (16, i64 a), (17, i64 ((j : Nat) : Int)), (18, i64 (a / 2 ^ (min (((j : Nat) : Int)).toNat 64))), (19, i64 (bt a j)), (20, i64 b), (21, i64 ((j : Nat) : Int)), (22, i64 (b / 2 ^ (min (((j : Nat) : Int)).toNat 64))), (23, i64 (bt b j)), (24, i64 (bt a j)), (25, i64 (bt b j)), (26, i64 (IntKind.i64.wrap ((bt a j) * (bt b j))))]) 4 hA [bl false] c0 ?_
      clear hA fr; intro fr hA
      replace hA := hA.int (f := fun z => [(0, i64 a), (1, i64 b), (2, i64 9), (6, i64 0), (7, i64 (bsum fAnd a b j)), (8, i64 ((j : Nat) : Int)), (9, i64 (bt a j)), (10, i64 (bt b j)), (11, .int .i64 z), (12, i64 ((j : Nat) : Int)), (13, bl true), (16, i64 a), (17, i64 ((j : Nat) : Int)), (18, i64 (a / 2 ^ (min (((j : Nat) : Int)).toNat 64))), (19, i64 (bt a j)), (20, i64 b), (21, i64 ((j : Nat) : Int)), (22, i64 (b / 2 ^ (min (((j : Nat) : Int)).toNat 64))), (23, i64 (bt b j)), (24, i64 (bt a j)), (25, i64 (bt b j)), (26, .int .i64 z)]) (and_go a b j : IntKind.i64.wrap ((bt a j) * (bt b j)) = fAnd (bt a j) (bt b j))
      refine wp_seq ?_
      refine sC (e' := [(0, i64 a), (1, i64 b), (2, i64 9), (6, i64 0), (7, i64 (bsum fAnd a b j)), (8, i64 ((j : Nat) : Int)), (9, i64 (bt a j)), (10, i64 (bt b j)), (11, i64 (fAnd (bt a j) (bt b j))), (12, i64 ((j : Nat) : Int)), (13, bl true), (16, i64 a), (17, i64 ((j : Nat) : Int)), (18, i64 (a / 2 ^ (min (((j : Nat) : Int)).toNat 64))), (19, i64 (bt a j)), (20, i64 b), (21, i64 ((j : Nat) : Int)), (22, i64 (b / 2 ^ (min (((j : Nat) : Int)).toNat 64))), (23, i64 (bt b j)), (24, i64 (bt a j)), (25, i64 (bt b j)), (26, i64 (fAnd (bt a j) (bt b j))), (27, i64 9), (28, bl false)]) 2 hA [] c0 ?_
      clear hA fr; intro fr hA
      refine cF hA ?_
      refine wp_skip ?_
      refine then_normal ?_
      refine wp_seq ?_
      refine sC (e' := [(0, i64 a), (1, i64 b), (2, i64 9), (6, i64 0), (7, i64 (bsum fAnd a b j)), (8, i64 ((j : Nat) : Int)), (9, i64 (bt a j)), (10, i64 (bt b j)), (11, i64 (fAnd (bt a j) (bt b j))), (12, i64 ((j : Nat) : Int)), (13, bl true), (16, i64 a), (17, i64 ((j : Nat) : Int)), (18, i64 (a / 2 ^ (min (((j : Nat) : Int)).toNat 64))), (19, i64 (bt a j)), (20, i64 b), (21, i64 ((j : Nat) : Int)), (22, i64 (b / 2 ^ (min (((j : Nat) : Int)).toNat 64))), (23, i64 (bt b j)), (24, i64 (bt a j)), (25, i64 (bt b j)), (26, i64 (fAnd (bt a j) (bt b j))), (27, i64 9), (28, bl false), (32, i64 9), (33, bl false)]) 2 hA [] c0 ?_
      clear hA fr; intro fr hA
      refine cF hA ?_
      refine wp_skip ?_
      refine then_normal ?_
      refine rC (e' := [(0, i64 a), (1, i64 b), (2, i64 9), (6, i64 0), (7, i64 (IntKind.i64.wrap ((bsum fAnd a b j) + (IntKind.i64.wrap ((fAnd (bt a j) (bt b j)) * 2 ^ (min (((j : Nat) : Int)).toNat 64)))))), (8, i64 ((j : Nat) : Int)), (9, i64 (bt a j)), (10, i64 (bt b j)), (11, i64 (fAnd (bt a j) (bt b j))), (12, i64 ((j : Nat) : Int)), (13, bl true), (16, i64 a), (17, i64 ((j : Nat) : Int)), (18, i64 (a / 2 ^ (min (((j : Nat) : Int)).toNat 64))), (19, i64 (bt a j)), (20, i64 b), (21, i64 ((j : Nat) : Int)), (22, i64 (b / 2 ^ (min (((j : Nat) : Int)).toNat 64))), (23, i64 (bt b j)), (24, i64 (bt a j)), (25, i64 (bt b j)), (26, i64 (fAnd (bt a j) (bt b j))), (27, i64 9), (28, bl false), (32, i64 9), (33, bl false), (38, i64 (bsum fAnd a b j)), (39, i64 (fAnd (bt a j) (bt b j))), (40, i64 ((j : Nat) : Int)), (41, i64 (IntKind.i64.wrap ((fAnd (bt a j) (bt b j)) * 2 ^ (min (((j : Nat) : Int)).toNat 64)))), (42, i64 (IntKind.i64.wrap ((bsum fAnd a b j) + (IntKind.i64.wrap ((fAnd (bt a j) (bt b j)) * 2 ^ (min (((j : Nat) : Int)).toNat 64))))))]) 6 hA [bl false, bl false] (cc (by omega : (0 : Int) ≤ ((j : Nat) : Int)) c0) ?_
      clear hA fr; intro fr hA
      replace hA := hA.int (f := fun z => [(0, i64 a), (1, i64 b), (2, i64 9), (6, i64 0), (7, .int .i64 z), (8, i64 ((j : Nat) : Int)), (9, i64 (bt a j)), (10, i64 (bt b j)), (11, i64 (fAnd (bt a j) (bt b j))), (12, i64 ((j : Nat) : Int)), (13, bl true), (16, i64 a), (17, i64 ((j : Nat) : Int)), (18, i64 (a / 2 ^ (min (((j : Nat) : Int)).toNat 64))), (19, i64 (bt a j)), (20, i64 b), (21, i64 ((j : Nat) : Int)), (22, i64 (b / 2 ^ (min (((j : Nat) : Int)).toNat 64))), (23, i64 (bt b j)), (24, i64 (bt a j)), (25, i64 (bt b j)), (26, i64 (fAnd (bt a j) (bt b j))), (27, i64 9), (28, bl false), (32, i64 9), (33, bl false), (38, i64 (bsum fAnd a b j)), (39, i64 (fAnd (bt a j) (bt b j))), (40, i64 ((j : Nat) : Int)), (41, i64 (IntKind.i64.wrap ((fAnd (bt a j) (bt b j)) * 2 ^ (min (((j : Nat) : Int)).toNat 64)))), (42, .int .i64 z)]) (bsum_step bitly_and a b j (by omega) : IntKind.i64.wrap ((bsum fAnd a b j) + (IntKind.i64.wrap ((fAnd (bt a j) (bt b j)) * 2 ^ (min (((j : Nat) : Int)).toNat 64)))) = bsum fAnd a b (j + 1))
      refine inBlock_normal ?_
      refine then_normal ?_
      refine rC (e' := [(0, i64 a), (1, i64 b), (2, i64 9), (6, i64 0), (7, i64 (bsum fAnd a b (j + 1))), (8, i64 (((j : Nat) : Int) + 1)), (9, i64 (bt a j)), (10, i64 (bt b j)), (11, i64 (fAnd (bt a j) (bt b j))), (12, i64 ((j : Nat) : Int)), (13, bl true), (14, i64 ((j : Nat) : Int)), (15, i64 (((j : Nat) : Int) + 1)), (16, i64 a), (17, i64 ((j : Nat) : Int)), (18, i64 (a / 2 ^ (min (((j : Nat) : Int)).toNat 64))), (19, i64 (bt a j)), (20, i64 b), (21, i64 ((j : Nat) : Int)), (22, i64 (b / 2 ^ (min (((j : Nat) : Int)).toNat 64))), (23, i64 (bt b j)), (24, i64 (bt a j)), (25, i64 (bt b j)), (26, i64 (fAnd (bt a j) (bt b j))), (27, i64 9), (28, bl false), (32, i64 9), (33, bl false), (38, i64 (bsum fAnd a b j)), (39, i64 (fAnd (bt a j) (bt b j))), (40, i64 ((j : Nat) : Int)), (41, i64 (IntKind.i64.wrap ((fAnd (bt a j) (bt b j)) * 2 ^ (min (((j : Nat) : Int)).toNat 64)))), (42, i64 (bsum fAnd a b (j + 1)))]) 3 hA [bl true] (cc ((inK_i64 (by omega) (by omega)) : inK .i64 (((j : Nat) : Int) + 1)) c0) ?_
      clear hA fr; intro fr hA
      refine then_normal ?_
      exact ⟨_, by omega, j + 1, rfl, (hA.sub (e' := [(0, i64 a), (1, i64 b), (2, i64 9), (6, i64 0), (7, i64 (bsum fAnd a b (j + 1))), (8, i64 (((j : Nat) : Int) + 1))]) [0, 1, 2, 6, 7, 8] (by kernel_rfl)).cast (by kernel_rfl), hO.to, (by omega), trivial⟩
    ·
      replace hA := hA.bool (f := fun z => [(0, i64 a), (1, i64 b), (2, i64 9), (6, i64 0), (7, i64 (bsum fAnd a b j)), (8, i64 ((j : Nat) : Int)), (12, i64 ((j : Nat) : Int)), (13, .bool z)]) h1
      have h1p := of_decide_eq_false h1
      refine cF hA ?_
      refine wp_exit ?_
      refine then_exit ?_
      refine then_exit ?_
      refine inBlock_exit ?_
      refine then_normal ?_
      refine sC (e' := [(6, i64 (bsum fAnd a b j))]) 2 hA [] c0 ?_
      clear hA fr; intro fr hA
      refine wp_ret ?_
      refine cR (cs := [none]) (us := [i64 (bsum fAnd a b j)]) hA [] trivial ?_
      have hF := hO.only; clear hA hO
      obtain rfl : j = 32 := by omega
      exact ⟨rfl, hF⟩

theorem rbits_10 (a b : Int) (w : World) :
    Calls Tryd.prog 47 #[i64 a, i64 b, i64 10] w fun e w' => e = .returned (.int .i64 (bsum fOr a b 32)) ∧ Only none' w w' := by
  refine c_enter (args := [i64 a, i64 b, i64 10]) (m := 41) (n := 44) Tryd.func47 rfl (by kernel_rfl) (by kernel_rfl) fun fr hA => ?_
  have hO := Ow.nil Tryd.prog none' w
  refine sC (e' := [(0, i64 a), (1, i64 b), (2, i64 10), (6, i64 0)]) 1 hA [] c0 ?_
  clear hA fr; intro fr hA
  refine sC (e' := [(0, i64 a), (1, i64 b), (2, i64 10), (6, i64 0), (7, i64 0)]) 1 hA [] c0 ?_
  clear hA fr; intro fr hA
  refine wp_seq ?_
  refine sC (e' := [(0, i64 a), (1, i64 b), (2, i64 10), (6, i64 0), (7, i64 0), (8, i64 0)]) 1 hA [] c0 ?_
  clear hA fr; intro fr hA
  refine wp_block ?_
  refine c_loop (fun mm fr W => ∃ (j : Nat), mm = 32 - j ∧ Holds 44 [] fr [(0, i64 a), (1, i64 b), (2, i64 10), (6, i64 0), (7, i64 (bsum fOr a b j)), (8, i64 ((j : Nat) : Int))] ∧ Ow Tryd.prog none' w W [] ∧ j ≤ 32 ∧ True) ?_ ?_
  · exact ⟨_, 0, rfl, (hA.sub (e' := [(0, i64 a), (1, i64 b), (2, i64 10), (6, i64 0), (7, i64 0), (8, i64 0)]) [0, 1, 2, 6, 7, 8] (by kernel_rfl)).cast (by kernel_rfl), hO.to, (by omega), trivial⟩
  · rintro _ fr w1 ⟨j, rfl, hA, hO, hj, -⟩
    refine wp_seq ?_
    refine sC (e' := [(0, i64 a), (1, i64 b), (2, i64 10), (6, i64 0), (7, i64 (bsum fOr a b j)), (8, i64 ((j : Nat) : Int)), (12, i64 ((j : Nat) : Int)), (13, bl (decide (((j : Nat) : Int) < 32)))]) 2 hA [] c0 ?_
    clear hA fr; intro fr hA
    rcases Bool.eq_false_or_eq_true (decide (((j : Nat) : Int) < 32)) with h1 | h1
    ·
      replace hA := hA.bool (f := fun z => [(0, i64 a), (1, i64 b), (2, i64 10), (6, i64 0), (7, i64 (bsum fOr a b j)), (8, i64 ((j : Nat) : Int)), (12, i64 ((j : Nat) : Int)), (13, .bool z)]) h1
      have h1p := of_decide_eq_true h1
      refine cT hA ?_
      refine wp_skip ?_
      refine then_normal ?_
      refine wp_seq ?_
      refine wp_block ?_
      refine wp_seq ?_
      have hS := hO
      refine rP [(0, true), (1, true), (2, true), (3, true), (4, true), (5, true), (6, true), (7, true), (8, true), (9, true)] hS ?_
      intro w2 ho; replace hO := hO.st ho; clear ho
      refine ckS (l := (rg 0 10)) (r := []) (e' := [(0, i64 a), (1, i64 b), (2, i64 10), (6, i64 0), (7, i64 (bsum fOr a b j)), (8, i64 ((j : Nat) : Int)), (9, i64 (bits .and .i64 (a / 2 ^ (min (((j : Nat) : Int)).toNat 64)) 1)), (10, i64 (bits .and .i64 (b / 2 ^ (min (((j : Nat) : Int)).toNat 64)) 1)), (12, i64 ((j : Nat) : Int)), (13, bl true), (16, i64 a), (17, i64 ((j : Nat) : Int)), (18, i64 (a / 2 ^ (min (((j : Nat) : Int)).toNat 64))), (19, i64 (bits .and .i64 (a / 2 ^ (min (((j : Nat) : Int)).toNat 64)) 1)), (20, i64 b), (21, i64 ((j : Nat) : Int)), (22, i64 (b / 2 ^ (min (((j : Nat) : Int)).toNat 64))), (23, i64 (bits .and .i64 (b / 2 ^ (min (((j : Nat) : Int)).toNat 64)) 1))]) hA [bl false, bl false] (cc (by omega : (0 : Int) ≤ ((j : Nat) : Int)) (cc (by omega : (0 : Int) ≤ ((j : Nat) : Int)) c0)) ?_
      clear hA fr; intro fr hA
      replace hA := hA.int (f := fun z => [(0, i64 a), (1, i64 b), (2, i64 10), (6, i64 0), (7, i64 (bsum fOr a b j)), (8, i64 ((j : Nat) : Int)), (9, .int .i64 z), (10, i64 (bits .and .i64 (b / 2 ^ (min (((j : Nat) : Int)).toNat 64)) 1)), (12, i64 ((j : Nat) : Int)), (13, bl true), (16, i64 a), (17, i64 ((j : Nat) : Int)), (18, i64 (a / 2 ^ (min (((j : Nat) : Int)).toNat 64))), (19, .int .i64 z), (20, i64 b), (21, i64 ((j : Nat) : Int)), (22, i64 (b / 2 ^ (min (((j : Nat) : Int)).toNat 64))), (23, i64 (bits .and .i64 (b / 2 ^ (min (((j : Nat) : Int)).toNat 64)) 1))]) (bit_go a j (by omega) : bits .and .i64 (a / 2 ^ (min (((j : Nat) : Int)).toNat 64)) 1 = bt a j)
      replace hA := hA.int (f := fun z => [(0, i64 a), (1, i64 b), (2, i64 10), (6, i64 0), (7, i64 (bsum fOr a b j)), (8, i64 ((j : Nat) : Int)), (9, i64 (bt a j)), (10, .int .i64 z), (12, i64 ((j : Nat) : Int)), (13, bl true), (16, i64 a), (17, i64 ((j : Nat) : Int)), (18, i64 (a / 2 ^ (min (((j : Nat) : Int)).toNat 64))), (19, i64 (bt a j)), (20, i64 b), (21, i64 ((j : Nat) : Int)), (22, i64 (b / 2 ^ (min (((j : Nat) : Int)).toNat 64))), (23, .int .i64 z)]) (bit_go b j (by omega) : bits .and .i64 (b / 2 ^ (min (((j : Nat) : Int)).toNat 64)) 1 = bt b j)
      refine end_plan ?_
      refine then_normal ?_
      refine sC (e' := [(0, i64 a), (1, i64 b), (2, i64 10), (6, i64 0), (7, i64 (bsum fOr a b j)), (8, i64 ((j : Nat) : Int)), (9, i64 (bt a j)), (10, i64 (bt b j)), (11, i64 (IntKind.i64.wrap ((bt a j) * (bt b j)))), (12, i64 ((j : Nat) : Int)), (13, bl true), (16, i64 a), (17, i64 ((j : Nat) : Int)), (18, i64 (a / 2 ^ (min (((j : Nat) : Int)).toNat 64))), (19, i64 (bt a j)), (20, i64 b), (21, i64 ((j : Nat) : Int)), (22, i64 (b / 2 ^ (min (((j : Nat) : Int)).toNat 64))), (23, i64 (bt b j)), (24, i64 (bt a j)), (25, i64 (bt b j)), (26, i64 (IntKind.i64.wrap ((bt a j) * (bt b j))))]) 4 hA [bl false] c0 ?_
      clear hA fr; intro fr hA
      replace hA := hA.int (f := fun z => [(0, i64 a), (1, i64 b), (2, i64 10), (6, i64 0), (7, i64 (bsum fOr a b j)), (8, i64 ((j : Nat) : Int)), (9, i64 (bt a j)), (10, i64 (bt b j)), (11, .int .i64 z), (12, i64 ((j : Nat) : Int)), (13, bl true), (16, i64 a), (17, i64 ((j : Nat) : Int)), (18, i64 (a / 2 ^ (min (((j : Nat) : Int)).toNat 64))), (19, i64 (bt a j)), (20, i64 b), (21, i64 ((j : Nat) : Int)), (22, i64 (b / 2 ^ (min (((j : Nat) : Int)).toNat 64))), (23, i64 (bt b j)), (24, i64 (bt a j)), (25, i64 (bt b j)), (26, .int .i64 z)]) (and_go a b j : IntKind.i64.wrap ((bt a j) * (bt b j)) = fAnd (bt a j) (bt b j))
      refine wp_seq ?_
      refine sC (e' := [(0, i64 a), (1, i64 b), (2, i64 10), (6, i64 0), (7, i64 (bsum fOr a b j)), (8, i64 ((j : Nat) : Int)), (9, i64 (bt a j)), (10, i64 (bt b j)), (11, i64 (fAnd (bt a j) (bt b j))), (12, i64 ((j : Nat) : Int)), (13, bl true), (16, i64 a), (17, i64 ((j : Nat) : Int)), (18, i64 (a / 2 ^ (min (((j : Nat) : Int)).toNat 64))), (19, i64 (bt a j)), (20, i64 b), (21, i64 ((j : Nat) : Int)), (22, i64 (b / 2 ^ (min (((j : Nat) : Int)).toNat 64))), (23, i64 (bt b j)), (24, i64 (bt a j)), (25, i64 (bt b j)), (26, i64 (fAnd (bt a j) (bt b j))), (27, i64 10), (28, bl true)]) 2 hA [] c0 ?_
      clear hA fr; intro fr hA
      refine cT hA ?_
      refine rC (e' := [(0, i64 a), (1, i64 b), (2, i64 10), (6, i64 0), (7, i64 (bsum fOr a b j)), (8, i64 ((j : Nat) : Int)), (9, i64 (bt a j)), (10, i64 (bt b j)), (11, i64 (max (bt a j) (bt b j))), (12, i64 ((j : Nat) : Int)), (13, bl true), (16, i64 a), (17, i64 ((j : Nat) : Int)), (18, i64 (a / 2 ^ (min (((j : Nat) : Int)).toNat 64))), (19, i64 (bt a j)), (20, i64 b), (21, i64 ((j : Nat) : Int)), (22, i64 (b / 2 ^ (min (((j : Nat) : Int)).toNat 64))), (23, i64 (bt b j)), (24, i64 (bt a j)), (25, i64 (bt b j)), (26, i64 (fAnd (bt a j) (bt b j))), (27, i64 10), (28, bl true), (29, i64 (bt a j)), (30, i64 (bt b j)), (31, i64 (max (bt a j) (bt b j)))]) 4 hA [] c0 ?_
      clear hA fr; intro fr hA
      replace hA := hA.int (f := fun z => [(0, i64 a), (1, i64 b), (2, i64 10), (6, i64 0), (7, i64 (bsum fOr a b j)), (8, i64 ((j : Nat) : Int)), (9, i64 (bt a j)), (10, i64 (bt b j)), (11, .int .i64 z), (12, i64 ((j : Nat) : Int)), (13, bl true), (16, i64 a), (17, i64 ((j : Nat) : Int)), (18, i64 (a / 2 ^ (min (((j : Nat) : Int)).toNat 64))), (19, i64 (bt a j)), (20, i64 b), (21, i64 ((j : Nat) : Int)), (22, i64 (b / 2 ^ (min (((j : Nat) : Int)).toNat 64))), (23, i64 (bt b j)), (24, i64 (bt a j)), (25, i64 (bt b j)), (26, i64 (fAnd (bt a j) (bt b j))), (27, i64 10), (28, bl true), (29, i64 (bt a j)), (30, i64 (bt b j)), (31, .int .i64 z)]) (rfl : max (bt a j) (bt b j) = fOr (bt a j) (bt b j))
      refine then_normal ?_
      refine wp_seq ?_
      refine sC (e' := [(0, i64 a), (1, i64 b), (2, i64 10), (6, i64 0), (7, i64 (bsum fOr a b j)), (8, i64 ((j : Nat) : Int)), (9, i64 (bt a j)), (10, i64 (bt b j)), (11, i64 (fOr (bt a j) (bt b j))), (12, i64 ((j : Nat) : Int)), (13, bl true), (16, i64 a), (17, i64 ((j : Nat) : Int)), (18, i64 (a / 2 ^ (min (((j : Nat) : Int)).toNat 64))), (19, i64 (bt a j)), (20, i64 b), (21, i64 ((j : Nat) : Int)), (22, i64 (b / 2 ^ (min (((j : Nat) : Int)).toNat 64))), (23, i64 (bt b j)), (24, i64 (bt a j)), (25, i64 (bt b j)), (26, i64 (fAnd (bt a j) (bt b j))), (27, i64 10), (28, bl true), (29, i64 (bt a j)), (30, i64 (bt b j)), (31, i64 (fOr (bt a j) (bt b j))), (32, i64 10), (33, bl false)]) 2 hA [] c0 ?_
      clear hA fr; intro fr hA
      refine cF hA ?_
      refine wp_skip ?_
      refine then_normal ?_
      refine rC (e' := [(0, i64 a), (1, i64 b), (2, i64 10), (6, i64 0), (7, i64 (IntKind.i64.wrap ((bsum fOr a b j) + (IntKind.i64.wrap ((fOr (bt a j) (bt b j)) * 2 ^ (min (((j : Nat) : Int)).toNat 64)))))), (8, i64 ((j : Nat) : Int)), (9, i64 (bt a j)), (10, i64 (bt b j)), (11, i64 (fOr (bt a j) (bt b j))), (12, i64 ((j : Nat) : Int)), (13, bl true), (16, i64 a), (17, i64 ((j : Nat) : Int)), (18, i64 (a / 2 ^ (min (((j : Nat) : Int)).toNat 64))), (19, i64 (bt a j)), (20, i64 b), (21, i64 ((j : Nat) : Int)), (22, i64 (b / 2 ^ (min (((j : Nat) : Int)).toNat 64))), (23, i64 (bt b j)), (24, i64 (bt a j)), (25, i64 (bt b j)), (26, i64 (fAnd (bt a j) (bt b j))), (27, i64 10), (28, bl true), (29, i64 (bt a j)), (30, i64 (bt b j)), (31, i64 (fOr (bt a j) (bt b j))), (32, i64 10), (33, bl false), (38, i64 (bsum fOr a b j)), (39, i64 (fOr (bt a j) (bt b j))), (40, i64 ((j : Nat) : Int)), (41, i64 (IntKind.i64.wrap ((fOr (bt a j) (bt b j)) * 2 ^ (min (((j : Nat) : Int)).toNat 64)))), (42, i64 (IntKind.i64.wrap ((bsum fOr a b j) + (IntKind.i64.wrap ((fOr (bt a j) (bt b j)) * 2 ^ (min (((j : Nat) : Int)).toNat 64))))))]) 6 hA [bl false, bl false] (cc (by omega : (0 : Int) ≤ ((j : Nat) : Int)) c0) ?_
      clear hA fr; intro fr hA
      replace hA := hA.int (f := fun z => [(0, i64 a), (1, i64 b), (2, i64 10), (6, i64 0), (7, .int .i64 z), (8, i64 ((j : Nat) : Int)), (9, i64 (bt a j)), (10, i64 (bt b j)), (11, i64 (fOr (bt a j) (bt b j))), (12, i64 ((j : Nat) : Int)), (13, bl true), (16, i64 a), (17, i64 ((j : Nat) : Int)), (18, i64 (a / 2 ^ (min (((j : Nat) : Int)).toNat 64))), (19, i64 (bt a j)), (20, i64 b), (21, i64 ((j : Nat) : Int)), (22, i64 (b / 2 ^ (min (((j : Nat) : Int)).toNat 64))), (23, i64 (bt b j)), (24, i64 (bt a j)), (25, i64 (bt b j)), (26, i64 (fAnd (bt a j) (bt b j))), (27, i64 10), (28, bl true), (29, i64 (bt a j)), (30, i64 (bt b j)), (31, i64 (fOr (bt a j) (bt b j))), (32, i64 10), (33, bl false), (38, i64 (bsum fOr a b j)), (39, i64 (fOr (bt a j) (bt b j))), (40, i64 ((j : Nat) : Int)), (41, i64 (IntKind.i64.wrap ((fOr (bt a j) (bt b j)) * 2 ^ (min (((j : Nat) : Int)).toNat 64)))), (42, .int .i64 z)]) (bsum_step bitly_or a b j (by omega) : IntKind.i64.wrap ((bsum fOr a b j) + (IntKind.i64.wrap ((fOr (bt a j) (bt b j)) * 2 ^ (min (((j : Nat) : Int)).toNat 64)))) = bsum fOr a b (j + 1))
      refine inBlock_normal ?_
      refine then_normal ?_
      refine rC (e' := [(0, i64 a), (1, i64 b), (2, i64 10), (6, i64 0), (7, i64 (bsum fOr a b (j + 1))), (8, i64 (((j : Nat) : Int) + 1)), (9, i64 (bt a j)), (10, i64 (bt b j)), (11, i64 (fOr (bt a j) (bt b j))), (12, i64 ((j : Nat) : Int)), (13, bl true), (14, i64 ((j : Nat) : Int)), (15, i64 (((j : Nat) : Int) + 1)), (16, i64 a), (17, i64 ((j : Nat) : Int)), (18, i64 (a / 2 ^ (min (((j : Nat) : Int)).toNat 64))), (19, i64 (bt a j)), (20, i64 b), (21, i64 ((j : Nat) : Int)), (22, i64 (b / 2 ^ (min (((j : Nat) : Int)).toNat 64))), (23, i64 (bt b j)), (24, i64 (bt a j)), (25, i64 (bt b j)), (26, i64 (fAnd (bt a j) (bt b j))), (27, i64 10), (28, bl true), (29, i64 (bt a j)), (30, i64 (bt b j)), (31, i64 (fOr (bt a j) (bt b j))), (32, i64 10), (33, bl false), (38, i64 (bsum fOr a b j)), (39, i64 (fOr (bt a j) (bt b j))), (40, i64 ((j : Nat) : Int)), (41, i64 (IntKind.i64.wrap ((fOr (bt a j) (bt b j)) * 2 ^ (min (((j : Nat) : Int)).toNat 64)))), (42, i64 (bsum fOr a b (j + 1)))]) 3 hA [bl true] (cc ((inK_i64 (by omega) (by omega)) : inK .i64 (((j : Nat) : Int) + 1)) c0) ?_
      clear hA fr; intro fr hA
      refine then_normal ?_
      exact ⟨_, by omega, j + 1, rfl, (hA.sub (e' := [(0, i64 a), (1, i64 b), (2, i64 10), (6, i64 0), (7, i64 (bsum fOr a b (j + 1))), (8, i64 (((j : Nat) : Int) + 1))]) [0, 1, 2, 6, 7, 8] (by kernel_rfl)).cast (by kernel_rfl), hO.to, (by omega), trivial⟩
    ·
      replace hA := hA.bool (f := fun z => [(0, i64 a), (1, i64 b), (2, i64 10), (6, i64 0), (7, i64 (bsum fOr a b j)), (8, i64 ((j : Nat) : Int)), (12, i64 ((j : Nat) : Int)), (13, .bool z)]) h1
      have h1p := of_decide_eq_false h1
      refine cF hA ?_
      refine wp_exit ?_
      refine then_exit ?_
      refine then_exit ?_
      refine inBlock_exit ?_
      refine then_normal ?_
      refine sC (e' := [(6, i64 (bsum fOr a b j))]) 2 hA [] c0 ?_
      clear hA fr; intro fr hA
      refine wp_ret ?_
      refine cR (cs := [none]) (us := [i64 (bsum fOr a b j)]) hA [] trivial ?_
      have hF := hO.only; clear hA hO
      obtain rfl : j = 32 := by omega
      exact ⟨rfl, hF⟩

theorem rbits_11 (a b : Int) (w : World) :
    Calls Tryd.prog 47 #[i64 a, i64 b, i64 11] w fun e w' => e = .returned (.int .i64 (bsum fXor a b 32)) ∧ Only none' w w' := by
  refine c_enter (args := [i64 a, i64 b, i64 11]) (m := 41) (n := 44) Tryd.func47 rfl (by kernel_rfl) (by kernel_rfl) fun fr hA => ?_
  have hO := Ow.nil Tryd.prog none' w
  refine sC (e' := [(0, i64 a), (1, i64 b), (2, i64 11), (6, i64 0)]) 1 hA [] c0 ?_
  clear hA fr; intro fr hA
  refine sC (e' := [(0, i64 a), (1, i64 b), (2, i64 11), (6, i64 0), (7, i64 0)]) 1 hA [] c0 ?_
  clear hA fr; intro fr hA
  refine wp_seq ?_
  refine sC (e' := [(0, i64 a), (1, i64 b), (2, i64 11), (6, i64 0), (7, i64 0), (8, i64 0)]) 1 hA [] c0 ?_
  clear hA fr; intro fr hA
  refine wp_block ?_
  refine c_loop (fun mm fr W => ∃ (j : Nat), mm = 32 - j ∧ Holds 44 [] fr [(0, i64 a), (1, i64 b), (2, i64 11), (6, i64 0), (7, i64 (bsum fXor a b j)), (8, i64 ((j : Nat) : Int))] ∧ Ow Tryd.prog none' w W [] ∧ j ≤ 32 ∧ True) ?_ ?_
  · exact ⟨_, 0, rfl, (hA.sub (e' := [(0, i64 a), (1, i64 b), (2, i64 11), (6, i64 0), (7, i64 0), (8, i64 0)]) [0, 1, 2, 6, 7, 8] (by kernel_rfl)).cast (by kernel_rfl), hO.to, (by omega), trivial⟩
  · rintro _ fr w1 ⟨j, rfl, hA, hO, hj, -⟩
    refine wp_seq ?_
    refine sC (e' := [(0, i64 a), (1, i64 b), (2, i64 11), (6, i64 0), (7, i64 (bsum fXor a b j)), (8, i64 ((j : Nat) : Int)), (12, i64 ((j : Nat) : Int)), (13, bl (decide (((j : Nat) : Int) < 32)))]) 2 hA [] c0 ?_
    clear hA fr; intro fr hA
    rcases Bool.eq_false_or_eq_true (decide (((j : Nat) : Int) < 32)) with h1 | h1
    ·
      replace hA := hA.bool (f := fun z => [(0, i64 a), (1, i64 b), (2, i64 11), (6, i64 0), (7, i64 (bsum fXor a b j)), (8, i64 ((j : Nat) : Int)), (12, i64 ((j : Nat) : Int)), (13, .bool z)]) h1
      have h1p := of_decide_eq_true h1
      refine cT hA ?_
      refine wp_skip ?_
      refine then_normal ?_
      refine wp_seq ?_
      refine wp_block ?_
      refine wp_seq ?_
      have hS := hO
      refine rP [(0, true), (1, true), (2, true), (3, true), (4, true), (5, true), (6, true), (7, true), (8, true), (9, true)] hS ?_
      intro w2 ho; replace hO := hO.st ho; clear ho
      refine ckS (l := (rg 0 10)) (r := []) (e' := [(0, i64 a), (1, i64 b), (2, i64 11), (6, i64 0), (7, i64 (bsum fXor a b j)), (8, i64 ((j : Nat) : Int)), (9, i64 (bits .and .i64 (a / 2 ^ (min (((j : Nat) : Int)).toNat 64)) 1)), (10, i64 (bits .and .i64 (b / 2 ^ (min (((j : Nat) : Int)).toNat 64)) 1)), (12, i64 ((j : Nat) : Int)), (13, bl true), (16, i64 a), (17, i64 ((j : Nat) : Int)), (18, i64 (a / 2 ^ (min (((j : Nat) : Int)).toNat 64))), (19, i64 (bits .and .i64 (a / 2 ^ (min (((j : Nat) : Int)).toNat 64)) 1)), (20, i64 b), (21, i64 ((j : Nat) : Int)), (22, i64 (b / 2 ^ (min (((j : Nat) : Int)).toNat 64))), (23, i64 (bits .and .i64 (b / 2 ^ (min (((j : Nat) : Int)).toNat 64)) 1))]) hA [bl false, bl false] (cc (by omega : (0 : Int) ≤ ((j : Nat) : Int)) (cc (by omega : (0 : Int) ≤ ((j : Nat) : Int)) c0)) ?_
      clear hA fr; intro fr hA
      replace hA := hA.int (f := fun z => [(0, i64 a), (1, i64 b), (2, i64 11), (6, i64 0), (7, i64 (bsum fXor a b j)), (8, i64 ((j : Nat) : Int)), (9, .int .i64 z), (10, i64 (bits .and .i64 (b / 2 ^ (min (((j : Nat) : Int)).toNat 64)) 1)), (12, i64 ((j : Nat) : Int)), (13, bl true), (16, i64 a), (17, i64 ((j : Nat) : Int)), (18, i64 (a / 2 ^ (min (((j : Nat) : Int)).toNat 64))), (19, .int .i64 z), (20, i64 b), (21, i64 ((j : Nat) : Int)), (22, i64 (b / 2 ^ (min (((j : Nat) : Int)).toNat 64))), (23, i64 (bits .and .i64 (b / 2 ^ (min (((j : Nat) : Int)).toNat 64)) 1))]) (bit_go a j (by omega) : bits .and .i64 (a / 2 ^ (min (((j : Nat) : Int)).toNat 64)) 1 = bt a j)
      replace hA := hA.int (f := fun z => [(0, i64 a), (1, i64 b), (2, i64 11), (6, i64 0), (7, i64 (bsum fXor a b j)), (8, i64 ((j : Nat) : Int)), (9, i64 (bt a j)), (10, .int .i64 z), (12, i64 ((j : Nat) : Int)), (13, bl true), (16, i64 a), (17, i64 ((j : Nat) : Int)), (18, i64 (a / 2 ^ (min (((j : Nat) : Int)).toNat 64))), (19, i64 (bt a j)), (20, i64 b), (21, i64 ((j : Nat) : Int)), (22, i64 (b / 2 ^ (min (((j : Nat) : Int)).toNat 64))), (23, .int .i64 z)]) (bit_go b j (by omega) : bits .and .i64 (b / 2 ^ (min (((j : Nat) : Int)).toNat 64)) 1 = bt b j)
      refine end_plan ?_
      refine then_normal ?_
      refine sC (e' := [(0, i64 a), (1, i64 b), (2, i64 11), (6, i64 0), (7, i64 (bsum fXor a b j)), (8, i64 ((j : Nat) : Int)), (9, i64 (bt a j)), (10, i64 (bt b j)), (11, i64 (IntKind.i64.wrap ((bt a j) * (bt b j)))), (12, i64 ((j : Nat) : Int)), (13, bl true), (16, i64 a), (17, i64 ((j : Nat) : Int)), (18, i64 (a / 2 ^ (min (((j : Nat) : Int)).toNat 64))), (19, i64 (bt a j)), (20, i64 b), (21, i64 ((j : Nat) : Int)), (22, i64 (b / 2 ^ (min (((j : Nat) : Int)).toNat 64))), (23, i64 (bt b j)), (24, i64 (bt a j)), (25, i64 (bt b j)), (26, i64 (IntKind.i64.wrap ((bt a j) * (bt b j))))]) 4 hA [bl false] c0 ?_
      clear hA fr; intro fr hA
      replace hA := hA.int (f := fun z => [(0, i64 a), (1, i64 b), (2, i64 11), (6, i64 0), (7, i64 (bsum fXor a b j)), (8, i64 ((j : Nat) : Int)), (9, i64 (bt a j)), (10, i64 (bt b j)), (11, .int .i64 z), (12, i64 ((j : Nat) : Int)), (13, bl true), (16, i64 a), (17, i64 ((j : Nat) : Int)), (18, i64 (a / 2 ^ (min (((j : Nat) : Int)).toNat 64))), (19, i64 (bt a j)), (20, i64 b), (21, i64 ((j : Nat) : Int)), (22, i64 (b / 2 ^ (min (((j : Nat) : Int)).toNat 64))), (23, i64 (bt b j)), (24, i64 (bt a j)), (25, i64 (bt b j)), (26, .int .i64 z)]) (and_go a b j : IntKind.i64.wrap ((bt a j) * (bt b j)) = fAnd (bt a j) (bt b j))
      refine wp_seq ?_
      refine sC (e' := [(0, i64 a), (1, i64 b), (2, i64 11), (6, i64 0), (7, i64 (bsum fXor a b j)), (8, i64 ((j : Nat) : Int)), (9, i64 (bt a j)), (10, i64 (bt b j)), (11, i64 (fAnd (bt a j) (bt b j))), (12, i64 ((j : Nat) : Int)), (13, bl true), (16, i64 a), (17, i64 ((j : Nat) : Int)), (18, i64 (a / 2 ^ (min (((j : Nat) : Int)).toNat 64))), (19, i64 (bt a j)), (20, i64 b), (21, i64 ((j : Nat) : Int)), (22, i64 (b / 2 ^ (min (((j : Nat) : Int)).toNat 64))), (23, i64 (bt b j)), (24, i64 (bt a j)), (25, i64 (bt b j)), (26, i64 (fAnd (bt a j) (bt b j))), (27, i64 11), (28, bl false)]) 2 hA [] c0 ?_
      clear hA fr; intro fr hA
      refine cF hA ?_
      refine wp_skip ?_
      refine then_normal ?_
      refine wp_seq ?_
      refine sC (e' := [(0, i64 a), (1, i64 b), (2, i64 11), (6, i64 0), (7, i64 (bsum fXor a b j)), (8, i64 ((j : Nat) : Int)), (9, i64 (bt a j)), (10, i64 (bt b j)), (11, i64 (fAnd (bt a j) (bt b j))), (12, i64 ((j : Nat) : Int)), (13, bl true), (16, i64 a), (17, i64 ((j : Nat) : Int)), (18, i64 (a / 2 ^ (min (((j : Nat) : Int)).toNat 64))), (19, i64 (bt a j)), (20, i64 b), (21, i64 ((j : Nat) : Int)), (22, i64 (b / 2 ^ (min (((j : Nat) : Int)).toNat 64))), (23, i64 (bt b j)), (24, i64 (bt a j)), (25, i64 (bt b j)), (26, i64 (fAnd (bt a j) (bt b j))), (27, i64 11), (28, bl false), (32, i64 11), (33, bl true)]) 2 hA [] c0 ?_
      clear hA fr; intro fr hA
      refine cT hA ?_
      refine rC (e' := [(0, i64 a), (1, i64 b), (2, i64 11), (6, i64 0), (7, i64 (bsum fXor a b j)), (8, i64 ((j : Nat) : Int)), (9, i64 (bt a j)), (10, i64 (bt b j)), (11, i64 ((IntKind.i64.wrap ((bt a j) + (bt b j))).tmod 2)), (12, i64 ((j : Nat) : Int)), (13, bl true), (16, i64 a), (17, i64 ((j : Nat) : Int)), (18, i64 (a / 2 ^ (min (((j : Nat) : Int)).toNat 64))), (19, i64 (bt a j)), (20, i64 b), (21, i64 ((j : Nat) : Int)), (22, i64 (b / 2 ^ (min (((j : Nat) : Int)).toNat 64))), (23, i64 (bt b j)), (24, i64 (bt a j)), (25, i64 (bt b j)), (26, i64 (fAnd (bt a j) (bt b j))), (27, i64 11), (28, bl false), (32, i64 11), (33, bl true), (34, i64 (bt a j)), (35, i64 (bt b j)), (36, i64 (IntKind.i64.wrap ((bt a j) + (bt b j)))), (37, i64 ((IntKind.i64.wrap ((bt a j) + (bt b j))).tmod 2))]) 5 hA [bl false, bl false] (cc (by omega : 2 ≠ (0 : Int)) c0) ?_
      clear hA fr; intro fr hA
      replace hA := hA.int (f := fun z => [(0, i64 a), (1, i64 b), (2, i64 11), (6, i64 0), (7, i64 (bsum fXor a b j)), (8, i64 ((j : Nat) : Int)), (9, i64 (bt a j)), (10, i64 (bt b j)), (11, .int .i64 z), (12, i64 ((j : Nat) : Int)), (13, bl true), (16, i64 a), (17, i64 ((j : Nat) : Int)), (18, i64 (a / 2 ^ (min (((j : Nat) : Int)).toNat 64))), (19, i64 (bt a j)), (20, i64 b), (21, i64 ((j : Nat) : Int)), (22, i64 (b / 2 ^ (min (((j : Nat) : Int)).toNat 64))), (23, i64 (bt b j)), (24, i64 (bt a j)), (25, i64 (bt b j)), (26, i64 (fAnd (bt a j) (bt b j))), (27, i64 11), (28, bl false), (32, i64 11), (33, bl true), (34, i64 (bt a j)), (35, i64 (bt b j)), (36, i64 (IntKind.i64.wrap ((bt a j) + (bt b j)))), (37, .int .i64 z)]) (xor_go a b j : (IntKind.i64.wrap ((bt a j) + (bt b j))).tmod 2 = fXor (bt a j) (bt b j))
      refine then_normal ?_
      refine rC (e' := [(0, i64 a), (1, i64 b), (2, i64 11), (6, i64 0), (7, i64 (IntKind.i64.wrap ((bsum fXor a b j) + (IntKind.i64.wrap ((fXor (bt a j) (bt b j)) * 2 ^ (min (((j : Nat) : Int)).toNat 64)))))), (8, i64 ((j : Nat) : Int)), (9, i64 (bt a j)), (10, i64 (bt b j)), (11, i64 (fXor (bt a j) (bt b j))), (12, i64 ((j : Nat) : Int)), (13, bl true), (16, i64 a), (17, i64 ((j : Nat) : Int)), (18, i64 (a / 2 ^ (min (((j : Nat) : Int)).toNat 64))), (19, i64 (bt a j)), (20, i64 b), (21, i64 ((j : Nat) : Int)), (22, i64 (b / 2 ^ (min (((j : Nat) : Int)).toNat 64))), (23, i64 (bt b j)), (24, i64 (bt a j)), (25, i64 (bt b j)), (26, i64 (fAnd (bt a j) (bt b j))), (27, i64 11), (28, bl false), (32, i64 11), (33, bl true), (34, i64 (bt a j)), (35, i64 (bt b j)), (36, i64 (IntKind.i64.wrap ((bt a j) + (bt b j)))), (37, i64 (fXor (bt a j) (bt b j))), (38, i64 (bsum fXor a b j)), (39, i64 (fXor (bt a j) (bt b j))), (40, i64 ((j : Nat) : Int)), (41, i64 (IntKind.i64.wrap ((fXor (bt a j) (bt b j)) * 2 ^ (min (((j : Nat) : Int)).toNat 64)))), (42, i64 (IntKind.i64.wrap ((bsum fXor a b j) + (IntKind.i64.wrap ((fXor (bt a j) (bt b j)) * 2 ^ (min (((j : Nat) : Int)).toNat 64))))))]) 6 hA [bl false, bl false] (cc (by omega : (0 : Int) ≤ ((j : Nat) : Int)) c0) ?_
      clear hA fr; intro fr hA
      replace hA := hA.int (f := fun z => [(0, i64 a), (1, i64 b), (2, i64 11), (6, i64 0), (7, .int .i64 z), (8, i64 ((j : Nat) : Int)), (9, i64 (bt a j)), (10, i64 (bt b j)), (11, i64 (fXor (bt a j) (bt b j))), (12, i64 ((j : Nat) : Int)), (13, bl true), (16, i64 a), (17, i64 ((j : Nat) : Int)), (18, i64 (a / 2 ^ (min (((j : Nat) : Int)).toNat 64))), (19, i64 (bt a j)), (20, i64 b), (21, i64 ((j : Nat) : Int)), (22, i64 (b / 2 ^ (min (((j : Nat) : Int)).toNat 64))), (23, i64 (bt b j)), (24, i64 (bt a j)), (25, i64 (bt b j)), (26, i64 (fAnd (bt a j) (bt b j))), (27, i64 11), (28, bl false), (32, i64 11), (33, bl true), (34, i64 (bt a j)), (35, i64 (bt b j)), (36, i64 (IntKind.i64.wrap ((bt a j) + (bt b j)))), (37, i64 (fXor (bt a j) (bt b j))), (38, i64 (bsum fXor a b j)), (39, i64 (fXor (bt a j) (bt b j))), (40, i64 ((j : Nat) : Int)), (41, i64 (IntKind.i64.wrap ((fXor (bt a j) (bt b j)) * 2 ^ (min (((j : Nat) : Int)).toNat 64)))), (42, .int .i64 z)]) (bsum_step bitly_xor a b j (by omega) : IntKind.i64.wrap ((bsum fXor a b j) + (IntKind.i64.wrap ((fXor (bt a j) (bt b j)) * 2 ^ (min (((j : Nat) : Int)).toNat 64)))) = bsum fXor a b (j + 1))
      refine inBlock_normal ?_
      refine then_normal ?_
      refine rC (e' := [(0, i64 a), (1, i64 b), (2, i64 11), (6, i64 0), (7, i64 (bsum fXor a b (j + 1))), (8, i64 (((j : Nat) : Int) + 1)), (9, i64 (bt a j)), (10, i64 (bt b j)), (11, i64 (fXor (bt a j) (bt b j))), (12, i64 ((j : Nat) : Int)), (13, bl true), (14, i64 ((j : Nat) : Int)), (15, i64 (((j : Nat) : Int) + 1)), (16, i64 a), (17, i64 ((j : Nat) : Int)), (18, i64 (a / 2 ^ (min (((j : Nat) : Int)).toNat 64))), (19, i64 (bt a j)), (20, i64 b), (21, i64 ((j : Nat) : Int)), (22, i64 (b / 2 ^ (min (((j : Nat) : Int)).toNat 64))), (23, i64 (bt b j)), (24, i64 (bt a j)), (25, i64 (bt b j)), (26, i64 (fAnd (bt a j) (bt b j))), (27, i64 11), (28, bl false), (32, i64 11), (33, bl true), (34, i64 (bt a j)), (35, i64 (bt b j)), (36, i64 (IntKind.i64.wrap ((bt a j) + (bt b j)))), (37, i64 (fXor (bt a j) (bt b j))), (38, i64 (bsum fXor a b j)), (39, i64 (fXor (bt a j) (bt b j))), (40, i64 ((j : Nat) : Int)), (41, i64 (IntKind.i64.wrap ((fXor (bt a j) (bt b j)) * 2 ^ (min (((j : Nat) : Int)).toNat 64)))), (42, i64 (bsum fXor a b (j + 1)))]) 3 hA [bl true] (cc ((inK_i64 (by omega) (by omega)) : inK .i64 (((j : Nat) : Int) + 1)) c0) ?_
      clear hA fr; intro fr hA
      refine then_normal ?_
      exact ⟨_, by omega, j + 1, rfl, (hA.sub (e' := [(0, i64 a), (1, i64 b), (2, i64 11), (6, i64 0), (7, i64 (bsum fXor a b (j + 1))), (8, i64 (((j : Nat) : Int) + 1))]) [0, 1, 2, 6, 7, 8] (by kernel_rfl)).cast (by kernel_rfl), hO.to, (by omega), trivial⟩
    ·
      replace hA := hA.bool (f := fun z => [(0, i64 a), (1, i64 b), (2, i64 11), (6, i64 0), (7, i64 (bsum fXor a b j)), (8, i64 ((j : Nat) : Int)), (12, i64 ((j : Nat) : Int)), (13, .bool z)]) h1
      have h1p := of_decide_eq_false h1
      refine cF hA ?_
      refine wp_exit ?_
      refine then_exit ?_
      refine then_exit ?_
      refine inBlock_exit ?_
      refine then_normal ?_
      refine sC (e' := [(6, i64 (bsum fXor a b j))]) 2 hA [] c0 ?_
      clear hA fr; intro fr hA
      refine wp_ret ?_
      refine cR (cs := [none]) (us := [i64 (bsum fXor a b j)]) hA [] trivial ?_
      have hF := hO.only; clear hA hO
      obtain rfl : j = 32 := by omega
      exact ⟨rfl, hF⟩

end Go.Proofs.YtcaokjdihhbkjaaDoor
