/- The layer cpu: walks of the law CpuBits. -/
import Derived.Test.YtcaokjdihhbkjaaDoorBits
set_option linter.unusedVariables false
set_option linter.unusedSimpArgs false
set_option maxRecDepth 10000
namespace Go.Proofs.YtcaokjdihhbkjaaDoor
open Go Go.RowKit Go.Proofs.Sx

theorem rgs2_ok {a b : Int} (ha : inK .i32 a) (hb : inK .i32 b) : RegsOk (rgs [0, a, b]) := rgs_ok fun x hx => by
  simp only [List.mem_cons, List.not_mem_nil, or_false] at hx
  rcases hx with rfl | rfl | rfl
  · decide
  · exact ha
  · exact hb

theorem law_bits (a b : Int) (w : World) (hT : Tab w) (ha : inK .i32 a) (hb : inK .i32 b) :
    Calls Tryd.prog 7 #[i32 a, i32 b] w fun e w' => e = .returned (.bool true) ∧ Only none' w w' := by
  refine c_enter (args := [i32 a, i32 b]) (m := 100) (n := 102) Tryd.func7 rfl (by kernel_rfl) (by kernel_rfl) fun fr hA => ?_
  have hO := Ow.nil Tryd.prog none' w
  have ha1 : -2147483648 ≤ a ∧ a ≤ 2147483647 := ha
  have hb1 : -2147483648 ≤ b ∧ b ≤ 2147483647 := hb
  have rand : -2147483648 ≤ bits .and .i32 a b ∧ bits .and .i32 a b ≤ 2147483647 := bits_inK .and .i32 a b
  have ror : -2147483648 ≤ bits .or .i32 a b ∧ bits .or .i32 a b ≤ 2147483647 := bits_inK .or .i32 a b
  have rxor : -2147483648 ≤ bits .xor .i32 a b ∧ bits .xor .i32 a b ≤ 2147483647 := bits_inK .xor .i32 a b
  have cc0 : 0 ≤ (cond (decide (a < b)) 1 0 : Int) ∧ (cond (decide (a < b)) 1 0 : Int) ≤ 1 := by cases (decide (a < b)) <;> decide
  have cc1 : 0 ≤ (cond (a == b) 1 0 : Int) ∧ (cond (a == b) 1 0 : Int) ≤ 1 := by cases (a == b) <;> decide
  have cc2 : 0 ≤ (cond (decide (b < a)) 1 0 : Int) ∧ (cond (decide (b < a)) 1 0 : Int) ≤ 1 := by cases (decide (b < a)) <;> decide
  refine sC (e' := [(0, i32 a), (1, i32 b), (4, bl false)]) 1 hA [] c0 ?_
  clear hA fr; intro fr hA
  refine wp_seq ?_
  refine sR (l := [0, 1]) ?_
  refine wpOps_cons' (mK (f := 12) (args := []) (d := (some 13)) (v := bl true) hA hO Tryd.func12 (awake_any _ (hT.keep hO.only (fun h => h))) ?_)
  clear hA hO fr; intro fr w1 hA hO
  refine ck (l := [1]) (r := []) (e' := [(0, i32 a), (1, i32 b), (4, bl false), (14, bl false)]) hA [] c0 ?_
  clear hA fr; intro fr hA
  refine end_ops ?_
  refine then_normal ?_
  refine cF hA ?_
  refine wp_skip ?_
  refine then_normal ?_
  refine sR (l := (rg 0 6)) ?_
  refine ck (l := [0, 1, 2, 3]) (r := [4, 5]) (e' := [(0, i32 a), (1, i32 b), (4, bl false), (18, .agg #[i32 0, i32 a, i32 b, i32 0, i32 0, i32 0, i32 0, i32 0, i32 0, i32 0, i32 0, i32 0, i32 0, i32 0, i32 0, i32 0, i64 0])]) hA [] c0 ?_
  clear hA fr; intro fr hA
  refine wpOps_cons' (mN (l := [i32 0, i32 0, i32 0, i32 0, i32 0, i32 0, i32 0, i32 0, i32 0, i32 0, i32 0, i32 0, i32 0, i32 0, i32 0, i32 0, i64 0]) (t := 40) (v := pt) (d := 5) hA hO ?_)
  clear hA hO fr; intro fr w2 b1 hA hO
  refine wpOps_cons' (mS (off := 0) (vc := [i32 0, i32 a, i32 b, i32 0, i32 0, i32 0, i32 0, i32 0, i32 0, i32 0, i32 0, i32 0, i32 0, i32 0, i32 0, i32 0, i64 0]) 0 hA hO ?_)
  clear hO; intro w3 hO
  replace hA := hA.sb (e' := [(0, i32 a), (1, i32 b), (4, bl false), (5, pt b1)])
  refine end_ops ?_
  refine then_normal ?_
  refine sR (l := [0, 1, 2]) ?_
  refine ck (l := [0]) (r := [1, 2]) (e' := [(0, i32 a), (1, i32 b), (4, bl false), (5, pt b1), (19, .agg #[i64 9, i64 10, i64 11, i64 12, i64 13, i64 12])]) hA [] c0 ?_
  clear hA fr; intro fr hA
  refine wpOps_cons' (mN (l := [i64 0, i64 0, i64 0, i64 0, i64 0, i64 0]) (t := 50) (v := pt) (d := 6) hA hO ?_)
  clear hA hO fr; intro fr w4 b2 hA hO
  refine wpOps_cons' (mS (off := 0) (vc := [i64 9, i64 10, i64 11, i64 12, i64 13, i64 12]) 0 hA hO ?_)
  clear hO; intro w5 hO
  replace hA := hA.sb (e' := [(0, i32 a), (1, i32 b), (4, bl false), (5, pt b1), (6, pt b2)])
  refine end_ops ?_
  refine then_normal ?_
  refine sR (l := [0]) ?_
  refine wpOps_cons' (mN (l := [i64 0, i64 0, i64 0, i64 0, i64 0, i64 0]) (t := 50) (v := pt) (d := 7) hA hO ?_)
  clear hA hO fr; intro fr w6 b3 hA hO
  refine end_ops ?_
  refine then_normal ?_
  refine wp_seq ?_
  refine sC (e' := [(0, i32 a), (1, i32 b), (4, bl false), (5, pt b1), (6, pt b2), (7, pt b3), (8, i64 0)]) 1 hA [] c0 ?_
  clear hA fr; intro fr hA
  refine wp_block ?_
  refine c_loop (fun mm fr W => (mm = 6 ∧ Holds 102 [] fr [(0, i32 a), (1, i32 b), (4, bl false), (5, pt b1), (6, pt b2), (7, pt b3), (8, i64 0)] ∧ Ow Tryd.prog none' w W [(b3, 50, [i64 0, i64 0, i64 0, i64 0, i64 0, i64 0]), (b2, 50, [i64 9, i64 10, i64 11, i64 12, i64 13, i64 12]), (b1, 40, [i32 0, i32 a, i32 b, i32 0, i32 0, i32 0, i32 0, i32 0, i32 0, i32 0, i32 0, i32 0, i32 0, i32 0, i32 0, i32 0, i64 0])]) ∨ (mm = 5 ∧ Holds 102 [] fr [(0, i32 a), (1, i32 b), (4, bl false), (5, pt b1), (6, pt b2), (7, pt b3), (8, i64 1)] ∧ Ow Tryd.prog none' w W [(b3, 50, [i64 (bits .and .i32 a b), i64 0, i64 0, i64 0, i64 0, i64 0]), (b2, 50, [i64 9, i64 10, i64 11, i64 12, i64 13, i64 12]), (b1, 40, [i32 0, i32 a, i32 b, i32 0, i32 0, i32 0, i32 0, i32 0, i32 0, i32 0, i32 0, i32 0, i32 0, i32 0, i32 0, i32 0, i64 0])]) ∨ (mm = 4 ∧ Holds 102 [] fr [(0, i32 a), (1, i32 b), (4, bl false), (5, pt b1), (6, pt b2), (7, pt b3), (8, i64 2)] ∧ Ow Tryd.prog none' w W [(b3, 50, [i64 (bits .and .i32 a b), i64 (bits .or .i32 a b), i64 0, i64 0, i64 0, i64 0]), (b2, 50, [i64 9, i64 10, i64 11, i64 12, i64 13, i64 12]), (b1, 40, [i32 0, i32 a, i32 b, i32 0, i32 0, i32 0, i32 0, i32 0, i32 0, i32 0, i32 0, i32 0, i32 0, i32 0, i32 0, i32 0, i64 0])]) ∨ (mm = 3 ∧ Holds 102 [] fr [(0, i32 a), (1, i32 b), (4, bl false), (5, pt b1), (6, pt b2), (7, pt b3), (8, i64 3)] ∧ Ow Tryd.prog none' w W [(b3, 50, [i64 (bits .and .i32 a b), i64 (bits .or .i32 a b), i64 (bits .xor .i32 a b), i64 0, i64 0, i64 0]), (b2, 50, [i64 9, i64 10, i64 11, i64 12, i64 13, i64 12]), (b1, 40, [i32 0, i32 a, i32 b, i32 0, i32 0, i32 0, i32 0, i32 0, i32 0, i32 0, i32 0, i32 0, i32 0, i32 0, i32 0, i32 0, i64 0])]) ∨ (mm = 2 ∧ Holds 102 [] fr [(0, i32 a), (1, i32 b), (4, bl false), (5, pt b1), (6, pt b2), (7, pt b3), (8, i64 4)] ∧ Ow Tryd.prog none' w W [(b3, 50, [i64 (bits .and .i32 a b), i64 (bits .or .i32 a b), i64 (bits .xor .i32 a b), i64 (cond (decide (a < b)) 1 0 : Int), i64 0, i64 0]), (b2, 50, [i64 9, i64 10, i64 11, i64 12, i64 13, i64 12]), (b1, 40, [i32 0, i32 a, i32 b, i32 0, i32 0, i32 0, i32 0, i32 0, i32 0, i32 0, i32 0, i32 0, i32 0, i32 0, i32 0, i32 0, i64 0])]) ∨ (mm = 1 ∧ Holds 102 [] fr [(0, i32 a), (1, i32 b), (4, bl false), (5, pt b1), (6, pt b2), (7, pt b3), (8, i64 5)] ∧ Ow Tryd.prog none' w W [(b3, 50, [i64 (bits .and .i32 a b), i64 (bits .or .i32 a b), i64 (bits .xor .i32 a b), i64 (cond (decide (a < b)) 1 0 : Int), i64 (cond (a == b) 1 0 : Int), i64 0]), (b2, 50, [i64 9, i64 10, i64 11, i64 12, i64 13, i64 12]), (b1, 40, [i32 0, i32 a, i32 b, i32 0, i32 0, i32 0, i32 0, i32 0, i32 0, i32 0, i32 0, i32 0, i32 0, i32 0, i32 0, i32 0, i64 0])]) ∨ (mm = 0 ∧ Holds 102 [] fr [(0, i32 a), (1, i32 b), (4, bl false), (5, pt b1), (6, pt b2), (7, pt b3), (8, i64 6)] ∧ Ow Tryd.prog none' w W [(b3, 50, [i64 (bits .and .i32 a b), i64 (bits .or .i32 a b), i64 (bits .xor .i32 a b), i64 (cond (decide (a < b)) 1 0 : Int), i64 (cond (a == b) 1 0 : Int), i64 (cond (decide (b < a)) 1 0 : Int)]), (b2, 50, [i64 9, i64 10, i64 11, i64 12, i64 13, i64 12]), (b1, 40, [i32 0, i32 a, i32 b, i32 0, i32 0, i32 0, i32 0, i32 0, i32 0, i32 0, i32 0, i32 0, i32 0, i32 0, i32 0, i32 0, i64 0])])) ?_ ?_
  · exact ⟨_, (.inl ⟨rfl, hA.sb, hO.to⟩)⟩
  · rintro _ fr w7 (⟨rfl, hA, hO⟩ | ⟨rfl, hA, hO⟩ | ⟨rfl, hA, hO⟩ | ⟨rfl, hA, hO⟩ | ⟨rfl, hA, hO⟩ | ⟨rfl, hA, hO⟩ | ⟨rfl, hA, hO⟩)
    ·
      refine wp_seq ?_
      refine sC (e' := [(0, i32 a), (1, i32 b), (4, bl false), (5, pt b1), (6, pt b2), (7, pt b3), (8, i64 0), (21, bl true)]) 2 hA [] c0 ?_
      clear hA fr; intro fr hA
      refine cT hA ?_
      refine wp_skip ?_
      refine then_normal ?_
      refine wp_seq ?_
      refine wp_block ?_
      refine sR (l := (rg 0 6)) ?_
      refine ck (l := [0, 1, 2, 3]) (r := [4, 5]) (e' := [(0, i32 a), (1, i32 b), (4, bl false), (5, pt b1), (6, pt b2), (7, pt b3), (8, i64 0), (27, u8 9)]) hA [i64 9, bl false] (cc (⟨by omega, by omega⟩ : (0 : Int) ≤ 0 ∧ 0 < ((6 : Nat) : Int)) (cc (hO.l1 1 0 3 (i64 9)) c0)) ?_
      clear hA fr; intro fr hA
      refine wpOps_cons' (mN (l := [u8 9, u8 3, u8 1, u8 2]) (t := 5) (v := fun b => .slice (some ⟨b, 0, none⟩) 4 4) (d := 28) hA hO ?_)
      clear hA hO fr; intro fr w8 b4 hA hO
      replace hA := hA.sb (e' := [(0, i32 a), (1, i32 b), (4, bl false), (5, pt b1), (6, pt b2), (7, pt b3), (8, i64 0), (28, .slice (some ⟨b4, 0, none⟩) 4 4)])
      refine ck (l := [5]) (r := []) (e' := [(0, i32 a), (1, i32 b), (4, bl false), (5, pt b1), (6, pt b2), (7, pt b3), (8, i64 0), (9, .slice (some ⟨b4, 0, none⟩) 4 4)]) hA [] c0 ?_
      clear hA fr; intro fr hA
      refine end_ops ?_
      refine then_normal ?_
      refine wp_seq ?_
      refine sC (e' := [(0, i32 a), (1, i32 b), (4, bl false), (5, pt b1), (6, pt b2), (7, pt b3), (8, i64 0), (9, .slice (some ⟨b4, 0, none⟩) 4 4), (30, bl false)]) 2 hA [] c0 ?_
      clear hA fr; intro fr hA
      refine cF hA ?_
      refine wp_skip ?_
      refine then_normal ?_
      refine sR (l := (rg 0 12)) ?_
      refine ck (l := [0, 1]) (r := (rg 2 10)) (e' := [(0, i32 a), (1, i32 b), (4, bl false), (5, pt b1), (6, pt b2), (7, pt b3), (8, i64 0), (37, .agg #[i32 0, i32 a, i32 b, i32 0, i32 0, i32 0, i32 0, i32 0, i32 0, i32 0, i32 0, i32 0, i32 0, i32 0, i32 0, i32 0, i64 0]), (38, .slice (some ⟨b4, 0, none⟩) 4 4)]) hA [.agg #[i32 0, i32 a, i32 b, i32 0, i32 0, i32 0, i32 0, i32 0, i32 0, i32 0, i32 0, i32 0, i32 0, i32 0, i32 0, i32 0, i64 0]] (cc (hO.ln 3 0 40 [i32 0, i32 a, i32 b, i32 0, i32 0, i32 0, i32 0, i32 0, i32 0, i32 0, i32 0, i32 0, i32 0, i32 0, i32 0, i32 0, i64 0]) c0) ?_
      clear hA fr; intro fr hA
      refine wpOps_cons' (mK (f := 18) (args := [.agg (List.toArray (regsL (rgs [0, a, b]) 0)), .slice (some ⟨b4, 0, none⟩) 4 4, i64 0]) (d := (some 39)) (v := .tuple #[.agg #[i32 0, i32 a, i32 b, i32 (bits .and .i32 a b), i32 0, i32 0, i32 0, i32 0, i32 0, i32 0, i32 0, i32 0, i32 0, i32 0, i32 0, i32 0, i64 4], i64 0, .agg #[i64 0, i64 0, i64 0, i64 0, i64 0, i64 0, i64 0]]) hA hO Tryd.func18 (rs (exec_any (rgs [0, a, b]) 0 0 _ [9, 3, 1, 2] _ (hT.keep hO.only (fun h => h)) (rgs2_ok ha hb) (by decide) (by decide) ((hO.b 0).sl (xs := [9, 3, 1, 2]) (U8s.cons (inK_u8 (by decide) (by decide)) (U8s.cons (inK_u8 (by decide) (by decide)) (U8s.cons (inK_u8 (by decide) (by decide)) (U8s.cons (inK_u8 (by decide) (by decide)) U8s.nil)))) rfl (by kernel_rfl)))) ?_)
      clear hA hO fr; intro fr w9 hA hO
      replace hA := hA.sb (e' := [(0, i32 a), (1, i32 b), (4, bl false), (5, pt b1), (6, pt b2), (7, pt b3), (8, i64 0), (39, .tuple #[.agg #[i32 0, i32 a, i32 b, i32 (bits .and .i32 a b), i32 0, i32 0, i32 0, i32 0, i32 0, i32 0, i32 0, i32 0, i32 0, i32 0, i32 0, i32 0, i64 4], i64 0, .agg #[i64 0, i64 0, i64 0, i64 0, i64 0, i64 0, i64 0]])])
      refine ck (l := [3, 4, 5, 6]) (r := (rg 7 5)) (e' := [(0, i32 a), (1, i32 b), (4, bl false), (5, pt b1), (6, pt b2), (7, pt b3), (8, i64 0), (40, .agg #[i32 0, i32 a, i32 b, i32 (bits .and .i32 a b), i32 0, i32 0, i32 0, i32 0, i32 0, i32 0, i32 0, i32 0, i32 0, i32 0, i32 0, i32 0, i64 4]), (41, i64 0), (42, .agg #[i64 0, i64 0, i64 0, i64 0, i64 0, i64 0, i64 0])]) hA [] c0 ?_
      clear hA fr; intro fr hA
      refine wpOps_cons' (mN (l := [i32 0, i32 0, i32 0, i32 0, i32 0, i32 0, i32 0, i32 0, i32 0, i32 0, i32 0, i32 0, i32 0, i32 0, i32 0, i32 0, i64 0]) (t := 40) (v := pt) (d := 10) hA hO ?_)
      clear hA hO fr; intro fr w10 b5 hA hO
      refine wpOps_cons' (mN (l := [i64 0, i64 0, i64 0, i64 0, i64 0, i64 0, i64 0]) (t := 43) (v := pt) (d := 12) hA hO ?_)
      clear hA hO fr; intro fr w11 b6 hA hO
      refine wpOps_cons' (mS (off := 0) (vc := [i32 0, i32 a, i32 b, i32 (bits .and .i32 a b), i32 0, i32 0, i32 0, i32 0, i32 0, i32 0, i32 0, i32 0, i32 0, i32 0, i32 0, i32 0, i64 4]) 1 hA hO ?_)
      clear hO; intro w12 hO
      replace hA := hA.sb (e' := [(0, i32 a), (1, i32 b), (4, bl false), (5, pt b1), (6, pt b2), (7, pt b3), (8, i64 0), (10, pt b5), (12, pt b6), (41, i64 0), (42, .agg #[i64 0, i64 0, i64 0, i64 0, i64 0, i64 0, i64 0])])
      refine ck (l := [10]) (r := [11]) (e' := [(0, i32 a), (1, i32 b), (4, bl false), (5, pt b1), (6, pt b2), (7, pt b3), (8, i64 0), (10, pt b5), (12, pt b6), (42, .agg #[i64 0, i64 0, i64 0, i64 0, i64 0, i64 0, i64 0])]) hA [] c0 ?_
      clear hA fr; intro fr hA
      refine wpOps_cons' (mS (off := 0) (vc := [i64 0, i64 0, i64 0, i64 0, i64 0, i64 0, i64 0]) 0 hA hO ?_)
      clear hO; intro w13 hO
      replace hA := hA.sb (e' := [(0, i32 a), (1, i32 b), (4, bl false), (5, pt b1), (6, pt b2), (7, pt b3), (8, i64 0), (10, pt b5), (12, pt b6)])
      refine end_ops ?_
      refine then_normal ?_
      refine wp_seq ?_
      refine sC (e' := [(0, i32 a), (1, i32 b), (4, bl false), (5, pt b1), (6, pt b2), (7, pt b3), (8, i64 0), (10, pt b5), (45, bl false)]) 3 hA [.agg #[i64 0, i64 0, i64 0, i64 0, i64 0, i64 0, i64 0], bl true] (cc (hO.ln 0 0 43 [i64 0, i64 0, i64 0, i64 0, i64 0, i64 0, i64 0]) (cc ((eqG_of (by kernel_rfl) (by kernel_rfl)) : EqG Tryd.prog 43 (.agg #[i64 0, i64 0, i64 0, i64 0, i64 0, i64 0, i64 0]) (.agg #[i64 0, i64 0, i64 0, i64 0, i64 0, i64 0, i64 0]) true) c0)) ?_
      clear hA fr; intro fr hA
      refine cF hA ?_
      refine wp_skip ?_
      refine then_normal ?_
      refine rR (l := (rg 0 7)) ?_
      refine ck (l := (rg 0 6)) (r := [6]) (e' := [(0, i32 a), (1, i32 b), (4, bl false), (5, pt b1), (6, pt b2), (7, pt b3), (8, i64 0), (50, i64 (bits .and .i32 a b)), (51, pt b3)]) hA [i32 (bits .and .i32 a b), bl true] (cc (⟨by omega, by omega⟩ : (0 : Int) ≤ 3 ∧ 3 < ((16 : Nat) : Int)) (cc (hO.l1 1 3 21 (i32 (bits .and .i32 a b))) (cc ((inK_up (by kernel_rfl) (bits_inK _ _ _ _)) : inK .i64 (bits .and .i32 a b)) (cc (⟨by omega, by omega⟩ : (0 : Int) ≤ 0 ∧ 0 < ((6 : Nat) : Int)) c0)))) ?_
      clear hA fr; intro fr hA
      refine wpOps_cons' (mS (off := 0) (vc := [i64 (bits .and .i32 a b)]) 3 hA hO ?_)
      clear hO; intro w14 hO
      replace hA := hA.sb (e' := [(0, i32 a), (1, i32 b), (4, bl false), (5, pt b1), (6, pt b2), (7, pt b3), (8, i64 0)])
      refine end_ops ?_
      refine inBlock_normal ?_
      refine then_normal ?_
      refine rC (e' := [(0, i32 a), (1, i32 b), (4, bl false), (5, pt b1), (6, pt b2), (7, pt b3), (8, i64 1)]) 3 hA [bl false] c0 ?_
      clear hA fr; intro fr hA
      refine then_normal ?_
      exact ⟨5, by decide, (.inr (.inl ⟨rfl, hA.sb, (hO.sub [3, 4, 5])⟩))⟩
    ·
      refine wp_seq ?_
      refine sC (e' := [(0, i32 a), (1, i32 b), (4, bl false), (5, pt b1), (6, pt b2), (7, pt b3), (8, i64 1), (21, bl true)]) 2 hA [] c0 ?_
      clear hA fr; intro fr hA
      refine cT hA ?_
      refine wp_skip ?_
      refine then_normal ?_
      refine wp_seq ?_
      refine wp_block ?_
      refine sR (l := (rg 0 6)) ?_
      refine ck (l := [0, 1, 2, 3]) (r := [4, 5]) (e' := [(0, i32 a), (1, i32 b), (4, bl false), (5, pt b1), (6, pt b2), (7, pt b3), (8, i64 1), (27, u8 10)]) hA [i64 10, bl false] (cc (⟨by omega, by omega⟩ : (0 : Int) ≤ 1 ∧ 1 < ((6 : Nat) : Int)) (cc (hO.l1 1 1 3 (i64 10)) c0)) ?_
      clear hA fr; intro fr hA
      refine wpOps_cons' (mN (l := [u8 10, u8 3, u8 1, u8 2]) (t := 5) (v := fun b => .slice (some ⟨b, 0, none⟩) 4 4) (d := 28) hA hO ?_)
      clear hA hO fr; intro fr w15 b7 hA hO
      replace hA := hA.sb (e' := [(0, i32 a), (1, i32 b), (4, bl false), (5, pt b1), (6, pt b2), (7, pt b3), (8, i64 1), (28, .slice (some ⟨b7, 0, none⟩) 4 4)])
      refine ck (l := [5]) (r := []) (e' := [(0, i32 a), (1, i32 b), (4, bl false), (5, pt b1), (6, pt b2), (7, pt b3), (8, i64 1), (9, .slice (some ⟨b7, 0, none⟩) 4 4)]) hA [] c0 ?_
      clear hA fr; intro fr hA
      refine end_ops ?_
      refine then_normal ?_
      refine wp_seq ?_
      refine sC (e' := [(0, i32 a), (1, i32 b), (4, bl false), (5, pt b1), (6, pt b2), (7, pt b3), (8, i64 1), (9, .slice (some ⟨b7, 0, none⟩) 4 4), (30, bl false)]) 2 hA [] c0 ?_
      clear hA fr; intro fr hA
      refine cF hA ?_
      refine wp_skip ?_
      refine then_normal ?_
      refine sR (l := (rg 0 12)) ?_
      refine ck (l := [0, 1]) (r := (rg 2 10)) (e' := [(0, i32 a), (1, i32 b), (4, bl false), (5, pt b1), (6, pt b2), (7, pt b3), (8, i64 1), (37, .agg #[i32 0, i32 a, i32 b, i32 0, i32 0, i32 0, i32 0, i32 0, i32 0, i32 0, i32 0, i32 0, i32 0, i32 0, i32 0, i32 0, i64 0]), (38, .slice (some ⟨b7, 0, none⟩) 4 4)]) hA [.agg #[i32 0, i32 a, i32 b, i32 0, i32 0, i32 0, i32 0, i32 0, i32 0, i32 0, i32 0, i32 0, i32 0, i32 0, i32 0, i32 0, i64 0]] (cc (hO.ln 3 0 40 [i32 0, i32 a, i32 b, i32 0, i32 0, i32 0, i32 0, i32 0, i32 0, i32 0, i32 0, i32 0, i32 0, i32 0, i32 0, i32 0, i64 0]) c0) ?_
      clear hA fr; intro fr hA
      refine wpOps_cons' (mK (f := 18) (args := [.agg (List.toArray (regsL (rgs [0, a, b]) 0)), .slice (some ⟨b7, 0, none⟩) 4 4, i64 0]) (d := (some 39)) (v := .tuple #[.agg #[i32 0, i32 a, i32 b, i32 (bits .or .i32 a b), i32 0, i32 0, i32 0, i32 0, i32 0, i32 0, i32 0, i32 0, i32 0, i32 0, i32 0, i32 0, i64 4], i64 0, .agg #[i64 0, i64 0, i64 0, i64 0, i64 0, i64 0, i64 0]]) hA hO Tryd.func18 (rs (exec_any (rgs [0, a, b]) 0 0 _ [10, 3, 1, 2] _ (hT.keep hO.only (fun h => h)) (rgs2_ok ha hb) (by decide) (by decide) ((hO.b 0).sl (xs := [10, 3, 1, 2]) (U8s.cons (inK_u8 (by decide) (by decide)) (U8s.cons (inK_u8 (by decide) (by decide)) (U8s.cons (inK_u8 (by decide) (by decide)) (U8s.cons (inK_u8 (by decide) (by decide)) U8s.nil)))) rfl (by kernel_rfl)))) ?_)
      clear hA hO fr; intro fr w16 hA hO
      replace hA := hA.sb (e' := [(0, i32 a), (1, i32 b), (4, bl false), (5, pt b1), (6, pt b2), (7, pt b3), (8, i64 1), (39, .tuple #[.agg #[i32 0, i32 a, i32 b, i32 (bits .or .i32 a b), i32 0, i32 0, i32 0, i32 0, i32 0, i32 0, i32 0, i32 0, i32 0, i32 0, i32 0, i32 0, i64 4], i64 0, .agg #[i64 0, i64 0, i64 0, i64 0, i64 0, i64 0, i64 0]])])
      refine ck (l := [3, 4, 5, 6]) (r := (rg 7 5)) (e' := [(0, i32 a), (1, i32 b), (4, bl false), (5, pt b1), (6, pt b2), (7, pt b3), (8, i64 1), (40, .agg #[i32 0, i32 a, i32 b, i32 (bits .or .i32 a b), i32 0, i32 0, i32 0, i32 0, i32 0, i32 0, i32 0, i32 0, i32 0, i32 0, i32 0, i32 0, i64 4]), (41, i64 0), (42, .agg #[i64 0, i64 0, i64 0, i64 0, i64 0, i64 0, i64 0])]) hA [] c0 ?_
      clear hA fr; intro fr hA
      refine wpOps_cons' (mN (l := [i32 0, i32 0, i32 0, i32 0, i32 0, i32 0, i32 0, i32 0, i32 0, i32 0, i32 0, i32 0, i32 0, i32 0, i32 0, i32 0, i64 0]) (t := 40) (v := pt) (d := 10) hA hO ?_)
      clear hA hO fr; intro fr w17 b8 hA hO
      refine wpOps_cons' (mN (l := [i64 0, i64 0, i64 0, i64 0, i64 0, i64 0, i64 0]) (t := 43) (v := pt) (d := 12) hA hO ?_)
      clear hA hO fr; intro fr w18 b9 hA hO
      refine wpOps_cons' (mS (off := 0) (vc := [i32 0, i32 a, i32 b, i32 (bits .or .i32 a b), i32 0, i32 0, i32 0, i32 0, i32 0, i32 0, i32 0, i32 0, i32 0, i32 0, i32 0, i32 0, i64 4]) 1 hA hO ?_)
      clear hO; intro w19 hO
      replace hA := hA.sb (e' := [(0, i32 a), (1, i32 b), (4, bl false), (5, pt b1), (6, pt b2), (7, pt b3), (8, i64 1), (10, pt b8), (12, pt b9), (41, i64 0), (42, .agg #[i64 0, i64 0, i64 0, i64 0, i64 0, i64 0, i64 0])])
      refine ck (l := [10]) (r := [11]) (e' := [(0, i32 a), (1, i32 b), (4, bl false), (5, pt b1), (6, pt b2), (7, pt b3), (8, i64 1), (10, pt b8), (12, pt b9), (42, .agg #[i64 0, i64 0, i64 0, i64 0, i64 0, i64 0, i64 0])]) hA [] c0 ?_
      clear hA fr; intro fr hA
      refine wpOps_cons' (mS (off := 0) (vc := [i64 0, i64 0, i64 0, i64 0, i64 0, i64 0, i64 0]) 0 hA hO ?_)
      clear hO; intro w20 hO
      replace hA := hA.sb (e' := [(0, i32 a), (1, i32 b), (4, bl false), (5, pt b1), (6, pt b2), (7, pt b3), (8, i64 1), (10, pt b8), (12, pt b9)])
      refine end_ops ?_
      refine then_normal ?_
      refine wp_seq ?_
      refine sC (e' := [(0, i32 a), (1, i32 b), (4, bl false), (5, pt b1), (6, pt b2), (7, pt b3), (8, i64 1), (10, pt b8), (45, bl false)]) 3 hA [.agg #[i64 0, i64 0, i64 0, i64 0, i64 0, i64 0, i64 0], bl true] (cc (hO.ln 0 0 43 [i64 0, i64 0, i64 0, i64 0, i64 0, i64 0, i64 0]) (cc ((eqG_of (by kernel_rfl) (by kernel_rfl)) : EqG Tryd.prog 43 (.agg #[i64 0, i64 0, i64 0, i64 0, i64 0, i64 0, i64 0]) (.agg #[i64 0, i64 0, i64 0, i64 0, i64 0, i64 0, i64 0]) true) c0)) ?_
      clear hA fr; intro fr hA
      refine cF hA ?_
      refine wp_skip ?_
      refine then_normal ?_
      refine rR (l := (rg 0 7)) ?_
      refine ck (l := (rg 0 6)) (r := [6]) (e' := [(0, i32 a), (1, i32 b), (4, bl false), (5, pt b1), (6, pt b2), (7, pt b3), (8, i64 1), (50, i64 (bits .or .i32 a b)), (51, pf b3 1)]) hA [i32 (bits .or .i32 a b), bl true] (cc (⟨by omega, by omega⟩ : (0 : Int) ≤ 3 ∧ 3 < ((16 : Nat) : Int)) (cc (hO.l1 1 3 21 (i32 (bits .or .i32 a b))) (cc ((inK_up (by kernel_rfl) (bits_inK _ _ _ _)) : inK .i64 (bits .or .i32 a b)) (cc (⟨by omega, by omega⟩ : (0 : Int) ≤ 1 ∧ 1 < ((6 : Nat) : Int)) c0)))) ?_
      clear hA fr; intro fr hA
      refine wpOps_cons' (mS (off := 1) (vc := [i64 (bits .or .i32 a b)]) 3 hA hO ?_)
      clear hO; intro w21 hO
      replace hA := hA.sb (e' := [(0, i32 a), (1, i32 b), (4, bl false), (5, pt b1), (6, pt b2), (7, pt b3), (8, i64 1)])
      refine end_ops ?_
      refine inBlock_normal ?_
      refine then_normal ?_
      refine rC (e' := [(0, i32 a), (1, i32 b), (4, bl false), (5, pt b1), (6, pt b2), (7, pt b3), (8, i64 2)]) 3 hA [bl false] c0 ?_
      clear hA fr; intro fr hA
      refine then_normal ?_
      exact ⟨4, by decide, (.inr (.inr (.inl ⟨rfl, hA.sb, (hO.sub [3, 4, 5])⟩)))⟩
    ·
      refine wp_seq ?_
      refine sC (e' := [(0, i32 a), (1, i32 b), (4, bl false), (5, pt b1), (6, pt b2), (7, pt b3), (8, i64 2), (21, bl true)]) 2 hA [] c0 ?_
      clear hA fr; intro fr hA
      refine cT hA ?_
      refine wp_skip ?_
      refine then_normal ?_
      refine wp_seq ?_
      refine wp_block ?_
      refine sR (l := (rg 0 6)) ?_
      refine ck (l := [0, 1, 2, 3]) (r := [4, 5]) (e' := [(0, i32 a), (1, i32 b), (4, bl false), (5, pt b1), (6, pt b2), (7, pt b3), (8, i64 2), (27, u8 11)]) hA [i64 11, bl false] (cc (⟨by omega, by omega⟩ : (0 : Int) ≤ 2 ∧ 2 < ((6 : Nat) : Int)) (cc (hO.l1 1 2 3 (i64 11)) c0)) ?_
      clear hA fr; intro fr hA
      refine wpOps_cons' (mN (l := [u8 11, u8 3, u8 1, u8 2]) (t := 5) (v := fun b => .slice (some ⟨b, 0, none⟩) 4 4) (d := 28) hA hO ?_)
      clear hA hO fr; intro fr w22 b10 hA hO
      replace hA := hA.sb (e' := [(0, i32 a), (1, i32 b), (4, bl false), (5, pt b1), (6, pt b2), (7, pt b3), (8, i64 2), (28, .slice (some ⟨b10, 0, none⟩) 4 4)])
      refine ck (l := [5]) (r := []) (e' := [(0, i32 a), (1, i32 b), (4, bl false), (5, pt b1), (6, pt b2), (7, pt b3), (8, i64 2), (9, .slice (some ⟨b10, 0, none⟩) 4 4)]) hA [] c0 ?_
      clear hA fr; intro fr hA
      refine end_ops ?_
      refine then_normal ?_
      refine wp_seq ?_
      refine sC (e' := [(0, i32 a), (1, i32 b), (4, bl false), (5, pt b1), (6, pt b2), (7, pt b3), (8, i64 2), (9, .slice (some ⟨b10, 0, none⟩) 4 4), (30, bl false)]) 2 hA [] c0 ?_
      clear hA fr; intro fr hA
      refine cF hA ?_
      refine wp_skip ?_
      refine then_normal ?_
      refine sR (l := (rg 0 12)) ?_
      refine ck (l := [0, 1]) (r := (rg 2 10)) (e' := [(0, i32 a), (1, i32 b), (4, bl false), (5, pt b1), (6, pt b2), (7, pt b3), (8, i64 2), (37, .agg #[i32 0, i32 a, i32 b, i32 0, i32 0, i32 0, i32 0, i32 0, i32 0, i32 0, i32 0, i32 0, i32 0, i32 0, i32 0, i32 0, i64 0]), (38, .slice (some ⟨b10, 0, none⟩) 4 4)]) hA [.agg #[i32 0, i32 a, i32 b, i32 0, i32 0, i32 0, i32 0, i32 0, i32 0, i32 0, i32 0, i32 0, i32 0, i32 0, i32 0, i32 0, i64 0]] (cc (hO.ln 3 0 40 [i32 0, i32 a, i32 b, i32 0, i32 0, i32 0, i32 0, i32 0, i32 0, i32 0, i32 0, i32 0, i32 0, i32 0, i32 0, i32 0, i64 0]) c0) ?_
      clear hA fr; intro fr hA
      refine wpOps_cons' (mK (f := 18) (args := [.agg (List.toArray (regsL (rgs [0, a, b]) 0)), .slice (some ⟨b10, 0, none⟩) 4 4, i64 0]) (d := (some 39)) (v := .tuple #[.agg #[i32 0, i32 a, i32 b, i32 (bits .xor .i32 a b), i32 0, i32 0, i32 0, i32 0, i32 0, i32 0, i32 0, i32 0, i32 0, i32 0, i32 0, i32 0, i64 4], i64 0, .agg #[i64 0, i64 0, i64 0, i64 0, i64 0, i64 0, i64 0]]) hA hO Tryd.func18 (rs (exec_any (rgs [0, a, b]) 0 0 _ [11, 3, 1, 2] _ (hT.keep hO.only (fun h => h)) (rgs2_ok ha hb) (by decide) (by decide) ((hO.b 0).sl (xs := [11, 3, 1, 2]) (U8s.cons (inK_u8 (by decide) (by decide)) (U8s.cons (inK_u8 (by decide) (by decide)) (U8s.cons (inK_u8 (by decide) (by decide)) (U8s.cons (inK_u8 (by decide) (by decide)) U8s.nil)))) rfl (by kernel_rfl)))) ?_)
      clear hA hO fr; intro fr w23 hA hO
      replace hA := hA.sb (e' := [(0, i32 a), (1, i32 b), (4, bl false), (5, pt b1), (6, pt b2), (7, pt b3), (8, i64 2), (39, .tuple #[.agg #[i32 0, i32 a, i32 b, i32 (bits .xor .i32 a b), i32 0, i32 0, i32 0, i32 0, i32 0, i32 0, i32 0, i32 0, i32 0, i32 0, i32 0, i32 0, i64 4], i64 0, .agg #[i64 0, i64 0, i64 0, i64 0, i64 0, i64 0, i64 0]])])
      refine ck (l := [3, 4, 5, 6]) (r := (rg 7 5)) (e' := [(0, i32 a), (1, i32 b), (4, bl false), (5, pt b1), (6, pt b2), (7, pt b3), (8, i64 2), (40, .agg #[i32 0, i32 a, i32 b, i32 (bits .xor .i32 a b), i32 0, i32 0, i32 0, i32 0, i32 0, i32 0, i32 0, i32 0, i32 0, i32 0, i32 0, i32 0, i64 4]), (41, i64 0), (42, .agg #[i64 0, i64 0, i64 0, i64 0, i64 0, i64 0, i64 0])]) hA [] c0 ?_
      clear hA fr; intro fr hA
      refine wpOps_cons' (mN (l := [i32 0, i32 0, i32 0, i32 0, i32 0, i32 0, i32 0, i32 0, i32 0, i32 0, i32 0, i32 0, i32 0, i32 0, i32 0, i32 0, i64 0]) (t := 40) (v := pt) (d := 10) hA hO ?_)
      clear hA hO fr; intro fr w24 b11 hA hO
      refine wpOps_cons' (mN (l := [i64 0, i64 0, i64 0, i64 0, i64 0, i64 0, i64 0]) (t := 43) (v := pt) (d := 12) hA hO ?_)
      clear hA hO fr; intro fr w25 b12 hA hO
      refine wpOps_cons' (mS (off := 0) (vc := [i32 0, i32 a, i32 b, i32 (bits .xor .i32 a b), i32 0, i32 0, i32 0, i32 0, i32 0, i32 0, i32 0, i32 0, i32 0, i32 0, i32 0, i32 0, i64 4]) 1 hA hO ?_)
      clear hO; intro w26 hO
      replace hA := hA.sb (e' := [(0, i32 a), (1, i32 b), (4, bl false), (5, pt b1), (6, pt b2), (7, pt b3), (8, i64 2), (10, pt b11), (12, pt b12), (41, i64 0), (42, .agg #[i64 0, i64 0, i64 0, i64 0, i64 0, i64 0, i64 0])])
      refine ck (l := [10]) (r := [11]) (e' := [(0, i32 a), (1, i32 b), (4, bl false), (5, pt b1), (6, pt b2), (7, pt b3), (8, i64 2), (10, pt b11), (12, pt b12), (42, .agg #[i64 0, i64 0, i64 0, i64 0, i64 0, i64 0, i64 0])]) hA [] c0 ?_
      clear hA fr; intro fr hA
      refine wpOps_cons' (mS (off := 0) (vc := [i64 0, i64 0, i64 0, i64 0, i64 0, i64 0, i64 0]) 0 hA hO ?_)
      clear hO; intro w27 hO
      replace hA := hA.sb (e' := [(0, i32 a), (1, i32 b), (4, bl false), (5, pt b1), (6, pt b2), (7, pt b3), (8, i64 2), (10, pt b11), (12, pt b12)])
      refine end_ops ?_
      refine then_normal ?_
      refine wp_seq ?_
      refine sC (e' := [(0, i32 a), (1, i32 b), (4, bl false), (5, pt b1), (6, pt b2), (7, pt b3), (8, i64 2), (10, pt b11), (45, bl false)]) 3 hA [.agg #[i64 0, i64 0, i64 0, i64 0, i64 0, i64 0, i64 0], bl true] (cc (hO.ln 0 0 43 [i64 0, i64 0, i64 0, i64 0, i64 0, i64 0, i64 0]) (cc ((eqG_of (by kernel_rfl) (by kernel_rfl)) : EqG Tryd.prog 43 (.agg #[i64 0, i64 0, i64 0, i64 0, i64 0, i64 0, i64 0]) (.agg #[i64 0, i64 0, i64 0, i64 0, i64 0, i64 0, i64 0]) true) c0)) ?_
      clear hA fr; intro fr hA
      refine cF hA ?_
      refine wp_skip ?_
      refine then_normal ?_
      refine rR (l := (rg 0 7)) ?_
      refine ck (l := (rg 0 6)) (r := [6]) (e' := [(0, i32 a), (1, i32 b), (4, bl false), (5, pt b1), (6, pt b2), (7, pt b3), (8, i64 2), (50, i64 (bits .xor .i32 a b)), (51, pf b3 2)]) hA [i32 (bits .xor .i32 a b), bl true] (cc (⟨by omega, by omega⟩ : (0 : Int) ≤ 3 ∧ 3 < ((16 : Nat) : Int)) (cc (hO.l1 1 3 21 (i32 (bits .xor .i32 a b))) (cc ((inK_up (by kernel_rfl) (bits_inK _ _ _ _)) : inK .i64 (bits .xor .i32 a b)) (cc (⟨by omega, by omega⟩ : (0 : Int) ≤ 2 ∧ 2 < ((6 : Nat) : Int)) c0)))) ?_
      clear hA fr; intro fr hA
      refine wpOps_cons' (mS (off := 2) (vc := [i64 (bits .xor .i32 a b)]) 3 hA hO ?_)
      clear hO; intro w28 hO
      replace hA := hA.sb (e' := [(0, i32 a), (1, i32 b), (4, bl false), (5, pt b1), (6, pt b2), (7, pt b3), (8, i64 2)])
      refine end_ops ?_
      refine inBlock_normal ?_
      refine then_normal ?_
      refine rC (e' := [(0, i32 a), (1, i32 b), (4, bl false), (5, pt b1), (6, pt b2), (7, pt b3), (8, i64 3)]) 3 hA [bl false] c0 ?_
      clear hA fr; intro fr hA
      refine then_normal ?_
      exact ⟨3, by decide, (.inr (.inr (.inr (.inl ⟨rfl, hA.sb, (hO.sub [3, 4, 5])⟩))))⟩
    ·
      refine wp_seq ?_
      refine sC (e' := [(0, i32 a), (1, i32 b), (4, bl false), (5, pt b1), (6, pt b2), (7, pt b3), (8, i64 3), (21, bl true)]) 2 hA [] c0 ?_
      clear hA fr; intro fr hA
      refine cT hA ?_
      refine wp_skip ?_
      refine then_normal ?_
      refine wp_seq ?_
      refine wp_block ?_
      refine sR (l := (rg 0 6)) ?_
      refine ck (l := [0, 1, 2, 3]) (r := [4, 5]) (e' := [(0, i32 a), (1, i32 b), (4, bl false), (5, pt b1), (6, pt b2), (7, pt b3), (8, i64 3), (27, u8 12)]) hA [i64 12, bl false] (cc (⟨by omega, by omega⟩ : (0 : Int) ≤ 3 ∧ 3 < ((6 : Nat) : Int)) (cc (hO.l1 1 3 3 (i64 12)) c0)) ?_
      clear hA fr; intro fr hA
      refine wpOps_cons' (mN (l := [u8 12, u8 3, u8 1, u8 2]) (t := 5) (v := fun b => .slice (some ⟨b, 0, none⟩) 4 4) (d := 28) hA hO ?_)
      clear hA hO fr; intro fr w29 b13 hA hO
      replace hA := hA.sb (e' := [(0, i32 a), (1, i32 b), (4, bl false), (5, pt b1), (6, pt b2), (7, pt b3), (8, i64 3), (28, .slice (some ⟨b13, 0, none⟩) 4 4)])
      refine ck (l := [5]) (r := []) (e' := [(0, i32 a), (1, i32 b), (4, bl false), (5, pt b1), (6, pt b2), (7, pt b3), (8, i64 3), (9, .slice (some ⟨b13, 0, none⟩) 4 4)]) hA [] c0 ?_
      clear hA fr; intro fr hA
      refine end_ops ?_
      refine then_normal ?_
      refine wp_seq ?_
      refine sC (e' := [(0, i32 a), (1, i32 b), (4, bl false), (5, pt b1), (6, pt b2), (7, pt b3), (8, i64 3), (9, .slice (some ⟨b13, 0, none⟩) 4 4), (30, bl false)]) 2 hA [] c0 ?_
      clear hA fr; intro fr hA
      refine cF hA ?_
      refine wp_skip ?_
      refine then_normal ?_
      refine sR (l := (rg 0 12)) ?_
      refine ck (l := [0, 1]) (r := (rg 2 10)) (e' := [(0, i32 a), (1, i32 b), (4, bl false), (5, pt b1), (6, pt b2), (7, pt b3), (8, i64 3), (37, .agg #[i32 0, i32 a, i32 b, i32 0, i32 0, i32 0, i32 0, i32 0, i32 0, i32 0, i32 0, i32 0, i32 0, i32 0, i32 0, i32 0, i64 0]), (38, .slice (some ⟨b13, 0, none⟩) 4 4)]) hA [.agg #[i32 0, i32 a, i32 b, i32 0, i32 0, i32 0, i32 0, i32 0, i32 0, i32 0, i32 0, i32 0, i32 0, i32 0, i32 0, i32 0, i64 0]] (cc (hO.ln 3 0 40 [i32 0, i32 a, i32 b, i32 0, i32 0, i32 0, i32 0, i32 0, i32 0, i32 0, i32 0, i32 0, i32 0, i32 0, i32 0, i32 0, i64 0]) c0) ?_
      clear hA fr; intro fr hA
      refine wpOps_cons' (mK (f := 18) (args := [.agg (List.toArray (regsL (rgs [0, a, b]) 0)), .slice (some ⟨b13, 0, none⟩) 4 4, i64 0]) (d := (some 39)) (v := .tuple #[.agg #[i32 0, i32 a, i32 b, i32 (cond (decide (a < b)) 1 0 : Int), i32 0, i32 0, i32 0, i32 0, i32 0, i32 0, i32 0, i32 0, i32 0, i32 0, i32 0, i32 0, i64 4], i64 0, .agg #[i64 0, i64 0, i64 0, i64 0, i64 0, i64 0, i64 0]]) hA hO Tryd.func18 (rs (exec_any (rgs [0, a, b]) 0 0 _ [12, 3, 1, 2] _ (hT.keep hO.only (fun h => h)) (rgs2_ok ha hb) (by decide) (by decide) ((hO.b 0).sl (xs := [12, 3, 1, 2]) (U8s.cons (inK_u8 (by decide) (by decide)) (U8s.cons (inK_u8 (by decide) (by decide)) (U8s.cons (inK_u8 (by decide) (by decide)) (U8s.cons (inK_u8 (by decide) (by decide)) U8s.nil)))) rfl (by kernel_rfl)))) ?_)
      clear hA hO fr; intro fr w30 hA hO
      replace hA := hA.sb (e' := [(0, i32 a), (1, i32 b), (4, bl false), (5, pt b1), (6, pt b2), (7, pt b3), (8, i64 3), (39, .tuple #[.agg #[i32 0, i32 a, i32 b, i32 (cond (decide (a < b)) 1 0 : Int), i32 0, i32 0, i32 0, i32 0, i32 0, i32 0, i32 0, i32 0, i32 0, i32 0, i32 0, i32 0, i64 4], i64 0, .agg #[i64 0, i64 0, i64 0, i64 0, i64 0, i64 0, i64 0]])])
      refine ck (l := [3, 4, 5, 6]) (r := (rg 7 5)) (e' := [(0, i32 a), (1, i32 b), (4, bl false), (5, pt b1), (6, pt b2), (7, pt b3), (8, i64 3), (40, .agg #[i32 0, i32 a, i32 b, i32 (cond (decide (a < b)) 1 0 : Int), i32 0, i32 0, i32 0, i32 0, i32 0, i32 0, i32 0, i32 0, i32 0, i32 0, i32 0, i32 0, i64 4]), (41, i64 0), (42, .agg #[i64 0, i64 0, i64 0, i64 0, i64 0, i64 0, i64 0])]) hA [] c0 ?_
      clear hA fr; intro fr hA
      refine wpOps_cons' (mN (l := [i32 0, i32 0, i32 0, i32 0, i32 0, i32 0, i32 0, i32 0, i32 0, i32 0, i32 0, i32 0, i32 0, i32 0, i32 0, i32 0, i64 0]) (t := 40) (v := pt) (d := 10) hA hO ?_)
      clear hA hO fr; intro fr w31 b14 hA hO
      refine wpOps_cons' (mN (l := [i64 0, i64 0, i64 0, i64 0, i64 0, i64 0, i64 0]) (t := 43) (v := pt) (d := 12) hA hO ?_)
      clear hA hO fr; intro fr w32 b15 hA hO
      refine wpOps_cons' (mS (off := 0) (vc := [i32 0, i32 a, i32 b, i32 (cond (decide (a < b)) 1 0 : Int), i32 0, i32 0, i32 0, i32 0, i32 0, i32 0, i32 0, i32 0, i32 0, i32 0, i32 0, i32 0, i64 4]) 1 hA hO ?_)
      clear hO; intro w33 hO
      replace hA := hA.sb (e' := [(0, i32 a), (1, i32 b), (4, bl false), (5, pt b1), (6, pt b2), (7, pt b3), (8, i64 3), (10, pt b14), (12, pt b15), (41, i64 0), (42, .agg #[i64 0, i64 0, i64 0, i64 0, i64 0, i64 0, i64 0])])
      refine ck (l := [10]) (r := [11]) (e' := [(0, i32 a), (1, i32 b), (4, bl false), (5, pt b1), (6, pt b2), (7, pt b3), (8, i64 3), (10, pt b14), (12, pt b15), (42, .agg #[i64 0, i64 0, i64 0, i64 0, i64 0, i64 0, i64 0])]) hA [] c0 ?_
      clear hA fr; intro fr hA
      refine wpOps_cons' (mS (off := 0) (vc := [i64 0, i64 0, i64 0, i64 0, i64 0, i64 0, i64 0]) 0 hA hO ?_)
      clear hO; intro w34 hO
      replace hA := hA.sb (e' := [(0, i32 a), (1, i32 b), (4, bl false), (5, pt b1), (6, pt b2), (7, pt b3), (8, i64 3), (10, pt b14), (12, pt b15)])
      refine end_ops ?_
      refine then_normal ?_
      refine wp_seq ?_
      refine sC (e' := [(0, i32 a), (1, i32 b), (4, bl false), (5, pt b1), (6, pt b2), (7, pt b3), (8, i64 3), (10, pt b14), (45, bl false)]) 3 hA [.agg #[i64 0, i64 0, i64 0, i64 0, i64 0, i64 0, i64 0], bl true] (cc (hO.ln 0 0 43 [i64 0, i64 0, i64 0, i64 0, i64 0, i64 0, i64 0]) (cc ((eqG_of (by kernel_rfl) (by kernel_rfl)) : EqG Tryd.prog 43 (.agg #[i64 0, i64 0, i64 0, i64 0, i64 0, i64 0, i64 0]) (.agg #[i64 0, i64 0, i64 0, i64 0, i64 0, i64 0, i64 0]) true) c0)) ?_
      clear hA fr; intro fr hA
      refine cF hA ?_
      refine wp_skip ?_
      refine then_normal ?_
      refine rR (l := (rg 0 7)) ?_
      refine ck (l := (rg 0 6)) (r := [6]) (e' := [(0, i32 a), (1, i32 b), (4, bl false), (5, pt b1), (6, pt b2), (7, pt b3), (8, i64 3), (50, i64 (cond (decide (a < b)) 1 0 : Int)), (51, pf b3 3)]) hA [i32 (cond (decide (a < b)) 1 0 : Int), bl true] (cc (⟨by omega, by omega⟩ : (0 : Int) ≤ 3 ∧ 3 < ((16 : Nat) : Int)) (cc (hO.l1 1 3 21 (i32 (cond (decide (a < b)) 1 0 : Int))) (cc ((inK_i64 (by omega) (by omega)) : inK .i64 (cond (decide (a < b)) 1 0 : Int)) (cc (⟨by omega, by omega⟩ : (0 : Int) ≤ 3 ∧ 3 < ((6 : Nat) : Int)) c0)))) ?_
      clear hA fr; intro fr hA
      refine wpOps_cons' (mS (off := 3) (vc := [i64 (cond (decide (a < b)) 1 0 : Int)]) 3 hA hO ?_)
      clear hO; intro w35 hO
      replace hA := hA.sb (e' := [(0, i32 a), (1, i32 b), (4, bl false), (5, pt b1), (6, pt b2), (7, pt b3), (8, i64 3)])
      refine end_ops ?_
      refine inBlock_normal ?_
      refine then_normal ?_
      refine rC (e' := [(0, i32 a), (1, i32 b), (4, bl false), (5, pt b1), (6, pt b2), (7, pt b3), (8, i64 4)]) 3 hA [bl false] c0 ?_
      clear hA fr; intro fr hA
      refine then_normal ?_
      exact ⟨2, by decide, (.inr (.inr (.inr (.inr (.inl ⟨rfl, hA.sb, (hO.sub [3, 4, 5])⟩)))))⟩
    ·
      refine wp_seq ?_
      refine sC (e' := [(0, i32 a), (1, i32 b), (4, bl false), (5, pt b1), (6, pt b2), (7, pt b3), (8, i64 4), (21, bl true)]) 2 hA [] c0 ?_
      clear hA fr; intro fr hA
      refine cT hA ?_
      refine wp_skip ?_
      refine then_normal ?_
      refine wp_seq ?_
      refine wp_block ?_
      refine sR (l := (rg 0 6)) ?_
      refine ck (l := [0, 1, 2, 3]) (r := [4, 5]) (e' := [(0, i32 a), (1, i32 b), (4, bl false), (5, pt b1), (6, pt b2), (7, pt b3), (8, i64 4), (27, u8 13)]) hA [i64 13, bl false] (cc (⟨by omega, by omega⟩ : (0 : Int) ≤ 4 ∧ 4 < ((6 : Nat) : Int)) (cc (hO.l1 1 4 3 (i64 13)) c0)) ?_
      clear hA fr; intro fr hA
      refine wpOps_cons' (mN (l := [u8 13, u8 3, u8 1, u8 2]) (t := 5) (v := fun b => .slice (some ⟨b, 0, none⟩) 4 4) (d := 28) hA hO ?_)
      clear hA hO fr; intro fr w36 b16 hA hO
      replace hA := hA.sb (e' := [(0, i32 a), (1, i32 b), (4, bl false), (5, pt b1), (6, pt b2), (7, pt b3), (8, i64 4), (28, .slice (some ⟨b16, 0, none⟩) 4 4)])
      refine ck (l := [5]) (r := []) (e' := [(0, i32 a), (1, i32 b), (4, bl false), (5, pt b1), (6, pt b2), (7, pt b3), (8, i64 4), (9, .slice (some ⟨b16, 0, none⟩) 4 4)]) hA [] c0 ?_
      clear hA fr; intro fr hA
      refine end_ops ?_
      refine then_normal ?_
      refine wp_seq ?_
      refine sC (e' := [(0, i32 a), (1, i32 b), (4, bl false), (5, pt b1), (6, pt b2), (7, pt b3), (8, i64 4), (9, .slice (some ⟨b16, 0, none⟩) 4 4), (30, bl false)]) 2 hA [] c0 ?_
      clear hA fr; intro fr hA
      refine cF hA ?_
      refine wp_skip ?_
      refine then_normal ?_
      refine sR (l := (rg 0 12)) ?_
      refine ck (l := [0, 1]) (r := (rg 2 10)) (e' := [(0, i32 a), (1, i32 b), (4, bl false), (5, pt b1), (6, pt b2), (7, pt b3), (8, i64 4), (37, .agg #[i32 0, i32 a, i32 b, i32 0, i32 0, i32 0, i32 0, i32 0, i32 0, i32 0, i32 0, i32 0, i32 0, i32 0, i32 0, i32 0, i64 0]), (38, .slice (some ⟨b16, 0, none⟩) 4 4)]) hA [.agg #[i32 0, i32 a, i32 b, i32 0, i32 0, i32 0, i32 0, i32 0, i32 0, i32 0, i32 0, i32 0, i32 0, i32 0, i32 0, i32 0, i64 0]] (cc (hO.ln 3 0 40 [i32 0, i32 a, i32 b, i32 0, i32 0, i32 0, i32 0, i32 0, i32 0, i32 0, i32 0, i32 0, i32 0, i32 0, i32 0, i32 0, i64 0]) c0) ?_
      clear hA fr; intro fr hA
      refine wpOps_cons' (mK (f := 18) (args := [.agg (List.toArray (regsL (rgs [0, a, b]) 0)), .slice (some ⟨b16, 0, none⟩) 4 4, i64 0]) (d := (some 39)) (v := .tuple #[.agg #[i32 0, i32 a, i32 b, i32 (cond (a == b) 1 0 : Int), i32 0, i32 0, i32 0, i32 0, i32 0, i32 0, i32 0, i32 0, i32 0, i32 0, i32 0, i32 0, i64 4], i64 0, .agg #[i64 0, i64 0, i64 0, i64 0, i64 0, i64 0, i64 0]]) hA hO Tryd.func18 (rs (exec_any (rgs [0, a, b]) 0 0 _ [13, 3, 1, 2] _ (hT.keep hO.only (fun h => h)) (rgs2_ok ha hb) (by decide) (by decide) ((hO.b 0).sl (xs := [13, 3, 1, 2]) (U8s.cons (inK_u8 (by decide) (by decide)) (U8s.cons (inK_u8 (by decide) (by decide)) (U8s.cons (inK_u8 (by decide) (by decide)) (U8s.cons (inK_u8 (by decide) (by decide)) U8s.nil)))) rfl (by kernel_rfl)))) ?_)
      clear hA hO fr; intro fr w37 hA hO
      replace hA := hA.sb (e' := [(0, i32 a), (1, i32 b), (4, bl false), (5, pt b1), (6, pt b2), (7, pt b3), (8, i64 4), (39, .tuple #[.agg #[i32 0, i32 a, i32 b, i32 (cond (a == b) 1 0 : Int), i32 0, i32 0, i32 0, i32 0, i32 0, i32 0, i32 0, i32 0, i32 0, i32 0, i32 0, i32 0, i64 4], i64 0, .agg #[i64 0, i64 0, i64 0, i64 0, i64 0, i64 0, i64 0]])])
      refine ck (l := [3, 4, 5, 6]) (r := (rg 7 5)) (e' := [(0, i32 a), (1, i32 b), (4, bl false), (5, pt b1), (6, pt b2), (7, pt b3), (8, i64 4), (40, .agg #[i32 0, i32 a, i32 b, i32 (cond (a == b) 1 0 : Int), i32 0, i32 0, i32 0, i32 0, i32 0, i32 0, i32 0, i32 0, i32 0, i32 0, i32 0, i32 0, i64 4]), (41, i64 0), (42, .agg #[i64 0, i64 0, i64 0, i64 0, i64 0, i64 0, i64 0])]) hA [] c0 ?_
      clear hA fr; intro fr hA
      refine wpOps_cons' (mN (l := [i32 0, i32 0, i32 0, i32 0, i32 0, i32 0, i32 0, i32 0, i32 0, i32 0, i32 0, i32 0, i32 0, i32 0, i32 0, i32 0, i64 0]) (t := 40) (v := pt) (d := 10) hA hO ?_)
      clear hA hO fr; intro fr w38 b17 hA hO
      refine wpOps_cons' (mN (l := [i64 0, i64 0, i64 0, i64 0, i64 0, i64 0, i64 0]) (t := 43) (v := pt) (d := 12) hA hO ?_)
      clear hA hO fr; intro fr w39 b18 hA hO
      refine wpOps_cons' (mS (off := 0) (vc := [i32 0, i32 a, i32 b, i32 (cond (a == b) 1 0 : Int), i32 0, i32 0, i32 0, i32 0, i32 0, i32 0, i32 0, i32 0, i32 0, i32 0, i32 0, i32 0, i64 4]) 1 hA hO ?_)
      clear hO; intro w40 hO
      replace hA := hA.sb (e' := [(0, i32 a), (1, i32 b), (4, bl false), (5, pt b1), (6, pt b2), (7, pt b3), (8, i64 4), (10, pt b17), (12, pt b18), (41, i64 0), (42, .agg #[i64 0, i64 0, i64 0, i64 0, i64 0, i64 0, i64 0])])
      refine ck (l := [10]) (r := [11]) (e' := [(0, i32 a), (1, i32 b), (4, bl false), (5, pt b1), (6, pt b2), (7, pt b3), (8, i64 4), (10, pt b17), (12, pt b18), (42, .agg #[i64 0, i64 0, i64 0, i64 0, i64 0, i64 0, i64 0])]) hA [] c0 ?_
      clear hA fr; intro fr hA
      refine wpOps_cons' (mS (off := 0) (vc := [i64 0, i64 0, i64 0, i64 0, i64 0, i64 0, i64 0]) 0 hA hO ?_)
      clear hO; intro w41 hO
      replace hA := hA.sb (e' := [(0, i32 a), (1, i32 b), (4, bl false), (5, pt b1), (6, pt b2), (7, pt b3), (8, i64 4), (10, pt b17), (12, pt b18)])
      refine end_ops ?_
      refine then_normal ?_
      refine wp_seq ?_
      refine sC (e' := [(0, i32 a), (1, i32 b), (4, bl false), (5, pt b1), (6, pt b2), (7, pt b3), (8, i64 4), (10, pt b17), (45, bl false)]) 3 hA [.agg #[i64 0, i64 0, i64 0, i64 0, i64 0, i64 0, i64 0], bl true] (cc (hO.ln 0 0 43 [i64 0, i64 0, i64 0, i64 0, i64 0, i64 0, i64 0]) (cc ((eqG_of (by kernel_rfl) (by kernel_rfl)) : EqG Tryd.prog 43 (.agg #[i64 0, i64 0, i64 0, i64 0, i64 0, i64 0, i64 0]) (.agg #[i64 0, i64 0, i64 0, i64 0, i64 0, i64 0, i64 0]) true) c0)) ?_
      clear hA fr; intro fr hA
      refine cF hA ?_
      refine wp_skip ?_
      refine then_normal ?_
      refine rR (l := (rg 0 7)) ?_
      refine ck (l := (rg 0 6)) (r := [6]) (e' := [(0, i32 a), (1, i32 b), (4, bl false), (5, pt b1), (6, pt b2), (7, pt b3), (8, i64 4), (50, i64 (cond (a == b) 1 0 : Int)), (51, pf b3 4)]) hA [i32 (cond (a == b) 1 0 : Int), bl true] (cc (⟨by omega, by omega⟩ : (0 : Int) ≤ 3 ∧ 3 < ((16 : Nat) : Int)) (cc (hO.l1 1 3 21 (i32 (cond (a == b) 1 0 : Int))) (cc ((inK_i64 (by omega) (by omega)) : inK .i64 (cond (a == b) 1 0 : Int)) (cc (⟨by omega, by omega⟩ : (0 : Int) ≤ 4 ∧ 4 < ((6 : Nat) : Int)) c0)))) ?_
      clear hA fr; intro fr hA
      refine wpOps_cons' (mS (off := 4) (vc := [i64 (cond (a == b) 1 0 : Int)]) 3 hA hO ?_)
      clear hO; intro w42 hO
      replace hA := hA.sb (e' := [(0, i32 a), (1, i32 b), (4, bl false), (5, pt b1), (6, pt b2), (7, pt b3), (8, i64 4)])
      refine end_ops ?_
      refine inBlock_normal ?_
      refine then_normal ?_
      refine rC (e' := [(0, i32 a), (1, i32 b), (4, bl false), (5, pt b1), (6, pt b2), (7, pt b3), (8, i64 5)]) 3 hA [bl false] c0 ?_
      clear hA fr; intro fr hA
      refine then_normal ?_
      exact ⟨1, by decide, (.inr (.inr (.inr (.inr (.inr (.inl ⟨rfl, hA.sb, (hO.sub [3, 4, 5])⟩))))))⟩
    ·
      refine wp_seq ?_
      refine sC (e' := [(0, i32 a), (1, i32 b), (4, bl false), (5, pt b1), (6, pt b2), (7, pt b3), (8, i64 5), (21, bl true)]) 2 hA [] c0 ?_
      clear hA fr; intro fr hA
      refine cT hA ?_
      refine wp_skip ?_
      refine then_normal ?_
      refine wp_seq ?_
      refine wp_block ?_
      refine sR (l := (rg 0 6)) ?_
      refine ck (l := [0, 1, 2, 3]) (r := [4, 5]) (e' := [(0, i32 a), (1, i32 b), (4, bl false), (5, pt b1), (6, pt b2), (7, pt b3), (8, i64 5), (27, u8 12)]) hA [i64 12, bl false] (cc (⟨by omega, by omega⟩ : (0 : Int) ≤ 5 ∧ 5 < ((6 : Nat) : Int)) (cc (hO.l1 1 5 3 (i64 12)) c0)) ?_
      clear hA fr; intro fr hA
      refine wpOps_cons' (mN (l := [u8 12, u8 3, u8 1, u8 2]) (t := 5) (v := fun b => .slice (some ⟨b, 0, none⟩) 4 4) (d := 28) hA hO ?_)
      clear hA hO fr; intro fr w43 b19 hA hO
      replace hA := hA.sb (e' := [(0, i32 a), (1, i32 b), (4, bl false), (5, pt b1), (6, pt b2), (7, pt b3), (8, i64 5), (28, .slice (some ⟨b19, 0, none⟩) 4 4)])
      refine ck (l := [5]) (r := []) (e' := [(0, i32 a), (1, i32 b), (4, bl false), (5, pt b1), (6, pt b2), (7, pt b3), (8, i64 5), (9, .slice (some ⟨b19, 0, none⟩) 4 4)]) hA [] c0 ?_
      clear hA fr; intro fr hA
      refine end_ops ?_
      refine then_normal ?_
      refine wp_seq ?_
      refine sC (e' := [(0, i32 a), (1, i32 b), (4, bl false), (5, pt b1), (6, pt b2), (7, pt b3), (8, i64 5), (9, .slice (some ⟨b19, 0, none⟩) 4 4), (30, bl true)]) 2 hA [] c0 ?_
      clear hA fr; intro fr hA
      refine cT hA ?_
      refine rR (l := (rg 0 6)) ?_
      refine ck (l := [0, 1, 2, 3]) (r := [4, 5]) (e' := [(0, i32 a), (1, i32 b), (4, bl false), (5, pt b1), (6, pt b2), (7, pt b3), (8, i64 5), (9, .slice (some ⟨b19, 0, none⟩) 4 4), (34, u8 12)]) hA [i64 12, bl false] (cc (⟨by omega, by omega⟩ : (0 : Int) ≤ 5 ∧ 5 < ((6 : Nat) : Int)) (cc (hO.l1 2 5 3 (i64 12)) c0)) ?_
      clear hA fr; intro fr hA
      refine wpOps_cons' (mN (l := [u8 12, u8 3, u8 2, u8 1]) (t := 5) (v := fun b => .slice (some ⟨b, 0, none⟩) 4 4) (d := 35) hA hO ?_)
      clear hA hO fr; intro fr w44 b20 hA hO
      replace hA := hA.sb (e' := [(0, i32 a), (1, i32 b), (4, bl false), (5, pt b1), (6, pt b2), (7, pt b3), (8, i64 5), (9, .slice (some ⟨b19, 0, none⟩) 4 4), (35, .slice (some ⟨b20, 0, none⟩) 4 4)])
      refine ck (l := [5]) (r := []) (e' := [(0, i32 a), (1, i32 b), (4, bl false), (5, pt b1), (6, pt b2), (7, pt b3), (8, i64 5), (9, .slice (some ⟨b20, 0, none⟩) 4 4)]) hA [] c0 ?_
      clear hA fr; intro fr hA
      refine end_ops ?_
      refine then_normal ?_
      refine sR (l := (rg 0 12)) ?_
      refine ck (l := [0, 1]) (r := (rg 2 10)) (e' := [(0, i32 a), (1, i32 b), (4, bl false), (5, pt b1), (6, pt b2), (7, pt b3), (8, i64 5), (37, .agg #[i32 0, i32 a, i32 b, i32 0, i32 0, i32 0, i32 0, i32 0, i32 0, i32 0, i32 0, i32 0, i32 0, i32 0, i32 0, i32 0, i64 0]), (38, .slice (some ⟨b20, 0, none⟩) 4 4)]) hA [.agg #[i32 0, i32 a, i32 b, i32 0, i32 0, i32 0, i32 0, i32 0, i32 0, i32 0, i32 0, i32 0, i32 0, i32 0, i32 0, i32 0, i64 0]] (cc (hO.ln 4 0 40 [i32 0, i32 a, i32 b, i32 0, i32 0, i32 0, i32 0, i32 0, i32 0, i32 0, i32 0, i32 0, i32 0, i32 0, i32 0, i32 0, i64 0]) c0) ?_
      clear hA fr; intro fr hA
      refine wpOps_cons' (mK (f := 18) (args := [.agg (List.toArray (regsL (rgs [0, a, b]) 0)), .slice (some ⟨b20, 0, none⟩) 4 4, i64 0]) (d := (some 39)) (v := .tuple #[.agg #[i32 0, i32 a, i32 b, i32 (cond (decide (b < a)) 1 0 : Int), i32 0, i32 0, i32 0, i32 0, i32 0, i32 0, i32 0, i32 0, i32 0, i32 0, i32 0, i32 0, i64 4], i64 0, .agg #[i64 0, i64 0, i64 0, i64 0, i64 0, i64 0, i64 0]]) hA hO Tryd.func18 (rs (exec_any (rgs [0, a, b]) 0 0 _ [12, 3, 2, 1] _ (hT.keep hO.only (fun h => h)) (rgs2_ok ha hb) (by decide) (by decide) ((hO.b 0).sl (xs := [12, 3, 2, 1]) (U8s.cons (inK_u8 (by decide) (by decide)) (U8s.cons (inK_u8 (by decide) (by decide)) (U8s.cons (inK_u8 (by decide) (by decide)) (U8s.cons (inK_u8 (by decide) (by decide)) U8s.nil)))) rfl (by kernel_rfl)))) ?_)
      clear hA hO fr; intro fr w45 hA hO
      replace hA := hA.sb (e' := [(0, i32 a), (1, i32 b), (4, bl false), (5, pt b1), (6, pt b2), (7, pt b3), (8, i64 5), (39, .tuple #[.agg #[i32 0, i32 a, i32 b, i32 (cond (decide (b < a)) 1 0 : Int), i32 0, i32 0, i32 0, i32 0, i32 0, i32 0, i32 0, i32 0, i32 0, i32 0, i32 0, i32 0, i64 4], i64 0, .agg #[i64 0, i64 0, i64 0, i64 0, i64 0, i64 0, i64 0]])])
      refine ck (l := [3, 4, 5, 6]) (r := (rg 7 5)) (e' := [(0, i32 a), (1, i32 b), (4, bl false), (5, pt b1), (6, pt b2), (7, pt b3), (8, i64 5), (40, .agg #[i32 0, i32 a, i32 b, i32 (cond (decide (b < a)) 1 0 : Int), i32 0, i32 0, i32 0, i32 0, i32 0, i32 0, i32 0, i32 0, i32 0, i32 0, i32 0, i32 0, i64 4]), (41, i64 0), (42, .agg #[i64 0, i64 0, i64 0, i64 0, i64 0, i64 0, i64 0])]) hA [] c0 ?_
      clear hA fr; intro fr hA
      refine wpOps_cons' (mN (l := [i32 0, i32 0, i32 0, i32 0, i32 0, i32 0, i32 0, i32 0, i32 0, i32 0, i32 0, i32 0, i32 0, i32 0, i32 0, i32 0, i64 0]) (t := 40) (v := pt) (d := 10) hA hO ?_)
      clear hA hO fr; intro fr w46 b21 hA hO
      refine wpOps_cons' (mN (l := [i64 0, i64 0, i64 0, i64 0, i64 0, i64 0, i64 0]) (t := 43) (v := pt) (d := 12) hA hO ?_)
      clear hA hO fr; intro fr w47 b22 hA hO
      refine wpOps_cons' (mS (off := 0) (vc := [i32 0, i32 a, i32 b, i32 (cond (decide (b < a)) 1 0 : Int), i32 0, i32 0, i32 0, i32 0, i32 0, i32 0, i32 0, i32 0, i32 0, i32 0, i32 0, i32 0, i64 4]) 1 hA hO ?_)
      clear hO; intro w48 hO
      replace hA := hA.sb (e' := [(0, i32 a), (1, i32 b), (4, bl false), (5, pt b1), (6, pt b2), (7, pt b3), (8, i64 5), (10, pt b21), (12, pt b22), (41, i64 0), (42, .agg #[i64 0, i64 0, i64 0, i64 0, i64 0, i64 0, i64 0])])
      refine ck (l := [10]) (r := [11]) (e' := [(0, i32 a), (1, i32 b), (4, bl false), (5, pt b1), (6, pt b2), (7, pt b3), (8, i64 5), (10, pt b21), (12, pt b22), (42, .agg #[i64 0, i64 0, i64 0, i64 0, i64 0, i64 0, i64 0])]) hA [] c0 ?_
      clear hA fr; intro fr hA
      refine wpOps_cons' (mS (off := 0) (vc := [i64 0, i64 0, i64 0, i64 0, i64 0, i64 0, i64 0]) 0 hA hO ?_)
      clear hO; intro w49 hO
      replace hA := hA.sb (e' := [(0, i32 a), (1, i32 b), (4, bl false), (5, pt b1), (6, pt b2), (7, pt b3), (8, i64 5), (10, pt b21), (12, pt b22)])
      refine end_ops ?_
      refine then_normal ?_
      refine wp_seq ?_
      refine sC (e' := [(0, i32 a), (1, i32 b), (4, bl false), (5, pt b1), (6, pt b2), (7, pt b3), (8, i64 5), (10, pt b21), (45, bl false)]) 3 hA [.agg #[i64 0, i64 0, i64 0, i64 0, i64 0, i64 0, i64 0], bl true] (cc (hO.ln 0 0 43 [i64 0, i64 0, i64 0, i64 0, i64 0, i64 0, i64 0]) (cc ((eqG_of (by kernel_rfl) (by kernel_rfl)) : EqG Tryd.prog 43 (.agg #[i64 0, i64 0, i64 0, i64 0, i64 0, i64 0, i64 0]) (.agg #[i64 0, i64 0, i64 0, i64 0, i64 0, i64 0, i64 0]) true) c0)) ?_
      clear hA fr; intro fr hA
      refine cF hA ?_
      refine wp_skip ?_
      refine then_normal ?_
      refine rR (l := (rg 0 7)) ?_
      refine ck (l := (rg 0 6)) (r := [6]) (e' := [(0, i32 a), (1, i32 b), (4, bl false), (5, pt b1), (6, pt b2), (7, pt b3), (8, i64 5), (50, i64 (cond (decide (b < a)) 1 0 : Int)), (51, pf b3 5)]) hA [i32 (cond (decide (b < a)) 1 0 : Int), bl true] (cc (⟨by omega, by omega⟩ : (0 : Int) ≤ 3 ∧ 3 < ((16 : Nat) : Int)) (cc (hO.l1 1 3 21 (i32 (cond (decide (b < a)) 1 0 : Int))) (cc ((inK_i64 (by omega) (by omega)) : inK .i64 (cond (decide (b < a)) 1 0 : Int)) (cc (⟨by omega, by omega⟩ : (0 : Int) ≤ 5 ∧ 5 < ((6 : Nat) : Int)) c0)))) ?_
      clear hA fr; intro fr hA
      refine wpOps_cons' (mS (off := 5) (vc := [i64 (cond (decide (b < a)) 1 0 : Int)]) 4 hA hO ?_)
      clear hO; intro w50 hO
      replace hA := hA.sb (e' := [(0, i32 a), (1, i32 b), (4, bl false), (5, pt b1), (6, pt b2), (7, pt b3), (8, i64 5)])
      refine end_ops ?_
      refine inBlock_normal ?_
      refine then_normal ?_
      refine rC (e' := [(0, i32 a), (1, i32 b), (4, bl false), (5, pt b1), (6, pt b2), (7, pt b3), (8, i64 6)]) 3 hA [bl false] c0 ?_
      clear hA fr; intro fr hA
      refine then_normal ?_
      exact ⟨0, by decide, (.inr (.inr (.inr (.inr (.inr (.inr ⟨rfl, hA.sb, (hO.sub [4, 5, 6])⟩))))))⟩
    ·
      refine wp_seq ?_
      refine sC (e' := [(0, i32 a), (1, i32 b), (4, bl false), (5, pt b1), (6, pt b2), (7, pt b3), (8, i64 6), (21, bl false)]) 2 hA [] c0 ?_
      clear hA fr; intro fr hA
      refine cF hA ?_
      refine wp_exit ?_
      refine then_exit ?_
      refine then_exit ?_
      refine inBlock_exit ?_
      refine then_normal ?_
      refine sR (l := (rg 0 51)) ?_
      refine ck (l := (rg 0 12)) (r := (rg 12 39)) (e' := [(0, i32 a), (1, i32 b), (4, bl false), (7, pt b3), (62, bl (((bits .and .i32 a b) + (bits .or .i32 a b)) == (a + b))), (63, bl (((bits .and .i32 a b) + (bits .or .i32 a b)) == (a + b)))]) hA [i64 (bits .and .i32 a b), i64 (bits .or .i32 a b), bl true, bl true, bl true, bl true] (cc (⟨by omega, by omega⟩ : (0 : Int) ≤ 0 ∧ 0 < ((6 : Nat) : Int)) (cc (hO.l1 0 0 3 (i64 (bits .and .i32 a b))) (cc (⟨by omega, by omega⟩ : (0 : Int) ≤ 1 ∧ 1 < ((6 : Nat) : Int)) (cc (hO.l1 0 1 3 (i64 (bits .or .i32 a b))) (cc ((inK_i64 (by omega) (by omega)) : inK .i64 ((bits .and .i32 a b) + (bits .or .i32 a b))) (cc ((inK_i64 (by omega) (by omega)) : inK .i64 a) (cc ((inK_i64 (by omega) (by omega)) : inK .i64 b) (cc ((inK_i64 (by omega) (by omega)) : inK .i64 (a + b)) c0)))))))) ?_
      clear hA fr; intro fr hA
      replace hA := hA.bool (f := fun z => [(0, i32 a), (1, i32 b), (4, bl false), (7, pt b3), (62, .bool z), (63, .bool z)]) (by first | exact beq_iff_eq.2 (bits_sum ha hb) | exact beq_iff_eq.2 (bits_xor ha hb) | exact tri a b | exact one_eq _ : (((bits .and .i32 a b) + (bits .or .i32 a b)) == (a + b)) = true)
      refine ck (l := (rg 12 10)) (r := (rg 22 29)) (e' := [(0, i32 a), (1, i32 b), (4, bl false), (7, pt b3), (71, bl ((bits .xor .i32 a b) == ((bits .or .i32 a b) - (bits .and .i32 a b)))), (72, bl ((bits .xor .i32 a b) == ((bits .or .i32 a b) - (bits .and .i32 a b)))), (73, bl ((bits .xor .i32 a b) == ((bits .or .i32 a b) - (bits .and .i32 a b))))]) hA [i64 (bits .xor .i32 a b), i64 (bits .or .i32 a b), i64 (bits .and .i32 a b), bl true] (cc (⟨by omega, by omega⟩ : (0 : Int) ≤ 2 ∧ 2 < ((6 : Nat) : Int)) (cc (hO.l1 0 2 3 (i64 (bits .xor .i32 a b))) (cc (⟨by omega, by omega⟩ : (0 : Int) ≤ 1 ∧ 1 < ((6 : Nat) : Int)) (cc (hO.l1 0 1 3 (i64 (bits .or .i32 a b))) (cc (⟨by omega, by omega⟩ : (0 : Int) ≤ 0 ∧ 0 < ((6 : Nat) : Int)) (cc (hO.l1 0 0 3 (i64 (bits .and .i32 a b))) (cc ((inK_i64 (by omega) (by omega)) : inK .i64 ((bits .or .i32 a b) - (bits .and .i32 a b))) c0))))))) ?_
      clear hA fr; intro fr hA
      replace hA := hA.bool (f := fun z => [(0, i32 a), (1, i32 b), (4, bl false), (7, pt b3), (71, .bool z), (72, .bool z), (73, .bool z)]) (by first | exact beq_iff_eq.2 (bits_sum ha hb) | exact beq_iff_eq.2 (bits_xor ha hb) | exact tri a b | exact one_eq _ : ((bits .xor .i32 a b) == ((bits .or .i32 a b) - (bits .and .i32 a b))) = true)
      refine ck (l := (rg 22 11)) (r := (rg 33 18)) (e' := [(0, i32 a), (1, i32 b), (4, bl false), (7, pt b3), (82, bl ((((cond (decide (a < b)) 1 0 : Int) + (cond (a == b) 1 0 : Int)) + (cond (decide (b < a)) 1 0 : Int)) == 1)), (83, bl ((((cond (decide (a < b)) 1 0 : Int) + (cond (a == b) 1 0 : Int)) + (cond (decide (b < a)) 1 0 : Int)) == 1)), (84, bl ((((cond (decide (a < b)) 1 0 : Int) + (cond (a == b) 1 0 : Int)) + (cond (decide (b < a)) 1 0 : Int)) == 1))]) hA [i64 (cond (decide (a < b)) 1 0 : Int), i64 (cond (a == b) 1 0 : Int), bl true, i64 (cond (decide (b < a)) 1 0 : Int), bl true] (cc (⟨by omega, by omega⟩ : (0 : Int) ≤ 3 ∧ 3 < ((6 : Nat) : Int)) (cc (hO.l1 0 3 3 (i64 (cond (decide (a < b)) 1 0 : Int))) (cc (⟨by omega, by omega⟩ : (0 : Int) ≤ 4 ∧ 4 < ((6 : Nat) : Int)) (cc (hO.l1 0 4 3 (i64 (cond (a == b) 1 0 : Int))) (cc ((inK_i64 (by omega) (by omega)) : inK .i64 ((cond (decide (a < b)) 1 0 : Int) + (cond (a == b) 1 0 : Int))) (cc (⟨by omega, by omega⟩ : (0 : Int) ≤ 5 ∧ 5 < ((6 : Nat) : Int)) (cc (hO.l1 0 5 3 (i64 (cond (decide (b < a)) 1 0 : Int))) (cc ((inK_i64 (by omega) (by omega)) : inK .i64 (((cond (decide (a < b)) 1 0 : Int) + (cond (a == b) 1 0 : Int)) + (cond (decide (b < a)) 1 0 : Int))) c0)))))))) ?_
      clear hA fr; intro fr hA
      replace hA := hA.bool (f := fun z => [(0, i32 a), (1, i32 b), (4, bl false), (7, pt b3), (82, .bool z), (83, .bool z), (84, .bool z)]) (by first | exact beq_iff_eq.2 (bits_sum ha hb) | exact beq_iff_eq.2 (bits_xor ha hb) | exact tri a b | exact one_eq _ : ((((cond (decide (a < b)) 1 0 : Int) + (cond (a == b) 1 0 : Int)) + (cond (decide (b < a)) 1 0 : Int)) == 1) = true)
      refine ck (l := (rg 33 9)) (r := (rg 42 9)) (e' := [(0, i32 a), (1, i32 b), (4, bl false), (7, pt b3), (91, bl (((cond (a == b) 1 0 : Int) == 1) == (a == b))), (92, bl (((cond (a == b) 1 0 : Int) == 1) == (a == b))), (93, bl (((cond (a == b) 1 0 : Int) == 1) == (a == b)))]) hA [i64 (cond (a == b) 1 0 : Int)] (cc (⟨by omega, by omega⟩ : (0 : Int) ≤ 4 ∧ 4 < ((6 : Nat) : Int)) (cc (hO.l1 0 4 3 (i64 (cond (a == b) 1 0 : Int))) c0)) ?_
      clear hA fr; intro fr hA
      replace hA := hA.bool (f := fun z => [(0, i32 a), (1, i32 b), (4, bl false), (7, pt b3), (91, .bool z), (92, .bool z), (93, .bool z)]) (by first | exact beq_iff_eq.2 (bits_sum ha hb) | exact beq_iff_eq.2 (bits_xor ha hb) | exact tri a b | exact one_eq _ : (((cond (a == b) 1 0 : Int) == 1) == (a == b)) = true)
      refine ck (l := (rg 42 9)) (r := []) (e' := [(4, bl (((cond (decide (a < b)) 1 0 : Int) == 1) == (decide (a < b))))]) hA [i64 (cond (decide (a < b)) 1 0 : Int)] (cc (⟨by omega, by omega⟩ : (0 : Int) ≤ 3 ∧ 3 < ((6 : Nat) : Int)) (cc (hO.l1 0 3 3 (i64 (cond (decide (a < b)) 1 0 : Int))) c0)) ?_
      clear hA fr; intro fr hA
      refine end_ops ?_
      refine then_normal ?_
      refine wp_ret ?_
      refine cR (cs := [none]) (us := [bl (((cond (decide (a < b)) 1 0 : Int) == 1) == (decide (a < b)))]) hA [] trivial ?_
      have hF := hO.only; clear hA hO
      exact ⟨congrArg (fun b => Ending.returned (.bool b)) (one_eq _), hF⟩

end Go.Proofs.YtcaokjdihhbkjaaDoor
