/- The layer cpu: walks of the law CpuArithmetic. -/
import Derived.Test.YtcaokjdihhbkjaaDoorArlem
set_option linter.unusedVariables false
set_option linter.unusedSimpArgs false
set_option maxRecDepth 10000
namespace Go.Proofs.YtcaokjdihhbkjaaDoor
open Go Go.RowKit Go.Proofs.Sx

theorem law_arTrue (a : Int) (w : World) (hT : Tab w) (ha : inK .i32 a) (hb : inK .i32 0) :
    Calls Tryd.prog 5 #[i32 a, i32 0] w fun e w' => e = .returned (.bool true) ∧ Only none' w w' := by
  refine c_enter (args := [i32 a, i32 0]) (m := 130) (n := 132) Tryd.func5 rfl (by kernel_rfl) (by kernel_rfl) fun fr hA => ?_
  have hO := Ow.nil Tryd.prog none' w
  have ha1 : -2147483648 ≤ a ∧ a ≤ 2147483647 := ha; have q1 : -2147483648 ≤ IntKind.i32.wrap (a + 0) ∧ IntKind.i32.wrap (a + 0) ≤ 2147483647 := wrap_inK .i32 _; have q2 : -2147483648 ≤ IntKind.i32.wrap (a - 0) ∧ IntKind.i32.wrap (a - 0) ≤ 2147483647 := wrap_inK .i32 _; have q3 : -2147483648 ≤ IntKind.i32.wrap (a * 0) ∧ IntKind.i32.wrap (a * 0) ≤ 2147483647 := wrap_inK .i32 _; have m1 := mul_b ha hb
  refine sC (e' := [(0, i32 a), (1, i32 0), (4, bl false)]) 1 hA [] c0 ?_
  clear hA fr; intro fr hA
  refine wp_seq ?_
  refine sR (l := [0, 1]) ?_
  refine wpOps_cons' (mK (f := 12) (args := []) (d := (some 14)) (v := bl true) hA hO Tryd.func12 (awake_any _ (hT.keep hO.only (fun h => h))) ?_)
  clear hA hO fr; intro fr w1 hA hO
  refine ck (l := [1]) (r := []) (e' := [(0, i32 a), (1, i32 0), (4, bl false), (15, bl false)]) hA [] c0 ?_
  clear hA fr; intro fr hA
  refine end_ops ?_
  refine then_normal ?_
  refine cF hA ?_
  refine wp_skip ?_
  refine then_normal ?_
  refine sR (l := (rg 0 6)) ?_
  refine ck (l := [0, 1, 2, 3]) (r := [4, 5]) (e' := [(0, i32 a), (1, i32 0), (4, bl false), (19, .agg #[i32 0, i32 a, i32 0, i32 0, i32 0, i32 0, i32 0, i32 0, i32 0, i32 0, i32 0, i32 0, i32 0, i32 0, i32 0, i32 0, i64 0])]) hA [] c0 ?_
  clear hA fr; intro fr hA
  refine wpOps_cons' (mN (l := [i32 0, i32 0, i32 0, i32 0, i32 0, i32 0, i32 0, i32 0, i32 0, i32 0, i32 0, i32 0, i32 0, i32 0, i32 0, i32 0, i64 0]) (t := 40) (v := pt) (d := 5) hA hO ?_)
  clear hA hO fr; intro fr w2 b1 hA hO
  refine wpOps_cons' (mS (off := 0) (vc := [i32 0, i32 a, i32 0, i32 0, i32 0, i32 0, i32 0, i32 0, i32 0, i32 0, i32 0, i32 0, i32 0, i32 0, i32 0, i32 0, i64 0]) 0 hA hO ?_)
  clear hO; intro w3 hO
  replace hA := hA.sb (e' := [(0, i32 a), (1, i32 0), (4, bl false), (5, pt b1)])
  refine end_ops ?_
  refine then_normal ?_
  refine sR (l := [0, 1, 2]) ?_
  refine ck (l := [0]) (r := [1, 2]) (e' := [(0, i32 a), (1, i32 0), (4, bl false), (5, pt b1), (20, .agg #[i64 4, i64 5, i64 6, i64 7, i64 8])]) hA [] c0 ?_
  clear hA fr; intro fr hA
  refine wpOps_cons' (mN (l := [i64 0, i64 0, i64 0, i64 0, i64 0]) (t := 47) (v := pt) (d := 6) hA hO ?_)
  clear hA hO fr; intro fr w4 b2 hA hO
  refine wpOps_cons' (mS (off := 0) (vc := [i64 4, i64 5, i64 6, i64 7, i64 8]) 0 hA hO ?_)
  clear hO; intro w5 hO
  replace hA := hA.sb (e' := [(0, i32 a), (1, i32 0), (4, bl false), (5, pt b1), (6, pt b2)])
  refine end_ops ?_
  refine then_normal ?_
  refine sR (l := [0]) ?_
  refine wpOps_cons' (mN (l := [i64 0, i64 0, i64 0, i64 0, i64 0]) (t := 47) (v := pt) (d := 7) hA hO ?_)
  clear hA hO fr; intro fr w6 b3 hA hO
  refine end_ops ?_
  refine then_normal ?_
  refine wp_seq ?_
  refine sC (e' := [(0, i32 a), (1, i32 0), (4, bl false), (5, pt b1), (6, pt b2), (7, pt b3), (8, i64 0)]) 1 hA [] c0 ?_
  clear hA fr; intro fr hA
  refine wp_block ?_
  refine c_loop (fun mm fr W => (mm = 5 ∧ Holds 132 [] fr [(0, i32 a), (1, i32 0), (4, bl false), (5, pt b1), (6, pt b2), (7, pt b3), (8, i64 0)] ∧ Ow Tryd.prog none' w W [(b3, 47, [i64 0, i64 0, i64 0, i64 0, i64 0]), (b2, 47, [i64 4, i64 5, i64 6, i64 7, i64 8]), (b1, 40, [i32 0, i32 a, i32 0, i32 0, i32 0, i32 0, i32 0, i32 0, i32 0, i32 0, i32 0, i32 0, i32 0, i32 0, i32 0, i32 0, i64 0])]) ∨ (mm = 4 ∧ Holds 132 [] fr [(0, i32 a), (1, i32 0), (4, bl false), (5, pt b1), (6, pt b2), (7, pt b3), (8, i64 1)] ∧ Ow Tryd.prog none' w W [(b3, 47, [i64 (IntKind.i32.wrap (a + 0)), i64 0, i64 0, i64 0, i64 0]), (b2, 47, [i64 4, i64 5, i64 6, i64 7, i64 8]), (b1, 40, [i32 0, i32 a, i32 0, i32 0, i32 0, i32 0, i32 0, i32 0, i32 0, i32 0, i32 0, i32 0, i32 0, i32 0, i32 0, i32 0, i64 0])]) ∨ (mm = 3 ∧ Holds 132 [] fr [(0, i32 a), (1, i32 0), (4, bl false), (5, pt b1), (6, pt b2), (7, pt b3), (8, i64 2)] ∧ Ow Tryd.prog none' w W [(b3, 47, [i64 (IntKind.i32.wrap (a + 0)), i64 (IntKind.i32.wrap (a - 0)), i64 0, i64 0, i64 0]), (b2, 47, [i64 4, i64 5, i64 6, i64 7, i64 8]), (b1, 40, [i32 0, i32 a, i32 0, i32 0, i32 0, i32 0, i32 0, i32 0, i32 0, i32 0, i32 0, i32 0, i32 0, i32 0, i32 0, i32 0, i64 0])]) ∨ (mm = 2 ∧ Holds 132 [] fr [(0, i32 a), (1, i32 0), (4, bl false), (5, pt b1), (6, pt b2), (7, pt b3), (8, i64 3)] ∧ Ow Tryd.prog none' w W [(b3, 47, [i64 (IntKind.i32.wrap (a + 0)), i64 (IntKind.i32.wrap (a - 0)), i64 (IntKind.i32.wrap (a * 0)), i64 0, i64 0]), (b2, 47, [i64 4, i64 5, i64 6, i64 7, i64 8]), (b1, 40, [i32 0, i32 a, i32 0, i32 0, i32 0, i32 0, i32 0, i32 0, i32 0, i32 0, i32 0, i32 0, i32 0, i32 0, i32 0, i32 0, i64 0])]) ∨ (mm = 1 ∧ Holds 132 [] fr [(0, i32 a), (1, i32 0), (4, bl false), (5, pt b1), (6, pt b2), (7, pt b3), (8, i64 4)] ∧ Ow Tryd.prog none' w W [(b3, 47, [i64 (IntKind.i32.wrap (a + 0)), i64 (IntKind.i32.wrap (a - 0)), i64 (IntKind.i32.wrap (a * 0)), i64 0, i64 0]), (b2, 47, [i64 4, i64 5, i64 6, i64 7, i64 8]), (b1, 40, [i32 0, i32 a, i32 0, i32 0, i32 0, i32 0, i32 0, i32 0, i32 0, i32 0, i32 0, i32 0, i32 0, i32 0, i32 0, i32 0, i64 0])]) ∨ (mm = 0 ∧ Holds 132 [] fr [(0, i32 a), (1, i32 0), (4, bl false), (5, pt b1), (6, pt b2), (7, pt b3), (8, i64 5)] ∧ Ow Tryd.prog none' w W [(b3, 47, [i64 (IntKind.i32.wrap (a + 0)), i64 (IntKind.i32.wrap (a - 0)), i64 (IntKind.i32.wrap (a * 0)), i64 0, i64 0]), (b2, 47, [i64 4, i64 5, i64 6, i64 7, i64 8]), (b1, 40, [i32 0, i32 a, i32 0, i32 0, i32 0, i32 0, i32 0, i32 0, i32 0, i32 0, i32 0, i32 0, i32 0, i32 0, i32 0, i32 0, i64 0])])) ?_ ?_
  · exact ⟨_, (.inl ⟨rfl, hA.sb, hO.to⟩)⟩
  · rintro _ fr w7 (⟨rfl, hA, hO⟩ | ⟨rfl, hA, hO⟩ | ⟨rfl, hA, hO⟩ | ⟨rfl, hA, hO⟩ | ⟨rfl, hA, hO⟩ | ⟨rfl, hA, hO⟩)
    ·
      refine wp_seq ?_
      refine sC (e' := [(0, i32 a), (1, i32 0), (4, bl false), (5, pt b1), (6, pt b2), (7, pt b3), (8, i64 0), (22, bl true)]) 2 hA [] c0 ?_
      clear hA fr; intro fr hA
      refine cT hA ?_
      refine wp_skip ?_
      refine then_normal ?_
      refine wp_seq ?_
      refine wp_block ?_
      refine sJ (fun fr W => ∃ (j1 : Nat) (j2 : Nat), Holds 132 [] fr [(0, i32 a), (1, i32 0), (4, bl false), (5, pt b1), (6, pt b2), (7, pt b3), (8, i64 0), (9, pt j1), (11, pt j2)] ∧ Ow Tryd.prog none' w W [(j2, 43, [i64 0, i64 0, i64 0, i64 0, i64 0, i64 0, i64 0]), (j1, 40, [i32 0, i32 a, i32 0, i32 (IntKind.i32.wrap (a + 0)), i32 0, i32 0, i32 0, i32 0, i32 0, i32 0, i32 0, i32 0, i32 0, i32 0, i32 0, i32 0, i64 4]), (b3, 47, [i64 0, i64 0, i64 0, i64 0, i64 0]), (b2, 47, [i64 4, i64 5, i64 6, i64 7, i64 8]), (b1, 40, [i32 0, i32 a, i32 0, i32 0, i32 0, i32 0, i32 0, i32 0, i32 0, i32 0, i32 0, i32 0, i32 0, i32 0, i32 0, i32 0, i64 0])] ∧ True) ?_ ?_
      · rintro fr w8 ⟨j1, j2, hA, hO, -⟩
        refine wp_seq ?_
        refine sC (e' := [(0, i32 a), (1, i32 0), (4, bl false), (5, pt b1), (6, pt b2), (7, pt b3), (8, i64 0), (9, pt j1), (11, pt j2), (43, bl false)]) 8 hA [i64 4] (cc (⟨by omega, by omega⟩ : (0 : Int) ≤ 0 ∧ 0 < ((5 : Nat) : Int)) (cc (hO.l1 3 0 3 (i64 4)) c0)) ?_
        clear hA fr; intro fr hA
        refine cF hA ?_
        refine wp_skip ?_
        refine then_normal ?_
        refine wp_seq ?_
        refine sC (e' := [(0, i32 a), (1, i32 0), (4, bl false), (5, pt b1), (6, pt b2), (7, pt b3), (8, i64 0), (9, pt j1), (54, bl false)]) 3 hA [.agg #[i64 0, i64 0, i64 0, i64 0, i64 0, i64 0, i64 0], bl true] (cc (hO.ln 0 0 43 [i64 0, i64 0, i64 0, i64 0, i64 0, i64 0, i64 0]) (cc ((eqG_of (by kernel_rfl) (by kernel_rfl)) : EqG Tryd.prog 43 (.agg #[i64 0, i64 0, i64 0, i64 0, i64 0, i64 0, i64 0]) (.agg #[i64 0, i64 0, i64 0, i64 0, i64 0, i64 0, i64 0]) true) c0)) ?_
        clear hA fr; intro fr hA
        refine cF hA ?_
        refine wp_skip ?_
        refine then_normal ?_
        refine rR (l := (rg 0 7)) ?_
        refine ck (l := (rg 0 6)) (r := [6]) (e' := [(0, i32 a), (1, i32 0), (4, bl false), (5, pt b1), (6, pt b2), (7, pt b3), (8, i64 0), (59, i64 (IntKind.i32.wrap (a + 0))), (60, pt b3)]) hA [i32 (IntKind.i32.wrap (a + 0)), bl true] (cc (⟨by omega, by omega⟩ : (0 : Int) ≤ 3 ∧ 3 < ((16 : Nat) : Int)) (cc (hO.l1 1 3 21 (i32 (IntKind.i32.wrap (a + 0)))) (cc ((inK_up (by kernel_rfl) (wrap_inK _ _)) : inK .i64 (IntKind.i32.wrap (a + 0))) (cc (⟨by omega, by omega⟩ : (0 : Int) ≤ 0 ∧ 0 < ((5 : Nat) : Int)) c0)))) ?_
        clear hA fr; intro fr hA
        refine wpOps_cons' (mS (off := 0) (vc := [i64 (IntKind.i32.wrap (a + 0))]) 2 hA hO ?_)
        clear hO; intro w9 hO
        replace hA := hA.sb (e' := [(0, i32 a), (1, i32 0), (4, bl false), (5, pt b1), (6, pt b2), (7, pt b3), (8, i64 0)])
        refine end_ops ?_
        refine inBlock_normal ?_
        refine then_normal ?_
        refine rC (e' := [(0, i32 a), (1, i32 0), (4, bl false), (5, pt b1), (6, pt b2), (7, pt b3), (8, i64 1)]) 3 hA [bl false] c0 ?_
        clear hA fr; intro fr hA
        refine then_normal ?_
        exact ⟨4, by decide, (.inr (.inl ⟨rfl, hA.sb, (hO.sub [2, 3, 4])⟩))⟩
      ·
        have hS := hO
        refine rT (.q 0 (.q 1 (.q 2 (.q 3 (.q 4 (.m 5 (.m 6 (.q 7 (.q 8 (.q 9 (.q 10 (.m 11 (.m 12 (.m 13 (.q 14 (.m 15 .fin .non)) .non) .non) (.m 12 (.m 11 (.m 13 (.q 14 (.m 15 .fin .non)) .non) .non) .non)))))) (.m 11 (.m 6 (.q 7 (.q 8 (.q 9 (.q 10 (.m 12 (.m 13 (.q 14 (.m 15 .fin .non)) .non) .non))))) (.m 12 (.m 6 (.q 7 (.q 8 (.q 9 (.q 10 (.m 13 (.q 14 (.m 15 .fin .non)) .non))))) .non) .non)) (.m 12 (.m 6 (.q 7 (.q 8 (.q 9 (.q 10 (.m 11 (.m 13 (.q 14 (.m 15 .fin .non)) .non) .non))))) (.m 11 (.m 6 (.q 7 (.q 8 (.q 9 (.q 10 (.m 13 (.q 14 (.m 15 .fin .non)) .non))))) .non) .non)) .non))) (.m 11 (.m 5 (.m 6 (.q 7 (.q 8 (.q 9 (.q 10 (.m 12 (.m 13 (.q 14 (.m 15 .fin .non)) .non) .non))))) (.m 12 (.m 6 (.q 7 (.q 8 (.q 9 (.q 10 (.m 13 (.q 14 (.m 15 .fin .non)) .non))))) .non) .non)) (.m 12 (.m 5 (.m 6 (.q 7 (.q 8 (.q 9 (.q 10 (.m 13 (.q 14 (.m 15 .fin .non)) .non))))) .non) .non) .non)) (.m 12 (.m 5 (.m 6 (.q 7 (.q 8 (.q 9 (.q 10 (.m 11 (.m 13 (.q 14 (.m 15 .fin .non)) .non) .non))))) (.m 11 (.m 6 (.q 7 (.q 8 (.q 9 (.q 10 (.m 13 (.q 14 (.m 15 .fin .non)) .non))))) .non) .non)) (.m 11 (.m 5 (.m 6 (.q 7 (.q 8 (.q 9 (.q 10 (.m 13 (.q 14 (.m 15 .fin .non)) .non))))) .non) .non) .non)) .non)))))))) hS ?_
        intro w10 ho; replace hO := hO.st ho; clear ho
        refine ckT (l := [0, 1, 2, 3, 4]) (e' := [(0, i32 a), (1, i32 0), (4, bl false), (5, pt b1), (6, pt b2), (7, pt b3), (8, i64 0), (26, .agg #[i32 0, i32 a, i32 0, i32 0, i32 0, i32 0, i32 0, i32 0, i32 0, i32 0, i32 0, i32 0, i32 0, i32 0, i32 0, i32 0, i64 0]), (30, u8 4)]) hA [.agg #[i32 0, i32 a, i32 0, i32 0, i32 0, i32 0, i32 0, i32 0, i32 0, i32 0, i32 0, i32 0, i32 0, i32 0, i32 0, i32 0, i64 0], i64 4, bl false] (cc (hS.sn 2 0 40 [i32 0, i32 a, i32 0, i32 0, i32 0, i32 0, i32 0, i32 0, i32 0, i32 0, i32 0, i32 0, i32 0, i32 0, i32 0, i32 0, i64 0]) (cc (⟨by omega, by omega⟩ : (0 : Int) ≤ 0 ∧ 0 < ((5 : Nat) : Int)) (cc (hS.s1 1 0 3 (i64 4)) c0))) ?_
        clear hA fr; intro fr hA
        refine tree_mem ?_ ?_
        ·
          refine (mN (l := [u8 4, u8 3, u8 1, u8 2]) (t := 5) (v := fun b => .slice (some ⟨b, 0, none⟩) 4 4) (d := 31) hA hO ?_)
          clear hA hO fr; intro fr w11 b4 hA hO
          refine ⟨(hO.sub [1, 2, 3]), ?_⟩
          replace hA := hA.sb (e' := [(0, i32 a), (1, i32 0), (4, bl false), (5, pt b1), (6, pt b2), (7, pt b3), (8, i64 0), (26, .agg #[i32 0, i32 a, i32 0, i32 0, i32 0, i32 0, i32 0, i32 0, i32 0, i32 0, i32 0, i32 0, i32 0, i32 0, i32 0, i32 0, i64 0]), (31, .slice (some ⟨b4, 0, none⟩) 4 4)])
          refine tree_mem ?_ ?_
          ·
            refine (mK (f := 18) (args := [.agg (List.toArray (regsL (rgs [0, a, 0]) 0)), .slice (some ⟨b4, 0, none⟩) 4 4, i64 0]) (d := (some 32)) (v := .tuple #[.agg #[i32 0, i32 a, i32 0, i32 (IntKind.i32.wrap (a + 0)), i32 0, i32 0, i32 0, i32 0, i32 0, i32 0, i32 0, i32 0, i32 0, i32 0, i32 0, i32 0, i64 4], i64 0, .agg #[i64 0, i64 0, i64 0, i64 0, i64 0, i64 0, i64 0]]) hA hO Tryd.func18 (rs (exec_any (rgs [0, a, 0]) 0 0 _ [4, 3, 1, 2] _ (hT.keep hO.only (fun h => h)) (rgs2_ok' ha hb) (by decide) (by decide) ((hO.b 0).sl (xs := [4, 3, 1, 2]) (U8s.cons (inK_u8 (by decide) (by decide)) (U8s.cons (inK_u8 (by decide) (by decide)) (U8s.cons (inK_u8 (by decide) (by decide)) (U8s.cons (inK_u8 (by decide) (by decide)) U8s.nil)))) rfl (by kernel_rfl)))) ?_)
            clear hA hO fr; intro fr w12 hA hO
            refine ⟨(hO.sub [1, 2, 3]), ?_⟩
            replace hA := hA.sb (e' := [(0, i32 a), (1, i32 0), (4, bl false), (5, pt b1), (6, pt b2), (7, pt b3), (8, i64 0), (32, .tuple #[.agg #[i32 0, i32 a, i32 0, i32 (IntKind.i32.wrap (a + 0)), i32 0, i32 0, i32 0, i32 0, i32 0, i32 0, i32 0, i32 0, i32 0, i32 0, i32 0, i32 0, i64 4], i64 0, .agg #[i64 0, i64 0, i64 0, i64 0, i64 0, i64 0, i64 0]])])
            refine ckT (l := [7, 8, 9, 10]) (e' := [(0, i32 a), (1, i32 0), (4, bl false), (5, pt b1), (6, pt b2), (7, pt b3), (8, i64 0), (33, .agg #[i32 0, i32 a, i32 0, i32 (IntKind.i32.wrap (a + 0)), i32 0, i32 0, i32 0, i32 0, i32 0, i32 0, i32 0, i32 0, i32 0, i32 0, i32 0, i32 0, i64 4]), (34, i64 0), (35, .agg #[i64 0, i64 0, i64 0, i64 0, i64 0, i64 0, i64 0])]) hA [] c0 ?_
            clear hA fr; intro fr hA
            refine tree_mem ?_ ?_
            ·
              refine (mN (l := [i32 0, i32 0, i32 0, i32 0, i32 0, i32 0, i32 0, i32 0, i32 0, i32 0, i32 0, i32 0, i32 0, i32 0, i32 0, i32 0, i64 0]) (t := 40) (v := pt) (d := 9) hA hO ?_)
              clear hA hO fr; intro fr w13 b5 hA hO
              refine ⟨(hO.sub [2, 3, 4]), ?_⟩
              refine tree_mem ?_ ?_
              ·
                refine (mN (l := [i64 0, i64 0, i64 0, i64 0, i64 0, i64 0, i64 0]) (t := 43) (v := pt) (d := 11) hA hO ?_)
                clear hA hO fr; intro fr w14 b6 hA hO
                refine ⟨(hO.sub [3, 4, 5]), ?_⟩
                refine tree_mem ?_ ?_
                ·
                  refine (mS (off := 0) (vc := [i32 0, i32 a, i32 0, i32 (IntKind.i32.wrap (a + 0)), i32 0, i32 0, i32 0, i32 0, i32 0, i32 0, i32 0, i32 0, i32 0, i32 0, i32 0, i32 0, i64 4]) 1 hA hO ?_)
                  clear hO; intro w15 hO
                  refine ⟨(hO.sub [3, 4, 5]), ?_⟩
                  replace hA := hA.sb (e' := [(0, i32 a), (1, i32 0), (4, bl false), (5, pt b1), (6, pt b2), (7, pt b3), (8, i64 0), (9, pt b5), (11, pt b6), (34, i64 0), (35, .agg #[i64 0, i64 0, i64 0, i64 0, i64 0, i64 0, i64 0])])
                  refine ckT (l := [14]) (e' := [(0, i32 a), (1, i32 0), (4, bl false), (5, pt b1), (6, pt b2), (7, pt b3), (8, i64 0), (9, pt b5), (11, pt b6), (35, .agg #[i64 0, i64 0, i64 0, i64 0, i64 0, i64 0, i64 0])]) hA [] c0 ?_
                  clear hA fr; intro fr hA
                  refine tree_mem ?_ ?_
                  ·
                    refine (mS (off := 0) (vc := [i64 0, i64 0, i64 0, i64 0, i64 0, i64 0, i64 0]) 0 hA hO ?_)
                    clear hO; intro w16 hO
                    refine ⟨(hO.sub [3, 4, 5]), ?_⟩
                    replace hA := hA.sb (e' := [(0, i32 a), (1, i32 0), (4, bl false), (5, pt b1), (6, pt b2), (7, pt b3), (8, i64 0), (9, pt b5), (11, pt b6)])
                    refine tree_fin ?_
                    refine then_normal ?_
                    exact ⟨b5, b6, hA.sb, (hO.sub [0, 1, 3, 4, 5]), trivial⟩
                  ·
                    exact trivial
                ·
                  exact trivial
              ·
                exact trivial
            ·
              refine tree_mem ?_ ?_
              ·
                refine (mN (l := [i64 0, i64 0, i64 0, i64 0, i64 0, i64 0, i64 0]) (t := 43) (v := pt) (d := 11) hA hO ?_)
                clear hA hO fr; intro fr w17 b7 hA hO
                refine ⟨(hO.sub [2, 3, 4]), ?_⟩
                refine tree_mem ?_ ?_
                ·
                  refine (mN (l := [i32 0, i32 0, i32 0, i32 0, i32 0, i32 0, i32 0, i32 0, i32 0, i32 0, i32 0, i32 0, i32 0, i32 0, i32 0, i32 0, i64 0]) (t := 40) (v := pt) (d := 9) hA hO ?_)
                  clear hA hO fr; intro fr w18 b8 hA hO
                  refine ⟨(hO.sub [3, 4, 5]), ?_⟩
                  refine tree_mem ?_ ?_
                  ·
                    refine (mS (off := 0) (vc := [i32 0, i32 a, i32 0, i32 (IntKind.i32.wrap (a + 0)), i32 0, i32 0, i32 0, i32 0, i32 0, i32 0, i32 0, i32 0, i32 0, i32 0, i32 0, i32 0, i64 4]) 0 hA hO ?_)
                    clear hO; intro w19 hO
                    refine ⟨(hO.sub [3, 4, 5]), ?_⟩
                    replace hA := hA.sb (e' := [(0, i32 a), (1, i32 0), (4, bl false), (5, pt b1), (6, pt b2), (7, pt b3), (8, i64 0), (9, pt b8), (11, pt b7), (34, i64 0), (35, .agg #[i64 0, i64 0, i64 0, i64 0, i64 0, i64 0, i64 0])])
                    refine ckT (l := [14]) (e' := [(0, i32 a), (1, i32 0), (4, bl false), (5, pt b1), (6, pt b2), (7, pt b3), (8, i64 0), (9, pt b8), (11, pt b7), (35, .agg #[i64 0, i64 0, i64 0, i64 0, i64 0, i64 0, i64 0])]) hA [] c0 ?_
                    clear hA fr; intro fr hA
                    refine tree_mem ?_ ?_
                    ·
                      refine (mS (off := 0) (vc := [i64 0, i64 0, i64 0, i64 0, i64 0, i64 0, i64 0]) 1 hA hO ?_)
                      clear hO; intro w20 hO
                      refine ⟨(hO.sub [3, 4, 5]), ?_⟩
                      replace hA := hA.sb (e' := [(0, i32 a), (1, i32 0), (4, bl false), (5, pt b1), (6, pt b2), (7, pt b3), (8, i64 0), (9, pt b8), (11, pt b7)])
                      refine tree_fin ?_
                      refine then_normal ?_
                      exact ⟨b8, b7, hA.sb, (hO.sub [1, 0, 3, 4, 5]), trivial⟩
                    ·
                      exact trivial
                  ·
                    exact trivial
                ·
                  exact trivial
              ·
                exact trivial
          ·
            refine tree_mem ?_ ?_
            ·
              refine (mN (l := [i32 0, i32 0, i32 0, i32 0, i32 0, i32 0, i32 0, i32 0, i32 0, i32 0, i32 0, i32 0, i32 0, i32 0, i32 0, i32 0, i64 0]) (t := 40) (v := pt) (d := 9) hA hO ?_)
              clear hA hO fr; intro fr w21 b9 hA hO
              refine ⟨(hO.sub [2, 3, 4]), ?_⟩
              refine tree_mem ?_ ?_
              ·
                refine (mK (f := 18) (args := [.agg (List.toArray (regsL (rgs [0, a, 0]) 0)), .slice (some ⟨b4, 0, none⟩) 4 4, i64 0]) (d := (some 32)) (v := .tuple #[.agg #[i32 0, i32 a, i32 0, i32 (IntKind.i32.wrap (a + 0)), i32 0, i32 0, i32 0, i32 0, i32 0, i32 0, i32 0, i32 0, i32 0, i32 0, i32 0, i32 0, i64 4], i64 0, .agg #[i64 0, i64 0, i64 0, i64 0, i64 0, i64 0, i64 0]]) hA hO Tryd.func18 (rs (exec_any (rgs [0, a, 0]) 0 0 _ [4, 3, 1, 2] _ (hT.keep hO.only (fun h => h)) (rgs2_ok' ha hb) (by decide) (by decide) ((hO.b 1).sl (xs := [4, 3, 1, 2]) (U8s.cons (inK_u8 (by decide) (by decide)) (U8s.cons (inK_u8 (by decide) (by decide)) (U8s.cons (inK_u8 (by decide) (by decide)) (U8s.cons (inK_u8 (by decide) (by decide)) U8s.nil)))) rfl (by kernel_rfl)))) ?_)
                clear hA hO fr; intro fr w22 hA hO
                refine ⟨(hO.sub [2, 3, 4]), ?_⟩
                replace hA := hA.sb (e' := [(0, i32 a), (1, i32 0), (4, bl false), (5, pt b1), (6, pt b2), (7, pt b3), (8, i64 0), (9, pt b9), (32, .tuple #[.agg #[i32 0, i32 a, i32 0, i32 (IntKind.i32.wrap (a + 0)), i32 0, i32 0, i32 0, i32 0, i32 0, i32 0, i32 0, i32 0, i32 0, i32 0, i32 0, i32 0, i64 4], i64 0, .agg #[i64 0, i64 0, i64 0, i64 0, i64 0, i64 0, i64 0]])])
                refine ckT (l := [7, 8, 9, 10]) (e' := [(0, i32 a), (1, i32 0), (4, bl false), (5, pt b1), (6, pt b2), (7, pt b3), (8, i64 0), (9, pt b9), (33, .agg #[i32 0, i32 a, i32 0, i32 (IntKind.i32.wrap (a + 0)), i32 0, i32 0, i32 0, i32 0, i32 0, i32 0, i32 0, i32 0, i32 0, i32 0, i32 0, i32 0, i64 4]), (34, i64 0), (35, .agg #[i64 0, i64 0, i64 0, i64 0, i64 0, i64 0, i64 0])]) hA [] c0 ?_
                clear hA fr; intro fr hA
                refine tree_mem ?_ ?_
                ·
                  refine (mN (l := [i64 0, i64 0, i64 0, i64 0, i64 0, i64 0, i64 0]) (t := 43) (v := pt) (d := 11) hA hO ?_)
                  clear hA hO fr; intro fr w23 b10 hA hO
                  refine ⟨(hO.sub [3, 4, 5]), ?_⟩
                  refine tree_mem ?_ ?_
                  ·
                    refine (mS (off := 0) (vc := [i32 0, i32 a, i32 0, i32 (IntKind.i32.wrap (a + 0)), i32 0, i32 0, i32 0, i32 0, i32 0, i32 0, i32 0, i32 0, i32 0, i32 0, i32 0, i32 0, i64 4]) 1 hA hO ?_)
                    clear hO; intro w24 hO
                    refine ⟨(hO.sub [3, 4, 5]), ?_⟩
                    replace hA := hA.sb (e' := [(0, i32 a), (1, i32 0), (4, bl false), (5, pt b1), (6, pt b2), (7, pt b3), (8, i64 0), (9, pt b9), (11, pt b10), (34, i64 0), (35, .agg #[i64 0, i64 0, i64 0, i64 0, i64 0, i64 0, i64 0])])
                    refine ckT (l := [14]) (e' := [(0, i32 a), (1, i32 0), (4, bl false), (5, pt b1), (6, pt b2), (7, pt b3), (8, i64 0), (9, pt b9), (11, pt b10), (35, .agg #[i64 0, i64 0, i64 0, i64 0, i64 0, i64 0, i64 0])]) hA [] c0 ?_
                    clear hA fr; intro fr hA
                    refine tree_mem ?_ ?_
                    ·
                      refine (mS (off := 0) (vc := [i64 0, i64 0, i64 0, i64 0, i64 0, i64 0, i64 0]) 0 hA hO ?_)
                      clear hO; intro w25 hO
                      refine ⟨(hO.sub [3, 4, 5]), ?_⟩
                      replace hA := hA.sb (e' := [(0, i32 a), (1, i32 0), (4, bl false), (5, pt b1), (6, pt b2), (7, pt b3), (8, i64 0), (9, pt b9), (11, pt b10)])
                      refine tree_fin ?_
                      refine then_normal ?_
                      exact ⟨b9, b10, hA.sb, (hO.sub [0, 1, 3, 4, 5]), trivial⟩
                    ·
                      exact trivial
                  ·
                    exact trivial
                ·
                  exact trivial
              ·
                refine tree_mem ?_ ?_
                ·
                  refine (mN (l := [i64 0, i64 0, i64 0, i64 0, i64 0, i64 0, i64 0]) (t := 43) (v := pt) (d := 11) hA hO ?_)
                  clear hA hO fr; intro fr w26 b11 hA hO
                  refine ⟨(hO.sub [3, 4, 5]), ?_⟩
                  refine tree_mem ?_ ?_
                  ·
                    refine (mK (f := 18) (args := [.agg (List.toArray (regsL (rgs [0, a, 0]) 0)), .slice (some ⟨b4, 0, none⟩) 4 4, i64 0]) (d := (some 32)) (v := .tuple #[.agg #[i32 0, i32 a, i32 0, i32 (IntKind.i32.wrap (a + 0)), i32 0, i32 0, i32 0, i32 0, i32 0, i32 0, i32 0, i32 0, i32 0, i32 0, i32 0, i32 0, i64 4], i64 0, .agg #[i64 0, i64 0, i64 0, i64 0, i64 0, i64 0, i64 0]]) hA hO Tryd.func18 (rs (exec_any (rgs [0, a, 0]) 0 0 _ [4, 3, 1, 2] _ (hT.keep hO.only (fun h => h)) (rgs2_ok' ha hb) (by decide) (by decide) ((hO.b 2).sl (xs := [4, 3, 1, 2]) (U8s.cons (inK_u8 (by decide) (by decide)) (U8s.cons (inK_u8 (by decide) (by decide)) (U8s.cons (inK_u8 (by decide) (by decide)) (U8s.cons (inK_u8 (by decide) (by decide)) U8s.nil)))) rfl (by kernel_rfl)))) ?_)
                    clear hA hO fr; intro fr w27 hA hO
                    refine ⟨(hO.sub [3, 4, 5]), ?_⟩
                    replace hA := hA.sb (e' := [(0, i32 a), (1, i32 0), (4, bl false), (5, pt b1), (6, pt b2), (7, pt b3), (8, i64 0), (9, pt b9), (11, pt b11), (32, .tuple #[.agg #[i32 0, i32 a, i32 0, i32 (IntKind.i32.wrap (a + 0)), i32 0, i32 0, i32 0, i32 0, i32 0, i32 0, i32 0, i32 0, i32 0, i32 0, i32 0, i32 0, i64 4], i64 0, .agg #[i64 0, i64 0, i64 0, i64 0, i64 0, i64 0, i64 0]])])
                    refine ckT (l := [7, 8, 9, 10]) (e' := [(0, i32 a), (1, i32 0), (4, bl false), (5, pt b1), (6, pt b2), (7, pt b3), (8, i64 0), (9, pt b9), (11, pt b11), (33, .agg #[i32 0, i32 a, i32 0, i32 (IntKind.i32.wrap (a + 0)), i32 0, i32 0, i32 0, i32 0, i32 0, i32 0, i32 0, i32 0, i32 0, i32 0, i32 0, i32 0, i64 4]), (34, i64 0), (35, .agg #[i64 0, i64 0, i64 0, i64 0, i64 0, i64 0, i64 0])]) hA [] c0 ?_
                    clear hA fr; intro fr hA
                    refine tree_mem ?_ ?_
                    ·
                      refine (mS (off := 0) (vc := [i32 0, i32 a, i32 0, i32 (IntKind.i32.wrap (a + 0)), i32 0, i32 0, i32 0, i32 0, i32 0, i32 0, i32 0, i32 0, i32 0, i32 0, i32 0, i32 0, i64 4]) 1 hA hO ?_)
                      clear hO; intro w28 hO
                      refine ⟨(hO.sub [3, 4, 5]), ?_⟩
                      replace hA := hA.sb (e' := [(0, i32 a), (1, i32 0), (4, bl false), (5, pt b1), (6, pt b2), (7, pt b3), (8, i64 0), (9, pt b9), (11, pt b11), (34, i64 0), (35, .agg #[i64 0, i64 0, i64 0, i64 0, i64 0, i64 0, i64 0])])
                      refine ckT (l := [14]) (e' := [(0, i32 a), (1, i32 0), (4, bl false), (5, pt b1), (6, pt b2), (7, pt b3), (8, i64 0), (9, pt b9), (11, pt b11), (35, .agg #[i64 0, i64 0, i64 0, i64 0, i64 0, i64 0, i64 0])]) hA [] c0 ?_
                      clear hA fr; intro fr hA
                      refine tree_mem ?_ ?_
                      ·
                        refine (mS (off := 0) (vc := [i64 0, i64 0, i64 0, i64 0, i64 0, i64 0, i64 0]) 0 hA hO ?_)
                        clear hO; intro w29 hO
                        refine ⟨(hO.sub [3, 4, 5]), ?_⟩
                        replace hA := hA.sb (e' := [(0, i32 a), (1, i32 0), (4, bl false), (5, pt b1), (6, pt b2), (7, pt b3), (8, i64 0), (9, pt b9), (11, pt b11)])
                        refine tree_fin ?_
                        refine then_normal ?_
                        exact ⟨b9, b11, hA.sb, (hO.sub [0, 1, 3, 4, 5]), trivial⟩
                      ·
                        exact trivial
                    ·
                      exact trivial
                  ·
                    exact trivial
                ·
                  exact trivial
            ·
              refine tree_mem ?_ ?_
              ·
                refine (mN (l := [i64 0, i64 0, i64 0, i64 0, i64 0, i64 0, i64 0]) (t := 43) (v := pt) (d := 11) hA hO ?_)
                clear hA hO fr; intro fr w30 b12 hA hO
                refine ⟨(hO.sub [2, 3, 4]), ?_⟩
                refine tree_mem ?_ ?_
                ·
                  refine (mK (f := 18) (args := [.agg (List.toArray (regsL (rgs [0, a, 0]) 0)), .slice (some ⟨b4, 0, none⟩) 4 4, i64 0]) (d := (some 32)) (v := .tuple #[.agg #[i32 0, i32 a, i32 0, i32 (IntKind.i32.wrap (a + 0)), i32 0, i32 0, i32 0, i32 0, i32 0, i32 0, i32 0, i32 0, i32 0, i32 0, i32 0, i32 0, i64 4], i64 0, .agg #[i64 0, i64 0, i64 0, i64 0, i64 0, i64 0, i64 0]]) hA hO Tryd.func18 (rs (exec_any (rgs [0, a, 0]) 0 0 _ [4, 3, 1, 2] _ (hT.keep hO.only (fun h => h)) (rgs2_ok' ha hb) (by decide) (by decide) ((hO.b 1).sl (xs := [4, 3, 1, 2]) (U8s.cons (inK_u8 (by decide) (by decide)) (U8s.cons (inK_u8 (by decide) (by decide)) (U8s.cons (inK_u8 (by decide) (by decide)) (U8s.cons (inK_u8 (by decide) (by decide)) U8s.nil)))) rfl (by kernel_rfl)))) ?_)
                  clear hA hO fr; intro fr w31 hA hO
                  refine ⟨(hO.sub [2, 3, 4]), ?_⟩
                  replace hA := hA.sb (e' := [(0, i32 a), (1, i32 0), (4, bl false), (5, pt b1), (6, pt b2), (7, pt b3), (8, i64 0), (11, pt b12), (32, .tuple #[.agg #[i32 0, i32 a, i32 0, i32 (IntKind.i32.wrap (a + 0)), i32 0, i32 0, i32 0, i32 0, i32 0, i32 0, i32 0, i32 0, i32 0, i32 0, i32 0, i32 0, i64 4], i64 0, .agg #[i64 0, i64 0, i64 0, i64 0, i64 0, i64 0, i64 0]])])
                  refine ckT (l := [7, 8, 9, 10]) (e' := [(0, i32 a), (1, i32 0), (4, bl false), (5, pt b1), (6, pt b2), (7, pt b3), (8, i64 0), (11, pt b12), (33, .agg #[i32 0, i32 a, i32 0, i32 (IntKind.i32.wrap (a + 0)), i32 0, i32 0, i32 0, i32 0, i32 0, i32 0, i32 0, i32 0, i32 0, i32 0, i32 0, i32 0, i64 4]), (34, i64 0), (35, .agg #[i64 0, i64 0, i64 0, i64 0, i64 0, i64 0, i64 0])]) hA [] c0 ?_
                  clear hA fr; intro fr hA
                  refine tree_mem ?_ ?_
                  ·
                    refine (mN (l := [i32 0, i32 0, i32 0, i32 0, i32 0, i32 0, i32 0, i32 0, i32 0, i32 0, i32 0, i32 0, i32 0, i32 0, i32 0, i32 0, i64 0]) (t := 40) (v := pt) (d := 9) hA hO ?_)
                    clear hA hO fr; intro fr w32 b13 hA hO
                    refine ⟨(hO.sub [3, 4, 5]), ?_⟩
                    refine tree_mem ?_ ?_
                    ·
                      refine (mS (off := 0) (vc := [i32 0, i32 a, i32 0, i32 (IntKind.i32.wrap (a + 0)), i32 0, i32 0, i32 0, i32 0, i32 0, i32 0, i32 0, i32 0, i32 0, i32 0, i32 0, i32 0, i64 4]) 0 hA hO ?_)
                      clear hO; intro w33 hO
                      refine ⟨(hO.sub [3, 4, 5]), ?_⟩
                      replace hA := hA.sb (e' := [(0, i32 a), (1, i32 0), (4, bl false), (5, pt b1), (6, pt b2), (7, pt b3), (8, i64 0), (9, pt b13), (11, pt b12), (34, i64 0), (35, .agg #[i64 0, i64 0, i64 0, i64 0, i64 0, i64 0, i64 0])])
                      refine ckT (l := [14]) (e' := [(0, i32 a), (1, i32 0), (4, bl false), (5, pt b1), (6, pt b2), (7, pt b3), (8, i64 0), (9, pt b13), (11, pt b12), (35, .agg #[i64 0, i64 0, i64 0, i64 0, i64 0, i64 0, i64 0])]) hA [] c0 ?_
                      clear hA fr; intro fr hA
                      refine tree_mem ?_ ?_
                      ·
                        refine (mS (off := 0) (vc := [i64 0, i64 0, i64 0, i64 0, i64 0, i64 0, i64 0]) 1 hA hO ?_)
                        clear hO; intro w34 hO
                        refine ⟨(hO.sub [3, 4, 5]), ?_⟩
                        replace hA := hA.sb (e' := [(0, i32 a), (1, i32 0), (4, bl false), (5, pt b1), (6, pt b2), (7, pt b3), (8, i64 0), (9, pt b13), (11, pt b12)])
                        refine tree_fin ?_
                        refine then_normal ?_
                        exact ⟨b13, b12, hA.sb, (hO.sub [1, 0, 3, 4, 5]), trivial⟩
                      ·
                        exact trivial
                    ·
                      exact trivial
                  ·
                    exact trivial
                ·
                  refine tree_mem ?_ ?_
                  ·
                    refine (mN (l := [i32 0, i32 0, i32 0, i32 0, i32 0, i32 0, i32 0, i32 0, i32 0, i32 0, i32 0, i32 0, i32 0, i32 0, i32 0, i32 0, i64 0]) (t := 40) (v := pt) (d := 9) hA hO ?_)
                    clear hA hO fr; intro fr w35 b14 hA hO
                    refine ⟨(hO.sub [3, 4, 5]), ?_⟩
                    refine tree_mem ?_ ?_
                    ·
                      refine (mK (f := 18) (args := [.agg (List.toArray (regsL (rgs [0, a, 0]) 0)), .slice (some ⟨b4, 0, none⟩) 4 4, i64 0]) (d := (some 32)) (v := .tuple #[.agg #[i32 0, i32 a, i32 0, i32 (IntKind.i32.wrap (a + 0)), i32 0, i32 0, i32 0, i32 0, i32 0, i32 0, i32 0, i32 0, i32 0, i32 0, i32 0, i32 0, i64 4], i64 0, .agg #[i64 0, i64 0, i64 0, i64 0, i64 0, i64 0, i64 0]]) hA hO Tryd.func18 (rs (exec_any (rgs [0, a, 0]) 0 0 _ [4, 3, 1, 2] _ (hT.keep hO.only (fun h => h)) (rgs2_ok' ha hb) (by decide) (by decide) ((hO.b 2).sl (xs := [4, 3, 1, 2]) (U8s.cons (inK_u8 (by decide) (by decide)) (U8s.cons (inK_u8 (by decide) (by decide)) (U8s.cons (inK_u8 (by decide) (by decide)) (U8s.cons (inK_u8 (by decide) (by decide)) U8s.nil)))) rfl (by kernel_rfl)))) ?_)
                      clear hA hO fr; intro fr w36 hA hO
                      refine ⟨(hO.sub [3, 4, 5]), ?_⟩
                      replace hA := hA.sb (e' := [(0, i32 a), (1, i32 0), (4, bl false), (5, pt b1), (6, pt b2), (7, pt b3), (8, i64 0), (9, pt b14), (11, pt b12), (32, .tuple #[.agg #[i32 0, i32 a, i32 0, i32 (IntKind.i32.wrap (a + 0)), i32 0, i32 0, i32 0, i32 0, i32 0, i32 0, i32 0, i32 0, i32 0, i32 0, i32 0, i32 0, i64 4], i64 0, .agg #[i64 0, i64 0, i64 0, i64 0, i64 0, i64 0, i64 0]])])
                      refine ckT (l := [7, 8, 9, 10]) (e' := [(0, i32 a), (1, i32 0), (4, bl false), (5, pt b1), (6, pt b2), (7, pt b3), (8, i64 0), (9, pt b14), (11, pt b12), (33, .agg #[i32 0, i32 a, i32 0, i32 (IntKind.i32.wrap (a + 0)), i32 0, i32 0, i32 0, i32 0, i32 0, i32 0, i32 0, i32 0, i32 0, i32 0, i32 0, i32 0, i64 4]), (34, i64 0), (35, .agg #[i64 0, i64 0, i64 0, i64 0, i64 0, i64 0, i64 0])]) hA [] c0 ?_
                      clear hA fr; intro fr hA
                      refine tree_mem ?_ ?_
                      ·
                        refine (mS (off := 0) (vc := [i32 0, i32 a, i32 0, i32 (IntKind.i32.wrap (a + 0)), i32 0, i32 0, i32 0, i32 0, i32 0, i32 0, i32 0, i32 0, i32 0, i32 0, i32 0, i32 0, i64 4]) 0 hA hO ?_)
                        clear hO; intro w37 hO
                        refine ⟨(hO.sub [3, 4, 5]), ?_⟩
                        replace hA := hA.sb (e' := [(0, i32 a), (1, i32 0), (4, bl false), (5, pt b1), (6, pt b2), (7, pt b3), (8, i64 0), (9, pt b14), (11, pt b12), (34, i64 0), (35, .agg #[i64 0, i64 0, i64 0, i64 0, i64 0, i64 0, i64 0])])
                        refine ckT (l := [14]) (e' := [(0, i32 a), (1, i32 0), (4, bl false), (5, pt b1), (6, pt b2), (7, pt b3), (8, i64 0), (9, pt b14), (11, pt b12), (35, .agg #[i64 0, i64 0, i64 0, i64 0, i64 0, i64 0, i64 0])]) hA [] c0 ?_
                        clear hA fr; intro fr hA
                        refine tree_mem ?_ ?_
                        ·
                          refine (mS (off := 0) (vc := [i64 0, i64 0, i64 0, i64 0, i64 0, i64 0, i64 0]) 1 hA hO ?_)
                          clear hO; intro w38 hO
                          refine ⟨(hO.sub [3, 4, 5]), ?_⟩
                          replace hA := hA.sb (e' := [(0, i32 a), (1, i32 0), (4, bl false), (5, pt b1), (6, pt b2), (7, pt b3), (8, i64 0), (9, pt b14), (11, pt b12)])
                          refine tree_fin ?_
                          refine then_normal ?_
                          exact ⟨b14, b12, hA.sb, (hO.sub [1, 0, 3, 4, 5]), trivial⟩
                        ·
                          exact trivial
                      ·
                        exact trivial
                    ·
                      exact trivial
                  ·
                    exact trivial
              ·
                exact trivial
        ·
          refine tree_mem ?_ ?_
          ·
            refine (mN (l := [i32 0, i32 0, i32 0, i32 0, i32 0, i32 0, i32 0, i32 0, i32 0, i32 0, i32 0, i32 0, i32 0, i32 0, i32 0, i32 0, i64 0]) (t := 40) (v := pt) (d := 9) hA hO ?_)
            clear hA hO fr; intro fr w39 b15 hA hO
            refine ⟨(hO.sub [1, 2, 3]), ?_⟩
            refine tree_mem ?_ ?_
            ·
              refine (mN (l := [u8 4, u8 3, u8 1, u8 2]) (t := 5) (v := fun b => .slice (some ⟨b, 0, none⟩) 4 4) (d := 31) hA hO ?_)
              clear hA hO fr; intro fr w40 b16 hA hO
              refine ⟨(hO.sub [2, 3, 4]), ?_⟩
              replace hA := hA.sb (e' := [(0, i32 a), (1, i32 0), (4, bl false), (5, pt b1), (6, pt b2), (7, pt b3), (8, i64 0), (9, pt b15), (26, .agg #[i32 0, i32 a, i32 0, i32 0, i32 0, i32 0, i32 0, i32 0, i32 0, i32 0, i32 0, i32 0, i32 0, i32 0, i32 0, i32 0, i64 0]), (31, .slice (some ⟨b16, 0, none⟩) 4 4)])
              refine tree_mem ?_ ?_
              ·
                refine (mK (f := 18) (args := [.agg (List.toArray (regsL (rgs [0, a, 0]) 0)), .slice (some ⟨b16, 0, none⟩) 4 4, i64 0]) (d := (some 32)) (v := .tuple #[.agg #[i32 0, i32 a, i32 0, i32 (IntKind.i32.wrap (a + 0)), i32 0, i32 0, i32 0, i32 0, i32 0, i32 0, i32 0, i32 0, i32 0, i32 0, i32 0, i32 0, i64 4], i64 0, .agg #[i64 0, i64 0, i64 0, i64 0, i64 0, i64 0, i64 0]]) hA hO Tryd.func18 (rs (exec_any (rgs [0, a, 0]) 0 0 _ [4, 3, 1, 2] _ (hT.keep hO.only (fun h => h)) (rgs2_ok' ha hb) (by decide) (by decide) ((hO.b 0).sl (xs := [4, 3, 1, 2]) (U8s.cons (inK_u8 (by decide) (by decide)) (U8s.cons (inK_u8 (by decide) (by decide)) (U8s.cons (inK_u8 (by decide) (by decide)) (U8s.cons (inK_u8 (by decide) (by decide)) U8s.nil)))) rfl (by kernel_rfl)))) ?_)
                clear hA hO fr; intro fr w41 hA hO
                refine ⟨(hO.sub [2, 3, 4]), ?_⟩
                replace hA := hA.sb (e' := [(0, i32 a), (1, i32 0), (4, bl false), (5, pt b1), (6, pt b2), (7, pt b3), (8, i64 0), (9, pt b15), (32, .tuple #[.agg #[i32 0, i32 a, i32 0, i32 (IntKind.i32.wrap (a + 0)), i32 0, i32 0, i32 0, i32 0, i32 0, i32 0, i32 0, i32 0, i32 0, i32 0, i32 0, i32 0, i64 4], i64 0, .agg #[i64 0, i64 0, i64 0, i64 0, i64 0, i64 0, i64 0]])])
                refine ckT (l := [7, 8, 9, 10]) (e' := [(0, i32 a), (1, i32 0), (4, bl false), (5, pt b1), (6, pt b2), (7, pt b3), (8, i64 0), (9, pt b15), (33, .agg #[i32 0, i32 a, i32 0, i32 (IntKind.i32.wrap (a + 0)), i32 0, i32 0, i32 0, i32 0, i32 0, i32 0, i32 0, i32 0, i32 0, i32 0, i32 0, i32 0, i64 4]), (34, i64 0), (35, .agg #[i64 0, i64 0, i64 0, i64 0, i64 0, i64 0, i64 0])]) hA [] c0 ?_
                clear hA fr; intro fr hA
                refine tree_mem ?_ ?_
                ·
                  refine (mN (l := [i64 0, i64 0, i64 0, i64 0, i64 0, i64 0, i64 0]) (t := 43) (v := pt) (d := 11) hA hO ?_)
                  clear hA hO fr; intro fr w42 b17 hA hO
                  refine ⟨(hO.sub [3, 4, 5]), ?_⟩
                  refine tree_mem ?_ ?_
                  ·
                    refine (mS (off := 0) (vc := [i32 0, i32 a, i32 0, i32 (IntKind.i32.wrap (a + 0)), i32 0, i32 0, i32 0, i32 0, i32 0, i32 0, i32 0, i32 0, i32 0, i32 0, i32 0, i32 0, i64 4]) 2 hA hO ?_)
                    clear hO; intro w43 hO
                    refine ⟨(hO.sub [3, 4, 5]), ?_⟩
                    replace hA := hA.sb (e' := [(0, i32 a), (1, i32 0), (4, bl false), (5, pt b1), (6, pt b2), (7, pt b3), (8, i64 0), (9, pt b15), (11, pt b17), (34, i64 0), (35, .agg #[i64 0, i64 0, i64 0, i64 0, i64 0, i64 0, i64 0])])
                    refine ckT (l := [14]) (e' := [(0, i32 a), (1, i32 0), (4, bl false), (5, pt b1), (6, pt b2), (7, pt b3), (8, i64 0), (9, pt b15), (11, pt b17), (35, .agg #[i64 0, i64 0, i64 0, i64 0, i64 0, i64 0, i64 0])]) hA [] c0 ?_
                    clear hA fr; intro fr hA
                    refine tree_mem ?_ ?_
                    ·
                      refine (mS (off := 0) (vc := [i64 0, i64 0, i64 0, i64 0, i64 0, i64 0, i64 0]) 0 hA hO ?_)
                      clear hO; intro w44 hO
                      refine ⟨(hO.sub [3, 4, 5]), ?_⟩
                      replace hA := hA.sb (e' := [(0, i32 a), (1, i32 0), (4, bl false), (5, pt b1), (6, pt b2), (7, pt b3), (8, i64 0), (9, pt b15), (11, pt b17)])
                      refine tree_fin ?_
                      refine then_normal ?_
                      exact ⟨b15, b17, hA.sb, (hO.sub [0, 2, 3, 4, 5]), trivial⟩
                    ·
                      exact trivial
                  ·
                    exact trivial
                ·
                  exact trivial
              ·
                refine tree_mem ?_ ?_
                ·
                  refine (mN (l := [i64 0, i64 0, i64 0, i64 0, i64 0, i64 0, i64 0]) (t := 43) (v := pt) (d := 11) hA hO ?_)
                  clear hA hO fr; intro fr w45 b18 hA hO
                  refine ⟨(hO.sub [3, 4, 5]), ?_⟩
                  refine tree_mem ?_ ?_
                  ·
                    refine (mK (f := 18) (args := [.agg (List.toArray (regsL (rgs [0, a, 0]) 0)), .slice (some ⟨b16, 0, none⟩) 4 4, i64 0]) (d := (some 32)) (v := .tuple #[.agg #[i32 0, i32 a, i32 0, i32 (IntKind.i32.wrap (a + 0)), i32 0, i32 0, i32 0, i32 0, i32 0, i32 0, i32 0, i32 0, i32 0, i32 0, i32 0, i32 0, i64 4], i64 0, .agg #[i64 0, i64 0, i64 0, i64 0, i64 0, i64 0, i64 0]]) hA hO Tryd.func18 (rs (exec_any (rgs [0, a, 0]) 0 0 _ [4, 3, 1, 2] _ (hT.keep hO.only (fun h => h)) (rgs2_ok' ha hb) (by decide) (by decide) ((hO.b 1).sl (xs := [4, 3, 1, 2]) (U8s.cons (inK_u8 (by decide) (by decide)) (U8s.cons (inK_u8 (by decide) (by decide)) (U8s.cons (inK_u8 (by decide) (by decide)) (U8s.cons (inK_u8 (by decide) (by decide)) U8s.nil)))) rfl (by kernel_rfl)))) ?_)
                    clear hA hO fr; intro fr w46 hA hO
                    refine ⟨(hO.sub [3, 4, 5]), ?_⟩
                    replace hA := hA.sb (e' := [(0, i32 a), (1, i32 0), (4, bl false), (5, pt b1), (6, pt b2), (7, pt b3), (8, i64 0), (9, pt b15), (11, pt b18), (32, .tuple #[.agg #[i32 0, i32 a, i32 0, i32 (IntKind.i32.wrap (a + 0)), i32 0, i32 0, i32 0, i32 0, i32 0, i32 0, i32 0, i32 0, i32 0, i32 0, i32 0, i32 0, i64 4], i64 0, .agg #[i64 0, i64 0, i64 0, i64 0, i64 0, i64 0, i64 0]])])
                    refine ckT (l := [7, 8, 9, 10]) (e' := [(0, i32 a), (1, i32 0), (4, bl false), (5, pt b1), (6, pt b2), (7, pt b3), (8, i64 0), (9, pt b15), (11, pt b18), (33, .agg #[i32 0, i32 a, i32 0, i32 (IntKind.i32.wrap (a + 0)), i32 0, i32 0, i32 0, i32 0, i32 0, i32 0, i32 0, i32 0, i32 0, i32 0, i32 0, i32 0, i64 4]), (34, i64 0), (35, .agg #[i64 0, i64 0, i64 0, i64 0, i64 0, i64 0, i64 0])]) hA [] c0 ?_
                    clear hA fr; intro fr hA
                    refine tree_mem ?_ ?_
                    ·
                      refine (mS (off := 0) (vc := [i32 0, i32 a, i32 0, i32 (IntKind.i32.wrap (a + 0)), i32 0, i32 0, i32 0, i32 0, i32 0, i32 0, i32 0, i32 0, i32 0, i32 0, i32 0, i32 0, i64 4]) 2 hA hO ?_)
                      clear hO; intro w47 hO
                      refine ⟨(hO.sub [3, 4, 5]), ?_⟩
                      replace hA := hA.sb (e' := [(0, i32 a), (1, i32 0), (4, bl false), (5, pt b1), (6, pt b2), (7, pt b3), (8, i64 0), (9, pt b15), (11, pt b18), (34, i64 0), (35, .agg #[i64 0, i64 0, i64 0, i64 0, i64 0, i64 0, i64 0])])
                      refine ckT (l := [14]) (e' := [(0, i32 a), (1, i32 0), (4, bl false), (5, pt b1), (6, pt b2), (7, pt b3), (8, i64 0), (9, pt b15), (11, pt b18), (35, .agg #[i64 0, i64 0, i64 0, i64 0, i64 0, i64 0, i64 0])]) hA [] c0 ?_
                      clear hA fr; intro fr hA
                      refine tree_mem ?_ ?_
                      ·
                        refine (mS (off := 0) (vc := [i64 0, i64 0, i64 0, i64 0, i64 0, i64 0, i64 0]) 0 hA hO ?_)
                        clear hO; intro w48 hO
                        refine ⟨(hO.sub [3, 4, 5]), ?_⟩
                        replace hA := hA.sb (e' := [(0, i32 a), (1, i32 0), (4, bl false), (5, pt b1), (6, pt b2), (7, pt b3), (8, i64 0), (9, pt b15), (11, pt b18)])
                        refine tree_fin ?_
                        refine then_normal ?_
                        exact ⟨b15, b18, hA.sb, (hO.sub [0, 2, 3, 4, 5]), trivial⟩
                      ·
                        exact trivial
                    ·
                      exact trivial
                  ·
                    exact trivial
                ·
                  exact trivial
            ·
              refine tree_mem ?_ ?_
              ·
                refine (mN (l := [i64 0, i64 0, i64 0, i64 0, i64 0, i64 0, i64 0]) (t := 43) (v := pt) (d := 11) hA hO ?_)
                clear hA hO fr; intro fr w49 b19 hA hO
                refine ⟨(hO.sub [2, 3, 4]), ?_⟩
                refine tree_mem ?_ ?_
                ·
                  refine (mN (l := [u8 4, u8 3, u8 1, u8 2]) (t := 5) (v := fun b => .slice (some ⟨b, 0, none⟩) 4 4) (d := 31) hA hO ?_)
                  clear hA hO fr; intro fr w50 b20 hA hO
                  refine ⟨(hO.sub [3, 4, 5]), ?_⟩
                  replace hA := hA.sb (e' := [(0, i32 a), (1, i32 0), (4, bl false), (5, pt b1), (6, pt b2), (7, pt b3), (8, i64 0), (9, pt b15), (11, pt b19), (26, .agg #[i32 0, i32 a, i32 0, i32 0, i32 0, i32 0, i32 0, i32 0, i32 0, i32 0, i32 0, i32 0, i32 0, i32 0, i32 0, i32 0, i64 0]), (31, .slice (some ⟨b20, 0, none⟩) 4 4)])
                  refine tree_mem ?_ ?_
                  ·
                    refine (mK (f := 18) (args := [.agg (List.toArray (regsL (rgs [0, a, 0]) 0)), .slice (some ⟨b20, 0, none⟩) 4 4, i64 0]) (d := (some 32)) (v := .tuple #[.agg #[i32 0, i32 a, i32 0, i32 (IntKind.i32.wrap (a + 0)), i32 0, i32 0, i32 0, i32 0, i32 0, i32 0, i32 0, i32 0, i32 0, i32 0, i32 0, i32 0, i64 4], i64 0, .agg #[i64 0, i64 0, i64 0, i64 0, i64 0, i64 0, i64 0]]) hA hO Tryd.func18 (rs (exec_any (rgs [0, a, 0]) 0 0 _ [4, 3, 1, 2] _ (hT.keep hO.only (fun h => h)) (rgs2_ok' ha hb) (by decide) (by decide) ((hO.b 0).sl (xs := [4, 3, 1, 2]) (U8s.cons (inK_u8 (by decide) (by decide)) (U8s.cons (inK_u8 (by decide) (by decide)) (U8s.cons (inK_u8 (by decide) (by decide)) (U8s.cons (inK_u8 (by decide) (by decide)) U8s.nil)))) rfl (by kernel_rfl)))) ?_)
                    clear hA hO fr; intro fr w51 hA hO
                    refine ⟨(hO.sub [3, 4, 5]), ?_⟩
                    replace hA := hA.sb (e' := [(0, i32 a), (1, i32 0), (4, bl false), (5, pt b1), (6, pt b2), (7, pt b3), (8, i64 0), (9, pt b15), (11, pt b19), (32, .tuple #[.agg #[i32 0, i32 a, i32 0, i32 (IntKind.i32.wrap (a + 0)), i32 0, i32 0, i32 0, i32 0, i32 0, i32 0, i32 0, i32 0, i32 0, i32 0, i32 0, i32 0, i64 4], i64 0, .agg #[i64 0, i64 0, i64 0, i64 0, i64 0, i64 0, i64 0]])])
                    refine ckT (l := [7, 8, 9, 10]) (e' := [(0, i32 a), (1, i32 0), (4, bl false), (5, pt b1), (6, pt b2), (7, pt b3), (8, i64 0), (9, pt b15), (11, pt b19), (33, .agg #[i32 0, i32 a, i32 0, i32 (IntKind.i32.wrap (a + 0)), i32 0, i32 0, i32 0, i32 0, i32 0, i32 0, i32 0, i32 0, i32 0, i32 0, i32 0, i32 0, i64 4]), (34, i64 0), (35, .agg #[i64 0, i64 0, i64 0, i64 0, i64 0, i64 0, i64 0])]) hA [] c0 ?_
                    clear hA fr; intro fr hA
                    refine tree_mem ?_ ?_
                    ·
                      refine (mS (off := 0) (vc := [i32 0, i32 a, i32 0, i32 (IntKind.i32.wrap (a + 0)), i32 0, i32 0, i32 0, i32 0, i32 0, i32 0, i32 0, i32 0, i32 0, i32 0, i32 0, i32 0, i64 4]) 2 hA hO ?_)
                      clear hO; intro w52 hO
                      refine ⟨(hO.sub [3, 4, 5]), ?_⟩
                      replace hA := hA.sb (e' := [(0, i32 a), (1, i32 0), (4, bl false), (5, pt b1), (6, pt b2), (7, pt b3), (8, i64 0), (9, pt b15), (11, pt b19), (34, i64 0), (35, .agg #[i64 0, i64 0, i64 0, i64 0, i64 0, i64 0, i64 0])])
                      refine ckT (l := [14]) (e' := [(0, i32 a), (1, i32 0), (4, bl false), (5, pt b1), (6, pt b2), (7, pt b3), (8, i64 0), (9, pt b15), (11, pt b19), (35, .agg #[i64 0, i64 0, i64 0, i64 0, i64 0, i64 0, i64 0])]) hA [] c0 ?_
                      clear hA fr; intro fr hA
                      refine tree_mem ?_ ?_
                      ·
                        refine (mS (off := 0) (vc := [i64 0, i64 0, i64 0, i64 0, i64 0, i64 0, i64 0]) 1 hA hO ?_)
                        clear hO; intro w53 hO
                        refine ⟨(hO.sub [3, 4, 5]), ?_⟩
                        replace hA := hA.sb (e' := [(0, i32 a), (1, i32 0), (4, bl false), (5, pt b1), (6, pt b2), (7, pt b3), (8, i64 0), (9, pt b15), (11, pt b19)])
                        refine tree_fin ?_
                        refine then_normal ?_
                        exact ⟨b15, b19, hA.sb, (hO.sub [1, 2, 3, 4, 5]), trivial⟩
                      ·
                        exact trivial
                    ·
                      exact trivial
                  ·
                    exact trivial
                ·
                  exact trivial
              ·
                exact trivial
          ·
            refine tree_mem ?_ ?_
            ·
              refine (mN (l := [i64 0, i64 0, i64 0, i64 0, i64 0, i64 0, i64 0]) (t := 43) (v := pt) (d := 11) hA hO ?_)
              clear hA hO fr; intro fr w54 b21 hA hO
              refine ⟨(hO.sub [1, 2, 3]), ?_⟩
              refine tree_mem ?_ ?_
              ·
                refine (mN (l := [u8 4, u8 3, u8 1, u8 2]) (t := 5) (v := fun b => .slice (some ⟨b, 0, none⟩) 4 4) (d := 31) hA hO ?_)
                clear hA hO fr; intro fr w55 b22 hA hO
                refine ⟨(hO.sub [2, 3, 4]), ?_⟩
                replace hA := hA.sb (e' := [(0, i32 a), (1, i32 0), (4, bl false), (5, pt b1), (6, pt b2), (7, pt b3), (8, i64 0), (11, pt b21), (26, .agg #[i32 0, i32 a, i32 0, i32 0, i32 0, i32 0, i32 0, i32 0, i32 0, i32 0, i32 0, i32 0, i32 0, i32 0, i32 0, i32 0, i64 0]), (31, .slice (some ⟨b22, 0, none⟩) 4 4)])
                refine tree_mem ?_ ?_
                ·
                  refine (mK (f := 18) (args := [.agg (List.toArray (regsL (rgs [0, a, 0]) 0)), .slice (some ⟨b22, 0, none⟩) 4 4, i64 0]) (d := (some 32)) (v := .tuple #[.agg #[i32 0, i32 a, i32 0, i32 (IntKind.i32.wrap (a + 0)), i32 0, i32 0, i32 0, i32 0, i32 0, i32 0, i32 0, i32 0, i32 0, i32 0, i32 0, i32 0, i64 4], i64 0, .agg #[i64 0, i64 0, i64 0, i64 0, i64 0, i64 0, i64 0]]) hA hO Tryd.func18 (rs (exec_any (rgs [0, a, 0]) 0 0 _ [4, 3, 1, 2] _ (hT.keep hO.only (fun h => h)) (rgs2_ok' ha hb) (by decide) (by decide) ((hO.b 0).sl (xs := [4, 3, 1, 2]) (U8s.cons (inK_u8 (by decide) (by decide)) (U8s.cons (inK_u8 (by decide) (by decide)) (U8s.cons (inK_u8 (by decide) (by decide)) (U8s.cons (inK_u8 (by decide) (by decide)) U8s.nil)))) rfl (by kernel_rfl)))) ?_)
                  clear hA hO fr; intro fr w56 hA hO
                  refine ⟨(hO.sub [2, 3, 4]), ?_⟩
                  replace hA := hA.sb (e' := [(0, i32 a), (1, i32 0), (4, bl false), (5, pt b1), (6, pt b2), (7, pt b3), (8, i64 0), (11, pt b21), (32, .tuple #[.agg #[i32 0, i32 a, i32 0, i32 (IntKind.i32.wrap (a + 0)), i32 0, i32 0, i32 0, i32 0, i32 0, i32 0, i32 0, i32 0, i32 0, i32 0, i32 0, i32 0, i64 4], i64 0, .agg #[i64 0, i64 0, i64 0, i64 0, i64 0, i64 0, i64 0]])])
                  refine ckT (l := [7, 8, 9, 10]) (e' := [(0, i32 a), (1, i32 0), (4, bl false), (5, pt b1), (6, pt b2), (7, pt b3), (8, i64 0), (11, pt b21), (33, .agg #[i32 0, i32 a, i32 0, i32 (IntKind.i32.wrap (a + 0)), i32 0, i32 0, i32 0, i32 0, i32 0, i32 0, i32 0, i32 0, i32 0, i32 0, i32 0, i32 0, i64 4]), (34, i64 0), (35, .agg #[i64 0, i64 0, i64 0, i64 0, i64 0, i64 0, i64 0])]) hA [] c0 ?_
                  clear hA fr; intro fr hA
                  refine tree_mem ?_ ?_
                  ·
                    refine (mN (l := [i32 0, i32 0, i32 0, i32 0, i32 0, i32 0, i32 0, i32 0, i32 0, i32 0, i32 0, i32 0, i32 0, i32 0, i32 0, i32 0, i64 0]) (t := 40) (v := pt) (d := 9) hA hO ?_)
                    clear hA hO fr; intro fr w57 b23 hA hO
                    refine ⟨(hO.sub [3, 4, 5]), ?_⟩
                    refine tree_mem ?_ ?_
                    ·
                      refine (mS (off := 0) (vc := [i32 0, i32 a, i32 0, i32 (IntKind.i32.wrap (a + 0)), i32 0, i32 0, i32 0, i32 0, i32 0, i32 0, i32 0, i32 0, i32 0, i32 0, i32 0, i32 0, i64 4]) 0 hA hO ?_)
                      clear hO; intro w58 hO
                      refine ⟨(hO.sub [3, 4, 5]), ?_⟩
                      replace hA := hA.sb (e' := [(0, i32 a), (1, i32 0), (4, bl false), (5, pt b1), (6, pt b2), (7, pt b3), (8, i64 0), (9, pt b23), (11, pt b21), (34, i64 0), (35, .agg #[i64 0, i64 0, i64 0, i64 0, i64 0, i64 0, i64 0])])
                      refine ckT (l := [14]) (e' := [(0, i32 a), (1, i32 0), (4, bl false), (5, pt b1), (6, pt b2), (7, pt b3), (8, i64 0), (9, pt b23), (11, pt b21), (35, .agg #[i64 0, i64 0, i64 0, i64 0, i64 0, i64 0, i64 0])]) hA [] c0 ?_
                      clear hA fr; intro fr hA
                      refine tree_mem ?_ ?_
                      ·
                        refine (mS (off := 0) (vc := [i64 0, i64 0, i64 0, i64 0, i64 0, i64 0, i64 0]) 2 hA hO ?_)
                        clear hO; intro w59 hO
                        refine ⟨(hO.sub [3, 4, 5]), ?_⟩
                        replace hA := hA.sb (e' := [(0, i32 a), (1, i32 0), (4, bl false), (5, pt b1), (6, pt b2), (7, pt b3), (8, i64 0), (9, pt b23), (11, pt b21)])
                        refine tree_fin ?_
                        refine then_normal ?_
                        exact ⟨b23, b21, hA.sb, (hO.sub [2, 0, 3, 4, 5]), trivial⟩
                      ·
                        exact trivial
                    ·
                      exact trivial
                  ·
                    exact trivial
                ·
                  refine tree_mem ?_ ?_
                  ·
                    refine (mN (l := [i32 0, i32 0, i32 0, i32 0, i32 0, i32 0, i32 0, i32 0, i32 0, i32 0, i32 0, i32 0, i32 0, i32 0, i32 0, i32 0, i64 0]) (t := 40) (v := pt) (d := 9) hA hO ?_)
                    clear hA hO fr; intro fr w60 b24 hA hO
                    refine ⟨(hO.sub [3, 4, 5]), ?_⟩
                    refine tree_mem ?_ ?_
                    ·
                      refine (mK (f := 18) (args := [.agg (List.toArray (regsL (rgs [0, a, 0]) 0)), .slice (some ⟨b22, 0, none⟩) 4 4, i64 0]) (d := (some 32)) (v := .tuple #[.agg #[i32 0, i32 a, i32 0, i32 (IntKind.i32.wrap (a + 0)), i32 0, i32 0, i32 0, i32 0, i32 0, i32 0, i32 0, i32 0, i32 0, i32 0, i32 0, i32 0, i64 4], i64 0, .agg #[i64 0, i64 0, i64 0, i64 0, i64 0, i64 0, i64 0]]) hA hO Tryd.func18 (rs (exec_any (rgs [0, a, 0]) 0 0 _ [4, 3, 1, 2] _ (hT.keep hO.only (fun h => h)) (rgs2_ok' ha hb) (by decide) (by decide) ((hO.b 1).sl (xs := [4, 3, 1, 2]) (U8s.cons (inK_u8 (by decide) (by decide)) (U8s.cons (inK_u8 (by decide) (by decide)) (U8s.cons (inK_u8 (by decide) (by decide)) (U8s.cons (inK_u8 (by decide) (by decide)) U8s.nil)))) rfl (by kernel_rfl)))) ?_)
                      clear hA hO fr; intro fr w61 hA hO
                      refine ⟨(hO.sub [3, 4, 5]), ?_⟩
                      replace hA := hA.sb (e' := [(0, i32 a), (1, i32 0), (4, bl false), (5, pt b1), (6, pt b2), (7, pt b3), (8, i64 0), (9, pt b24), (11, pt b21), (32, .tuple #[.agg #[i32 0, i32 a, i32 0, i32 (IntKind.i32.wrap (a + 0)), i32 0, i32 0, i32 0, i32 0, i32 0, i32 0, i32 0, i32 0, i32 0, i32 0, i32 0, i32 0, i64 4], i64 0, .agg #[i64 0, i64 0, i64 0, i64 0, i64 0, i64 0, i64 0]])])
                      refine ckT (l := [7, 8, 9, 10]) (e' := [(0, i32 a), (1, i32 0), (4, bl false), (5, pt b1), (6, pt b2), (7, pt b3), (8, i64 0), (9, pt b24), (11, pt b21), (33, .agg #[i32 0, i32 a, i32 0, i32 (IntKind.i32.wrap (a + 0)), i32 0, i32 0, i32 0, i32 0, i32 0, i32 0, i32 0, i32 0, i32 0, i32 0, i32 0, i32 0, i64 4]), (34, i64 0), (35, .agg #[i64 0, i64 0, i64 0, i64 0, i64 0, i64 0, i64 0])]) hA [] c0 ?_
                      clear hA fr; intro fr hA
                      refine tree_mem ?_ ?_
                      ·
                        refine (mS (off := 0) (vc := [i32 0, i32 a, i32 0, i32 (IntKind.i32.wrap (a + 0)), i32 0, i32 0, i32 0, i32 0, i32 0, i32 0, i32 0, i32 0, i32 0, i32 0, i32 0, i32 0, i64 4]) 0 hA hO ?_)
                        clear hO; intro w62 hO
                        refine ⟨(hO.sub [3, 4, 5]), ?_⟩
                        replace hA := hA.sb (e' := [(0, i32 a), (1, i32 0), (4, bl false), (5, pt b1), (6, pt b2), (7, pt b3), (8, i64 0), (9, pt b24), (11, pt b21), (34, i64 0), (35, .agg #[i64 0, i64 0, i64 0, i64 0, i64 0, i64 0, i64 0])])
                        refine ckT (l := [14]) (e' := [(0, i32 a), (1, i32 0), (4, bl false), (5, pt b1), (6, pt b2), (7, pt b3), (8, i64 0), (9, pt b24), (11, pt b21), (35, .agg #[i64 0, i64 0, i64 0, i64 0, i64 0, i64 0, i64 0])]) hA [] c0 ?_
                        clear hA fr; intro fr hA
                        refine tree_mem ?_ ?_
                        ·
                          refine (mS (off := 0) (vc := [i64 0, i64 0, i64 0, i64 0, i64 0, i64 0, i64 0]) 2 hA hO ?_)
                          clear hO; intro w63 hO
                          refine ⟨(hO.sub [3, 4, 5]), ?_⟩
                          replace hA := hA.sb (e' := [(0, i32 a), (1, i32 0), (4, bl false), (5, pt b1), (6, pt b2), (7, pt b3), (8, i64 0), (9, pt b24), (11, pt b21)])
                          refine tree_fin ?_
                          refine then_normal ?_
                          exact ⟨b24, b21, hA.sb, (hO.sub [2, 0, 3, 4, 5]), trivial⟩
                        ·
                          exact trivial
                      ·
                        exact trivial
                    ·
                      exact trivial
                  ·
                    exact trivial
              ·
                refine tree_mem ?_ ?_
                ·
                  refine (mN (l := [i32 0, i32 0, i32 0, i32 0, i32 0, i32 0, i32 0, i32 0, i32 0, i32 0, i32 0, i32 0, i32 0, i32 0, i32 0, i32 0, i64 0]) (t := 40) (v := pt) (d := 9) hA hO ?_)
                  clear hA hO fr; intro fr w64 b25 hA hO
                  refine ⟨(hO.sub [2, 3, 4]), ?_⟩
                  refine tree_mem ?_ ?_
                  ·
                    refine (mN (l := [u8 4, u8 3, u8 1, u8 2]) (t := 5) (v := fun b => .slice (some ⟨b, 0, none⟩) 4 4) (d := 31) hA hO ?_)
                    clear hA hO fr; intro fr w65 b26 hA hO
                    refine ⟨(hO.sub [3, 4, 5]), ?_⟩
                    replace hA := hA.sb (e' := [(0, i32 a), (1, i32 0), (4, bl false), (5, pt b1), (6, pt b2), (7, pt b3), (8, i64 0), (9, pt b25), (11, pt b21), (26, .agg #[i32 0, i32 a, i32 0, i32 0, i32 0, i32 0, i32 0, i32 0, i32 0, i32 0, i32 0, i32 0, i32 0, i32 0, i32 0, i32 0, i64 0]), (31, .slice (some ⟨b26, 0, none⟩) 4 4)])
                    refine tree_mem ?_ ?_
                    ·
                      refine (mK (f := 18) (args := [.agg (List.toArray (regsL (rgs [0, a, 0]) 0)), .slice (some ⟨b26, 0, none⟩) 4 4, i64 0]) (d := (some 32)) (v := .tuple #[.agg #[i32 0, i32 a, i32 0, i32 (IntKind.i32.wrap (a + 0)), i32 0, i32 0, i32 0, i32 0, i32 0, i32 0, i32 0, i32 0, i32 0, i32 0, i32 0, i32 0, i64 4], i64 0, .agg #[i64 0, i64 0, i64 0, i64 0, i64 0, i64 0, i64 0]]) hA hO Tryd.func18 (rs (exec_any (rgs [0, a, 0]) 0 0 _ [4, 3, 1, 2] _ (hT.keep hO.only (fun h => h)) (rgs2_ok' ha hb) (by decide) (by decide) ((hO.b 0).sl (xs := [4, 3, 1, 2]) (U8s.cons (inK_u8 (by decide) (by decide)) (U8s.cons (inK_u8 (by decide) (by decide)) (U8s.cons (inK_u8 (by decide) (by decide)) (U8s.cons (inK_u8 (by decide) (by decide)) U8s.nil)))) rfl (by kernel_rfl)))) ?_)
                      clear hA hO fr; intro fr w66 hA hO
                      refine ⟨(hO.sub [3, 4, 5]), ?_⟩
                      replace hA := hA.sb (e' := [(0, i32 a), (1, i32 0), (4, bl false), (5, pt b1), (6, pt b2), (7, pt b3), (8, i64 0), (9, pt b25), (11, pt b21), (32, .tuple #[.agg #[i32 0, i32 a, i32 0, i32 (IntKind.i32.wrap (a + 0)), i32 0, i32 0, i32 0, i32 0, i32 0, i32 0, i32 0, i32 0, i32 0, i32 0, i32 0, i32 0, i64 4], i64 0, .agg #[i64 0, i64 0, i64 0, i64 0, i64 0, i64 0, i64 0]])])
                      refine ckT (l := [7, 8, 9, 10]) (e' := [(0, i32 a), (1, i32 0), (4, bl false), (5, pt b1), (6, pt b2), (7, pt b3), (8, i64 0), (9, pt b25), (11, pt b21), (33, .agg #[i32 0, i32 a, i32 0, i32 (IntKind.i32.wrap (a + 0)), i32 0, i32 0, i32 0, i32 0, i32 0, i32 0, i32 0, i32 0, i32 0, i32 0, i32 0, i32 0, i64 4]), (34, i64 0), (35, .agg #[i64 0, i64 0, i64 0, i64 0, i64 0, i64 0, i64 0])]) hA [] c0 ?_
                      clear hA fr; intro fr hA
                      refine tree_mem ?_ ?_
                      ·
                        refine (mS (off := 0) (vc := [i32 0, i32 a, i32 0, i32 (IntKind.i32.wrap (a + 0)), i32 0, i32 0, i32 0, i32 0, i32 0, i32 0, i32 0, i32 0, i32 0, i32 0, i32 0, i32 0, i64 4]) 1 hA hO ?_)
                        clear hO; intro w67 hO
                        refine ⟨(hO.sub [3, 4, 5]), ?_⟩
                        replace hA := hA.sb (e' := [(0, i32 a), (1, i32 0), (4, bl false), (5, pt b1), (6, pt b2), (7, pt b3), (8, i64 0), (9, pt b25), (11, pt b21), (34, i64 0), (35, .agg #[i64 0, i64 0, i64 0, i64 0, i64 0, i64 0, i64 0])])
                        refine ckT (l := [14]) (e' := [(0, i32 a), (1, i32 0), (4, bl false), (5, pt b1), (6, pt b2), (7, pt b3), (8, i64 0), (9, pt b25), (11, pt b21), (35, .agg #[i64 0, i64 0, i64 0, i64 0, i64 0, i64 0, i64 0])]) hA [] c0 ?_
                        clear hA fr; intro fr hA
                        refine tree_mem ?_ ?_
                        ·
                          refine (mS (off := 0) (vc := [i64 0, i64 0, i64 0, i64 0, i64 0, i64 0, i64 0]) 2 hA hO ?_)
                          clear hO; intro w68 hO
                          refine ⟨(hO.sub [3, 4, 5]), ?_⟩
                          replace hA := hA.sb (e' := [(0, i32 a), (1, i32 0), (4, bl false), (5, pt b1), (6, pt b2), (7, pt b3), (8, i64 0), (9, pt b25), (11, pt b21)])
                          refine tree_fin ?_
                          refine then_normal ?_
                          exact ⟨b25, b21, hA.sb, (hO.sub [2, 1, 3, 4, 5]), trivial⟩
                        ·
                          exact trivial
                      ·
                        exact trivial
                    ·
                      exact trivial
                  ·
                    exact trivial
                ·
                  exact trivial
            ·
              exact trivial
    ·
      refine wp_seq ?_
      refine sC (e' := [(0, i32 a), (1, i32 0), (4, bl false), (5, pt b1), (6, pt b2), (7, pt b3), (8, i64 1), (22, bl true)]) 2 hA [] c0 ?_
      clear hA fr; intro fr hA
      refine cT hA ?_
      refine wp_skip ?_
      refine then_normal ?_
      refine wp_seq ?_
      refine wp_block ?_
      refine sJ (fun fr W => ∃ (j3 : Nat) (j4 : Nat), Holds 132 [] fr [(0, i32 a), (1, i32 0), (4, bl false), (5, pt b1), (6, pt b2), (7, pt b3), (8, i64 1), (9, pt j3), (11, pt j4)] ∧ Ow Tryd.prog none' w W [(j4, 43, [i64 0, i64 0, i64 0, i64 0, i64 0, i64 0, i64 0]), (j3, 40, [i32 0, i32 a, i32 0, i32 (IntKind.i32.wrap (a - 0)), i32 0, i32 0, i32 0, i32 0, i32 0, i32 0, i32 0, i32 0, i32 0, i32 0, i32 0, i32 0, i64 4]), (b3, 47, [i64 (IntKind.i32.wrap (a + 0)), i64 0, i64 0, i64 0, i64 0]), (b2, 47, [i64 4, i64 5, i64 6, i64 7, i64 8]), (b1, 40, [i32 0, i32 a, i32 0, i32 0, i32 0, i32 0, i32 0, i32 0, i32 0, i32 0, i32 0, i32 0, i32 0, i32 0, i32 0, i32 0, i64 0])] ∧ True) ?_ ?_
      · rintro fr w69 ⟨j3, j4, hA, hO, -⟩
        refine wp_seq ?_
        refine sC (e' := [(0, i32 a), (1, i32 0), (4, bl false), (5, pt b1), (6, pt b2), (7, pt b3), (8, i64 1), (9, pt j3), (11, pt j4), (43, bl false)]) 8 hA [i64 5] (cc (⟨by omega, by omega⟩ : (0 : Int) ≤ 1 ∧ 1 < ((5 : Nat) : Int)) (cc (hO.l1 3 1 3 (i64 5)) c0)) ?_
        clear hA fr; intro fr hA
        refine cF hA ?_
        refine wp_skip ?_
        refine then_normal ?_
        refine wp_seq ?_
        refine sC (e' := [(0, i32 a), (1, i32 0), (4, bl false), (5, pt b1), (6, pt b2), (7, pt b3), (8, i64 1), (9, pt j3), (54, bl false)]) 3 hA [.agg #[i64 0, i64 0, i64 0, i64 0, i64 0, i64 0, i64 0], bl true] (cc (hO.ln 0 0 43 [i64 0, i64 0, i64 0, i64 0, i64 0, i64 0, i64 0]) (cc ((eqG_of (by kernel_rfl) (by kernel_rfl)) : EqG Tryd.prog 43 (.agg #[i64 0, i64 0, i64 0, i64 0, i64 0, i64 0, i64 0]) (.agg #[i64 0, i64 0, i64 0, i64 0, i64 0, i64 0, i64 0]) true) c0)) ?_
        clear hA fr; intro fr hA
        refine cF hA ?_
        refine wp_skip ?_
        refine then_normal ?_
        refine rR (l := (rg 0 7)) ?_
        refine ck (l := (rg 0 6)) (r := [6]) (e' := [(0, i32 a), (1, i32 0), (4, bl false), (5, pt b1), (6, pt b2), (7, pt b3), (8, i64 1), (59, i64 (IntKind.i32.wrap (a - 0))), (60, pf b3 1)]) hA [i32 (IntKind.i32.wrap (a - 0)), bl true] (cc (⟨by omega, by omega⟩ : (0 : Int) ≤ 3 ∧ 3 < ((16 : Nat) : Int)) (cc (hO.l1 1 3 21 (i32 (IntKind.i32.wrap (a - 0)))) (cc ((inK_up (by kernel_rfl) (wrap_inK _ _)) : inK .i64 (IntKind.i32.wrap (a - 0))) (cc (⟨by omega, by omega⟩ : (0 : Int) ≤ 1 ∧ 1 < ((5 : Nat) : Int)) c0)))) ?_
        clear hA fr; intro fr hA
        refine wpOps_cons' (mS (off := 1) (vc := [i64 (IntKind.i32.wrap (a - 0))]) 2 hA hO ?_)
        clear hO; intro w70 hO
        replace hA := hA.sb (e' := [(0, i32 a), (1, i32 0), (4, bl false), (5, pt b1), (6, pt b2), (7, pt b3), (8, i64 1)])
        refine end_ops ?_
        refine inBlock_normal ?_
        refine then_normal ?_
        refine rC (e' := [(0, i32 a), (1, i32 0), (4, bl false), (5, pt b1), (6, pt b2), (7, pt b3), (8, i64 2)]) 3 hA [bl false] c0 ?_
        clear hA fr; intro fr hA
        refine then_normal ?_
        exact ⟨3, by decide, (.inr (.inr (.inl ⟨rfl, hA.sb, (hO.sub [2, 3, 4])⟩)))⟩
      ·
        have hS := hO
        refine rT (.q 0 (.q 1 (.q 2 (.q 3 (.q 4 (.m 5 (.m 6 (.q 7 (.q 8 (.q 9 (.q 10 (.m 11 (.m 12 (.m 13 (.q 14 (.m 15 .fin .non)) .non) .non) (.m 12 (.m 11 (.m 13 (.q 14 (.m 15 .fin .non)) .non) .non) .non)))))) (.m 11 (.m 6 (.q 7 (.q 8 (.q 9 (.q 10 (.m 12 (.m 13 (.q 14 (.m 15 .fin .non)) .non) .non))))) (.m 12 (.m 6 (.q 7 (.q 8 (.q 9 (.q 10 (.m 13 (.q 14 (.m 15 .fin .non)) .non))))) .non) .non)) (.m 12 (.m 6 (.q 7 (.q 8 (.q 9 (.q 10 (.m 11 (.m 13 (.q 14 (.m 15 .fin .non)) .non) .non))))) (.m 11 (.m 6 (.q 7 (.q 8 (.q 9 (.q 10 (.m 13 (.q 14 (.m 15 .fin .non)) .non))))) .non) .non)) .non))) (.m 11 (.m 5 (.m 6 (.q 7 (.q 8 (.q 9 (.q 10 (.m 12 (.m 13 (.q 14 (.m 15 .fin .non)) .non) .non))))) (.m 12 (.m 6 (.q 7 (.q 8 (.q 9 (.q 10 (.m 13 (.q 14 (.m 15 .fin .non)) .non))))) .non) .non)) (.m 12 (.m 5 (.m 6 (.q 7 (.q 8 (.q 9 (.q 10 (.m 13 (.q 14 (.m 15 .fin .non)) .non))))) .non) .non) .non)) (.m 12 (.m 5 (.m 6 (.q 7 (.q 8 (.q 9 (.q 10 (.m 11 (.m 13 (.q 14 (.m 15 .fin .non)) .non) .non))))) (.m 11 (.m 6 (.q 7 (.q 8 (.q 9 (.q 10 (.m 13 (.q 14 (.m 15 .fin .non)) .non))))) .non) .non)) (.m 11 (.m 5 (.m 6 (.q 7 (.q 8 (.q 9 (.q 10 (.m 13 (.q 14 (.m 15 .fin .non)) .non))))) .non) .non) .non)) .non)))))))) hS ?_
        intro w71 ho; replace hO := hO.st ho; clear ho
        refine ckT (l := [0, 1, 2, 3, 4]) (e' := [(0, i32 a), (1, i32 0), (4, bl false), (5, pt b1), (6, pt b2), (7, pt b3), (8, i64 1), (26, .agg #[i32 0, i32 a, i32 0, i32 0, i32 0, i32 0, i32 0, i32 0, i32 0, i32 0, i32 0, i32 0, i32 0, i32 0, i32 0, i32 0, i64 0]), (30, u8 5)]) hA [.agg #[i32 0, i32 a, i32 0, i32 0, i32 0, i32 0, i32 0, i32 0, i32 0, i32 0, i32 0, i32 0, i32 0, i32 0, i32 0, i32 0, i64 0], i64 5, bl false] (cc (hS.sn 2 0 40 [i32 0, i32 a, i32 0, i32 0, i32 0, i32 0, i32 0, i32 0, i32 0, i32 0, i32 0, i32 0, i32 0, i32 0, i32 0, i32 0, i64 0]) (cc (⟨by omega, by omega⟩ : (0 : Int) ≤ 1 ∧ 1 < ((5 : Nat) : Int)) (cc (hS.s1 1 1 3 (i64 5)) c0))) ?_
        clear hA fr; intro fr hA
        refine tree_mem ?_ ?_
        ·
          refine (mN (l := [u8 5, u8 3, u8 1, u8 2]) (t := 5) (v := fun b => .slice (some ⟨b, 0, none⟩) 4 4) (d := 31) hA hO ?_)
          clear hA hO fr; intro fr w72 b27 hA hO
          refine ⟨(hO.sub [1, 2, 3]), ?_⟩
          replace hA := hA.sb (e' := [(0, i32 a), (1, i32 0), (4, bl false), (5, pt b1), (6, pt b2), (7, pt b3), (8, i64 1), (26, .agg #[i32 0, i32 a, i32 0, i32 0, i32 0, i32 0, i32 0, i32 0, i32 0, i32 0, i32 0, i32 0, i32 0, i32 0, i32 0, i32 0, i64 0]), (31, .slice (some ⟨b27, 0, none⟩) 4 4)])
          refine tree_mem ?_ ?_
          ·
            refine (mK (f := 18) (args := [.agg (List.toArray (regsL (rgs [0, a, 0]) 0)), .slice (some ⟨b27, 0, none⟩) 4 4, i64 0]) (d := (some 32)) (v := .tuple #[.agg #[i32 0, i32 a, i32 0, i32 (IntKind.i32.wrap (a - 0)), i32 0, i32 0, i32 0, i32 0, i32 0, i32 0, i32 0, i32 0, i32 0, i32 0, i32 0, i32 0, i64 4], i64 0, .agg #[i64 0, i64 0, i64 0, i64 0, i64 0, i64 0, i64 0]]) hA hO Tryd.func18 (rs (exec_any (rgs [0, a, 0]) 0 0 _ [5, 3, 1, 2] _ (hT.keep hO.only (fun h => h)) (rgs2_ok' ha hb) (by decide) (by decide) ((hO.b 0).sl (xs := [5, 3, 1, 2]) (U8s.cons (inK_u8 (by decide) (by decide)) (U8s.cons (inK_u8 (by decide) (by decide)) (U8s.cons (inK_u8 (by decide) (by decide)) (U8s.cons (inK_u8 (by decide) (by decide)) U8s.nil)))) rfl (by kernel_rfl)))) ?_)
            clear hA hO fr; intro fr w73 hA hO
            refine ⟨(hO.sub [1, 2, 3]), ?_⟩
            replace hA := hA.sb (e' := [(0, i32 a), (1, i32 0), (4, bl false), (5, pt b1), (6, pt b2), (7, pt b3), (8, i64 1), (32, .tuple #[.agg #[i32 0, i32 a, i32 0, i32 (IntKind.i32.wrap (a - 0)), i32 0, i32 0, i32 0, i32 0, i32 0, i32 0, i32 0, i32 0, i32 0, i32 0, i32 0, i32 0, i64 4], i64 0, .agg #[i64 0, i64 0, i64 0, i64 0, i64 0, i64 0, i64 0]])])
            refine ckT (l := [7, 8, 9, 10]) (e' := [(0, i32 a), (1, i32 0), (4, bl false), (5, pt b1), (6, pt b2), (7, pt b3), (8, i64 1), (33, .agg #[i32 0, i32 a, i32 0, i32 (IntKind.i32.wrap (a - 0)), i32 0, i32 0, i32 0, i32 0, i32 0, i32 0, i32 0, i32 0, i32 0, i32 0, i32 0, i32 0, i64 4]), (34, i64 0), (35, .agg #[i64 0, i64 0, i64 0, i64 0, i64 0, i64 0, i64 0])]) hA [] c0 ?_
            clear hA fr; intro fr hA
            refine tree_mem ?_ ?_
            ·
              refine (mN (l := [i32 0, i32 0, i32 0, i32 0, i32 0, i32 0, i32 0, i32 0, i32 0, i32 0, i32 0, i32 0, i32 0, i32 0, i32 0, i32 0, i64 0]) (t := 40) (v := pt) (d := 9) hA hO ?_)
              clear hA hO fr; intro fr w74 b28 hA hO
              refine ⟨(hO.sub [2, 3, 4]), ?_⟩
              refine tree_mem ?_ ?_
              ·
                refine (mN (l := [i64 0, i64 0, i64 0, i64 0, i64 0, i64 0, i64 0]) (t := 43) (v := pt) (d := 11) hA hO ?_)
                clear hA hO fr; intro fr w75 b29 hA hO
                refine ⟨(hO.sub [3, 4, 5]), ?_⟩
                refine tree_mem ?_ ?_
                ·
                  refine (mS (off := 0) (vc := [i32 0, i32 a, i32 0, i32 (IntKind.i32.wrap (a - 0)), i32 0, i32 0, i32 0, i32 0, i32 0, i32 0, i32 0, i32 0, i32 0, i32 0, i32 0, i32 0, i64 4]) 1 hA hO ?_)
                  clear hO; intro w76 hO
                  refine ⟨(hO.sub [3, 4, 5]), ?_⟩
                  replace hA := hA.sb (e' := [(0, i32 a), (1, i32 0), (4, bl false), (5, pt b1), (6, pt b2), (7, pt b3), (8, i64 1), (9, pt b28), (11, pt b29), (34, i64 0), (35, .agg #[i64 0, i64 0, i64 0, i64 0, i64 0, i64 0, i64 0])])
                  refine ckT (l := [14]) (e' := [(0, i32 a), (1, i32 0), (4, bl false), (5, pt b1), (6, pt b2), (7, pt b3), (8, i64 1), (9, pt b28), (11, pt b29), (35, .agg #[i64 0, i64 0, i64 0, i64 0, i64 0, i64 0, i64 0])]) hA [] c0 ?_
                  clear hA fr; intro fr hA
                  refine tree_mem ?_ ?_
                  ·
                    refine (mS (off := 0) (vc := [i64 0, i64 0, i64 0, i64 0, i64 0, i64 0, i64 0]) 0 hA hO ?_)
                    clear hO; intro w77 hO
                    refine ⟨(hO.sub [3, 4, 5]), ?_⟩
                    replace hA := hA.sb (e' := [(0, i32 a), (1, i32 0), (4, bl false), (5, pt b1), (6, pt b2), (7, pt b3), (8, i64 1), (9, pt b28), (11, pt b29)])
                    refine tree_fin ?_
                    refine then_normal ?_
                    exact ⟨b28, b29, hA.sb, (hO.sub [0, 1, 3, 4, 5]), trivial⟩
                  ·
                    exact trivial
                ·
                  exact trivial
              ·
                exact trivial
            ·
              refine tree_mem ?_ ?_
              ·
                refine (mN (l := [i64 0, i64 0, i64 0, i64 0, i64 0, i64 0, i64 0]) (t := 43) (v := pt) (d := 11) hA hO ?_)
                clear hA hO fr; intro fr w78 b30 hA hO
                refine ⟨(hO.sub [2, 3, 4]), ?_⟩
                refine tree_mem ?_ ?_
                ·
                  refine (mN (l := [i32 0, i32 0, i32 0, i32 0, i32 0, i32 0, i32 0, i32 0, i32 0, i32 0, i32 0, i32 0, i32 0, i32 0, i32 0, i32 0, i64 0]) (t := 40) (v := pt) (d := 9) hA hO ?_)
                  clear hA hO fr; intro fr w79 b31 hA hO
                  refine ⟨(hO.sub [3, 4, 5]), ?_⟩
                  refine tree_mem ?_ ?_
                  ·
                    refine (mS (off := 0) (vc := [i32 0, i32 a, i32 0, i32 (IntKind.i32.wrap (a - 0)), i32 0, i32 0, i32 0, i32 0, i32 0, i32 0, i32 0, i32 0, i32 0, i32 0, i32 0, i32 0, i64 4]) 0 hA hO ?_)
                    clear hO; intro w80 hO
                    refine ⟨(hO.sub [3, 4, 5]), ?_⟩
                    replace hA := hA.sb (e' := [(0, i32 a), (1, i32 0), (4, bl false), (5, pt b1), (6, pt b2), (7, pt b3), (8, i64 1), (9, pt b31), (11, pt b30), (34, i64 0), (35, .agg #[i64 0, i64 0, i64 0, i64 0, i64 0, i64 0, i64 0])])
                    refine ckT (l := [14]) (e' := [(0, i32 a), (1, i32 0), (4, bl false), (5, pt b1), (6, pt b2), (7, pt b3), (8, i64 1), (9, pt b31), (11, pt b30), (35, .agg #[i64 0, i64 0, i64 0, i64 0, i64 0, i64 0, i64 0])]) hA [] c0 ?_
                    clear hA fr; intro fr hA
                    refine tree_mem ?_ ?_
                    ·
                      refine (mS (off := 0) (vc := [i64 0, i64 0, i64 0, i64 0, i64 0, i64 0, i64 0]) 1 hA hO ?_)
                      clear hO; intro w81 hO
                      refine ⟨(hO.sub [3, 4, 5]), ?_⟩
                      replace hA := hA.sb (e' := [(0, i32 a), (1, i32 0), (4, bl false), (5, pt b1), (6, pt b2), (7, pt b3), (8, i64 1), (9, pt b31), (11, pt b30)])
                      refine tree_fin ?_
                      refine then_normal ?_
                      exact ⟨b31, b30, hA.sb, (hO.sub [1, 0, 3, 4, 5]), trivial⟩
                    ·
                      exact trivial
                  ·
                    exact trivial
                ·
                  exact trivial
              ·
                exact trivial
          ·
            refine tree_mem ?_ ?_
            ·
              refine (mN (l := [i32 0, i32 0, i32 0, i32 0, i32 0, i32 0, i32 0, i32 0, i32 0, i32 0, i32 0, i32 0, i32 0, i32 0, i32 0, i32 0, i64 0]) (t := 40) (v := pt) (d := 9) hA hO ?_)
              clear hA hO fr; intro fr w82 b32 hA hO
              refine ⟨(hO.sub [2, 3, 4]), ?_⟩
              refine tree_mem ?_ ?_
              ·
                refine (mK (f := 18) (args := [.agg (List.toArray (regsL (rgs [0, a, 0]) 0)), .slice (some ⟨b27, 0, none⟩) 4 4, i64 0]) (d := (some 32)) (v := .tuple #[.agg #[i32 0, i32 a, i32 0, i32 (IntKind.i32.wrap (a - 0)), i32 0, i32 0, i32 0, i32 0, i32 0, i32 0, i32 0, i32 0, i32 0, i32 0, i32 0, i32 0, i64 4], i64 0, .agg #[i64 0, i64 0, i64 0, i64 0, i64 0, i64 0, i64 0]]) hA hO Tryd.func18 (rs (exec_any (rgs [0, a, 0]) 0 0 _ [5, 3, 1, 2] _ (hT.keep hO.only (fun h => h)) (rgs2_ok' ha hb) (by decide) (by decide) ((hO.b 1).sl (xs := [5, 3, 1, 2]) (U8s.cons (inK_u8 (by decide) (by decide)) (U8s.cons (inK_u8 (by decide) (by decide)) (U8s.cons (inK_u8 (by decide) (by decide)) (U8s.cons (inK_u8 (by decide) (by decide)) U8s.nil)))) rfl (by kernel_rfl)))) ?_)
                clear hA hO fr; intro fr w83 hA hO
                refine ⟨(hO.sub [2, 3, 4]), ?_⟩
                replace hA := hA.sb (e' := [(0, i32 a), (1, i32 0), (4, bl false), (5, pt b1), (6, pt b2), (7, pt b3), (8, i64 1), (9, pt b32), (32, .tuple #[.agg #[i32 0, i32 a, i32 0, i32 (IntKind.i32.wrap (a - 0)), i32 0, i32 0, i32 0, i32 0, i32 0, i32 0, i32 0, i32 0, i32 0, i32 0, i32 0, i32 0, i64 4], i64 0, .agg #[i64 0, i64 0, i64 0, i64 0, i64 0, i64 0, i64 0]])])
                refine ckT (l := [7, 8, 9, 10]) (e' := [(0, i32 a), (1, i32 0), (4, bl false), (5, pt b1), (6, pt b2), (7, pt b3), (8, i64 1), (9, pt b32), (33, .agg #[i32 0, i32 a, i32 0, i32 (IntKind.i32.wrap (a - 0)), i32 0, i32 0, i32 0, i32 0, i32 0, i32 0, i32 0, i32 0, i32 0, i32 0, i32 0, i32 0, i64 4]), (34, i64 0), (35, .agg #[i64 0, i64 0, i64 0, i64 0, i64 0, i64 0, i64 0])]) hA [] c0 ?_
                clear hA fr; intro fr hA
                refine tree_mem ?_ ?_
                ·
                  refine (mN (l := [i64 0, i64 0, i64 0, i64 0, i64 0, i64 0, i64 0]) (t := 43) (v := pt) (d := 11) hA hO ?_)
                  clear hA hO fr; intro fr w84 b33 hA hO
                  refine ⟨(hO.sub [3, 4, 5]), ?_⟩
                  refine tree_mem ?_ ?_
                  ·
                    refine (mS (off := 0) (vc := [i32 0, i32 a, i32 0, i32 (IntKind.i32.wrap (a - 0)), i32 0, i32 0, i32 0, i32 0, i32 0, i32 0, i32 0, i32 0, i32 0, i32 0, i32 0, i32 0, i64 4]) 1 hA hO ?_)
                    clear hO; intro w85 hO
                    refine ⟨(hO.sub [3, 4, 5]), ?_⟩
                    replace hA := hA.sb (e' := [(0, i32 a), (1, i32 0), (4, bl false), (5, pt b1), (6, pt b2), (7, pt b3), (8, i64 1), (9, pt b32), (11, pt b33), (34, i64 0), (35, .agg #[i64 0, i64 0, i64 0, i64 0, i64 0, i64 0, i64 0])])
                    refine ckT (l := [14]) (e' := [(0, i32 a), (1, i32 0), (4, bl false), (5, pt b1), (6, pt b2), (7, pt b3), (8, i64 1), (9, pt b32), (11, pt b33), (35, .agg #[i64 0, i64 0, i64 0, i64 0, i64 0, i64 0, i64 0])]) hA [] c0 ?_
                    clear hA fr; intro fr hA
                    refine tree_mem ?_ ?_
                    ·
                      refine (mS (off := 0) (vc := [i64 0, i64 0, i64 0, i64 0, i64 0, i64 0, i64 0]) 0 hA hO ?_)
                      clear hO; intro w86 hO
                      refine ⟨(hO.sub [3, 4, 5]), ?_⟩
                      replace hA := hA.sb (e' := [(0, i32 a), (1, i32 0), (4, bl false), (5, pt b1), (6, pt b2), (7, pt b3), (8, i64 1), (9, pt b32), (11, pt b33)])
                      refine tree_fin ?_
                      refine then_normal ?_
                      exact ⟨b32, b33, hA.sb, (hO.sub [0, 1, 3, 4, 5]), trivial⟩
                    ·
                      exact trivial
                  ·
                    exact trivial
                ·
                  exact trivial
              ·
                refine tree_mem ?_ ?_
                ·
                  refine (mN (l := [i64 0, i64 0, i64 0, i64 0, i64 0, i64 0, i64 0]) (t := 43) (v := pt) (d := 11) hA hO ?_)
                  clear hA hO fr; intro fr w87 b34 hA hO
                  refine ⟨(hO.sub [3, 4, 5]), ?_⟩
                  refine tree_mem ?_ ?_
                  ·
                    refine (mK (f := 18) (args := [.agg (List.toArray (regsL (rgs [0, a, 0]) 0)), .slice (some ⟨b27, 0, none⟩) 4 4, i64 0]) (d := (some 32)) (v := .tuple #[.agg #[i32 0, i32 a, i32 0, i32 (IntKind.i32.wrap (a - 0)), i32 0, i32 0, i32 0, i32 0, i32 0, i32 0, i32 0, i32 0, i32 0, i32 0, i32 0, i32 0, i64 4], i64 0, .agg #[i64 0, i64 0, i64 0, i64 0, i64 0, i64 0, i64 0]]) hA hO Tryd.func18 (rs (exec_any (rgs [0, a, 0]) 0 0 _ [5, 3, 1, 2] _ (hT.keep hO.only (fun h => h)) (rgs2_ok' ha hb) (by decide) (by decide) ((hO.b 2).sl (xs := [5, 3, 1, 2]) (U8s.cons (inK_u8 (by decide) (by decide)) (U8s.cons (inK_u8 (by decide) (by decide)) (U8s.cons (inK_u8 (by decide) (by decide)) (U8s.cons (inK_u8 (by decide) (by decide)) U8s.nil)))) rfl (by kernel_rfl)))) ?_)
                    clear hA hO fr; intro fr w88 hA hO
                    refine ⟨(hO.sub [3, 4, 5]), ?_⟩
                    replace hA := hA.sb (e' := [(0, i32 a), (1, i32 0), (4, bl false), (5, pt b1), (6, pt b2), (7, pt b3), (8, i64 1), (9, pt b32), (11, pt b34), (32, .tuple #[.agg #[i32 0, i32 a, i32 0, i32 (IntKind.i32.wrap (a - 0)), i32 0, i32 0, i32 0, i32 0, i32 0, i32 0, i32 0, i32 0, i32 0, i32 0, i32 0, i32 0, i64 4], i64 0, .agg #[i64 0, i64 0, i64 0, i64 0, i64 0, i64 0, i64 0]])])
                    refine ckT (l := [7, 8, 9, 10]) (e' := [(0, i32 a), (1, i32 0), (4, bl false), (5, pt b1), (6, pt b2), (7, pt b3), (8, i64 1), (9, pt b32), (11, pt b34), (33, .agg #[i32 0, i32 a, i32 0, i32 (IntKind.i32.wrap (a - 0)), i32 0, i32 0, i32 0, i32 0, i32 0, i32 0, i32 0, i32 0, i32 0, i32 0, i32 0, i32 0, i64 4]), (34, i64 0), (35, .agg #[i64 0, i64 0, i64 0, i64 0, i64 0, i64 0, i64 0])]) hA [] c0 ?_
                    clear hA fr; intro fr hA
                    refine tree_mem ?_ ?_
                    ·
                      refine (mS (off := 0) (vc := [i32 0, i32 a, i32 0, i32 (IntKind.i32.wrap (a - 0)), i32 0, i32 0, i32 0, i32 0, i32 0, i32 0, i32 0, i32 0, i32 0, i32 0, i32 0, i32 0, i64 4]) 1 hA hO ?_)
                      clear hO; intro w89 hO
                      refine ⟨(hO.sub [3, 4, 5]), ?_⟩
                      replace hA := hA.sb (e' := [(0, i32 a), (1, i32 0), (4, bl false), (5, pt b1), (6, pt b2), (7, pt b3), (8, i64 1), (9, pt b32), (11, pt b34), (34, i64 0), (35, .agg #[i64 0, i64 0, i64 0, i64 0, i64 0, i64 0, i64 0])])
                      refine ckT (l := [14]) (e' := [(0, i32 a), (1, i32 0), (4, bl false), (5, pt b1), (6, pt b2), (7, pt b3), (8, i64 1), (9, pt b32), (11, pt b34), (35, .agg #[i64 0, i64 0, i64 0, i64 0, i64 0, i64 0, i64 0])]) hA [] c0 ?_
                      clear hA fr; intro fr hA
                      refine tree_mem ?_ ?_
                      ·
                        refine (mS (off := 0) (vc := [i64 0, i64 0, i64 0, i64 0, i64 0, i64 0, i64 0]) 0 hA hO ?_)
                        clear hO; intro w90 hO
                        refine ⟨(hO.sub [3, 4, 5]), ?_⟩
                        replace hA := hA.sb (e' := [(0, i32 a), (1, i32 0), (4, bl false), (5, pt b1), (6, pt b2), (7, pt b3), (8, i64 1), (9, pt b32), (11, pt b34)])
                        refine tree_fin ?_
                        refine then_normal ?_
                        exact ⟨b32, b34, hA.sb, (hO.sub [0, 1, 3, 4, 5]), trivial⟩
                      ·
                        exact trivial
                    ·
                      exact trivial
                  ·
                    exact trivial
                ·
                  exact trivial
            ·
              refine tree_mem ?_ ?_
              ·
                refine (mN (l := [i64 0, i64 0, i64 0, i64 0, i64 0, i64 0, i64 0]) (t := 43) (v := pt) (d := 11) hA hO ?_)
                clear hA hO fr; intro fr w91 b35 hA hO
                refine ⟨(hO.sub [2, 3, 4]), ?_⟩
                refine tree_mem ?_ ?_
                ·
                  refine (mK (f := 18) (args := [.agg (List.toArray (regsL (rgs [0, a, 0]) 0)), .slice (some ⟨b27, 0, none⟩) 4 4, i64 0]) (d := (some 32)) (v := .tuple #[.agg #[i32 0, i32 a, i32 0, i32 (IntKind.i32.wrap (a - 0)), i32 0, i32 0, i32 0, i32 0, i32 0, i32 0, i32 0, i32 0, i32 0, i32 0, i32 0, i32 0, i64 4], i64 0, .agg #[i64 0, i64 0, i64 0, i64 0, i64 0, i64 0, i64 0]]) hA hO Tryd.func18 (rs (exec_any (rgs [0, a, 0]) 0 0 _ [5, 3, 1, 2] _ (hT.keep hO.only (fun h => h)) (rgs2_ok' ha hb) (by decide) (by decide) ((hO.b 1).sl (xs := [5, 3, 1, 2]) (U8s.cons (inK_u8 (by decide) (by decide)) (U8s.cons (inK_u8 (by decide) (by decide)) (U8s.cons (inK_u8 (by decide) (by decide)) (U8s.cons (inK_u8 (by decide) (by decide)) U8s.nil)))) rfl (by kernel_rfl)))) ?_)
                  clear hA hO fr; intro fr w92 hA hO
                  refine ⟨(hO.sub [2, 3, 4]), ?_⟩
                  replace hA := hA.sb (e' := [(0, i32 a), (1, i32 0), (4, bl false), (5, pt b1), (6, pt b2), (7, pt b3), (8, i64 1), (11, pt b35), (32, .tuple #[.agg #[i32 0, i32 a, i32 0, i32 (IntKind.i32.wrap (a - 0)), i32 0, i32 0, i32 0, i32 0, i32 0, i32 0, i32 0, i32 0, i32 0, i32 0, i32 0, i32 0, i64 4], i64 0, .agg #[i64 0, i64 0, i64 0, i64 0, i64 0, i64 0, i64 0]])])
                  refine ckT (l := [7, 8, 9, 10]) (e' := [(0, i32 a), (1, i32 0), (4, bl false), (5, pt b1), (6, pt b2), (7, pt b3), (8, i64 1), (11, pt b35), (33, .agg #[i32 0, i32 a, i32 0, i32 (IntKind.i32.wrap (a - 0)), i32 0, i32 0, i32 0, i32 0, i32 0, i32 0, i32 0, i32 0, i32 0, i32 0, i32 0, i32 0, i64 4]), (34, i64 0), (35, .agg #[i64 0, i64 0, i64 0, i64 0, i64 0, i64 0, i64 0])]) hA [] c0 ?_
                  clear hA fr; intro fr hA
                  refine tree_mem ?_ ?_
                  ·
                    refine (mN (l := [i32 0, i32 0, i32 0, i32 0, i32 0, i32 0, i32 0, i32 0, i32 0, i32 0, i32 0, i32 0, i32 0, i32 0, i32 0, i32 0, i64 0]) (t := 40) (v := pt) (d := 9) hA hO ?_)
                    clear hA hO fr; intro fr w93 b36 hA hO
                    refine ⟨(hO.sub [3, 4, 5]), ?_⟩
                    refine tree_mem ?_ ?_
                    ·
                      refine (mS (off := 0) (vc := [i32 0, i32 a, i32 0, i32 (IntKind.i32.wrap (a - 0)), i32 0, i32 0, i32 0, i32 0, i32 0, i32 0, i32 0, i32 0, i32 0, i32 0, i32 0, i32 0, i64 4]) 0 hA hO ?_)
                      clear hO; intro w94 hO
                      refine ⟨(hO.sub [3, 4, 5]), ?_⟩
                      replace hA := hA.sb (e' := [(0, i32 a), (1, i32 0), (4, bl false), (5, pt b1), (6, pt b2), (7, pt b3), (8, i64 1), (9, pt b36), (11, pt b35), (34, i64 0), (35, .agg #[i64 0, i64 0, i64 0, i64 0, i64 0, i64 0, i64 0])])
                      refine ckT (l := [14]) (e' := [(0, i32 a), (1, i32 0), (4, bl false), (5, pt b1), (6, pt b2), (7, pt b3), (8, i64 1), (9, pt b36), (11, pt b35), (35, .agg #[i64 0, i64 0, i64 0, i64 0, i64 0, i64 0, i64 0])]) hA [] c0 ?_
                      clear hA fr; intro fr hA
                      refine tree_mem ?_ ?_
                      ·
                        refine (mS (off := 0) (vc := [i64 0, i64 0, i64 0, i64 0, i64 0, i64 0, i64 0]) 1 hA hO ?_)
                        clear hO; intro w95 hO
                        refine ⟨(hO.sub [3, 4, 5]), ?_⟩
                        replace hA := hA.sb (e' := [(0, i32 a), (1, i32 0), (4, bl false), (5, pt b1), (6, pt b2), (7, pt b3), (8, i64 1), (9, pt b36), (11, pt b35)])
                        refine tree_fin ?_
                        refine then_normal ?_
                        exact ⟨b36, b35, hA.sb, (hO.sub [1, 0, 3, 4, 5]), trivial⟩
                      ·
                        exact trivial
                    ·
                      exact trivial
                  ·
                    exact trivial
                ·
                  refine tree_mem ?_ ?_
                  ·
                    refine (mN (l := [i32 0, i32 0, i32 0, i32 0, i32 0, i32 0, i32 0, i32 0, i32 0, i32 0, i32 0, i32 0, i32 0, i32 0, i32 0, i32 0, i64 0]) (t := 40) (v := pt) (d := 9) hA hO ?_)
                    clear hA hO fr; intro fr w96 b37 hA hO
                    refine ⟨(hO.sub [3, 4, 5]), ?_⟩
                    refine tree_mem ?_ ?_
                    ·
                      refine (mK (f := 18) (args := [.agg (List.toArray (regsL (rgs [0, a, 0]) 0)), .slice (some ⟨b27, 0, none⟩) 4 4, i64 0]) (d := (some 32)) (v := .tuple #[.agg #[i32 0, i32 a, i32 0, i32 (IntKind.i32.wrap (a - 0)), i32 0, i32 0, i32 0, i32 0, i32 0, i32 0, i32 0, i32 0, i32 0, i32 0, i32 0, i32 0, i64 4], i64 0, .agg #[i64 0, i64 0, i64 0, i64 0, i64 0, i64 0, i64 0]]) hA hO Tryd.func18 (rs (exec_any (rgs [0, a, 0]) 0 0 _ [5, 3, 1, 2] _ (hT.keep hO.only (fun h => h)) (rgs2_ok' ha hb) (by decide) (by decide) ((hO.b 2).sl (xs := [5, 3, 1, 2]) (U8s.cons (inK_u8 (by decide) (by decide)) (U8s.cons (inK_u8 (by decide) (by decide)) (U8s.cons (inK_u8 (by decide) (by decide)) (U8s.cons (inK_u8 (by decide) (by decide)) U8s.nil)))) rfl (by kernel_rfl)))) ?_)
                      clear hA hO fr; intro fr w97 hA hO
                      refine ⟨(hO.sub [3, 4, 5]), ?_⟩
                      replace hA := hA.sb (e' := [(0, i32 a), (1, i32 0), (4, bl false), (5, pt b1), (6, pt b2), (7, pt b3), (8, i64 1), (9, pt b37), (11, pt b35), (32, .tuple #[.agg #[i32 0, i32 a, i32 0, i32 (IntKind.i32.wrap (a - 0)), i32 0, i32 0, i32 0, i32 0, i32 0, i32 0, i32 0, i32 0, i32 0, i32 0, i32 0, i32 0, i64 4], i64 0, .agg #[i64 0, i64 0, i64 0, i64 0, i64 0, i64 0, i64 0]])])
                      refine ckT (l := [7, 8, 9, 10]) (e' := [(0, i32 a), (1, i32 0), (4, bl false), (5, pt b1), (6, pt b2), (7, pt b3), (8, i64 1), (9, pt b37), (11, pt b35), (33, .agg #[i32 0, i32 a, i32 0, i32 (IntKind.i32.wrap (a - 0)), i32 0, i32 0, i32 0, i32 0, i32 0, i32 0, i32 0, i32 0, i32 0, i32 0, i32 0, i32 0, i64 4]), (34, i64 0), (35, .agg #[i64 0, i64 0, i64 0, i64 0, i64 0, i64 0, i64 0])]) hA [] c0 ?_
                      clear hA fr; intro fr hA
                      refine tree_mem ?_ ?_
                      ·
                        refine (mS (off := 0) (vc := [i32 0, i32 a, i32 0, i32 (IntKind.i32.wrap (a - 0)), i32 0, i32 0, i32 0, i32 0, i32 0, i32 0, i32 0, i32 0, i32 0, i32 0, i32 0, i32 0, i64 4]) 0 hA hO ?_)
                        clear hO; intro w98 hO
                        refine ⟨(hO.sub [3, 4, 5]), ?_⟩
                        replace hA := hA.sb (e' := [(0, i32 a), (1, i32 0), (4, bl false), (5, pt b1), (6, pt b2), (7, pt b3), (8, i64 1), (9, pt b37), (11, pt b35), (34, i64 0), (35, .agg #[i64 0, i64 0, i64 0, i64 0, i64 0, i64 0, i64 0])])
                        refine ckT (l := [14]) (e' := [(0, i32 a), (1, i32 0), (4, bl false), (5, pt b1), (6, pt b2), (7, pt b3), (8, i64 1), (9, pt b37), (11, pt b35), (35, .agg #[i64 0, i64 0, i64 0, i64 0, i64 0, i64 0, i64 0])]) hA [] c0 ?_
                        clear hA fr; intro fr hA
                        refine tree_mem ?_ ?_
                        ·
                          refine (mS (off := 0) (vc := [i64 0, i64 0, i64 0, i64 0, i64 0, i64 0, i64 0]) 1 hA hO ?_)
                          clear hO; intro w99 hO
                          refine ⟨(hO.sub [3, 4, 5]), ?_⟩
                          replace hA := hA.sb (e' := [(0, i32 a), (1, i32 0), (4, bl false), (5, pt b1), (6, pt b2), (7, pt b3), (8, i64 1), (9, pt b37), (11, pt b35)])
                          refine tree_fin ?_
                          refine then_normal ?_
                          exact ⟨b37, b35, hA.sb, (hO.sub [1, 0, 3, 4, 5]), trivial⟩
                        ·
                          exact trivial
                      ·
                        exact trivial
                    ·
                      exact trivial
                  ·
                    exact trivial
              ·
                exact trivial
        ·
          refine tree_mem ?_ ?_
          ·
            refine (mN (l := [i32 0, i32 0, i32 0, i32 0, i32 0, i32 0, i32 0, i32 0, i32 0, i32 0, i32 0, i32 0, i32 0, i32 0, i32 0, i32 0, i64 0]) (t := 40) (v := pt) (d := 9) hA hO ?_)
            clear hA hO fr; intro fr w100 b38 hA hO
            refine ⟨(hO.sub [1, 2, 3]), ?_⟩
            refine tree_mem ?_ ?_
            ·
              refine (mN (l := [u8 5, u8 3, u8 1, u8 2]) (t := 5) (v := fun b => .slice (some ⟨b, 0, none⟩) 4 4) (d := 31) hA hO ?_)
              clear hA hO fr; intro fr w101 b39 hA hO
              refine ⟨(hO.sub [2, 3, 4]), ?_⟩
              replace hA := hA.sb (e' := [(0, i32 a), (1, i32 0), (4, bl false), (5, pt b1), (6, pt b2), (7, pt b3), (8, i64 1), (9, pt b38), (26, .agg #[i32 0, i32 a, i32 0, i32 0, i32 0, i32 0, i32 0, i32 0, i32 0, i32 0, i32 0, i32 0, i32 0, i32 0, i32 0, i32 0, i64 0]), (31, .slice (some ⟨b39, 0, none⟩) 4 4)])
              refine tree_mem ?_ ?_
              ·
                refine (mK (f := 18) (args := [.agg (List.toArray (regsL (rgs [0, a, 0]) 0)), .slice (some ⟨b39, 0, none⟩) 4 4, i64 0]) (d := (some 32)) (v := .tuple #[.agg #[i32 0, i32 a, i32 0, i32 (IntKind.i32.wrap (a - 0)), i32 0, i32 0, i32 0, i32 0, i32 0, i32 0, i32 0, i32 0, i32 0, i32 0, i32 0, i32 0, i64 4], i64 0, .agg #[i64 0, i64 0, i64 0, i64 0, i64 0, i64 0, i64 0]]) hA hO Tryd.func18 (rs (exec_any (rgs [0, a, 0]) 0 0 _ [5, 3, 1, 2] _ (hT.keep hO.only (fun h => h)) (rgs2_ok' ha hb) (by decide) (by decide) ((hO.b 0).sl (xs := [5, 3, 1, 2]) (U8s.cons (inK_u8 (by decide) (by decide)) (U8s.cons (inK_u8 (by decide) (by decide)) (U8s.cons (inK_u8 (by decide) (by decide)) (U8s.cons (inK_u8 (by decide) (by decide)) U8s.nil)))) rfl (by kernel_rfl)))) ?_)
                clear hA hO fr; intro fr w102 hA hO
                refine ⟨(hO.sub [2, 3, 4]), ?_⟩
                replace hA := hA.sb (e' := [(0, i32 a), (1, i32 0), (4, bl false), (5, pt b1), (6, pt b2), (7, pt b3), (8, i64 1), (9, pt b38), (32, .tuple #[.agg #[i32 0, i32 a, i32 0, i32 (IntKind.i32.wrap (a - 0)), i32 0, i32 0, i32 0, i32 0, i32 0, i32 0, i32 0, i32 0, i32 0, i32 0, i32 0, i32 0, i64 4], i64 0, .agg #[i64 0, i64 0, i64 0, i64 0, i64 0, i64 0, i64 0]])])
                refine ckT (l := [7, 8, 9, 10]) (e' := [(0, i32 a), (1, i32 0), (4, bl false), (5, pt b1), (6, pt b2), (7, pt b3), (8, i64 1), (9, pt b38), (33, .agg #[i32 0, i32 a, i32 0, i32 (IntKind.i32.wrap (a - 0)), i32 0, i32 0, i32 0, i32 0, i32 0, i32 0, i32 0, i32 0, i32 0, i32 0, i32 0, i32 0, i64 4]), (34, i64 0), (35, .agg #[i64 0, i64 0, i64 0, i64 0, i64 0, i64 0, i64 0])]) hA [] c0 ?_
                clear hA fr; intro fr hA
                refine tree_mem ?_ ?_
                ·
                  refine (mN (l := [i64 0, i64 0, i64 0, i64 0, i64 0, i64 0, i64 0]) (t := 43) (v := pt) (d := 11) hA hO ?_)
                  clear hA hO fr; intro fr w103 b40 hA hO
                  refine ⟨(hO.sub [3, 4, 5]), ?_⟩
                  refine tree_mem ?_ ?_
                  ·
                    refine (mS (off := 0) (vc := [i32 0, i32 a, i32 0, i32 (IntKind.i32.wrap (a - 0)), i32 0, i32 0, i32 0, i32 0, i32 0, i32 0, i32 0, i32 0, i32 0, i32 0, i32 0, i32 0, i64 4]) 2 hA hO ?_)
                    clear hO; intro w104 hO
                    refine ⟨(hO.sub [3, 4, 5]), ?_⟩
                    replace hA := hA.sb (e' := [(0, i32 a), (1, i32 0), (4, bl false), (5, pt b1), (6, pt b2), (7, pt b3), (8, i64 1), (9, pt b38), (11, pt b40), (34, i64 0), (35, .agg #[i64 0, i64 0, i64 0, i64 0, i64 0, i64 0, i64 0])])
                    refine ckT (l := [14]) (e' := [(0, i32 a), (1, i32 0), (4, bl false), (5, pt b1), (6, pt b2), (7, pt b3), (8, i64 1), (9, pt b38), (11, pt b40), (35, .agg #[i64 0, i64 0, i64 0, i64 0, i64 0, i64 0, i64 0])]) hA [] c0 ?_
                    clear hA fr; intro fr hA
                    refine tree_mem ?_ ?_
                    ·
                      refine (mS (off := 0) (vc := [i64 0, i64 0, i64 0, i64 0, i64 0, i64 0, i64 0]) 0 hA hO ?_)
                      clear hO; intro w105 hO
                      refine ⟨(hO.sub [3, 4, 5]), ?_⟩
                      replace hA := hA.sb (e' := [(0, i32 a), (1, i32 0), (4, bl false), (5, pt b1), (6, pt b2), (7, pt b3), (8, i64 1), (9, pt b38), (11, pt b40)])
                      refine tree_fin ?_
                      refine then_normal ?_
                      exact ⟨b38, b40, hA.sb, (hO.sub [0, 2, 3, 4, 5]), trivial⟩
                    ·
                      exact trivial
                  ·
                    exact trivial
                ·
                  exact trivial
              ·
                refine tree_mem ?_ ?_
                ·
                  refine (mN (l := [i64 0, i64 0, i64 0, i64 0, i64 0, i64 0, i64 0]) (t := 43) (v := pt) (d := 11) hA hO ?_)
                  clear hA hO fr; intro fr w106 b41 hA hO
                  refine ⟨(hO.sub [3, 4, 5]), ?_⟩
                  refine tree_mem ?_ ?_
                  ·
                    refine (mK (f := 18) (args := [.agg (List.toArray (regsL (rgs [0, a, 0]) 0)), .slice (some ⟨b39, 0, none⟩) 4 4, i64 0]) (d := (some 32)) (v := .tuple #[.agg #[i32 0, i32 a, i32 0, i32 (IntKind.i32.wrap (a - 0)), i32 0, i32 0, i32 0, i32 0, i32 0, i32 0, i32 0, i32 0, i32 0, i32 0, i32 0, i32 0, i64 4], i64 0, .agg #[i64 0, i64 0, i64 0, i64 0, i64 0, i64 0, i64 0]]) hA hO Tryd.func18 (rs (exec_any (rgs [0, a, 0]) 0 0 _ [5, 3, 1, 2] _ (hT.keep hO.only (fun h => h)) (rgs2_ok' ha hb) (by decide) (by decide) ((hO.b 1).sl (xs := [5, 3, 1, 2]) (U8s.cons (inK_u8 (by decide) (by decide)) (U8s.cons (inK_u8 (by decide) (by decide)) (U8s.cons (inK_u8 (by decide) (by decide)) (U8s.cons (inK_u8 (by decide) (by decide)) U8s.nil)))) rfl (by kernel_rfl)))) ?_)
                    clear hA hO fr; intro fr w107 hA hO
                    refine ⟨(hO.sub [3, 4, 5]), ?_⟩
                    replace hA := hA.sb (e' := [(0, i32 a), (1, i32 0), (4, bl false), (5, pt b1), (6, pt b2), (7, pt b3), (8, i64 1), (9, pt b38), (11, pt b41), (32, .tuple #[.agg #[i32 0, i32 a, i32 0, i32 (IntKind.i32.wrap (a - 0)), i32 0, i32 0, i32 0, i32 0, i32 0, i32 0, i32 0, i32 0, i32 0, i32 0, i32 0, i32 0, i64 4], i64 0, .agg #[i64 0, i64 0, i64 0, i64 0, i64 0, i64 0, i64 0]])])
                    refine ckT (l := [7, 8, 9, 10]) (e' := [(0, i32 a), (1, i32 0), (4, bl false), (5, pt b1), (6, pt b2), (7, pt b3), (8, i64 1), (9, pt b38), (11, pt b41), (33, .agg #[i32 0, i32 a, i32 0, i32 (IntKind.i32.wrap (a - 0)), i32 0, i32 0, i32 0, i32 0, i32 0, i32 0, i32 0, i32 0, i32 0, i32 0, i32 0, i32 0, i64 4]), (34, i64 0), (35, .agg #[i64 0, i64 0, i64 0, i64 0, i64 0, i64 0, i64 0])]) hA [] c0 ?_
                    clear hA fr; intro fr hA
                    refine tree_mem ?_ ?_
                    ·
                      refine (mS (off := 0) (vc := [i32 0, i32 a, i32 0, i32 (IntKind.i32.wrap (a - 0)), i32 0, i32 0, i32 0, i32 0, i32 0, i32 0, i32 0, i32 0, i32 0, i32 0, i32 0, i32 0, i64 4]) 2 hA hO ?_)
                      clear hO; intro w108 hO
                      refine ⟨(hO.sub [3, 4, 5]), ?_⟩
                      replace hA := hA.sb (e' := [(0, i32 a), (1, i32 0), (4, bl false), (5, pt b1), (6, pt b2), (7, pt b3), (8, i64 1), (9, pt b38), (11, pt b41), (34, i64 0), (35, .agg #[i64 0, i64 0, i64 0, i64 0, i64 0, i64 0, i64 0])])
                      refine ckT (l := [14]) (e' := [(0, i32 a), (1, i32 0), (4, bl false), (5, pt b1), (6, pt b2), (7, pt b3), (8, i64 1), (9, pt b38), (11, pt b41), (35, .agg #[i64 0, i64 0, i64 0, i64 0, i64 0, i64 0, i64 0])]) hA [] c0 ?_
                      clear hA fr; intro fr hA
                      refine tree_mem ?_ ?_
                      ·
                        refine (mS (off := 0) (vc := [i64 0, i64 0, i64 0, i64 0, i64 0, i64 0, i64 0]) 0 hA hO ?_)
                        clear hO; intro w109 hO
                        refine ⟨(hO.sub [3, 4, 5]), ?_⟩
                        replace hA := hA.sb (e' := [(0, i32 a), (1, i32 0), (4, bl false), (5, pt b1), (6, pt b2), (7, pt b3), (8, i64 1), (9, pt b38), (11, pt b41)])
                        refine tree_fin ?_
                        refine then_normal ?_
                        exact ⟨b38, b41, hA.sb, (hO.sub [0, 2, 3, 4, 5]), trivial⟩
                      ·
                        exact trivial
                    ·
                      exact trivial
                  ·
                    exact trivial
                ·
                  exact trivial
            ·
              refine tree_mem ?_ ?_
              ·
                refine (mN (l := [i64 0, i64 0, i64 0, i64 0, i64 0, i64 0, i64 0]) (t := 43) (v := pt) (d := 11) hA hO ?_)
                clear hA hO fr; intro fr w110 b42 hA hO
                refine ⟨(hO.sub [2, 3, 4]), ?_⟩
                refine tree_mem ?_ ?_
                ·
                  refine (mN (l := [u8 5, u8 3, u8 1, u8 2]) (t := 5) (v := fun b => .slice (some ⟨b, 0, none⟩) 4 4) (d := 31) hA hO ?_)
                  clear hA hO fr; intro fr w111 b43 hA hO
                  refine ⟨(hO.sub [3, 4, 5]), ?_⟩
                  replace hA := hA.sb (e' := [(0, i32 a), (1, i32 0), (4, bl false), (5, pt b1), (6, pt b2), (7, pt b3), (8, i64 1), (9, pt b38), (11, pt b42), (26, .agg #[i32 0, i32 a, i32 0, i32 0, i32 0, i32 0, i32 0, i32 0, i32 0, i32 0, i32 0, i32 0, i32 0, i32 0, i32 0, i32 0, i64 0]), (31, .slice (some ⟨b43, 0, none⟩) 4 4)])
                  refine tree_mem ?_ ?_
                  ·
                    refine (mK (f := 18) (args := [.agg (List.toArray (regsL (rgs [0, a, 0]) 0)), .slice (some ⟨b43, 0, none⟩) 4 4, i64 0]) (d := (some 32)) (v := .tuple #[.agg #[i32 0, i32 a, i32 0, i32 (IntKind.i32.wrap (a - 0)), i32 0, i32 0, i32 0, i32 0, i32 0, i32 0, i32 0, i32 0, i32 0, i32 0, i32 0, i32 0, i64 4], i64 0, .agg #[i64 0, i64 0, i64 0, i64 0, i64 0, i64 0, i64 0]]) hA hO Tryd.func18 (rs (exec_any (rgs [0, a, 0]) 0 0 _ [5, 3, 1, 2] _ (hT.keep hO.only (fun h => h)) (rgs2_ok' ha hb) (by decide) (by decide) ((hO.b 0).sl (xs := [5, 3, 1, 2]) (U8s.cons (inK_u8 (by decide) (by decide)) (U8s.cons (inK_u8 (by decide) (by decide)) (U8s.cons (inK_u8 (by decide) (by decide)) (U8s.cons (inK_u8 (by decide) (by decide)) U8s.nil)))) rfl (by kernel_rfl)))) ?_)
                    clear hA hO fr; intro fr w112 hA hO
                    refine ⟨(hO.sub [3, 4, 5]), ?_⟩
                    replace hA := hA.sb (e' := [(0, i32 a), (1, i32 0), (4, bl false), (5, pt b1), (6, pt b2), (7, pt b3), (8, i64 1), (9, pt b38), (11, pt b42), (32, .tuple #[.agg #[i32 0, i32 a, i32 0, i32 (IntKind.i32.wrap (a - 0)), i32 0, i32 0, i32 0, i32 0, i32 0, i32 0, i32 0, i32 0, i32 0, i32 0, i32 0, i32 0, i64 4], i64 0, .agg #[i64 0, i64 0, i64 0, i64 0, i64 0, i64 0, i64 0]])])
                    refine ckT (l := [7, 8, 9, 10]) (e' := [(0, i32 a), (1, i32 0), (4, bl false), (5, pt b1), (6, pt b2), (7, pt b3), (8, i64 1), (9, pt b38), (11, pt b42), (33, .agg #[i32 0, i32 a, i32 0, i32 (IntKind.i32.wrap (a - 0)), i32 0, i32 0, i32 0, i32 0, i32 0, i32 0, i32 0, i32 0, i32 0, i32 0, i32 0, i32 0, i64 4]), (34, i64 0), (35, .agg #[i64 0, i64 0, i64 0, i64 0, i64 0, i64 0, i64 0])]) hA [] c0 ?_
                    clear hA fr; intro fr hA
                    refine tree_mem ?_ ?_
                    ·
                      refine (mS (off := 0) (vc := [i32 0, i32 a, i32 0, i32 (IntKind.i32.wrap (a - 0)), i32 0, i32 0, i32 0, i32 0, i32 0, i32 0, i32 0, i32 0, i32 0, i32 0, i32 0, i32 0, i64 4]) 2 hA hO ?_)
                      clear hO; intro w113 hO
                      refine ⟨(hO.sub [3, 4, 5]), ?_⟩
                      replace hA := hA.sb (e' := [(0, i32 a), (1, i32 0), (4, bl false), (5, pt b1), (6, pt b2), (7, pt b3), (8, i64 1), (9, pt b38), (11, pt b42), (34, i64 0), (35, .agg #[i64 0, i64 0, i64 0, i64 0, i64 0, i64 0, i64 0])])
                      refine ckT (l := [14]) (e' := [(0, i32 a), (1, i32 0), (4, bl false), (5, pt b1), (6, pt b2), (7, pt b3), (8, i64 1), (9, pt b38), (11, pt b42), (35, .agg #[i64 0, i64 0, i64 0, i64 0, i64 0, i64 0, i64 0])]) hA [] c0 ?_
                      clear hA fr; intro fr hA
                      refine tree_mem ?_ ?_
                      ·
                        refine (mS (off := 0) (vc := [i64 0, i64 0, i64 0, i64 0, i64 0, i64 0, i64 0]) 1 hA hO ?_)
                        clear hO; intro w114 hO
                        refine ⟨(hO.sub [3, 4, 5]), ?_⟩
                        replace hA := hA.sb (e' := [(0, i32 a), (1, i32 0), (4, bl false), (5, pt b1), (6, pt b2), (7, pt b3), (8, i64 1), (9, pt b38), (11, pt b42)])
                        refine tree_fin ?_
                        refine then_normal ?_
                        exact ⟨b38, b42, hA.sb, (hO.sub [1, 2, 3, 4, 5]), trivial⟩
                      ·
                        exact trivial
                    ·
                      exact trivial
                  ·
                    exact trivial
                ·
                  exact trivial
              ·
                exact trivial
          ·
            refine tree_mem ?_ ?_
            ·
              refine (mN (l := [i64 0, i64 0, i64 0, i64 0, i64 0, i64 0, i64 0]) (t := 43) (v := pt) (d := 11) hA hO ?_)
              clear hA hO fr; intro fr w115 b44 hA hO
              refine ⟨(hO.sub [1, 2, 3]), ?_⟩
              refine tree_mem ?_ ?_
              ·
                refine (mN (l := [u8 5, u8 3, u8 1, u8 2]) (t := 5) (v := fun b => .slice (some ⟨b, 0, none⟩) 4 4) (d := 31) hA hO ?_)
                clear hA hO fr; intro fr w116 b45 hA hO
                refine ⟨(hO.sub [2, 3, 4]), ?_⟩
                replace hA := hA.sb (e' := [(0, i32 a), (1, i32 0), (4, bl false), (5, pt b1), (6, pt b2), (7, pt b3), (8, i64 1), (11, pt b44), (26, .agg #[i32 0, i32 a, i32 0, i32 0, i32 0, i32 0, i32 0, i32 0, i32 0, i32 0, i32 0, i32 0, i32 0, i32 0, i32 0, i32 0, i64 0]), (31, .slice (some ⟨b45, 0, none⟩) 4 4)])
                refine tree_mem ?_ ?_
                ·
                  refine (mK (f := 18) (args := [.agg (List.toArray (regsL (rgs [0, a, 0]) 0)), .slice (some ⟨b45, 0, none⟩) 4 4, i64 0]) (d := (some 32)) (v := .tuple #[.agg #[i32 0, i32 a, i32 0, i32 (IntKind.i32.wrap (a - 0)), i32 0, i32 0, i32 0, i32 0, i32 0, i32 0, i32 0, i32 0, i32 0, i32 0, i32 0, i32 0, i64 4], i64 0, .agg #[i64 0, i64 0, i64 0, i64 0, i64 0, i64 0, i64 0]]) hA hO Tryd.func18 (rs (exec_any (rgs [0, a, 0]) 0 0 _ [5, 3, 1, 2] _ (hT.keep hO.only (fun h => h)) (rgs2_ok' ha hb) (by decide) (by decide) ((hO.b 0).sl (xs := [5, 3, 1, 2]) (U8s.cons (inK_u8 (by decide) (by decide)) (U8s.cons (inK_u8 (by decide) (by decide)) (U8s.cons (inK_u8 (by decide) (by decide)) (U8s.cons (inK_u8 (by decide) (by decide)) U8s.nil)))) rfl (by kernel_rfl)))) ?_)
                  clear hA hO fr; intro fr w117 hA hO
                  refine ⟨(hO.sub [2, 3, 4]), ?_⟩
                  replace hA := hA.sb (e' := [(0, i32 a), (1, i32 0), (4, bl false), (5, pt b1), (6, pt b2), (7, pt b3), (8, i64 1), (11, pt b44), (32, .tuple #[.agg #[i32 0, i32 a, i32 0, i32 (IntKind.i32.wrap (a - 0)), i32 0, i32 0, i32 0, i32 0, i32 0, i32 0, i32 0, i32 0, i32 0, i32 0, i32 0, i32 0, i64 4], i64 0, .agg #[i64 0, i64 0, i64 0, i64 0, i64 0, i64 0, i64 0]])])
                  refine ckT (l := [7, 8, 9, 10]) (e' := [(0, i32 a), (1, i32 0), (4, bl false), (5, pt b1), (6, pt b2), (7, pt b3), (8, i64 1), (11, pt b44), (33, .agg #[i32 0, i32 a, i32 0, i32 (IntKind.i32.wrap (a - 0)), i32 0, i32 0, i32 0, i32 0, i32 0, i32 0, i32 0, i32 0, i32 0, i32 0, i32 0, i32 0, i64 4]), (34, i64 0), (35, .agg #[i64 0, i64 0, i64 0, i64 0, i64 0, i64 0, i64 0])]) hA [] c0 ?_
                  clear hA fr; intro fr hA
                  refine tree_mem ?_ ?_
                  ·
                    refine (mN (l := [i32 0, i32 0, i32 0, i32 0, i32 0, i32 0, i32 0, i32 0, i32 0, i32 0, i32 0, i32 0, i32 0, i32 0, i32 0, i32 0, i64 0]) (t := 40) (v := pt) (d := 9) hA hO ?_)
                    clear hA hO fr; intro fr w118 b46 hA hO
                    refine ⟨(hO.sub [3, 4, 5]), ?_⟩
                    refine tree_mem ?_ ?_
                    ·
                      refine (mS (off := 0) (vc := [i32 0, i32 a, i32 0, i32 (IntKind.i32.wrap (a - 0)), i32 0, i32 0, i32 0, i32 0, i32 0, i32 0, i32 0, i32 0, i32 0, i32 0, i32 0, i32 0, i64 4]) 0 hA hO ?_)
                      clear hO; intro w119 hO
                      refine ⟨(hO.sub [3, 4, 5]), ?_⟩
                      replace hA := hA.sb (e' := [(0, i32 a), (1, i32 0), (4, bl false), (5, pt b1), (6, pt b2), (7, pt b3), (8, i64 1), (9, pt b46), (11, pt b44), (34, i64 0), (35, .agg #[i64 0, i64 0, i64 0, i64 0, i64 0, i64 0, i64 0])])
                      refine ckT (l := [14]) (e' := [(0, i32 a), (1, i32 0), (4, bl false), (5, pt b1), (6, pt b2), (7, pt b3), (8, i64 1), (9, pt b46), (11, pt b44), (35, .agg #[i64 0, i64 0, i64 0, i64 0, i64 0, i64 0, i64 0])]) hA [] c0 ?_
                      clear hA fr; intro fr hA
                      refine tree_mem ?_ ?_
                      ·
                        refine (mS (off := 0) (vc := [i64 0, i64 0, i64 0, i64 0, i64 0, i64 0, i64 0]) 2 hA hO ?_)
                        clear hO; intro w120 hO
                        refine ⟨(hO.sub [3, 4, 5]), ?_⟩
                        replace hA := hA.sb (e' := [(0, i32 a), (1, i32 0), (4, bl false), (5, pt b1), (6, pt b2), (7, pt b3), (8, i64 1), (9, pt b46), (11, pt b44)])
                        refine tree_fin ?_
                        refine then_normal ?_
                        exact ⟨b46, b44, hA.sb, (hO.sub [2, 0, 3, 4, 5]), trivial⟩
                      ·
                        exact trivial
                    ·
                      exact trivial
                  ·
                    exact trivial
                ·
                  refine tree_mem ?_ ?_
                  ·
                    refine (mN (l := [i32 0, i32 0, i32 0, i32 0, i32 0, i32 0, i32 0, i32 0, i32 0, i32 0, i32 0, i32 0, i32 0, i32 0, i32 0, i32 0, i64 0]) (t := 40) (v := pt) (d := 9) hA hO ?_)
                    clear hA hO fr; intro fr w121 b47 hA hO
                    refine ⟨(hO.sub [3, 4, 5]), ?_⟩
                    refine tree_mem ?_ ?_
                    ·
                      refine (mK (f := 18) (args := [.agg (List.toArray (regsL (rgs [0, a, 0]) 0)), .slice (some ⟨b45, 0, none⟩) 4 4, i64 0]) (d := (some 32)) (v := .tuple #[.agg #[i32 0, i32 a, i32 0, i32 (IntKind.i32.wrap (a - 0)), i32 0, i32 0, i32 0, i32 0, i32 0, i32 0, i32 0, i32 0, i32 0, i32 0, i32 0, i32 0, i64 4], i64 0, .agg #[i64 0, i64 0, i64 0, i64 0, i64 0, i64 0, i64 0]]) hA hO Tryd.func18 (rs (exec_any (rgs [0, a, 0]) 0 0 _ [5, 3, 1, 2] _ (hT.keep hO.only (fun h => h)) (rgs2_ok' ha hb) (by decide) (by decide) ((hO.b 1).sl (xs := [5, 3, 1, 2]) (U8s.cons (inK_u8 (by decide) (by decide)) (U8s.cons (inK_u8 (by decide) (by decide)) (U8s.cons (inK_u8 (by decide) (by decide)) (U8s.cons (inK_u8 (by decide) (by decide)) U8s.nil)))) rfl (by kernel_rfl)))) ?_)
                      clear hA hO fr; intro fr w122 hA hO
                      refine ⟨(hO.sub [3, 4, 5]), ?_⟩
                      replace hA := hA.sb (e' := [(0, i32 a), (1, i32 0), (4, bl false), (5, pt b1), (6, pt b2), (7, pt b3), (8, i64 1), (9, pt b47), (11, pt b44), (32, .tuple #[.agg #[i32 0, i32 a, i32 0, i32 (IntKind.i32.wrap (a - 0)), i32 0, i32 0, i32 0, i32 0, i32 0, i32 0, i32 0, i32 0, i32 0, i32 0, i32 0, i32 0, i64 4], i64 0, .agg #[i64 0, i64 0, i64 0, i64 0, i64 0, i64 0, i64 0]])])
                      refine ckT (l := [7, 8, 9, 10]) (e' := [(0, i32 a), (1, i32 0), (4, bl false), (5, pt b1), (6, pt b2), (7, pt b3), (8, i64 1), (9, pt b47), (11, pt b44), (33, .agg #[i32 0, i32 a, i32 0, i32 (IntKind.i32.wrap (a - 0)), i32 0, i32 0, i32 0, i32 0, i32 0, i32 0, i32 0, i32 0, i32 0, i32 0, i32 0, i32 0, i64 4]), (34, i64 0), (35, .agg #[i64 0, i64 0, i64 0, i64 0, i64 0, i64 0, i64 0])]) hA [] c0 ?_
                      clear hA fr; intro fr hA
                      refine tree_mem ?_ ?_
                      ·
                        refine (mS (off := 0) (vc := [i32 0, i32 a, i32 0, i32 (IntKind.i32.wrap (a - 0)), i32 0, i32 0, i32 0, i32 0, i32 0, i32 0, i32 0, i32 0, i32 0, i32 0, i32 0, i32 0, i64 4]) 0 hA hO ?_)
                        clear hO; intro w123 hO
                        refine ⟨(hO.sub [3, 4, 5]), ?_⟩
                        replace hA := hA.sb (e' := [(0, i32 a), (1, i32 0), (4, bl false), (5, pt b1), (6, pt b2), (7, pt b3), (8, i64 1), (9, pt b47), (11, pt b44), (34, i64 0), (35, .agg #[i64 0, i64 0, i64 0, i64 0, i64 0, i64 0, i64 0])])
                        refine ckT (l := [14]) (e' := [(0, i32 a), (1, i32 0), (4, bl false), (5, pt b1), (6, pt b2), (7, pt b3), (8, i64 1), (9, pt b47), (11, pt b44), (35, .agg #[i64 0, i64 0, i64 0, i64 0, i64 0, i64 0, i64 0])]) hA [] c0 ?_
                        clear hA fr; intro fr hA
                        refine tree_mem ?_ ?_
                        ·
                          refine (mS (off := 0) (vc := [i64 0, i64 0, i64 0, i64 0, i64 0, i64 0, i64 0]) 2 hA hO ?_)
                          clear hO; intro w124 hO
                          refine ⟨(hO.sub [3, 4, 5]), ?_⟩
                          replace hA := hA.sb (e' := [(0, i32 a), (1, i32 0), (4, bl false), (5, pt b1), (6, pt b2), (7, pt b3), (8, i64 1), (9, pt b47), (11, pt b44)])
                          refine tree_fin ?_
                          refine then_normal ?_
                          exact ⟨b47, b44, hA.sb, (hO.sub [2, 0, 3, 4, 5]), trivial⟩
                        ·
                          exact trivial
                      ·
                        exact trivial
                    ·
                      exact trivial
                  ·
                    exact trivial
              ·
                refine tree_mem ?_ ?_
                ·
                  refine (mN (l := [i32 0, i32 0, i32 0, i32 0, i32 0, i32 0, i32 0, i32 0, i32 0, i32 0, i32 0, i32 0, i32 0, i32 0, i32 0, i32 0, i64 0]) (t := 40) (v := pt) (d := 9) hA hO ?_)
                  clear hA hO fr; intro fr w125 b48 hA hO
                  refine ⟨(hO.sub [2, 3, 4]), ?_⟩
                  refine tree_mem ?_ ?_
                  ·
                    refine (mN (l := [u8 5, u8 3, u8 1, u8 2]) (t := 5) (v := fun b => .slice (some ⟨b, 0, none⟩) 4 4) (d := 31) hA hO ?_)
                    clear hA hO fr; intro fr w126 b49 hA hO
                    refine ⟨(hO.sub [3, 4, 5]), ?_⟩
                    replace hA := hA.sb (e' := [(0, i32 a), (1, i32 0), (4, bl false), (5, pt b1), (6, pt b2), (7, pt b3), (8, i64 1), (9, pt b48), (11, pt b44), (26, .agg #[i32 0, i32 a, i32 0, i32 0, i32 0, i32 0, i32 0, i32 0, i32 0, i32 0, i32 0, i32 0, i32 0, i32 0, i32 0, i32 0, i64 0]), (31, .slice (some ⟨b49, 0, none⟩) 4 4)])
                    refine tree_mem ?_ ?_
                    ·
                      refine (mK (f := 18) (args := [.agg (List.toArray (regsL (rgs [0, a, 0]) 0)), .slice (some ⟨b49, 0, none⟩) 4 4, i64 0]) (d := (some 32)) (v := .tuple #[.agg #[i32 0, i32 a, i32 0, i32 (IntKind.i32.wrap (a - 0)), i32 0, i32 0, i32 0, i32 0, i32 0, i32 0, i32 0, i32 0, i32 0, i32 0, i32 0, i32 0, i64 4], i64 0, .agg #[i64 0, i64 0, i64 0, i64 0, i64 0, i64 0, i64 0]]) hA hO Tryd.func18 (rs (exec_any (rgs [0, a, 0]) 0 0 _ [5, 3, 1, 2] _ (hT.keep hO.only (fun h => h)) (rgs2_ok' ha hb) (by decide) (by decide) ((hO.b 0).sl (xs := [5, 3, 1, 2]) (U8s.cons (inK_u8 (by decide) (by decide)) (U8s.cons (inK_u8 (by decide) (by decide)) (U8s.cons (inK_u8 (by decide) (by decide)) (U8s.cons (inK_u8 (by decide) (by decide)) U8s.nil)))) rfl (by kernel_rfl)))) ?_)
                      clear hA hO fr; intro fr w127 hA hO
                      refine ⟨(hO.sub [3, 4, 5]), ?_⟩
                      replace hA := hA.sb (e' := [(0, i32 a), (1, i32 0), (4, bl false), (5, pt b1), (6, pt b2), (7, pt b3), (8, i64 1), (9, pt b48), (11, pt b44), (32, .tuple #[.agg #[i32 0, i32 a, i32 0, i32 (IntKind.i32.wrap (a - 0)), i32 0, i32 0, i32 0, i32 0, i32 0, i32 0, i32 0, i32 0, i32 0, i32 0, i32 0, i32 0, i64 4], i64 0, .agg #[i64 0, i64 0, i64 0, i64 0, i64 0, i64 0, i64 0]])])
                      refine ckT (l := [7, 8, 9, 10]) (e' := [(0, i32 a), (1, i32 0), (4, bl false), (5, pt b1), (6, pt b2), (7, pt b3), (8, i64 1), (9, pt b48), (11, pt b44), (33, .agg #[i32 0, i32 a, i32 0, i32 (IntKind.i32.wrap (a - 0)), i32 0, i32 0, i32 0, i32 0, i32 0, i32 0, i32 0, i32 0, i32 0, i32 0, i32 0, i32 0, i64 4]), (34, i64 0), (35, .agg #[i64 0, i64 0, i64 0, i64 0, i64 0, i64 0, i64 0])]) hA [] c0 ?_
                      clear hA fr; intro fr hA
                      refine tree_mem ?_ ?_
                      ·
                        refine (mS (off := 0) (vc := [i32 0, i32 a, i32 0, i32 (IntKind.i32.wrap (a - 0)), i32 0, i32 0, i32 0, i32 0, i32 0, i32 0, i32 0, i32 0, i32 0, i32 0, i32 0, i32 0, i64 4]) 1 hA hO ?_)
                        clear hO; intro w128 hO
                        refine ⟨(hO.sub [3, 4, 5]), ?_⟩
                        replace hA := hA.sb (e' := [(0, i32 a), (1, i32 0), (4, bl false), (5, pt b1), (6, pt b2), (7, pt b3), (8, i64 1), (9, pt b48), (11, pt b44), (34, i64 0), (35, .agg #[i64 0, i64 0, i64 0, i64 0, i64 0, i64 0, i64 0])])
                        refine ckT (l := [14]) (e' := [(0, i32 a), (1, i32 0), (4, bl false), (5, pt b1), (6, pt b2), (7, pt b3), (8, i64 1), (9, pt b48), (11, pt b44), (35, .agg #[i64 0, i64 0, i64 0, i64 0, i64 0, i64 0, i64 0])]) hA [] c0 ?_
                        clear hA fr; intro fr hA
                        refine tree_mem ?_ ?_
                        ·
                          refine (mS (off := 0) (vc := [i64 0, i64 0, i64 0, i64 0, i64 0, i64 0, i64 0]) 2 hA hO ?_)
                          clear hO; intro w129 hO
                          refine ⟨(hO.sub [3, 4, 5]), ?_⟩
                          replace hA := hA.sb (e' := [(0, i32 a), (1, i32 0), (4, bl false), (5, pt b1), (6, pt b2), (7, pt b3), (8, i64 1), (9, pt b48), (11, pt b44)])
                          refine tree_fin ?_
                          refine then_normal ?_
                          exact ⟨b48, b44, hA.sb, (hO.sub [2, 1, 3, 4, 5]), trivial⟩
                        ·
                          exact trivial
                      ·
                        exact trivial
                    ·
                      exact trivial
                  ·
                    exact trivial
                ·
                  exact trivial
            ·
              exact trivial
    ·
      refine wp_seq ?_
      refine sC (e' := [(0, i32 a), (1, i32 0), (4, bl false), (5, pt b1), (6, pt b2), (7, pt b3), (8, i64 2), (22, bl true)]) 2 hA [] c0 ?_
      clear hA fr; intro fr hA
      refine cT hA ?_
      refine wp_skip ?_
      refine then_normal ?_
      refine wp_seq ?_
      refine wp_block ?_
      refine sJ (fun fr W => ∃ (j5 : Nat) (j6 : Nat), Holds 132 [] fr [(0, i32 a), (1, i32 0), (4, bl false), (5, pt b1), (6, pt b2), (7, pt b3), (8, i64 2), (9, pt j5), (11, pt j6)] ∧ Ow Tryd.prog none' w W [(j6, 43, [i64 0, i64 0, i64 0, i64 0, i64 0, i64 0, i64 0]), (j5, 40, [i32 0, i32 a, i32 0, i32 (IntKind.i32.wrap (a * 0)), i32 0, i32 0, i32 0, i32 0, i32 0, i32 0, i32 0, i32 0, i32 0, i32 0, i32 0, i32 0, i64 4]), (b3, 47, [i64 (IntKind.i32.wrap (a + 0)), i64 (IntKind.i32.wrap (a - 0)), i64 0, i64 0, i64 0]), (b2, 47, [i64 4, i64 5, i64 6, i64 7, i64 8]), (b1, 40, [i32 0, i32 a, i32 0, i32 0, i32 0, i32 0, i32 0, i32 0, i32 0, i32 0, i32 0, i32 0, i32 0, i32 0, i32 0, i32 0, i64 0])] ∧ True) ?_ ?_
      · rintro fr w130 ⟨j5, j6, hA, hO, -⟩
        refine wp_seq ?_
        refine sC (e' := [(0, i32 a), (1, i32 0), (4, bl false), (5, pt b1), (6, pt b2), (7, pt b3), (8, i64 2), (9, pt j5), (11, pt j6), (43, bl false)]) 8 hA [i64 6] (cc (⟨by omega, by omega⟩ : (0 : Int) ≤ 2 ∧ 2 < ((5 : Nat) : Int)) (cc (hO.l1 3 2 3 (i64 6)) c0)) ?_
        clear hA fr; intro fr hA
        refine cF hA ?_
        refine wp_skip ?_
        refine then_normal ?_
        refine wp_seq ?_
        refine sC (e' := [(0, i32 a), (1, i32 0), (4, bl false), (5, pt b1), (6, pt b2), (7, pt b3), (8, i64 2), (9, pt j5), (54, bl false)]) 3 hA [.agg #[i64 0, i64 0, i64 0, i64 0, i64 0, i64 0, i64 0], bl true] (cc (hO.ln 0 0 43 [i64 0, i64 0, i64 0, i64 0, i64 0, i64 0, i64 0]) (cc ((eqG_of (by kernel_rfl) (by kernel_rfl)) : EqG Tryd.prog 43 (.agg #[i64 0, i64 0, i64 0, i64 0, i64 0, i64 0, i64 0]) (.agg #[i64 0, i64 0, i64 0, i64 0, i64 0, i64 0, i64 0]) true) c0)) ?_
        clear hA fr; intro fr hA
        refine cF hA ?_
        refine wp_skip ?_
        refine then_normal ?_
        refine rR (l := (rg 0 7)) ?_
        refine ck (l := (rg 0 6)) (r := [6]) (e' := [(0, i32 a), (1, i32 0), (4, bl false), (5, pt b1), (6, pt b2), (7, pt b3), (8, i64 2), (59, i64 (IntKind.i32.wrap (a * 0))), (60, pf b3 2)]) hA [i32 (IntKind.i32.wrap (a * 0)), bl true] (cc (⟨by omega, by omega⟩ : (0 : Int) ≤ 3 ∧ 3 < ((16 : Nat) : Int)) (cc (hO.l1 1 3 21 (i32 (IntKind.i32.wrap (a * 0)))) (cc ((inK_up (by kernel_rfl) (wrap_inK _ _)) : inK .i64 (IntKind.i32.wrap (a * 0))) (cc (⟨by omega, by omega⟩ : (0 : Int) ≤ 2 ∧ 2 < ((5 : Nat) : Int)) c0)))) ?_
        clear hA fr; intro fr hA
        refine wpOps_cons' (mS (off := 2) (vc := [i64 (IntKind.i32.wrap (a * 0))]) 2 hA hO ?_)
        clear hO; intro w131 hO
        replace hA := hA.sb (e' := [(0, i32 a), (1, i32 0), (4, bl false), (5, pt b1), (6, pt b2), (7, pt b3), (8, i64 2)])
        refine end_ops ?_
        refine inBlock_normal ?_
        refine then_normal ?_
        refine rC (e' := [(0, i32 a), (1, i32 0), (4, bl false), (5, pt b1), (6, pt b2), (7, pt b3), (8, i64 3)]) 3 hA [bl false] c0 ?_
        clear hA fr; intro fr hA
        refine then_normal ?_
        exact ⟨2, by decide, (.inr (.inr (.inr (.inl ⟨rfl, hA.sb, (hO.sub [2, 3, 4])⟩))))⟩
      ·
        have hS := hO
        refine rT (.q 0 (.q 1 (.q 2 (.q 3 (.q 4 (.m 5 (.m 6 (.q 7 (.q 8 (.q 9 (.q 10 (.m 11 (.m 12 (.m 13 (.q 14 (.m 15 .fin .non)) .non) .non) (.m 12 (.m 11 (.m 13 (.q 14 (.m 15 .fin .non)) .non) .non) .non)))))) (.m 11 (.m 6 (.q 7 (.q 8 (.q 9 (.q 10 (.m 12 (.m 13 (.q 14 (.m 15 .fin .non)) .non) .non))))) (.m 12 (.m 6 (.q 7 (.q 8 (.q 9 (.q 10 (.m 13 (.q 14 (.m 15 .fin .non)) .non))))) .non) .non)) (.m 12 (.m 6 (.q 7 (.q 8 (.q 9 (.q 10 (.m 11 (.m 13 (.q 14 (.m 15 .fin .non)) .non) .non))))) (.m 11 (.m 6 (.q 7 (.q 8 (.q 9 (.q 10 (.m 13 (.q 14 (.m 15 .fin .non)) .non))))) .non) .non)) .non))) (.m 11 (.m 5 (.m 6 (.q 7 (.q 8 (.q 9 (.q 10 (.m 12 (.m 13 (.q 14 (.m 15 .fin .non)) .non) .non))))) (.m 12 (.m 6 (.q 7 (.q 8 (.q 9 (.q 10 (.m 13 (.q 14 (.m 15 .fin .non)) .non))))) .non) .non)) (.m 12 (.m 5 (.m 6 (.q 7 (.q 8 (.q 9 (.q 10 (.m 13 (.q 14 (.m 15 .fin .non)) .non))))) .non) .non) .non)) (.m 12 (.m 5 (.m 6 (.q 7 (.q 8 (.q 9 (.q 10 (.m 11 (.m 13 (.q 14 (.m 15 .fin .non)) .non) .non))))) (.m 11 (.m 6 (.q 7 (.q 8 (.q 9 (.q 10 (.m 13 (.q 14 (.m 15 .fin .non)) .non))))) .non) .non)) (.m 11 (.m 5 (.m 6 (.q 7 (.q 8 (.q 9 (.q 10 (.m 13 (.q 14 (.m 15 .fin .non)) .non))))) .non) .non) .non)) .non)))))))) hS ?_
        intro w132 ho; replace hO := hO.st ho; clear ho
        refine ckT (l := [0, 1, 2, 3, 4]) (e' := [(0, i32 a), (1, i32 0), (4, bl false), (5, pt b1), (6, pt b2), (7, pt b3), (8, i64 2), (26, .agg #[i32 0, i32 a, i32 0, i32 0, i32 0, i32 0, i32 0, i32 0, i32 0, i32 0, i32 0, i32 0, i32 0, i32 0, i32 0, i32 0, i64 0]), (30, u8 6)]) hA [.agg #[i32 0, i32 a, i32 0, i32 0, i32 0, i32 0, i32 0, i32 0, i32 0, i32 0, i32 0, i32 0, i32 0, i32 0, i32 0, i32 0, i64 0], i64 6, bl false] (cc (hS.sn 2 0 40 [i32 0, i32 a, i32 0, i32 0, i32 0, i32 0, i32 0, i32 0, i32 0, i32 0, i32 0, i32 0, i32 0, i32 0, i32 0, i32 0, i64 0]) (cc (⟨by omega, by omega⟩ : (0 : Int) ≤ 2 ∧ 2 < ((5 : Nat) : Int)) (cc (hS.s1 1 2 3 (i64 6)) c0))) ?_
        clear hA fr; intro fr hA
        refine tree_mem ?_ ?_
        ·
          refine (mN (l := [u8 6, u8 3, u8 1, u8 2]) (t := 5) (v := fun b => .slice (some ⟨b, 0, none⟩) 4 4) (d := 31) hA hO ?_)
          clear hA hO fr; intro fr w133 b50 hA hO
          refine ⟨(hO.sub [1, 2, 3]), ?_⟩
          replace hA := hA.sb (e' := [(0, i32 a), (1, i32 0), (4, bl false), (5, pt b1), (6, pt b2), (7, pt b3), (8, i64 2), (26, .agg #[i32 0, i32 a, i32 0, i32 0, i32 0, i32 0, i32 0, i32 0, i32 0, i32 0, i32 0, i32 0, i32 0, i32 0, i32 0, i32 0, i64 0]), (31, .slice (some ⟨b50, 0, none⟩) 4 4)])
          refine tree_mem ?_ ?_
          ·
            refine (mK (f := 18) (args := [.agg (List.toArray (regsL (rgs [0, a, 0]) 0)), .slice (some ⟨b50, 0, none⟩) 4 4, i64 0]) (d := (some 32)) (v := .tuple #[.agg #[i32 0, i32 a, i32 0, i32 (IntKind.i32.wrap (a * 0)), i32 0, i32 0, i32 0, i32 0, i32 0, i32 0, i32 0, i32 0, i32 0, i32 0, i32 0, i32 0, i64 4], i64 0, .agg #[i64 0, i64 0, i64 0, i64 0, i64 0, i64 0, i64 0]]) hA hO Tryd.func18 (rs (exec_any (rgs [0, a, 0]) 0 0 _ [6, 3, 1, 2] _ (hT.keep hO.only (fun h => h)) (rgs2_ok' ha hb) (by decide) (by decide) ((hO.b 0).sl (xs := [6, 3, 1, 2]) (U8s.cons (inK_u8 (by decide) (by decide)) (U8s.cons (inK_u8 (by decide) (by decide)) (U8s.cons (inK_u8 (by decide) (by decide)) (U8s.cons (inK_u8 (by decide) (by decide)) U8s.nil)))) rfl (by kernel_rfl)))) ?_)
            clear hA hO fr; intro fr w134 hA hO
            refine ⟨(hO.sub [1, 2, 3]), ?_⟩
            replace hA := hA.sb (e' := [(0, i32 a), (1, i32 0), (4, bl false), (5, pt b1), (6, pt b2), (7, pt b3), (8, i64 2), (32, .tuple #[.agg #[i32 0, i32 a, i32 0, i32 (IntKind.i32.wrap (a * 0)), i32 0, i32 0, i32 0, i32 0, i32 0, i32 0, i32 0, i32 0, i32 0, i32 0, i32 0, i32 0, i64 4], i64 0, .agg #[i64 0, i64 0, i64 0, i64 0, i64 0, i64 0, i64 0]])])
            refine ckT (l := [7, 8, 9, 10]) (e' := [(0, i32 a), (1, i32 0), (4, bl false), (5, pt b1), (6, pt b2), (7, pt b3), (8, i64 2), (33, .agg #[i32 0, i32 a, i32 0, i32 (IntKind.i32.wrap (a * 0)), i32 0, i32 0, i32 0, i32 0, i32 0, i32 0, i32 0, i32 0, i32 0, i32 0, i32 0, i32 0, i64 4]), (34, i64 0), (35, .agg #[i64 0, i64 0, i64 0, i64 0, i64 0, i64 0, i64 0])]) hA [] c0 ?_
            clear hA fr; intro fr hA
            refine tree_mem ?_ ?_
            ·
              refine (mN (l := [i32 0, i32 0, i32 0, i32 0, i32 0, i32 0, i32 0, i32 0, i32 0, i32 0, i32 0, i32 0, i32 0, i32 0, i32 0, i32 0, i64 0]) (t := 40) (v := pt) (d := 9) hA hO ?_)
              clear hA hO fr; intro fr w135 b51 hA hO
              refine ⟨(hO.sub [2, 3, 4]), ?_⟩
              refine tree_mem ?_ ?_
              ·
                refine (mN (l := [i64 0, i64 0, i64 0, i64 0, i64 0, i64 0, i64 0]) (t := 43) (v := pt) (d := 11) hA hO ?_)
                clear hA hO fr; intro fr w136 b52 hA hO
                refine ⟨(hO.sub [3, 4, 5]), ?_⟩
                refine tree_mem ?_ ?_
                ·
                  refine (mS (off := 0) (vc := [i32 0, i32 a, i32 0, i32 (IntKind.i32.wrap (a * 0)), i32 0, i32 0, i32 0, i32 0, i32 0, i32 0, i32 0, i32 0, i32 0, i32 0, i32 0, i32 0, i64 4]) 1 hA hO ?_)
                  clear hO; intro w137 hO
                  refine ⟨(hO.sub [3, 4, 5]), ?_⟩
                  replace hA := hA.sb (e' := [(0, i32 a), (1, i32 0), (4, bl false), (5, pt b1), (6, pt b2), (7, pt b3), (8, i64 2), (9, pt b51), (11, pt b52), (34, i64 0), (35, .agg #[i64 0, i64 0, i64 0, i64 0, i64 0, i64 0, i64 0])])
                  refine ckT (l := [14]) (e' := [(0, i32 a), (1, i32 0), (4, bl false), (5, pt b1), (6, pt b2), (7, pt b3), (8, i64 2), (9, pt b51), (11, pt b52), (35, .agg #[i64 0, i64 0, i64 0, i64 0, i64 0, i64 0, i64 0])]) hA [] c0 ?_
                  clear hA fr; intro fr hA
                  refine tree_mem ?_ ?_
                  ·
                    refine (mS (off := 0) (vc := [i64 0, i64 0, i64 0, i64 0, i64 0, i64 0, i64 0]) 0 hA hO ?_)
                    clear hO; intro w138 hO
                    refine ⟨(hO.sub [3, 4, 5]), ?_⟩
                    replace hA := hA.sb (e' := [(0, i32 a), (1, i32 0), (4, bl false), (5, pt b1), (6, pt b2), (7, pt b3), (8, i64 2), (9, pt b51), (11, pt b52)])
                    refine tree_fin ?_
                    refine then_normal ?_
                    exact ⟨b51, b52, hA.sb, (hO.sub [0, 1, 3, 4, 5]), trivial⟩
                  ·
                    exact trivial
                ·
                  exact trivial
              ·
                exact trivial
            ·
              refine tree_mem ?_ ?_
              ·
                refine (mN (l := [i64 0, i64 0, i64 0, i64 0, i64 0, i64 0, i64 0]) (t := 43) (v := pt) (d := 11) hA hO ?_)
                clear hA hO fr; intro fr w139 b53 hA hO
                refine ⟨(hO.sub [2, 3, 4]), ?_⟩
                refine tree_mem ?_ ?_
                ·
                  refine (mN (l := [i32 0, i32 0, i32 0, i32 0, i32 0, i32 0, i32 0, i32 0, i32 0, i32 0, i32 0, i32 0, i32 0, i32 0, i32 0, i32 0, i64 0]) (t := 40) (v := pt) (d := 9) hA hO ?_)
                  clear hA hO fr; intro fr w140 b54 hA hO
                  refine ⟨(hO.sub [3, 4, 5]), ?_⟩
                  refine tree_mem ?_ ?_
                  ·
                    refine (mS (off := 0) (vc := [i32 0, i32 a, i32 0, i32 (IntKind.i32.wrap (a * 0)), i32 0, i32 0, i32 0, i32 0, i32 0, i32 0, i32 0, i32 0, i32 0, i32 0, i32 0, i32 0, i64 4]) 0 hA hO ?_)
                    clear hO; intro w141 hO
                    refine ⟨(hO.sub [3, 4, 5]), ?_⟩
                    replace hA := hA.sb (e' := [(0, i32 a), (1, i32 0), (4, bl false), (5, pt b1), (6, pt b2), (7, pt b3), (8, i64 2), (9, pt b54), (11, pt b53), (34, i64 0), (35, .agg #[i64 0, i64 0, i64 0, i64 0, i64 0, i64 0, i64 0])])
                    refine ckT (l := [14]) (e' := [(0, i32 a), (1, i32 0), (4, bl false), (5, pt b1), (6, pt b2), (7, pt b3), (8, i64 2), (9, pt b54), (11, pt b53), (35, .agg #[i64 0, i64 0, i64 0, i64 0, i64 0, i64 0, i64 0])]) hA [] c0 ?_
                    clear hA fr; intro fr hA
                    refine tree_mem ?_ ?_
                    ·
                      refine (mS (off := 0) (vc := [i64 0, i64 0, i64 0, i64 0, i64 0, i64 0, i64 0]) 1 hA hO ?_)
                      clear hO; intro w142 hO
                      refine ⟨(hO.sub [3, 4, 5]), ?_⟩
                      replace hA := hA.sb (e' := [(0, i32 a), (1, i32 0), (4, bl false), (5, pt b1), (6, pt b2), (7, pt b3), (8, i64 2), (9, pt b54), (11, pt b53)])
                      refine tree_fin ?_
                      refine then_normal ?_
                      exact ⟨b54, b53, hA.sb, (hO.sub [1, 0, 3, 4, 5]), trivial⟩
                    ·
                      exact trivial
                  ·
                    exact trivial
                ·
                  exact trivial
              ·
                exact trivial
          ·
            refine tree_mem ?_ ?_
            ·
              refine (mN (l := [i32 0, i32 0, i32 0, i32 0, i32 0, i32 0, i32 0, i32 0, i32 0, i32 0, i32 0, i32 0, i32 0, i32 0, i32 0, i32 0, i64 0]) (t := 40) (v := pt) (d := 9) hA hO ?_)
              clear hA hO fr; intro fr w143 b55 hA hO
              refine ⟨(hO.sub [2, 3, 4]), ?_⟩
              refine tree_mem ?_ ?_
              ·
                refine (mK (f := 18) (args := [.agg (List.toArray (regsL (rgs [0, a, 0]) 0)), .slice (some ⟨b50, 0, none⟩) 4 4, i64 0]) (d := (some 32)) (v := .tuple #[.agg #[i32 0, i32 a, i32 0, i32 (IntKind.i32.wrap (a * 0)), i32 0, i32 0, i32 0, i32 0, i32 0, i32 0, i32 0, i32 0, i32 0, i32 0, i32 0, i32 0, i64 4], i64 0, .agg #[i64 0, i64 0, i64 0, i64 0, i64 0, i64 0, i64 0]]) hA hO Tryd.func18 (rs (exec_any (rgs [0, a, 0]) 0 0 _ [6, 3, 1, 2] _ (hT.keep hO.only (fun h => h)) (rgs2_ok' ha hb) (by decide) (by decide) ((hO.b 1).sl (xs := [6, 3, 1, 2]) (U8s.cons (inK_u8 (by decide) (by decide)) (U8s.cons (inK_u8 (by decide) (by decide)) (U8s.cons (inK_u8 (by decide) (by decide)) (U8s.cons (inK_u8 (by decide) (by decide)) U8s.nil)))) rfl (by kernel_rfl)))) ?_)
                clear hA hO fr; intro fr w144 hA hO
                refine ⟨(hO.sub [2, 3, 4]), ?_⟩
                replace hA := hA.sb (e' := [(0, i32 a), (1, i32 0), (4, bl false), (5, pt b1), (6, pt b2), (7, pt b3), (8, i64 2), (9, pt b55), (32, .tuple #[.agg #[i32 0, i32 a, i32 0, i32 (IntKind.i32.wrap (a * 0)), i32 0, i32 0, i32 0, i32 0, i32 0, i32 0, i32 0, i32 0, i32 0, i32 0, i32 0, i32 0, i64 4], i64 0, .agg #[i64 0, i64 0, i64 0, i64 0, i64 0, i64 0, i64 0]])])
                refine ckT (l := [7, 8, 9, 10]) (e' := [(0, i32 a), (1, i32 0), (4, bl false), (5, pt b1), (6, pt b2), (7, pt b3), (8, i64 2), (9, pt b55), (33, .agg #[i32 0, i32 a, i32 0, i32 (IntKind.i32.wrap (a * 0)), i32 0, i32 0, i32 0, i32 0, i32 0, i32 0, i32 0, i32 0, i32 0, i32 0, i32 0, i32 0, i64 4]), (34, i64 0), (35, .agg #[i64 0, i64 0, i64 0, i64 0, i64 0, i64 0, i64 0])]) hA [] c0 ?_
                clear hA fr; intro fr hA
                refine tree_mem ?_ ?_
                ·
                  refine (mN (l := [i64 0, i64 0, i64 0, i64 0, i64 0, i64 0, i64 0]) (t := 43) (v := pt) (d := 11) hA hO ?_)
                  clear hA hO fr; intro fr w145 b56 hA hO
                  refine ⟨(hO.sub [3, 4, 5]), ?_⟩
                  refine tree_mem ?_ ?_
                  ·
                    refine (mS (off := 0) (vc := [i32 0, i32 a, i32 0, i32 (IntKind.i32.wrap (a * 0)), i32 0, i32 0, i32 0, i32 0, i32 0, i32 0, i32 0, i32 0, i32 0, i32 0, i32 0, i32 0, i64 4]) 1 hA hO ?_)
                    clear hO; intro w146 hO
                    refine ⟨(hO.sub [3, 4, 5]), ?_⟩
                    replace hA := hA.sb (e' := [(0, i32 a), (1, i32 0), (4, bl false), (5, pt b1), (6, pt b2), (7, pt b3), (8, i64 2), (9, pt b55), (11, pt b56), (34, i64 0), (35, .agg #[i64 0, i64 0, i64 0, i64 0, i64 0, i64 0, i64 0])])
                    refine ckT (l := [14]) (e' := [(0, i32 a), (1, i32 0), (4, bl false), (5, pt b1), (6, pt b2), (7, pt b3), (8, i64 2), (9, pt b55), (11, pt b56), (35, .agg #[i64 0, i64 0, i64 0, i64 0, i64 0, i64 0, i64 0])]) hA [] c0 ?_
                    clear hA fr; intro fr hA
                    refine tree_mem ?_ ?_
                    ·
                      refine (mS (off := 0) (vc := [i64 0, i64 0, i64 0, i64 0, i64 0, i64 0, i64 0]) 0 hA hO ?_)
                      clear hO; intro w147 hO
                      refine ⟨(hO.sub [3, 4, 5]), ?_⟩
                      replace hA := hA.sb (e' := [(0, i32 a), (1, i32 0), (4, bl false), (5, pt b1), (6, pt b2), (7, pt b3), (8, i64 2), (9, pt b55), (11, pt b56)])
                      refine tree_fin ?_
                      refine then_normal ?_
                      exact ⟨b55, b56, hA.sb, (hO.sub [0, 1, 3, 4, 5]), trivial⟩
                    ·
                      exact trivial
                  ·
                    exact trivial
                ·
                  exact trivial
              ·
                refine tree_mem ?_ ?_
                ·
                  refine (mN (l := [i64 0, i64 0, i64 0, i64 0, i64 0, i64 0, i64 0]) (t := 43) (v := pt) (d := 11) hA hO ?_)
                  clear hA hO fr; intro fr w148 b57 hA hO
                  refine ⟨(hO.sub [3, 4, 5]), ?_⟩
                  refine tree_mem ?_ ?_
                  ·
                    refine (mK (f := 18) (args := [.agg (List.toArray (regsL (rgs [0, a, 0]) 0)), .slice (some ⟨b50, 0, none⟩) 4 4, i64 0]) (d := (some 32)) (v := .tuple #[.agg #[i32 0, i32 a, i32 0, i32 (IntKind.i32.wrap (a * 0)), i32 0, i32 0, i32 0, i32 0, i32 0, i32 0, i32 0, i32 0, i32 0, i32 0, i32 0, i32 0, i64 4], i64 0, .agg #[i64 0, i64 0, i64 0, i64 0, i64 0, i64 0, i64 0]]) hA hO Tryd.func18 (rs (exec_any (rgs [0, a, 0]) 0 0 _ [6, 3, 1, 2] _ (hT.keep hO.only (fun h => h)) (rgs2_ok' ha hb) (by decide) (by decide) ((hO.b 2).sl (xs := [6, 3, 1, 2]) (U8s.cons (inK_u8 (by decide) (by decide)) (U8s.cons (inK_u8 (by decide) (by decide)) (U8s.cons (inK_u8 (by decide) (by decide)) (U8s.cons (inK_u8 (by decide) (by decide)) U8s.nil)))) rfl (by kernel_rfl)))) ?_)
                    clear hA hO fr; intro fr w149 hA hO
                    refine ⟨(hO.sub [3, 4, 5]), ?_⟩
                    replace hA := hA.sb (e' := [(0, i32 a), (1, i32 0), (4, bl false), (5, pt b1), (6, pt b2), (7, pt b3), (8, i64 2), (9, pt b55), (11, pt b57), (32, .tuple #[.agg #[i32 0, i32 a, i32 0, i32 (IntKind.i32.wrap (a * 0)), i32 0, i32 0, i32 0, i32 0, i32 0, i32 0, i32 0, i32 0, i32 0, i32 0, i32 0, i32 0, i64 4], i64 0, .agg #[i64 0, i64 0, i64 0, i64 0, i64 0, i64 0, i64 0]])])
                    refine ckT (l := [7, 8, 9, 10]) (e' := [(0, i32 a), (1, i32 0), (4, bl false), (5, pt b1), (6, pt b2), (7, pt b3), (8, i64 2), (9, pt b55), (11, pt b57), (33, .agg #[i32 0, i32 a, i32 0, i32 (IntKind.i32.wrap (a * 0)), i32 0, i32 0, i32 0, i32 0, i32 0, i32 0, i32 0, i32 0, i32 0, i32 0, i32 0, i32 0, i64 4]), (34, i64 0), (35, .agg #[i64 0, i64 0, i64 0, i64 0, i64 0, i64 0, i64 0])]) hA [] c0 ?_
                    clear hA fr; intro fr hA
                    refine tree_mem ?_ ?_
                    ·
                      refine (mS (off := 0) (vc := [i32 0, i32 a, i32 0, i32 (IntKind.i32.wrap (a * 0)), i32 0, i32 0, i32 0, i32 0, i32 0, i32 0, i32 0, i32 0, i32 0, i32 0, i32 0, i32 0, i64 4]) 1 hA hO ?_)
                      clear hO; intro w150 hO
                      refine ⟨(hO.sub [3, 4, 5]), ?_⟩
                      replace hA := hA.sb (e' := [(0, i32 a), (1, i32 0), (4, bl false), (5, pt b1), (6, pt b2), (7, pt b3), (8, i64 2), (9, pt b55), (11, pt b57), (34, i64 0), (35, .agg #[i64 0, i64 0, i64 0, i64 0, i64 0, i64 0, i64 0])])
                      refine ckT (l := [14]) (e' := [(0, i32 a), (1, i32 0), (4, bl false), (5, pt b1), (6, pt b2), (7, pt b3), (8, i64 2), (9, pt b55), (11, pt b57), (35, .agg #[i64 0, i64 0, i64 0, i64 0, i64 0, i64 0, i64 0])]) hA [] c0 ?_
                      clear hA fr; intro fr hA
                      refine tree_mem ?_ ?_
                      ·
                        refine (mS (off := 0) (vc := [i64 0, i64 0, i64 0, i64 0, i64 0, i64 0, i64 0]) 0 hA hO ?_)
                        clear hO; intro w151 hO
                        refine ⟨(hO.sub [3, 4, 5]), ?_⟩
                        replace hA := hA.sb (e' := [(0, i32 a), (1, i32 0), (4, bl false), (5, pt b1), (6, pt b2), (7, pt b3), (8, i64 2), (9, pt b55), (11, pt b57)])
                        refine tree_fin ?_
                        refine then_normal ?_
                        exact ⟨b55, b57, hA.sb, (hO.sub [0, 1, 3, 4, 5]), trivial⟩
                      ·
                        exact trivial
                    ·
                      exact trivial
                  ·
                    exact trivial
                ·
                  exact trivial
            ·
              refine tree_mem ?_ ?_
              ·
                refine (mN (l := [i64 0, i64 0, i64 0, i64 0, i64 0, i64 0, i64 0]) (t := 43) (v := pt) (d := 11) hA hO ?_)
                clear hA hO fr; intro fr w152 b58 hA hO
                refine ⟨(hO.sub [2, 3, 4]), ?_⟩
                refine tree_mem ?_ ?_
                ·
                  refine (mK (f := 18) (args := [.agg (List.toArray (regsL (rgs [0, a, 0]) 0)), .slice (some ⟨b50, 0, none⟩) 4 4, i64 0]) (d := (some 32)) (v := .tuple #[.agg #[i32 0, i32 a, i32 0, i32 (IntKind.i32.wrap (a * 0)), i32 0, i32 0, i32 0, i32 0, i32 0, i32 0, i32 0, i32 0, i32 0, i32 0, i32 0, i32 0, i64 4], i64 0, .agg #[i64 0, i64 0, i64 0, i64 0, i64 0, i64 0, i64 0]]) hA hO Tryd.func18 (rs (exec_any (rgs [0, a, 0]) 0 0 _ [6, 3, 1, 2] _ (hT.keep hO.only (fun h => h)) (rgs2_ok' ha hb) (by decide) (by decide) ((hO.b 1).sl (xs := [6, 3, 1, 2]) (U8s.cons (inK_u8 (by decide) (by decide)) (U8s.cons (inK_u8 (by decide) (by decide)) (U8s.cons (inK_u8 (by decide) (by decide)) (U8s.cons (inK_u8 (by decide) (by decide)) U8s.nil)))) rfl (by kernel_rfl)))) ?_)
                  clear hA hO fr; intro fr w153 hA hO
                  refine ⟨(hO.sub [2, 3, 4]), ?_⟩
                  replace hA := hA.sb (e' := [(0, i32 a), (1, i32 0), (4, bl false), (5, pt b1), (6, pt b2), (7, pt b3), (8, i64 2), (11, pt b58), (32, .tuple #[.agg #[i32 0, i32 a, i32 0, i32 (IntKind.i32.wrap (a * 0)), i32 0, i32 0, i32 0, i32 0, i32 0, i32 0, i32 0, i32 0, i32 0, i32 0, i32 0, i32 0, i64 4], i64 0, .agg #[i64 0, i64 0, i64 0, i64 0, i64 0, i64 0, i64 0]])])
                  refine ckT (l := [7, 8, 9, 10]) (e' := [(0, i32 a), (1, i32 0), (4, bl false), (5, pt b1), (6, pt b2), (7, pt b3), (8, i64 2), (11, pt b58), (33, .agg #[i32 0, i32 a, i32 0, i32 (IntKind.i32.wrap (a * 0)), i32 0, i32 0, i32 0, i32 0, i32 0, i32 0, i32 0, i32 0, i32 0, i32 0, i32 0, i32 0, i64 4]), (34, i64 0), (35, .agg #[i64 0, i64 0, i64 0, i64 0, i64 0, i64 0, i64 0])]) hA [] c0 ?_
                  clear hA fr; intro fr hA
                  refine tree_mem ?_ ?_
                  ·
                    refine (mN (l := [i32 0, i32 0, i32 0, i32 0, i32 0, i32 0, i32 0, i32 0, i32 0, i32 0, i32 0, i32 0, i32 0, i32 0, i32 0, i32 0, i64 0]) (t := 40) (v := pt) (d := 9) hA hO ?_)
                    clear hA hO fr; intro fr w154 b59 hA hO
                    refine ⟨(hO.sub [3, 4, 5]), ?_⟩
                    refine tree_mem ?_ ?_
                    ·
                      refine (mS (off := 0) (vc := [i32 0, i32 a, i32 0, i32 (IntKind.i32.wrap (a * 0)), i32 0, i32 0, i32 0, i32 0, i32 0, i32 0, i32 0, i32 0, i32 0, i32 0, i32 0, i32 0, i64 4]) 0 hA hO ?_)
                      clear hO; intro w155 hO
                      refine ⟨(hO.sub [3, 4, 5]), ?_⟩
                      replace hA := hA.sb (e' := [(0, i32 a), (1, i32 0), (4, bl false), (5, pt b1), (6, pt b2), (7, pt b3), (8, i64 2), (9, pt b59), (11, pt b58), (34, i64 0), (35, .agg #[i64 0, i64 0, i64 0, i64 0, i64 0, i64 0, i64 0])])
                      refine ckT (l := [14]) (e' := [(0, i32 a), (1, i32 0), (4, bl false), (5, pt b1), (6, pt b2), (7, pt b3), (8, i64 2), (9, pt b59), (11, pt b58), (35, .agg #[i64 0, i64 0, i64 0, i64 0, i64 0, i64 0, i64 0])]) hA [] c0 ?_
                      clear hA fr; intro fr hA
                      refine tree_mem ?_ ?_
                      ·
                        refine (mS (off := 0) (vc := [i64 0, i64 0, i64 0, i64 0, i64 0, i64 0, i64 0]) 1 hA hO ?_)
                        clear hO; intro w156 hO
                        refine ⟨(hO.sub [3, 4, 5]), ?_⟩
                        replace hA := hA.sb (e' := [(0, i32 a), (1, i32 0), (4, bl false), (5, pt b1), (6, pt b2), (7, pt b3), (8, i64 2), (9, pt b59), (11, pt b58)])
                        refine tree_fin ?_
                        refine then_normal ?_
                        exact ⟨b59, b58, hA.sb, (hO.sub [1, 0, 3, 4, 5]), trivial⟩
                      ·
                        exact trivial
                    ·
                      exact trivial
                  ·
                    exact trivial
                ·
                  refine tree_mem ?_ ?_
                  ·
                    refine (mN (l := [i32 0, i32 0, i32 0, i32 0, i32 0, i32 0, i32 0, i32 0, i32 0, i32 0, i32 0, i32 0, i32 0, i32 0, i32 0, i32 0, i64 0]) (t := 40) (v := pt) (d := 9) hA hO ?_)
                    clear hA hO fr; intro fr w157 b60 hA hO
                    refine ⟨(hO.sub [3, 4, 5]), ?_⟩
                    refine tree_mem ?_ ?_
                    ·
                      refine (mK (f := 18) (args := [.agg (List.toArray (regsL (rgs [0, a, 0]) 0)), .slice (some ⟨b50, 0, none⟩) 4 4, i64 0]) (d := (some 32)) (v := .tuple #[.agg #[i32 0, i32 a, i32 0, i32 (IntKind.i32.wrap (a * 0)), i32 0, i32 0, i32 0, i32 0, i32 0, i32 0, i32 0, i32 0, i32 0, i32 0, i32 0, i32 0, i64 4], i64 0, .agg #[i64 0, i64 0, i64 0, i64 0, i64 0, i64 0, i64 0]]) hA hO Tryd.func18 (rs (exec_any (rgs [0, a, 0]) 0 0 _ [6, 3, 1, 2] _ (hT.keep hO.only (fun h => h)) (rgs2_ok' ha hb) (by decide) (by decide) ((hO.b 2).sl (xs := [6, 3, 1, 2]) (U8s.cons (inK_u8 (by decide) (by decide)) (U8s.cons (inK_u8 (by decide) (by decide)) (U8s.cons (inK_u8 (by decide) (by decide)) (U8s.cons (inK_u8 (by decide) (by decide)) U8s.nil)))) rfl (by kernel_rfl)))) ?_)
                      clear hA hO fr; intro fr w158 hA hO
                      refine ⟨(hO.sub [3, 4, 5]), ?_⟩
                      replace hA := hA.sb (e' := [(0, i32 a), (1, i32 0), (4, bl false), (5, pt b1), (6, pt b2), (7, pt b3), (8, i64 2), (9, pt b60), (11, pt b58), (32, .tuple #[.agg #[i32 0, i32 a, i32 0, i32 (IntKind.i32.wrap (a * 0)), i32 0, i32 0, i32 0, i32 0, i32 0, i32 0, i32 0, i32 0, i32 0, i32 0, i32 0, i32 0, i64 4], i64 0, .agg #[i64 0, i64 0, i64 0, i64 0, i64 0, i64 0, i64 0]])])
                      refine ckT (l := [7, 8, 9, 10]) (e' := [(0, i32 a), (1, i32 0), (4, bl false), (5, pt b1), (6, pt b2), (7, pt b3), (8, i64 2), (9, pt b60), (11, pt b58), (33, .agg #[i32 0, i32 a, i32 0, i32 (IntKind.i32.wrap (a * 0)), i32 0, i32 0, i32 0, i32 0, i32 0, i32 0, i32 0, i32 0, i32 0, i32 0, i32 0, i32 0, i64 4]), (34, i64 0), (35, .agg #[i64 0, i64 0, i64 0, i64 0, i64 0, i64 0, i64 0])]) hA [] c0 ?_
                      clear hA fr; intro fr hA
                      refine tree_mem ?_ ?_
                      ·
                        refine (mS (off := 0) (vc := [i32 0, i32 a, i32 0, i32 (IntKind.i32.wrap (a * 0)), i32 0, i32 0, i32 0, i32 0, i32 0, i32 0, i32 0, i32 0, i32 0, i32 0, i32 0, i32 0, i64 4]) 0 hA hO ?_)
                        clear hO; intro w159 hO
                        refine ⟨(hO.sub [3, 4, 5]), ?_⟩
                        replace hA := hA.sb (e' := [(0, i32 a), (1, i32 0), (4, bl false), (5, pt b1), (6, pt b2), (7, pt b3), (8, i64 2), (9, pt b60), (11, pt b58), (34, i64 0), (35, .agg #[i64 0, i64 0, i64 0, i64 0, i64 0, i64 0, i64 0])])
                        refine ckT (l := [14]) (e' := [(0, i32 a), (1, i32 0), (4, bl false), (5, pt b1), (6, pt b2), (7, pt b3), (8, i64 2), (9, pt b60), (11, pt b58), (35, .agg #[i64 0, i64 0, i64 0, i64 0, i64 0, i64 0, i64 0])]) hA [] c0 ?_
                        clear hA fr; intro fr hA
                        refine tree_mem ?_ ?_
                        ·
                          refine (mS (off := 0) (vc := [i64 0, i64 0, i64 0, i64 0, i64 0, i64 0, i64 0]) 1 hA hO ?_)
                          clear hO; intro w160 hO
                          refine ⟨(hO.sub [3, 4, 5]), ?_⟩
                          replace hA := hA.sb (e' := [(0, i32 a), (1, i32 0), (4, bl false), (5, pt b1), (6, pt b2), (7, pt b3), (8, i64 2), (9, pt b60), (11, pt b58)])
                          refine tree_fin ?_
                          refine then_normal ?_
                          exact ⟨b60, b58, hA.sb, (hO.sub [1, 0, 3, 4, 5]), trivial⟩
                        ·
                          exact trivial
                      ·
                        exact trivial
                    ·
                      exact trivial
                  ·
                    exact trivial
              ·
                exact trivial
        ·
          refine tree_mem ?_ ?_
          ·
            refine (mN (l := [i32 0, i32 0, i32 0, i32 0, i32 0, i32 0, i32 0, i32 0, i32 0, i32 0, i32 0, i32 0, i32 0, i32 0, i32 0, i32 0, i64 0]) (t := 40) (v := pt) (d := 9) hA hO ?_)
            clear hA hO fr; intro fr w161 b61 hA hO
            refine ⟨(hO.sub [1, 2, 3]), ?_⟩
            refine tree_mem ?_ ?_
            ·
              refine (mN (l := [u8 6, u8 3, u8 1, u8 2]) (t := 5) (v := fun b => .slice (some ⟨b, 0, none⟩) 4 4) (d := 31) hA hO ?_)
              clear hA hO fr; intro fr w162 b62 hA hO
              refine ⟨(hO.sub [2, 3, 4]), ?_⟩
              replace hA := hA.sb (e' := [(0, i32 a), (1, i32 0), (4, bl false), (5, pt b1), (6, pt b2), (7, pt b3), (8, i64 2), (9, pt b61), (26, .agg #[i32 0, i32 a, i32 0, i32 0, i32 0, i32 0, i32 0, i32 0, i32 0, i32 0, i32 0, i32 0, i32 0, i32 0, i32 0, i32 0, i64 0]), (31, .slice (some ⟨b62, 0, none⟩) 4 4)])
              refine tree_mem ?_ ?_
              ·
                refine (mK (f := 18) (args := [.agg (List.toArray (regsL (rgs [0, a, 0]) 0)), .slice (some ⟨b62, 0, none⟩) 4 4, i64 0]) (d := (some 32)) (v := .tuple #[.agg #[i32 0, i32 a, i32 0, i32 (IntKind.i32.wrap (a * 0)), i32 0, i32 0, i32 0, i32 0, i32 0, i32 0, i32 0, i32 0, i32 0, i32 0, i32 0, i32 0, i64 4], i64 0, .agg #[i64 0, i64 0, i64 0, i64 0, i64 0, i64 0, i64 0]]) hA hO Tryd.func18 (rs (exec_any (rgs [0, a, 0]) 0 0 _ [6, 3, 1, 2] _ (hT.keep hO.only (fun h => h)) (rgs2_ok' ha hb) (by decide) (by decide) ((hO.b 0).sl (xs := [6, 3, 1, 2]) (U8s.cons (inK_u8 (by decide) (by decide)) (U8s.cons (inK_u8 (by decide) (by decide)) (U8s.cons (inK_u8 (by decide) (by decide)) (U8s.cons (inK_u8 (by decide) (by decide)) U8s.nil)))) rfl (by kernel_rfl)))) ?_)
                clear hA hO fr; intro fr w163 hA hO
                refine ⟨(hO.sub [2, 3, 4]), ?_⟩
                replace hA := hA.sb (e' := [(0, i32 a), (1, i32 0), (4, bl false), (5, pt b1), (6, pt b2), (7, pt b3), (8, i64 2), (9, pt b61), (32, .tuple #[.agg #[i32 0, i32 a, i32 0, i32 (IntKind.i32.wrap (a * 0)), i32 0, i32 0, i32 0, i32 0, i32 0, i32 0, i32 0, i32 0, i32 0, i32 0, i32 0, i32 0, i64 4], i64 0, .agg #[i64 0, i64 0, i64 0, i64 0, i64 0, i64 0, i64 0]])])
                refine ckT (l := [7, 8, 9, 10]) (e' := [(0, i32 a), (1, i32 0), (4, bl false), (5, pt b1), (6, pt b2), (7, pt b3), (8, i64 2), (9, pt b61), (33, .agg #[i32 0, i32 a, i32 0, i32 (IntKind.i32.wrap (a * 0)), i32 0, i32 0, i32 0, i32 0, i32 0, i32 0, i32 0, i32 0, i32 0, i32 0, i32 0, i32 0, i64 4]), (34, i64 0), (35, .agg #[i64 0, i64 0, i64 0, i64 0, i64 0, i64 0, i64 0])]) hA [] c0 ?_
                clear hA fr; intro fr hA
                refine tree_mem ?_ ?_
                ·
                  refine (mN (l := [i64 0, i64 0, i64 0, i64 0, i64 0, i64 0, i64 0]) (t := 43) (v := pt) (d := 11) hA hO ?_)
                  clear hA hO fr; intro fr w164 b63 hA hO
                  refine ⟨(hO.sub [3, 4, 5]), ?_⟩
                  refine tree_mem ?_ ?_
                  ·
                    refine (mS (off := 0) (vc := [i32 0, i32 a, i32 0, i32 (IntKind.i32.wrap (a * 0)), i32 0, i32 0, i32 0, i32 0, i32 0, i32 0, i32 0, i32 0, i32 0, i32 0, i32 0, i32 0, i64 4]) 2 hA hO ?_)
                    clear hO; intro w165 hO
                    refine ⟨(hO.sub [3, 4, 5]), ?_⟩
                    replace hA := hA.sb (e' := [(0, i32 a), (1, i32 0), (4, bl false), (5, pt b1), (6, pt b2), (7, pt b3), (8, i64 2), (9, pt b61), (11, pt b63), (34, i64 0), (35, .agg #[i64 0, i64 0, i64 0, i64 0, i64 0, i64 0, i64 0])])
                    refine ckT (l := [14]) (e' := [(0, i32 a), (1, i32 0), (4, bl false), (5, pt b1), (6, pt b2), (7, pt b3), (8, i64 2), (9, pt b61), (11, pt b63), (35, .agg #[i64 0, i64 0, i64 0, i64 0, i64 0, i64 0, i64 0])]) hA [] c0 ?_
                    clear hA fr; intro fr hA
                    refine tree_mem ?_ ?_
                    ·
                      refine (mS (off := 0) (vc := [i64 0, i64 0, i64 0, i64 0, i64 0, i64 0, i64 0]) 0 hA hO ?_)
                      clear hO; intro w166 hO
                      refine ⟨(hO.sub [3, 4, 5]), ?_⟩
                      replace hA := hA.sb (e' := [(0, i32 a), (1, i32 0), (4, bl false), (5, pt b1), (6, pt b2), (7, pt b3), (8, i64 2), (9, pt b61), (11, pt b63)])
                      refine tree_fin ?_
                      refine then_normal ?_
                      exact ⟨b61, b63, hA.sb, (hO.sub [0, 2, 3, 4, 5]), trivial⟩
                    ·
                      exact trivial
                  ·
                    exact trivial
                ·
                  exact trivial
              ·
                refine tree_mem ?_ ?_
                ·
                  refine (mN (l := [i64 0, i64 0, i64 0, i64 0, i64 0, i64 0, i64 0]) (t := 43) (v := pt) (d := 11) hA hO ?_)
                  clear hA hO fr; intro fr w167 b64 hA hO
                  refine ⟨(hO.sub [3, 4, 5]), ?_⟩
                  refine tree_mem ?_ ?_
                  ·
                    refine (mK (f := 18) (args := [.agg (List.toArray (regsL (rgs [0, a, 0]) 0)), .slice (some ⟨b62, 0, none⟩) 4 4, i64 0]) (d := (some 32)) (v := .tuple #[.agg #[i32 0, i32 a, i32 0, i32 (IntKind.i32.wrap (a * 0)), i32 0, i32 0, i32 0, i32 0, i32 0, i32 0, i32 0, i32 0, i32 0, i32 0, i32 0, i32 0, i64 4], i64 0, .agg #[i64 0, i64 0, i64 0, i64 0, i64 0, i64 0, i64 0]]) hA hO Tryd.func18 (rs (exec_any (rgs [0, a, 0]) 0 0 _ [6, 3, 1, 2] _ (hT.keep hO.only (fun h => h)) (rgs2_ok' ha hb) (by decide) (by decide) ((hO.b 1).sl (xs := [6, 3, 1, 2]) (U8s.cons (inK_u8 (by decide) (by decide)) (U8s.cons (inK_u8 (by decide) (by decide)) (U8s.cons (inK_u8 (by decide) (by decide)) (U8s.cons (inK_u8 (by decide) (by decide)) U8s.nil)))) rfl (by kernel_rfl)))) ?_)
                    clear hA hO fr; intro fr w168 hA hO
                    refine ⟨(hO.sub [3, 4, 5]), ?_⟩
                    replace hA := hA.sb (e' := [(0, i32 a), (1, i32 0), (4, bl false), (5, pt b1), (6, pt b2), (7, pt b3), (8, i64 2), (9, pt b61), (11, pt b64), (32, .tuple #[.agg #[i32 0, i32 a, i32 0, i32 (IntKind.i32.wrap (a * 0)), i32 0, i32 0, i32 0, i32 0, i32 0, i32 0, i32 0, i32 0, i32 0, i32 0, i32 0, i32 0, i64 4], i64 0, .agg #[i64 0, i64 0, i64 0, i64 0, i64 0, i64 0, i64 0]])])
                    refine ckT (l := [7, 8, 9, 10]) (e' := [(0, i32 a), (1, i32 0), (4, bl false), (5, pt b1), (6, pt b2), (7, pt b3), (8, i64 2), (9, pt b61), (11, pt b64), (33, .agg #[i32 0, i32 a, i32 0, i32 (IntKind.i32.wrap (a * 0)), i32 0, i32 0, i32 0, i32 0, i32 0, i32 0, i32 0, i32 0, i32 0, i32 0, i32 0, i32 0, i64 4]), (34, i64 0), (35, .agg #[i64 0, i64 0, i64 0, i64 0, i64 0, i64 0, i64 0])]) hA [] c0 ?_
                    clear hA fr; intro fr hA
                    refine tree_mem ?_ ?_
                    ·
                      refine (mS (off := 0) (vc := [i32 0, i32 a, i32 0, i32 (IntKind.i32.wrap (a * 0)), i32 0, i32 0, i32 0, i32 0, i32 0, i32 0, i32 0, i32 0, i32 0, i32 0, i32 0, i32 0, i64 4]) 2 hA hO ?_)
                      clear hO; intro w169 hO
                      refine ⟨(hO.sub [3, 4, 5]), ?_⟩
                      replace hA := hA.sb (e' := [(0, i32 a), (1, i32 0), (4, bl false), (5, pt b1), (6, pt b2), (7, pt b3), (8, i64 2), (9, pt b61), (11, pt b64), (34, i64 0), (35, .agg #[i64 0, i64 0, i64 0, i64 0, i64 0, i64 0, i64 0])])
                      refine ckT (l := [14]) (e' := [(0, i32 a), (1, i32 0), (4, bl false), (5, pt b1), (6, pt b2), (7, pt b3), (8, i64 2), (9, pt b61), (11, pt b64), (35, .agg #[i64 0, i64 0, i64 0, i64 0, i64 0, i64 0, i64 0])]) hA [] c0 ?_
                      clear hA fr; intro fr hA
                      refine tree_mem ?_ ?_
                      ·
                        refine (mS (off := 0) (vc := [i64 0, i64 0, i64 0, i64 0, i64 0, i64 0, i64 0]) 0 hA hO ?_)
                        clear hO; intro w170 hO
                        refine ⟨(hO.sub [3, 4, 5]), ?_⟩
                        replace hA := hA.sb (e' := [(0, i32 a), (1, i32 0), (4, bl false), (5, pt b1), (6, pt b2), (7, pt b3), (8, i64 2), (9, pt b61), (11, pt b64)])
                        refine tree_fin ?_
                        refine then_normal ?_
                        exact ⟨b61, b64, hA.sb, (hO.sub [0, 2, 3, 4, 5]), trivial⟩
                      ·
                        exact trivial
                    ·
                      exact trivial
                  ·
                    exact trivial
                ·
                  exact trivial
            ·
              refine tree_mem ?_ ?_
              ·
                refine (mN (l := [i64 0, i64 0, i64 0, i64 0, i64 0, i64 0, i64 0]) (t := 43) (v := pt) (d := 11) hA hO ?_)
                clear hA hO fr; intro fr w171 b65 hA hO
                refine ⟨(hO.sub [2, 3, 4]), ?_⟩
                refine tree_mem ?_ ?_
                ·
                  refine (mN (l := [u8 6, u8 3, u8 1, u8 2]) (t := 5) (v := fun b => .slice (some ⟨b, 0, none⟩) 4 4) (d := 31) hA hO ?_)
                  clear hA hO fr; intro fr w172 b66 hA hO
                  refine ⟨(hO.sub [3, 4, 5]), ?_⟩
                  replace hA := hA.sb (e' := [(0, i32 a), (1, i32 0), (4, bl false), (5, pt b1), (6, pt b2), (7, pt b3), (8, i64 2), (9, pt b61), (11, pt b65), (26, .agg #[i32 0, i32 a, i32 0, i32 0, i32 0, i32 0, i32 0, i32 0, i32 0, i32 0, i32 0, i32 0, i32 0, i32 0, i32 0, i32 0, i64 0]), (31, .slice (some ⟨b66, 0, none⟩) 4 4)])
                  refine tree_mem ?_ ?_
                  ·
                    refine (mK (f := 18) (args := [.agg (List.toArray (regsL (rgs [0, a, 0]) 0)), .slice (some ⟨b66, 0, none⟩) 4 4, i64 0]) (d := (some 32)) (v := .tuple #[.agg #[i32 0, i32 a, i32 0, i32 (IntKind.i32.wrap (a * 0)), i32 0, i32 0, i32 0, i32 0, i32 0, i32 0, i32 0, i32 0, i32 0, i32 0, i32 0, i32 0, i64 4], i64 0, .agg #[i64 0, i64 0, i64 0, i64 0, i64 0, i64 0, i64 0]]) hA hO Tryd.func18 (rs (exec_any (rgs [0, a, 0]) 0 0 _ [6, 3, 1, 2] _ (hT.keep hO.only (fun h => h)) (rgs2_ok' ha hb) (by decide) (by decide) ((hO.b 0).sl (xs := [6, 3, 1, 2]) (U8s.cons (inK_u8 (by decide) (by decide)) (U8s.cons (inK_u8 (by decide) (by decide)) (U8s.cons (inK_u8 (by decide) (by decide)) (U8s.cons (inK_u8 (by decide) (by decide)) U8s.nil)))) rfl (by kernel_rfl)))) ?_)
                    clear hA hO fr; intro fr w173 hA hO
                    refine ⟨(hO.sub [3, 4, 5]), ?_⟩
                    replace hA := hA.sb (e' := [(0, i32 a), (1, i32 0), (4, bl false), (5, pt b1), (6, pt b2), (7, pt b3), (8, i64 2), (9, pt b61), (11, pt b65), (32, .tuple #[.agg #[i32 0, i32 a, i32 0, i32 (IntKind.i32.wrap (a * 0)), i32 0, i32 0, i32 0, i32 0, i32 0, i32 0, i32 0, i32 0, i32 0, i32 0, i32 0, i32 0, i64 4], i64 0, .agg #[i64 0, i64 0, i64 0, i64 0, i64 0, i64 0, i64 0]])])
                    refine ckT (l := [7, 8, 9, 10]) (e' := [(0, i32 a), (1, i32 0), (4, bl false), (5, pt b1), (6, pt b2), (7, pt b3), (8, i64 2), (9, pt b61), (11, pt b65), (33, .agg #[i32 0, i32 a, i32 0, i32 (IntKind.i32.wrap (a * 0)), i32 0, i32 0, i32 0, i32 0, i32 0, i32 0, i32 0, i32 0, i32 0, i32 0, i32 0, i32 0, i64 4]), (34, i64 0), (35, .agg #[i64 0, i64 0, i64 0, i64 0, i64 0, i64 0, i64 0])]) hA [] c0 ?_
                    clear hA fr; intro fr hA
                    refine tree_mem ?_ ?_
                    ·
                      refine (mS (off := 0) (vc := [i32 0, i32 a, i32 0, i32 (IntKind.i32.wrap (a * 0)), i32 0, i32 0, i32 0, i32 0, i32 0, i32 0, i32 0, i32 0, i32 0, i32 0, i32 0, i32 0, i64 4]) 2 hA hO ?_)
                      clear hO; intro w174 hO
                      refine ⟨(hO.sub [3, 4, 5]), ?_⟩
                      replace hA := hA.sb (e' := [(0, i32 a), (1, i32 0), (4, bl false), (5, pt b1), (6, pt b2), (7, pt b3), (8, i64 2), (9, pt b61), (11, pt b65), (34, i64 0), (35, .agg #[i64 0, i64 0, i64 0, i64 0, i64 0, i64 0, i64 0])])
                      refine ckT (l := [14]) (e' := [(0, i32 a), (1, i32 0), (4, bl false), (5, pt b1), (6, pt b2), (7, pt b3), (8, i64 2), (9, pt b61), (11, pt b65), (35, .agg #[i64 0, i64 0, i64 0, i64 0, i64 0, i64 0, i64 0])]) hA [] c0 ?_
                      clear hA fr; intro fr hA
                      refine tree_mem ?_ ?_
                      ·
                        refine (mS (off := 0) (vc := [i64 0, i64 0, i64 0, i64 0, i64 0, i64 0, i64 0]) 1 hA hO ?_)
                        clear hO; intro w175 hO
                        refine ⟨(hO.sub [3, 4, 5]), ?_⟩
                        replace hA := hA.sb (e' := [(0, i32 a), (1, i32 0), (4, bl false), (5, pt b1), (6, pt b2), (7, pt b3), (8, i64 2), (9, pt b61), (11, pt b65)])
                        refine tree_fin ?_
                        refine then_normal ?_
                        exact ⟨b61, b65, hA.sb, (hO.sub [1, 2, 3, 4, 5]), trivial⟩
                      ·
                        exact trivial
                    ·
                      exact trivial
                  ·
                    exact trivial
                ·
                  exact trivial
              ·
                exact trivial
          ·
            refine tree_mem ?_ ?_
            ·
              refine (mN (l := [i64 0, i64 0, i64 0, i64 0, i64 0, i64 0, i64 0]) (t := 43) (v := pt) (d := 11) hA hO ?_)
              clear hA hO fr; intro fr w176 b67 hA hO
              refine ⟨(hO.sub [1, 2, 3]), ?_⟩
              refine tree_mem ?_ ?_
              ·
                refine (mN (l := [u8 6, u8 3, u8 1, u8 2]) (t := 5) (v := fun b => .slice (some ⟨b, 0, none⟩) 4 4) (d := 31) hA hO ?_)
                clear hA hO fr; intro fr w177 b68 hA hO
                refine ⟨(hO.sub [2, 3, 4]), ?_⟩
                replace hA := hA.sb (e' := [(0, i32 a), (1, i32 0), (4, bl false), (5, pt b1), (6, pt b2), (7, pt b3), (8, i64 2), (11, pt b67), (26, .agg #[i32 0, i32 a, i32 0, i32 0, i32 0, i32 0, i32 0, i32 0, i32 0, i32 0, i32 0, i32 0, i32 0, i32 0, i32 0, i32 0, i64 0]), (31, .slice (some ⟨b68, 0, none⟩) 4 4)])
                refine tree_mem ?_ ?_
                ·
                  refine (mK (f := 18) (args := [.agg (List.toArray (regsL (rgs [0, a, 0]) 0)), .slice (some ⟨b68, 0, none⟩) 4 4, i64 0]) (d := (some 32)) (v := .tuple #[.agg #[i32 0, i32 a, i32 0, i32 (IntKind.i32.wrap (a * 0)), i32 0, i32 0, i32 0, i32 0, i32 0, i32 0, i32 0, i32 0, i32 0, i32 0, i32 0, i32 0, i64 4], i64 0, .agg #[i64 0, i64 0, i64 0, i64 0, i64 0, i64 0, i64 0]]) hA hO Tryd.func18 (rs (exec_any (rgs [0, a, 0]) 0 0 _ [6, 3, 1, 2] _ (hT.keep hO.only (fun h => h)) (rgs2_ok' ha hb) (by decide) (by decide) ((hO.b 0).sl (xs := [6, 3, 1, 2]) (U8s.cons (inK_u8 (by decide) (by decide)) (U8s.cons (inK_u8 (by decide) (by decide)) (U8s.cons (inK_u8 (by decide) (by decide)) (U8s.cons (inK_u8 (by decide) (by decide)) U8s.nil)))) rfl (by kernel_rfl)))) ?_)
                  clear hA hO fr; intro fr w178 hA hO
                  refine ⟨(hO.sub [2, 3, 4]), ?_⟩
                  replace hA := hA.sb (e' := [(0, i32 a), (1, i32 0), (4, bl false), (5, pt b1), (6, pt b2), (7, pt b3), (8, i64 2), (11, pt b67), (32, .tuple #[.agg #[i32 0, i32 a, i32 0, i32 (IntKind.i32.wrap (a * 0)), i32 0, i32 0, i32 0, i32 0, i32 0, i32 0, i32 0, i32 0, i32 0, i32 0, i32 0, i32 0, i64 4], i64 0, .agg #[i64 0, i64 0, i64 0, i64 0, i64 0, i64 0, i64 0]])])
                  refine ckT (l := [7, 8, 9, 10]) (e' := [(0, i32 a), (1, i32 0), (4, bl false), (5, pt b1), (6, pt b2), (7, pt b3), (8, i64 2), (11, pt b67), (33, .agg #[i32 0, i32 a, i32 0, i32 (IntKind.i32.wrap (a * 0)), i32 0, i32 0, i32 0, i32 0, i32 0, i32 0, i32 0, i32 0, i32 0, i32 0, i32 0, i32 0, i64 4]), (34, i64 0), (35, .agg #[i64 0, i64 0, i64 0, i64 0, i64 0, i64 0, i64 0])]) hA [] c0 ?_
                  clear hA fr; intro fr hA
                  refine tree_mem ?_ ?_
                  ·
                    refine (mN (l := [i32 0, i32 0, i32 0, i32 0, i32 0, i32 0, i32 0, i32 0, i32 0, i32 0, i32 0, i32 0, i32 0, i32 0, i32 0, i32 0, i64 0]) (t := 40) (v := pt) (d := 9) hA hO ?_)
                    clear hA hO fr; intro fr w179 b69 hA hO
                    refine ⟨(hO.sub [3, 4, 5]), ?_⟩
                    refine tree_mem ?_ ?_
                    ·
                      refine (mS (off := 0) (vc := [i32 0, i32 a, i32 0, i32 (IntKind.i32.wrap (a * 0)), i32 0, i32 0, i32 0, i32 0, i32 0, i32 0, i32 0, i32 0, i32 0, i32 0, i32 0, i32 0, i64 4]) 0 hA hO ?_)
                      clear hO; intro w180 hO
                      refine ⟨(hO.sub [3, 4, 5]), ?_⟩
                      replace hA := hA.sb (e' := [(0, i32 a), (1, i32 0), (4, bl false), (5, pt b1), (6, pt b2), (7, pt b3), (8, i64 2), (9, pt b69), (11, pt b67), (34, i64 0), (35, .agg #[i64 0, i64 0, i64 0, i64 0, i64 0, i64 0, i64 0])])
                      refine ckT (l := [14]) (e' := [(0, i32 a), (1, i32 0), (4, bl false), (5, pt b1), (6, pt b2), (7, pt b3), (8, i64 2), (9, pt b69), (11, pt b67), (35, .agg #[i64 0, i64 0, i64 0, i64 0, i64 0, i64 0, i64 0])]) hA [] c0 ?_
                      clear hA fr; intro fr hA
                      refine tree_mem ?_ ?_
                      ·
                        refine (mS (off := 0) (vc := [i64 0, i64 0, i64 0, i64 0, i64 0, i64 0, i64 0]) 2 hA hO ?_)
                        clear hO; intro w181 hO
                        refine ⟨(hO.sub [3, 4, 5]), ?_⟩
                        replace hA := hA.sb (e' := [(0, i32 a), (1, i32 0), (4, bl false), (5, pt b1), (6, pt b2), (7, pt b3), (8, i64 2), (9, pt b69), (11, pt b67)])
                        refine tree_fin ?_
                        refine then_normal ?_
                        exact ⟨b69, b67, hA.sb, (hO.sub [2, 0, 3, 4, 5]), trivial⟩
                      ·
                        exact trivial
                    ·
                      exact trivial
                  ·
                    exact trivial
                ·
                  refine tree_mem ?_ ?_
                  ·
                    refine (mN (l := [i32 0, i32 0, i32 0, i32 0, i32 0, i32 0, i32 0, i32 0, i32 0, i32 0, i32 0, i32 0, i32 0, i32 0, i32 0, i32 0, i64 0]) (t := 40) (v := pt) (d := 9) hA hO ?_)
                    clear hA hO fr; intro fr w182 b70 hA hO
                    refine ⟨(hO.sub [3, 4, 5]), ?_⟩
                    refine tree_mem ?_ ?_
                    ·
                      refine (mK (f := 18) (args := [.agg (List.toArray (regsL (rgs [0, a, 0]) 0)), .slice (some ⟨b68, 0, none⟩) 4 4, i64 0]) (d := (some 32)) (v := .tuple #[.agg #[i32 0, i32 a, i32 0, i32 (IntKind.i32.wrap (a * 0)), i32 0, i32 0, i32 0, i32 0, i32 0, i32 0, i32 0, i32 0, i32 0, i32 0, i32 0, i32 0, i64 4], i64 0, .agg #[i64 0, i64 0, i64 0, i64 0, i64 0, i64 0, i64 0]]) hA hO Tryd.func18 (rs (exec_any (rgs [0, a, 0]) 0 0 _ [6, 3, 1, 2] _ (hT.keep hO.only (fun h => h)) (rgs2_ok' ha hb) (by decide) (by decide) ((hO.b 1).sl (xs := [6, 3, 1, 2]) (U8s.cons (inK_u8 (by decide) (by decide)) (U8s.cons (inK_u8 (by decide) (by decide)) (U8s.cons (inK_u8 (by decide) (by decide)) (U8s.cons (inK_u8 (by decide) (by decide)) U8s.nil)))) rfl (by kernel_rfl)))) ?_)
                      clear hA hO fr; intro fr w183 hA hO
                      refine ⟨(hO.sub [3, 4, 5]), ?_⟩
                      replace hA := hA.sb (e' := [(0, i32 a), (1, i32 0), (4, bl false), (5, pt b1), (6, pt b2), (7, pt b3), (8, i64 2), (9, pt b70), (11, pt b67), (32, .tuple #[.agg #[i32 0, i32 a, i32 0, i32 (IntKind.i32.wrap (a * 0)), i32 0, i32 0, i32 0, i32 0, i32 0, i32 0, i32 0, i32 0, i32 0, i32 0, i32 0, i32 0, i64 4], i64 0, .agg #[i64 0, i64 0, i64 0, i64 0, i64 0, i64 0, i64 0]])])
                      refine ckT (l := [7, 8, 9, 10]) (e' := [(0, i32 a), (1, i32 0), (4, bl false), (5, pt b1), (6, pt b2), (7, pt b3), (8, i64 2), (9, pt b70), (11, pt b67), (33, .agg #[i32 0, i32 a, i32 0, i32 (IntKind.i32.wrap (a * 0)), i32 0, i32 0, i32 0, i32 0, i32 0, i32 0, i32 0, i32 0, i32 0, i32 0, i32 0, i32 0, i64 4]), (34, i64 0), (35, .agg #[i64 0, i64 0, i64 0, i64 0, i64 0, i64 0, i64 0])]) hA [] c0 ?_
                      clear hA fr; intro fr hA
                      refine tree_mem ?_ ?_
                      ·
                        refine (mS (off := 0) (vc := [i32 0, i32 a, i32 0, i32 (IntKind.i32.wrap (a * 0)), i32 0, i32 0, i32 0, i32 0, i32 0, i32 0, i32 0, i32 0, i32 0, i32 0, i32 0, i32 0, i64 4]) 0 hA hO ?_)
                        clear hO; intro w184 hO
                        refine ⟨(hO.sub [3, 4, 5]), ?_⟩
                        replace hA := hA.sb (e' := [(0, i32 a), (1, i32 0), (4, bl false), (5, pt b1), (6, pt b2), (7, pt b3), (8, i64 2), (9, pt b70), (11, pt b67), (34, i64 0), (35, .agg #[i64 0, i64 0, i64 0, i64 0, i64 0, i64 0, i64 0])])
                        refine ckT (l := [14]) (e' := [(0, i32 a), (1, i32 0), (4, bl false), (5, pt b1), (6, pt b2), (7, pt b3), (8, i64 2), (9, pt b70), (11, pt b67), (35, .agg #[i64 0, i64 0, i64 0, i64 0, i64 0, i64 0, i64 0])]) hA [] c0 ?_
                        clear hA fr; intro fr hA
                        refine tree_mem ?_ ?_
                        ·
                          refine (mS (off := 0) (vc := [i64 0, i64 0, i64 0, i64 0, i64 0, i64 0, i64 0]) 2 hA hO ?_)
                          clear hO; intro w185 hO
                          refine ⟨(hO.sub [3, 4, 5]), ?_⟩
                          replace hA := hA.sb (e' := [(0, i32 a), (1, i32 0), (4, bl false), (5, pt b1), (6, pt b2), (7, pt b3), (8, i64 2), (9, pt b70), (11, pt b67)])
                          refine tree_fin ?_
                          refine then_normal ?_
                          exact ⟨b70, b67, hA.sb, (hO.sub [2, 0, 3, 4, 5]), trivial⟩
                        ·
                          exact trivial
                      ·
                        exact trivial
                    ·
                      exact trivial
                  ·
                    exact trivial
              ·
                refine tree_mem ?_ ?_
                ·
                  refine (mN (l := [i32 0, i32 0, i32 0, i32 0, i32 0, i32 0, i32 0, i32 0, i32 0, i32 0, i32 0, i32 0, i32 0, i32 0, i32 0, i32 0, i64 0]) (t := 40) (v := pt) (d := 9) hA hO ?_)
                  clear hA hO fr; intro fr w186 b71 hA hO
                  refine ⟨(hO.sub [2, 3, 4]), ?_⟩
                  refine tree_mem ?_ ?_
                  ·
                    refine (mN (l := [u8 6, u8 3, u8 1, u8 2]) (t := 5) (v := fun b => .slice (some ⟨b, 0, none⟩) 4 4) (d := 31) hA hO ?_)
                    clear hA hO fr; intro fr w187 b72 hA hO
                    refine ⟨(hO.sub [3, 4, 5]), ?_⟩
                    replace hA := hA.sb (e' := [(0, i32 a), (1, i32 0), (4, bl false), (5, pt b1), (6, pt b2), (7, pt b3), (8, i64 2), (9, pt b71), (11, pt b67), (26, .agg #[i32 0, i32 a, i32 0, i32 0, i32 0, i32 0, i32 0, i32 0, i32 0, i32 0, i32 0, i32 0, i32 0, i32 0, i32 0, i32 0, i64 0]), (31, .slice (some ⟨b72, 0, none⟩) 4 4)])
                    refine tree_mem ?_ ?_
                    ·
                      refine (mK (f := 18) (args := [.agg (List.toArray (regsL (rgs [0, a, 0]) 0)), .slice (some ⟨b72, 0, none⟩) 4 4, i64 0]) (d := (some 32)) (v := .tuple #[.agg #[i32 0, i32 a, i32 0, i32 (IntKind.i32.wrap (a * 0)), i32 0, i32 0, i32 0, i32 0, i32 0, i32 0, i32 0, i32 0, i32 0, i32 0, i32 0, i32 0, i64 4], i64 0, .agg #[i64 0, i64 0, i64 0, i64 0, i64 0, i64 0, i64 0]]) hA hO Tryd.func18 (rs (exec_any (rgs [0, a, 0]) 0 0 _ [6, 3, 1, 2] _ (hT.keep hO.only (fun h => h)) (rgs2_ok' ha hb) (by decide) (by decide) ((hO.b 0).sl (xs := [6, 3, 1, 2]) (U8s.cons (inK_u8 (by decide) (by decide)) (U8s.cons (inK_u8 (by decide) (by decide)) (U8s.cons (inK_u8 (by decide) (by decide)) (U8s.cons (inK_u8 (by decide) (by decide)) U8s.nil)))) rfl (by kernel_rfl)))) ?_)
                      clear hA hO fr; intro fr w188 hA hO
                      refine ⟨(hO.sub [3, 4, 5]), ?_⟩
                      replace hA := hA.sb (e' := [(0, i32 a), (1, i32 0), (4, bl false), (5, pt b1), (6, pt b2), (7, pt b3), (8, i64 2), (9, pt b71), (11, pt b67), (32, .tuple #[.agg #[i32 0, i32 a, i32 0, i32 (IntKind.i32.wrap (a * 0)), i32 0, i32 0, i32 0, i32 0, i32 0, i32 0, i32 0, i32 0, i32 0, i32 0, i32 0, i32 0, i64 4], i64 0, .agg #[i64 0, i64 0, i64 0, i64 0, i64 0, i64 0, i64 0]])])
                      refine ckT (l := [7, 8, 9, 10]) (e' := [(0, i32 a), (1, i32 0), (4, bl false), (5, pt b1), (6, pt b2), (7, pt b3), (8, i64 2), (9, pt b71), (11, pt b67), (33, .agg #[i32 0, i32 a, i32 0, i32 (IntKind.i32.wrap (a * 0)), i32 0, i32 0, i32 0, i32 0, i32 0, i32 0, i32 0, i32 0, i32 0, i32 0, i32 0, i32 0, i64 4]), (34, i64 0), (35, .agg #[i64 0, i64 0, i64 0, i64 0, i64 0, i64 0, i64 0])]) hA [] c0 ?_
                      clear hA fr; intro fr hA
                      refine tree_mem ?_ ?_
                      ·
                        refine (mS (off := 0) (vc := [i32 0, i32 a, i32 0, i32 (IntKind.i32.wrap (a * 0)), i32 0, i32 0, i32 0, i32 0, i32 0, i32 0, i32 0, i32 0, i32 0, i32 0, i32 0, i32 0, i64 4]) 1 hA hO ?_)
                        clear hO; intro w189 hO
                        refine ⟨(hO.sub [3, 4, 5]), ?_⟩
                        replace hA := hA.sb (e' := [(0, i32 a), (1, i32 0), (4, bl false), (5, pt b1), (6, pt b2), (7, pt b3), (8, i64 2), (9, pt b71), (11, pt b67), (34, i64 0), (35, .agg #[i64 0, i64 0, i64 0, i64 0, i64 0, i64 0, i64 0])])
                        refine ckT (l := [14]) (e' := [(0, i32 a), (1, i32 0), (4, bl false), (5, pt b1), (6, pt b2), (7, pt b3), (8, i64 2), (9, pt b71), (11, pt b67), (35, .agg #[i64 0, i64 0, i64 0, i64 0, i64 0, i64 0, i64 0])]) hA [] c0 ?_
                        clear hA fr; intro fr hA
                        refine tree_mem ?_ ?_
                        ·
                          refine (mS (off := 0) (vc := [i64 0, i64 0, i64 0, i64 0, i64 0, i64 0, i64 0]) 2 hA hO ?_)
                          clear hO; intro w190 hO
                          refine ⟨(hO.sub [3, 4, 5]), ?_⟩
                          replace hA := hA.sb (e' := [(0, i32 a), (1, i32 0), (4, bl false), (5, pt b1), (6, pt b2), (7, pt b3), (8, i64 2), (9, pt b71), (11, pt b67)])
                          refine tree_fin ?_
                          refine then_normal ?_
                          exact ⟨b71, b67, hA.sb, (hO.sub [2, 1, 3, 4, 5]), trivial⟩
                        ·
                          exact trivial
                      ·
                        exact trivial
                    ·
                      exact trivial
                  ·
                    exact trivial
                ·
                  exact trivial
            ·
              exact trivial
    ·
      refine wp_seq ?_
      refine sC (e' := [(0, i32 a), (1, i32 0), (4, bl false), (5, pt b1), (6, pt b2), (7, pt b3), (8, i64 3), (22, bl true)]) 2 hA [] c0 ?_
      clear hA fr; intro fr hA
      refine cT hA ?_
      refine wp_skip ?_
      refine then_normal ?_
      refine wp_seq ?_
      refine wp_block ?_
      refine sJ (fun fr W => ∃ (j7 : Nat) (j8 : Nat), Holds 132 [] fr [(0, i32 a), (1, i32 0), (4, bl false), (5, pt b1), (6, pt b2), (7, pt b3), (8, i64 3), (9, pt j7), (11, pt j8)] ∧ Ow Tryd.prog none' w W [(j8, 43, [i64 2, i64 2, i64 0, i64 0, i64 0, i64 0, i64 0]), (j7, 40, [i32 0, i32 a, i32 0, i32 0, i32 0, i32 0, i32 0, i32 0, i32 0, i32 0, i32 0, i32 0, i32 0, i32 0, i32 0, i32 0, i64 0]), (b3, 47, [i64 (IntKind.i32.wrap (a + 0)), i64 (IntKind.i32.wrap (a - 0)), i64 (IntKind.i32.wrap (a * 0)), i64 0, i64 0]), (b2, 47, [i64 4, i64 5, i64 6, i64 7, i64 8]), (b1, 40, [i32 0, i32 a, i32 0, i32 0, i32 0, i32 0, i32 0, i32 0, i32 0, i32 0, i32 0, i32 0, i32 0, i32 0, i32 0, i32 0, i64 0])] ∧ True) ?_ ?_
      · rintro fr w191 ⟨j7, j8, hA, hO, -⟩
        refine wp_seq ?_
        refine sC (e' := [(0, i32 a), (1, i32 0), (4, bl false), (5, pt b1), (6, pt b2), (7, pt b3), (8, i64 3), (9, pt j7), (11, pt j8), (43, bl true)]) 8 hA [i64 7] (cc (⟨by omega, by omega⟩ : (0 : Int) ≤ 3 ∧ 3 < ((5 : Nat) : Int)) (cc (hO.l1 3 3 3 (i64 7)) c0)) ?_
        clear hA fr; intro fr hA
        refine cT hA ?_
        refine wp_seq ?_
        refine sC (e' := [(0, i32 a), (1, i32 0), (4, bl false), (5, pt b1), (6, pt b2), (7, pt b3), (8, i64 3), (9, pt j7), (11, pt j8), (51, bl false)]) 8 hA [.agg #[i64 2, i64 2, i64 0, i64 0, i64 0, i64 0, i64 0], bl true, .agg #[i32 0, i32 a, i32 0, i32 0, i32 0, i32 0, i32 0, i32 0, i32 0, i32 0, i32 0, i32 0, i32 0, i32 0, i32 0, i32 0, i64 0], .agg #[i32 0, i32 a, i32 0, i32 0, i32 0, i32 0, i32 0, i32 0, i32 0, i32 0, i32 0, i32 0, i32 0, i32 0, i32 0, i32 0, i64 0], bl true] (cc (hO.ln 0 0 43 [i64 2, i64 2, i64 0, i64 0, i64 0, i64 0, i64 0]) (cc ((eqG_of (by kernel_rfl) (by kernel_rfl)) : EqG Tryd.prog 43 (.agg #[i64 2, i64 2, i64 0, i64 0, i64 0, i64 0, i64 0]) (.agg #[i64 2, i64 2, i64 0, i64 0, i64 0, i64 0, i64 0]) true) (cc (hO.ln 1 0 40 [i32 0, i32 a, i32 0, i32 0, i32 0, i32 0, i32 0, i32 0, i32 0, i32 0, i32 0, i32 0, i32 0, i32 0, i32 0, i32 0, i64 0]) (cc (hO.ln 4 0 40 [i32 0, i32 a, i32 0, i32 0, i32 0, i32 0, i32 0, i32 0, i32 0, i32 0, i32 0, i32 0, i32 0, i32 0, i32 0, i32 0, i64 0]) (cc ((eqG_of (b := ((0 == 0) && ((a == a) && ((0 == 0) && ((0 == 0) && ((0 == 0) && ((0 == 0) && ((0 == 0) && ((0 == 0) && ((0 == 0) && ((0 == 0) && ((0 == 0) && ((0 == 0) && ((0 == 0) && ((0 == 0) && ((0 == 0) && ((0 == 0) && true)))))))))))))))) && ((0 == 0) && true)) (by kernel_rfl) (by kernel_rfl)).cast (by simp) : EqG Tryd.prog 40 (.agg #[i32 0, i32 a, i32 0, i32 0, i32 0, i32 0, i32 0, i32 0, i32 0, i32 0, i32 0, i32 0, i32 0, i32 0, i32 0, i32 0, i64 0]) (.agg #[i32 0, i32 a, i32 0, i32 0, i32 0, i32 0, i32 0, i32 0, i32 0, i32 0, i32 0, i32 0, i32 0, i32 0, i32 0, i32 0, i64 0]) true) c0))))) ?_
        clear hA fr; intro fr hA
        refine cF hA ?_
        refine wp_skip ?_
        refine then_normal ?_
        refine wp_exit ?_
        refine then_exit ?_
        refine inBlock_exit ?_
        refine then_normal ?_
        refine rC (e' := [(0, i32 a), (1, i32 0), (4, bl false), (5, pt b1), (6, pt b2), (7, pt b3), (8, i64 4)]) 3 hA [bl false] c0 ?_
        clear hA fr; intro fr hA
        refine then_normal ?_
        exact ⟨1, by decide, (.inr (.inr (.inr (.inr (.inl ⟨rfl, hA.sb, (hO.sub [2, 3, 4])⟩)))))⟩
      ·
        have hS := hO
        refine rT (.q 0 (.q 1 (.q 2 (.q 3 (.q 4 (.m 5 (.m 6 (.q 7 (.q 8 (.q 9 (.q 10 (.m 11 (.m 12 (.m 13 (.q 14 (.m 15 .fin .non)) .non) .non) (.m 12 (.m 11 (.m 13 (.q 14 (.m 15 .fin .non)) .non) .non) .non)))))) (.m 11 (.m 6 (.q 7 (.q 8 (.q 9 (.q 10 (.m 12 (.m 13 (.q 14 (.m 15 .fin .non)) .non) .non))))) (.m 12 (.m 6 (.q 7 (.q 8 (.q 9 (.q 10 (.m 13 (.q 14 (.m 15 .fin .non)) .non))))) .non) .non)) (.m 12 (.m 6 (.q 7 (.q 8 (.q 9 (.q 10 (.m 11 (.m 13 (.q 14 (.m 15 .fin .non)) .non) .non))))) (.m 11 (.m 6 (.q 7 (.q 8 (.q 9 (.q 10 (.m 13 (.q 14 (.m 15 .fin .non)) .non))))) .non) .non)) .non))) (.m 11 (.m 5 (.m 6 (.q 7 (.q 8 (.q 9 (.q 10 (.m 12 (.m 13 (.q 14 (.m 15 .fin .non)) .non) .non))))) (.m 12 (.m 6 (.q 7 (.q 8 (.q 9 (.q 10 (.m 13 (.q 14 (.m 15 .fin .non)) .non))))) .non) .non)) (.m 12 (.m 5 (.m 6 (.q 7 (.q 8 (.q 9 (.q 10 (.m 13 (.q 14 (.m 15 .fin .non)) .non))))) .non) .non) .non)) (.m 12 (.m 5 (.m 6 (.q 7 (.q 8 (.q 9 (.q 10 (.m 11 (.m 13 (.q 14 (.m 15 .fin .non)) .non) .non))))) (.m 11 (.m 6 (.q 7 (.q 8 (.q 9 (.q 10 (.m 13 (.q 14 (.m 15 .fin .non)) .non))))) .non) .non)) (.m 11 (.m 5 (.m 6 (.q 7 (.q 8 (.q 9 (.q 10 (.m 13 (.q 14 (.m 15 .fin .non)) .non))))) .non) .non) .non)) .non)))))))) hS ?_
        intro w192 ho; replace hO := hO.st ho; clear ho
        refine ckT (l := [0, 1, 2, 3, 4]) (e' := [(0, i32 a), (1, i32 0), (4, bl false), (5, pt b1), (6, pt b2), (7, pt b3), (8, i64 3), (26, .agg #[i32 0, i32 a, i32 0, i32 0, i32 0, i32 0, i32 0, i32 0, i32 0, i32 0, i32 0, i32 0, i32 0, i32 0, i32 0, i32 0, i64 0]), (30, u8 7)]) hA [.agg #[i32 0, i32 a, i32 0, i32 0, i32 0, i32 0, i32 0, i32 0, i32 0, i32 0, i32 0, i32 0, i32 0, i32 0, i32 0, i32 0, i64 0], i64 7, bl false] (cc (hS.sn 2 0 40 [i32 0, i32 a, i32 0, i32 0, i32 0, i32 0, i32 0, i32 0, i32 0, i32 0, i32 0, i32 0, i32 0, i32 0, i32 0, i32 0, i64 0]) (cc (⟨by omega, by omega⟩ : (0 : Int) ≤ 3 ∧ 3 < ((5 : Nat) : Int)) (cc (hS.s1 1 3 3 (i64 7)) c0))) ?_
        clear hA fr; intro fr hA
        refine tree_mem ?_ ?_
        ·
          refine (mN (l := [u8 7, u8 3, u8 1, u8 2]) (t := 5) (v := fun b => .slice (some ⟨b, 0, none⟩) 4 4) (d := 31) hA hO ?_)
          clear hA hO fr; intro fr w193 b73 hA hO
          refine ⟨(hO.sub [1, 2, 3]), ?_⟩
          replace hA := hA.sb (e' := [(0, i32 a), (1, i32 0), (4, bl false), (5, pt b1), (6, pt b2), (7, pt b3), (8, i64 3), (26, .agg #[i32 0, i32 a, i32 0, i32 0, i32 0, i32 0, i32 0, i32 0, i32 0, i32 0, i32 0, i32 0, i32 0, i32 0, i32 0, i32 0, i64 0]), (31, .slice (some ⟨b73, 0, none⟩) 4 4)])
          refine tree_mem ?_ ?_
          ·
            refine (mK (f := 18) (args := [.agg (List.toArray (regsL (rgs [0, a, 0]) 0)), .slice (some ⟨b73, 0, none⟩) 4 4, i64 0]) (d := (some 32)) (v := .tuple #[.agg #[i32 0, i32 a, i32 0, i32 0, i32 0, i32 0, i32 0, i32 0, i32 0, i32 0, i32 0, i32 0, i32 0, i32 0, i32 0, i32 0, i64 0], i64 0, .agg #[i64 2, i64 2, i64 0, i64 0, i64 0, i64 0, i64 0]]) hA hO Tryd.func18 (rs (exec_any (rgs [0, a, 0]) 0 0 _ [7, 3, 1, 2] _ (hT.keep hO.only (fun h => h)) (rgs2_ok' ha hb) (by decide) (by decide) ((hO.b 0).sl (xs := [7, 3, 1, 2]) (U8s.cons (inK_u8 (by decide) (by decide)) (U8s.cons (inK_u8 (by decide) (by decide)) (U8s.cons (inK_u8 (by decide) (by decide)) (U8s.cons (inK_u8 (by decide) (by decide)) U8s.nil)))) rfl (by kernel_rfl)))) ?_)
            clear hA hO fr; intro fr w194 hA hO
            refine ⟨(hO.sub [1, 2, 3]), ?_⟩
            replace hA := hA.sb (e' := [(0, i32 a), (1, i32 0), (4, bl false), (5, pt b1), (6, pt b2), (7, pt b3), (8, i64 3), (32, .tuple #[.agg #[i32 0, i32 a, i32 0, i32 0, i32 0, i32 0, i32 0, i32 0, i32 0, i32 0, i32 0, i32 0, i32 0, i32 0, i32 0, i32 0, i64 0], i64 0, .agg #[i64 2, i64 2, i64 0, i64 0, i64 0, i64 0, i64 0]])])
            refine ckT (l := [7, 8, 9, 10]) (e' := [(0, i32 a), (1, i32 0), (4, bl false), (5, pt b1), (6, pt b2), (7, pt b3), (8, i64 3), (33, .agg #[i32 0, i32 a, i32 0, i32 0, i32 0, i32 0, i32 0, i32 0, i32 0, i32 0, i32 0, i32 0, i32 0, i32 0, i32 0, i32 0, i64 0]), (34, i64 0), (35, .agg #[i64 2, i64 2, i64 0, i64 0, i64 0, i64 0, i64 0])]) hA [] c0 ?_
            clear hA fr; intro fr hA
            refine tree_mem ?_ ?_
            ·
              refine (mN (l := [i32 0, i32 0, i32 0, i32 0, i32 0, i32 0, i32 0, i32 0, i32 0, i32 0, i32 0, i32 0, i32 0, i32 0, i32 0, i32 0, i64 0]) (t := 40) (v := pt) (d := 9) hA hO ?_)
              clear hA hO fr; intro fr w195 b74 hA hO
              refine ⟨(hO.sub [2, 3, 4]), ?_⟩
              refine tree_mem ?_ ?_
              ·
                refine (mN (l := [i64 0, i64 0, i64 0, i64 0, i64 0, i64 0, i64 0]) (t := 43) (v := pt) (d := 11) hA hO ?_)
                clear hA hO fr; intro fr w196 b75 hA hO
                refine ⟨(hO.sub [3, 4, 5]), ?_⟩
                refine tree_mem ?_ ?_
                ·
                  refine (mS (off := 0) (vc := [i32 0, i32 a, i32 0, i32 0, i32 0, i32 0, i32 0, i32 0, i32 0, i32 0, i32 0, i32 0, i32 0, i32 0, i32 0, i32 0, i64 0]) 1 hA hO ?_)
                  clear hO; intro w197 hO
                  refine ⟨(hO.sub [3, 4, 5]), ?_⟩
                  replace hA := hA.sb (e' := [(0, i32 a), (1, i32 0), (4, bl false), (5, pt b1), (6, pt b2), (7, pt b3), (8, i64 3), (9, pt b74), (11, pt b75), (34, i64 0), (35, .agg #[i64 2, i64 2, i64 0, i64 0, i64 0, i64 0, i64 0])])
                  refine ckT (l := [14]) (e' := [(0, i32 a), (1, i32 0), (4, bl false), (5, pt b1), (6, pt b2), (7, pt b3), (8, i64 3), (9, pt b74), (11, pt b75), (35, .agg #[i64 2, i64 2, i64 0, i64 0, i64 0, i64 0, i64 0])]) hA [] c0 ?_
                  clear hA fr; intro fr hA
                  refine tree_mem ?_ ?_
                  ·
                    refine (mS (off := 0) (vc := [i64 2, i64 2, i64 0, i64 0, i64 0, i64 0, i64 0]) 0 hA hO ?_)
                    clear hO; intro w198 hO
                    refine ⟨(hO.sub [3, 4, 5]), ?_⟩
                    replace hA := hA.sb (e' := [(0, i32 a), (1, i32 0), (4, bl false), (5, pt b1), (6, pt b2), (7, pt b3), (8, i64 3), (9, pt b74), (11, pt b75)])
                    refine tree_fin ?_
                    refine then_normal ?_
                    exact ⟨b74, b75, hA.sb, (hO.sub [0, 1, 3, 4, 5]), trivial⟩
                  ·
                    exact trivial
                ·
                  exact trivial
              ·
                exact trivial
            ·
              refine tree_mem ?_ ?_
              ·
                refine (mN (l := [i64 0, i64 0, i64 0, i64 0, i64 0, i64 0, i64 0]) (t := 43) (v := pt) (d := 11) hA hO ?_)
                clear hA hO fr; intro fr w199 b76 hA hO
                refine ⟨(hO.sub [2, 3, 4]), ?_⟩
                refine tree_mem ?_ ?_
                ·
                  refine (mN (l := [i32 0, i32 0, i32 0, i32 0, i32 0, i32 0, i32 0, i32 0, i32 0, i32 0, i32 0, i32 0, i32 0, i32 0, i32 0, i32 0, i64 0]) (t := 40) (v := pt) (d := 9) hA hO ?_)
                  clear hA hO fr; intro fr w200 b77 hA hO
                  refine ⟨(hO.sub [3, 4, 5]), ?_⟩
                  refine tree_mem ?_ ?_
                  ·
                    refine (mS (off := 0) (vc := [i32 0, i32 a, i32 0, i32 0, i32 0, i32 0, i32 0, i32 0, i32 0, i32 0, i32 0, i32 0, i32 0, i32 0, i32 0, i32 0, i64 0]) 0 hA hO ?_)
                    clear hO; intro w201 hO
                    refine ⟨(hO.sub [3, 4, 5]), ?_⟩
                    replace hA := hA.sb (e' := [(0, i32 a), (1, i32 0), (4, bl false), (5, pt b1), (6, pt b2), (7, pt b3), (8, i64 3), (9, pt b77), (11, pt b76), (34, i64 0), (35, .agg #[i64 2, i64 2, i64 0, i64 0, i64 0, i64 0, i64 0])])
                    refine ckT (l := [14]) (e' := [(0, i32 a), (1, i32 0), (4, bl false), (5, pt b1), (6, pt b2), (7, pt b3), (8, i64 3), (9, pt b77), (11, pt b76), (35, .agg #[i64 2, i64 2, i64 0, i64 0, i64 0, i64 0, i64 0])]) hA [] c0 ?_
                    clear hA fr; intro fr hA
                    refine tree_mem ?_ ?_
                    ·
                      refine (mS (off := 0) (vc := [i64 2, i64 2, i64 0, i64 0, i64 0, i64 0, i64 0]) 1 hA hO ?_)
                      clear hO; intro w202 hO
                      refine ⟨(hO.sub [3, 4, 5]), ?_⟩
                      replace hA := hA.sb (e' := [(0, i32 a), (1, i32 0), (4, bl false), (5, pt b1), (6, pt b2), (7, pt b3), (8, i64 3), (9, pt b77), (11, pt b76)])
                      refine tree_fin ?_
                      refine then_normal ?_
                      exact ⟨b77, b76, hA.sb, (hO.sub [1, 0, 3, 4, 5]), trivial⟩
                    ·
                      exact trivial
                  ·
                    exact trivial
                ·
                  exact trivial
              ·
                exact trivial
          ·
            refine tree_mem ?_ ?_
            ·
              refine (mN (l := [i32 0, i32 0, i32 0, i32 0, i32 0, i32 0, i32 0, i32 0, i32 0, i32 0, i32 0, i32 0, i32 0, i32 0, i32 0, i32 0, i64 0]) (t := 40) (v := pt) (d := 9) hA hO ?_)
              clear hA hO fr; intro fr w203 b78 hA hO
              refine ⟨(hO.sub [2, 3, 4]), ?_⟩
              refine tree_mem ?_ ?_
              ·
                refine (mK (f := 18) (args := [.agg (List.toArray (regsL (rgs [0, a, 0]) 0)), .slice (some ⟨b73, 0, none⟩) 4 4, i64 0]) (d := (some 32)) (v := .tuple #[.agg #[i32 0, i32 a, i32 0, i32 0, i32 0, i32 0, i32 0, i32 0, i32 0, i32 0, i32 0, i32 0, i32 0, i32 0, i32 0, i32 0, i64 0], i64 0, .agg #[i64 2, i64 2, i64 0, i64 0, i64 0, i64 0, i64 0]]) hA hO Tryd.func18 (rs (exec_any (rgs [0, a, 0]) 0 0 _ [7, 3, 1, 2] _ (hT.keep hO.only (fun h => h)) (rgs2_ok' ha hb) (by decide) (by decide) ((hO.b 1).sl (xs := [7, 3, 1, 2]) (U8s.cons (inK_u8 (by decide) (by decide)) (U8s.cons (inK_u8 (by decide) (by decide)) (U8s.cons (inK_u8 (by decide) (by decide)) (U8s.cons (inK_u8 (by decide) (by decide)) U8s.nil)))) rfl (by kernel_rfl)))) ?_)
                clear hA hO fr; intro fr w204 hA hO
                refine ⟨(hO.sub [2, 3, 4]), ?_⟩
                replace hA := hA.sb (e' := [(0, i32 a), (1, i32 0), (4, bl false), (5, pt b1), (6, pt b2), (7, pt b3), (8, i64 3), (9, pt b78), (32, .tuple #[.agg #[i32 0, i32 a, i32 0, i32 0, i32 0, i32 0, i32 0, i32 0, i32 0, i32 0, i32 0, i32 0, i32 0, i32 0, i32 0, i32 0, i64 0], i64 0, .agg #[i64 2, i64 2, i64 0, i64 0, i64 0, i64 0, i64 0]])])
                refine ckT (l := [7, 8, 9, 10]) (e' := [(0, i32 a), (1, i32 0), (4, bl false), (5, pt b1), (6, pt b2), (7, pt b3), (8, i64 3), (9, pt b78), (33, .agg #[i32 0, i32 a, i32 0, i32 0, i32 0, i32 0, i32 0, i32 0, i32 0, i32 0, i32 0, i32 0, i32 0, i32 0, i32 0, i32 0, i64 0]), (34, i64 0), (35, .agg #[i64 2, i64 2, i64 0, i64 0, i64 0, i64 0, i64 0])]) hA [] c0 ?_
                clear hA fr; intro fr hA
                refine tree_mem ?_ ?_
                ·
                  refine (mN (l := [i64 0, i64 0, i64 0, i64 0, i64 0, i64 0, i64 0]) (t := 43) (v := pt) (d := 11) hA hO ?_)
                  clear hA hO fr; intro fr w205 b79 hA hO
                  refine ⟨(hO.sub [3, 4, 5]), ?_⟩
                  refine tree_mem ?_ ?_
                  ·
                    refine (mS (off := 0) (vc := [i32 0, i32 a, i32 0, i32 0, i32 0, i32 0, i32 0, i32 0, i32 0, i32 0, i32 0, i32 0, i32 0, i32 0, i32 0, i32 0, i64 0]) 1 hA hO ?_)
                    clear hO; intro w206 hO
                    refine ⟨(hO.sub [3, 4, 5]), ?_⟩
                    replace hA := hA.sb (e' := [(0, i32 a), (1, i32 0), (4, bl false), (5, pt b1), (6, pt b2), (7, pt b3), (8, i64 3), (9, pt b78), (11, pt b79), (34, i64 0), (35, .agg #[i64 2, i64 2, i64 0, i64 0, i64 0, i64 0, i64 0])])
                    refine ckT (l := [14]) (e' := [(0, i32 a), (1, i32 0), (4, bl false), (5, pt b1), (6, pt b2), (7, pt b3), (8, i64 3), (9, pt b78), (11, pt b79), (35, .agg #[i64 2, i64 2, i64 0, i64 0, i64 0, i64 0, i64 0])]) hA [] c0 ?_
                    clear hA fr; intro fr hA
                    refine tree_mem ?_ ?_
                    ·
                      refine (mS (off := 0) (vc := [i64 2, i64 2, i64 0, i64 0, i64 0, i64 0, i64 0]) 0 hA hO ?_)
                      clear hO; intro w207 hO
                      refine ⟨(hO.sub [3, 4, 5]), ?_⟩
                      replace hA := hA.sb (e' := [(0, i32 a), (1, i32 0), (4, bl false), (5, pt b1), (6, pt b2), (7, pt b3), (8, i64 3), (9, pt b78), (11, pt b79)])
                      refine tree_fin ?_
                      refine then_normal ?_
                      exact ⟨b78, b79, hA.sb, (hO.sub [0, 1, 3, 4, 5]), trivial⟩
                    ·
                      exact trivial
                  ·
                    exact trivial
                ·
                  exact trivial
              ·
                refine tree_mem ?_ ?_
                ·
                  refine (mN (l := [i64 0, i64 0, i64 0, i64 0, i64 0, i64 0, i64 0]) (t := 43) (v := pt) (d := 11) hA hO ?_)
                  clear hA hO fr; intro fr w208 b80 hA hO
                  refine ⟨(hO.sub [3, 4, 5]), ?_⟩
                  refine tree_mem ?_ ?_
                  ·
                    refine (mK (f := 18) (args := [.agg (List.toArray (regsL (rgs [0, a, 0]) 0)), .slice (some ⟨b73, 0, none⟩) 4 4, i64 0]) (d := (some 32)) (v := .tuple #[.agg #[i32 0, i32 a, i32 0, i32 0, i32 0, i32 0, i32 0, i32 0, i32 0, i32 0, i32 0, i32 0, i32 0, i32 0, i32 0, i32 0, i64 0], i64 0, .agg #[i64 2, i64 2, i64 0, i64 0, i64 0, i64 0, i64 0]]) hA hO Tryd.func18 (rs (exec_any (rgs [0, a, 0]) 0 0 _ [7, 3, 1, 2] _ (hT.keep hO.only (fun h => h)) (rgs2_ok' ha hb) (by decide) (by decide) ((hO.b 2).sl (xs := [7, 3, 1, 2]) (U8s.cons (inK_u8 (by decide) (by decide)) (U8s.cons (inK_u8 (by decide) (by decide)) (U8s.cons (inK_u8 (by decide) (by decide)) (U8s.cons (inK_u8 (by decide) (by decide)) U8s.nil)))) rfl (by kernel_rfl)))) ?_)
                    clear hA hO fr; intro fr w209 hA hO
                    refine ⟨(hO.sub [3, 4, 5]), ?_⟩
                    replace hA := hA.sb (e' := [(0, i32 a), (1, i32 0), (4, bl false), (5, pt b1), (6, pt b2), (7, pt b3), (8, i64 3), (9, pt b78), (11, pt b80), (32, .tuple #[.agg #[i32 0, i32 a, i32 0, i32 0, i32 0, i32 0, i32 0, i32 0, i32 0, i32 0, i32 0, i32 0, i32 0, i32 0, i32 0, i32 0, i64 0], i64 0, .agg #[i64 2, i64 2, i64 0, i64 0, i64 0, i64 0, i64 0]])])
                    refine ckT (l := [7, 8, 9, 10]) (e' := [(0, i32 a), (1, i32 0), (4, bl false), (5, pt b1), (6, pt b2), (7, pt b3), (8, i64 3), (9, pt b78), (11, pt b80), (33, .agg #[i32 0, i32 a, i32 0, i32 0, i32 0, i32 0, i32 0, i32 0, i32 0, i32 0, i32 0, i32 0, i32 0, i32 0, i32 0, i32 0, i64 0]), (34, i64 0), (35, .agg #[i64 2, i64 2, i64 0, i64 0, i64 0, i64 0, i64 0])]) hA [] c0 ?_
                    clear hA fr; intro fr hA
                    refine tree_mem ?_ ?_
                    ·
                      refine (mS (off := 0) (vc := [i32 0, i32 a, i32 0, i32 0, i32 0, i32 0, i32 0, i32 0, i32 0, i32 0, i32 0, i32 0, i32 0, i32 0, i32 0, i32 0, i64 0]) 1 hA hO ?_)
                      clear hO; intro w210 hO
                      refine ⟨(hO.sub [3, 4, 5]), ?_⟩
                      replace hA := hA.sb (e' := [(0, i32 a), (1, i32 0), (4, bl false), (5, pt b1), (6, pt b2), (7, pt b3), (8, i64 3), (9, pt b78), (11, pt b80), (34, i64 0), (35, .agg #[i64 2, i64 2, i64 0, i64 0, i64 0, i64 0, i64 0])])
                      refine ckT (l := [14]) (e' := [(0, i32 a), (1, i32 0), (4, bl false), (5, pt b1), (6, pt b2), (7, pt b3), (8, i64 3), (9, pt b78), (11, pt b80), (35, .agg #[i64 2, i64 2, i64 0, i64 0, i64 0, i64 0, i64 0])]) hA [] c0 ?_
                      clear hA fr; intro fr hA
                      refine tree_mem ?_ ?_
                      ·
                        refine (mS (off := 0) (vc := [i64 2, i64 2, i64 0, i64 0, i64 0, i64 0, i64 0]) 0 hA hO ?_)
                        clear hO; intro w211 hO
                        refine ⟨(hO.sub [3, 4, 5]), ?_⟩
                        replace hA := hA.sb (e' := [(0, i32 a), (1, i32 0), (4, bl false), (5, pt b1), (6, pt b2), (7, pt b3), (8, i64 3), (9, pt b78), (11, pt b80)])
                        refine tree_fin ?_
                        refine then_normal ?_
                        exact ⟨b78, b80, hA.sb, (hO.sub [0, 1, 3, 4, 5]), trivial⟩
                      ·
                        exact trivial
                    ·
                      exact trivial
                  ·
                    exact trivial
                ·
                  exact trivial
            ·
              refine tree_mem ?_ ?_
              ·
                refine (mN (l := [i64 0, i64 0, i64 0, i64 0, i64 0, i64 0, i64 0]) (t := 43) (v := pt) (d := 11) hA hO ?_)
                clear hA hO fr; intro fr w212 b81 hA hO
                refine ⟨(hO.sub [2, 3, 4]), ?_⟩
                refine tree_mem ?_ ?_
                ·
                  refine (mK (f := 18) (args := [.agg (List.toArray (regsL (rgs [0, a, 0]) 0)), .slice (some ⟨b73, 0, none⟩) 4 4, i64 0]) (d := (some 32)) (v := .tuple #[.agg #[i32 0, i32 a, i32 0, i32 0, i32 0, i32 0, i32 0, i32 0, i32 0, i32 0, i32 0, i32 0, i32 0, i32 0, i32 0, i32 0, i64 0], i64 0, .agg #[i64 2, i64 2, i64 0, i64 0, i64 0, i64 0, i64 0]]) hA hO Tryd.func18 (rs (exec_any (rgs [0, a, 0]) 0 0 _ [7, 3, 1, 2] _ (hT.keep hO.only (fun h => h)) (rgs2_ok' ha hb) (by decide) (by decide) ((hO.b 1).sl (xs := [7, 3, 1, 2]) (U8s.cons (inK_u8 (by decide) (by decide)) (U8s.cons (inK_u8 (by decide) (by decide)) (U8s.cons (inK_u8 (by decide) (by decide)) (U8s.cons (inK_u8 (by decide) (by decide)) U8s.nil)))) rfl (by kernel_rfl)))) ?_)
                  clear hA hO fr; intro fr w213 hA hO
                  refine ⟨(hO.sub [2, 3, 4]), ?_⟩
                  replace hA := hA.sb (e' := [(0, i32 a), (1, i32 0), (4, bl false), (5, pt b1), (6, pt b2), (7, pt b3), (8, i64 3), (11, pt b81), (32, .tuple #[.agg #[i32 0, i32 a, i32 0, i32 0, i32 0, i32 0, i32 0, i32 0, i32 0, i32 0, i32 0, i32 0, i32 0, i32 0, i32 0, i32 0, i64 0], i64 0, .agg #[i64 2, i64 2, i64 0, i64 0, i64 0, i64 0, i64 0]])])
                  refine ckT (l := [7, 8, 9, 10]) (e' := [(0, i32 a), (1, i32 0), (4, bl false), (5, pt b1), (6, pt b2), (7, pt b3), (8, i64 3), (11, pt b81), (33, .agg #[i32 0, i32 a, i32 0, i32 0, i32 0, i32 0, i32 0, i32 0, i32 0, i32 0, i32 0, i32 0, i32 0, i32 0, i32 0, i32 0, i64 0]), (34, i64 0), (35, .agg #[i64 2, i64 2, i64 0, i64 0, i64 0, i64 0, i64 0])]) hA [] c0 ?_
                  clear hA fr; intro fr hA
                  refine tree_mem ?_ ?_
                  ·
                    refine (mN (l := [i32 0, i32 0, i32 0, i32 0, i32 0, i32 0, i32 0, i32 0, i32 0, i32 0, i32 0, i32 0, i32 0, i32 0, i32 0, i32 0, i64 0]) (t := 40) (v := pt) (d := 9) hA hO ?_)
                    clear hA hO fr; intro fr w214 b82 hA hO
                    refine ⟨(hO.sub [3, 4, 5]), ?_⟩
                    refine tree_mem ?_ ?_
                    ·
                      refine (mS (off := 0) (vc := [i32 0, i32 a, i32 0, i32 0, i32 0, i32 0, i32 0, i32 0, i32 0, i32 0, i32 0, i32 0, i32 0, i32 0, i32 0, i32 0, i64 0]) 0 hA hO ?_)
                      clear hO; intro w215 hO
                      refine ⟨(hO.sub [3, 4, 5]), ?_⟩
                      replace hA := hA.sb (e' := [(0, i32 a), (1, i32 0), (4, bl false), (5, pt b1), (6, pt b2), (7, pt b3), (8, i64 3), (9, pt b82), (11, pt b81), (34, i64 0), (35, .agg #[i64 2, i64 2, i64 0, i64 0, i64 0, i64 0, i64 0])])
                      refine ckT (l := [14]) (e' := [(0, i32 a), (1, i32 0), (4, bl false), (5, pt b1), (6, pt b2), (7, pt b3), (8, i64 3), (9, pt b82), (11, pt b81), (35, .agg #[i64 2, i64 2, i64 0, i64 0, i64 0, i64 0, i64 0])]) hA [] c0 ?_
                      clear hA fr; intro fr hA
                      refine tree_mem ?_ ?_
                      ·
                        refine (mS (off := 0) (vc := [i64 2, i64 2, i64 0, i64 0, i64 0, i64 0, i64 0]) 1 hA hO ?_)
                        clear hO; intro w216 hO
                        refine ⟨(hO.sub [3, 4, 5]), ?_⟩
                        replace hA := hA.sb (e' := [(0, i32 a), (1, i32 0), (4, bl false), (5, pt b1), (6, pt b2), (7, pt b3), (8, i64 3), (9, pt b82), (11, pt b81)])
                        refine tree_fin ?_
                        refine then_normal ?_
                        exact ⟨b82, b81, hA.sb, (hO.sub [1, 0, 3, 4, 5]), trivial⟩
                      ·
                        exact trivial
                    ·
                      exact trivial
                  ·
                    exact trivial
                ·
                  refine tree_mem ?_ ?_
                  ·
                    refine (mN (l := [i32 0, i32 0, i32 0, i32 0, i32 0, i32 0, i32 0, i32 0, i32 0, i32 0, i32 0, i32 0, i32 0, i32 0, i32 0, i32 0, i64 0]) (t := 40) (v := pt) (d := 9) hA hO ?_)
                    clear hA hO fr; intro fr w217 b83 hA hO
                    refine ⟨(hO.sub [3, 4, 5]), ?_⟩
                    refine tree_mem ?_ ?_
                    ·
                      refine (mK (f := 18) (args := [.agg (List.toArray (regsL (rgs [0, a, 0]) 0)), .slice (some ⟨b73, 0, none⟩) 4 4, i64 0]) (d := (some 32)) (v := .tuple #[.agg #[i32 0, i32 a, i32 0, i32 0, i32 0, i32 0, i32 0, i32 0, i32 0, i32 0, i32 0, i32 0, i32 0, i32 0, i32 0, i32 0, i64 0], i64 0, .agg #[i64 2, i64 2, i64 0, i64 0, i64 0, i64 0, i64 0]]) hA hO Tryd.func18 (rs (exec_any (rgs [0, a, 0]) 0 0 _ [7, 3, 1, 2] _ (hT.keep hO.only (fun h => h)) (rgs2_ok' ha hb) (by decide) (by decide) ((hO.b 2).sl (xs := [7, 3, 1, 2]) (U8s.cons (inK_u8 (by decide) (by decide)) (U8s.cons (inK_u8 (by decide) (by decide)) (U8s.cons (inK_u8 (by decide) (by decide)) (U8s.cons (inK_u8 (by decide) (by decide)) U8s.nil)))) rfl (by kernel_rfl)))) ?_)
                      clear hA hO fr; intro fr w218 hA hO
                      refine ⟨(hO.sub [3, 4, 5]), ?_⟩
                      replace hA := hA.sb (e' := [(0, i32 a), (1, i32 0), (4, bl false), (5, pt b1), (6, pt b2), (7, pt b3), (8, i64 3), (9, pt b83), (11, pt b81), (32, .tuple #[.agg #[i32 0, i32 a, i32 0, i32 0, i32 0, i32 0, i32 0, i32 0, i32 0, i32 0, i32 0, i32 0, i32 0, i32 0, i32 0, i32 0, i64 0], i64 0, .agg #[i64 2, i64 2, i64 0, i64 0, i64 0, i64 0, i64 0]])])
                      refine ckT (l := [7, 8, 9, 10]) (e' := [(0, i32 a), (1, i32 0), (4, bl false), (5, pt b1), (6, pt b2), (7, pt b3), (8, i64 3), (9, pt b83), (11, pt b81), (33, .agg #[i32 0, i32 a, i32 0, i32 0, i32 0, i32 0, i32 0, i32 0, i32 0, i32 0, i32 0, i32 0, i32 0, i32 0, i32 0, i32 0, i64 0]), (34, i64 0), (35, .agg #[i64 2, i64 2, i64 0, i64 0, i64 0, i64 0, i64 0])]) hA [] c0 ?_
                      clear hA fr; intro fr hA
                      refine tree_mem ?_ ?_
                      ·
                        refine (mS (off := 0) (vc := [i32 0, i32 a, i32 0, i32 0, i32 0, i32 0, i32 0, i32 0, i32 0, i32 0, i32 0, i32 0, i32 0, i32 0, i32 0, i32 0, i64 0]) 0 hA hO ?_)
                        clear hO; intro w219 hO
                        refine ⟨(hO.sub [3, 4, 5]), ?_⟩
                        replace hA := hA.sb (e' := [(0, i32 a), (1, i32 0), (4, bl false), (5, pt b1), (6, pt b2), (7, pt b3), (8, i64 3), (9, pt b83), (11, pt b81), (34, i64 0), (35, .agg #[i64 2, i64 2, i64 0, i64 0, i64 0, i64 0, i64 0])])
                        refine ckT (l := [14]) (e' := [(0, i32 a), (1, i32 0), (4, bl false), (5, pt b1), (6, pt b2), (7, pt b3), (8, i64 3), (9, pt b83), (11, pt b81), (35, .agg #[i64 2, i64 2, i64 0, i64 0, i64 0, i64 0, i64 0])]) hA [] c0 ?_
                        clear hA fr; intro fr hA
                        refine tree_mem ?_ ?_
                        ·
                          refine (mS (off := 0) (vc := [i64 2, i64 2, i64 0, i64 0, i64 0, i64 0, i64 0]) 1 hA hO ?_)
                          clear hO; intro w220 hO
                          refine ⟨(hO.sub [3, 4, 5]), ?_⟩
                          replace hA := hA.sb (e' := [(0, i32 a), (1, i32 0), (4, bl false), (5, pt b1), (6, pt b2), (7, pt b3), (8, i64 3), (9, pt b83), (11, pt b81)])
                          refine tree_fin ?_
                          refine then_normal ?_
                          exact ⟨b83, b81, hA.sb, (hO.sub [1, 0, 3, 4, 5]), trivial⟩
                        ·
                          exact trivial
                      ·
                        exact trivial
                    ·
                      exact trivial
                  ·
                    exact trivial
              ·
                exact trivial
        ·
          refine tree_mem ?_ ?_
          ·
            refine (mN (l := [i32 0, i32 0, i32 0, i32 0, i32 0, i32 0, i32 0, i32 0, i32 0, i32 0, i32 0, i32 0, i32 0, i32 0, i32 0, i32 0, i64 0]) (t := 40) (v := pt) (d := 9) hA hO ?_)
            clear hA hO fr; intro fr w221 b84 hA hO
            refine ⟨(hO.sub [1, 2, 3]), ?_⟩
            refine tree_mem ?_ ?_
            ·
              refine (mN (l := [u8 7, u8 3, u8 1, u8 2]) (t := 5) (v := fun b => .slice (some ⟨b, 0, none⟩) 4 4) (d := 31) hA hO ?_)
              clear hA hO fr; intro fr w222 b85 hA hO
              refine ⟨(hO.sub [2, 3, 4]), ?_⟩
              replace hA := hA.sb (e' := [(0, i32 a), (1, i32 0), (4, bl false), (5, pt b1), (6, pt b2), (7, pt b3), (8, i64 3), (9, pt b84), (26, .agg #[i32 0, i32 a, i32 0, i32 0, i32 0, i32 0, i32 0, i32 0, i32 0, i32 0, i32 0, i32 0, i32 0, i32 0, i32 0, i32 0, i64 0]), (31, .slice (some ⟨b85, 0, none⟩) 4 4)])
              refine tree_mem ?_ ?_
              ·
                refine (mK (f := 18) (args := [.agg (List.toArray (regsL (rgs [0, a, 0]) 0)), .slice (some ⟨b85, 0, none⟩) 4 4, i64 0]) (d := (some 32)) (v := .tuple #[.agg #[i32 0, i32 a, i32 0, i32 0, i32 0, i32 0, i32 0, i32 0, i32 0, i32 0, i32 0, i32 0, i32 0, i32 0, i32 0, i32 0, i64 0], i64 0, .agg #[i64 2, i64 2, i64 0, i64 0, i64 0, i64 0, i64 0]]) hA hO Tryd.func18 (rs (exec_any (rgs [0, a, 0]) 0 0 _ [7, 3, 1, 2] _ (hT.keep hO.only (fun h => h)) (rgs2_ok' ha hb) (by decide) (by decide) ((hO.b 0).sl (xs := [7, 3, 1, 2]) (U8s.cons (inK_u8 (by decide) (by decide)) (U8s.cons (inK_u8 (by decide) (by decide)) (U8s.cons (inK_u8 (by decide) (by decide)) (U8s.cons (inK_u8 (by decide) (by decide)) U8s.nil)))) rfl (by kernel_rfl)))) ?_)
                clear hA hO fr; intro fr w223 hA hO
                refine ⟨(hO.sub [2, 3, 4]), ?_⟩
                replace hA := hA.sb (e' := [(0, i32 a), (1, i32 0), (4, bl false), (5, pt b1), (6, pt b2), (7, pt b3), (8, i64 3), (9, pt b84), (32, .tuple #[.agg #[i32 0, i32 a, i32 0, i32 0, i32 0, i32 0, i32 0, i32 0, i32 0, i32 0, i32 0, i32 0, i32 0, i32 0, i32 0, i32 0, i64 0], i64 0, .agg #[i64 2, i64 2, i64 0, i64 0, i64 0, i64 0, i64 0]])])
                refine ckT (l := [7, 8, 9, 10]) (e' := [(0, i32 a), (1, i32 0), (4, bl false), (5, pt b1), (6, pt b2), (7, pt b3), (8, i64 3), (9, pt b84), (33, .agg #[i32 0, i32 a, i32 0, i32 0, i32 0, i32 0, i32 0, i32 0, i32 0, i32 0, i32 0, i32 0, i32 0, i32 0, i32 0, i32 0, i64 0]), (34, i64 0), (35, .agg #[i64 2, i64 2, i64 0, i64 0, i64 0, i64 0, i64 0])]) hA [] c0 ?_
                clear hA fr; intro fr hA
                refine tree_mem ?_ ?_
                ·
                  refine (mN (l := [i64 0, i64 0, i64 0, i64 0, i64 0, i64 0, i64 0]) (t := 43) (v := pt) (d := 11) hA hO ?_)
                  clear hA hO fr; intro fr w224 b86 hA hO
                  refine ⟨(hO.sub [3, 4, 5]), ?_⟩
                  refine tree_mem ?_ ?_
                  ·
                    refine (mS (off := 0) (vc := [i32 0, i32 a, i32 0, i32 0, i32 0, i32 0, i32 0, i32 0, i32 0, i32 0, i32 0, i32 0, i32 0, i32 0, i32 0, i32 0, i64 0]) 2 hA hO ?_)
                    clear hO; intro w225 hO
                    refine ⟨(hO.sub [3, 4, 5]), ?_⟩
                    replace hA := hA.sb (e' := [(0, i32 a), (1, i32 0), (4, bl false), (5, pt b1), (6, pt b2), (7, pt b3), (8, i64 3), (9, pt b84), (11, pt b86), (34, i64 0), (35, .agg #[i64 2, i64 2, i64 0, i64 0, i64 0, i64 0, i64 0])])
                    refine ckT (l := [14]) (e' := [(0, i32 a), (1, i32 0), (4, bl false), (5, pt b1), (6, pt b2), (7, pt b3), (8, i64 3), (9, pt b84), (11, pt b86), (35, .agg #[i64 2, i64 2, i64 0, i64 0, i64 0, i64 0, i64 0])]) hA [] c0 ?_
                    clear hA fr; intro fr hA
                    refine tree_mem ?_ ?_
                    ·
                      refine (mS (off := 0) (vc := [i64 2, i64 2, i64 0, i64 0, i64 0, i64 0, i64 0]) 0 hA hO ?_)
                      clear hO; intro w226 hO
                      refine ⟨(hO.sub [3, 4, 5]), ?_⟩
                      replace hA := hA.sb (e' := [(0, i32 a), (1, i32 0), (4, bl false), (5, pt b1), (6, pt b2), (7, pt b3), (8, i64 3), (9, pt b84), (11, pt b86)])
                      refine tree_fin ?_
                      refine then_normal ?_
                      exact ⟨b84, b86, hA.sb, (hO.sub [0, 2, 3, 4, 5]), trivial⟩
                    ·
                      exact trivial
                  ·
                    exact trivial
                ·
                  exact trivial
              ·
                refine tree_mem ?_ ?_
                ·
                  refine (mN (l := [i64 0, i64 0, i64 0, i64 0, i64 0, i64 0, i64 0]) (t := 43) (v := pt) (d := 11) hA hO ?_)
                  clear hA hO fr; intro fr w227 b87 hA hO
                  refine ⟨(hO.sub [3, 4, 5]), ?_⟩
                  refine tree_mem ?_ ?_
                  ·
                    refine (mK (f := 18) (args := [.agg (List.toArray (regsL (rgs [0, a, 0]) 0)), .slice (some ⟨b85, 0, none⟩) 4 4, i64 0]) (d := (some 32)) (v := .tuple #[.agg #[i32 0, i32 a, i32 0, i32 0, i32 0, i32 0, i32 0, i32 0, i32 0, i32 0, i32 0, i32 0, i32 0, i32 0, i32 0, i32 0, i64 0], i64 0, .agg #[i64 2, i64 2, i64 0, i64 0, i64 0, i64 0, i64 0]]) hA hO Tryd.func18 (rs (exec_any (rgs [0, a, 0]) 0 0 _ [7, 3, 1, 2] _ (hT.keep hO.only (fun h => h)) (rgs2_ok' ha hb) (by decide) (by decide) ((hO.b 1).sl (xs := [7, 3, 1, 2]) (U8s.cons (inK_u8 (by decide) (by decide)) (U8s.cons (inK_u8 (by decide) (by decide)) (U8s.cons (inK_u8 (by decide) (by decide)) (U8s.cons (inK_u8 (by decide) (by decide)) U8s.nil)))) rfl (by kernel_rfl)))) ?_)
                    clear hA hO fr; intro fr w228 hA hO
                    refine ⟨(hO.sub [3, 4, 5]), ?_⟩
                    replace hA := hA.sb (e' := [(0, i32 a), (1, i32 0), (4, bl false), (5, pt b1), (6, pt b2), (7, pt b3), (8, i64 3), (9, pt b84), (11, pt b87), (32, .tuple #[.agg #[i32 0, i32 a, i32 0, i32 0, i32 0, i32 0, i32 0, i32 0, i32 0, i32 0, i32 0, i32 0, i32 0, i32 0, i32 0, i32 0, i64 0], i64 0, .agg #[i64 2, i64 2, i64 0, i64 0, i64 0, i64 0, i64 0]])])
                    refine ckT (l := [7, 8, 9, 10]) (e' := [(0, i32 a), (1, i32 0), (4, bl false), (5, pt b1), (6, pt b2), (7, pt b3), (8, i64 3), (9, pt b84), (11, pt b87), (33, .agg #[i32 0, i32 a, i32 0, i32 0, i32 0, i32 0, i32 0, i32 0, i32 0, i32 0, i32 0, i32 0, i32 0, i32 0, i32 0, i32 0, i64 0]), (34, i64 0), (35, .agg #[i64 2, i64 2, i64 0, i64 0, i64 0, i64 0, i64 0])]) hA [] c0 ?_
                    clear hA fr; intro fr hA
                    refine tree_mem ?_ ?_
                    ·
                      refine (mS (off := 0) (vc := [i32 0, i32 a, i32 0, i32 0, i32 0, i32 0, i32 0, i32 0, i32 0, i32 0, i32 0, i32 0, i32 0, i32 0, i32 0, i32 0, i64 0]) 2 hA hO ?_)
                      clear hO; intro w229 hO
                      refine ⟨(hO.sub [3, 4, 5]), ?_⟩
                      replace hA := hA.sb (e' := [(0, i32 a), (1, i32 0), (4, bl false), (5, pt b1), (6, pt b2), (7, pt b3), (8, i64 3), (9, pt b84), (11, pt b87), (34, i64 0), (35, .agg #[i64 2, i64 2, i64 0, i64 0, i64 0, i64 0, i64 0])])
                      refine ckT (l := [14]) (e' := [(0, i32 a), (1, i32 0), (4, bl false), (5, pt b1), (6, pt b2), (7, pt b3), (8, i64 3), (9, pt b84), (11, pt b87), (35, .agg #[i64 2, i64 2, i64 0, i64 0, i64 0, i64 0, i64 0])]) hA [] c0 ?_
                      clear hA fr; intro fr hA
                      refine tree_mem ?_ ?_
                      ·
                        refine (mS (off := 0) (vc := [i64 2, i64 2, i64 0, i64 0, i64 0, i64 0, i64 0]) 0 hA hO ?_)
                        clear hO; intro w230 hO
                        refine ⟨(hO.sub [3, 4, 5]), ?_⟩
                        replace hA := hA.sb (e' := [(0, i32 a), (1, i32 0), (4, bl false), (5, pt b1), (6, pt b2), (7, pt b3), (8, i64 3), (9, pt b84), (11, pt b87)])
                        refine tree_fin ?_
                        refine then_normal ?_
                        exact ⟨b84, b87, hA.sb, (hO.sub [0, 2, 3, 4, 5]), trivial⟩
                      ·
                        exact trivial
                    ·
                      exact trivial
                  ·
                    exact trivial
                ·
                  exact trivial
            ·
              refine tree_mem ?_ ?_
              ·
                refine (mN (l := [i64 0, i64 0, i64 0, i64 0, i64 0, i64 0, i64 0]) (t := 43) (v := pt) (d := 11) hA hO ?_)
                clear hA hO fr; intro fr w231 b88 hA hO
                refine ⟨(hO.sub [2, 3, 4]), ?_⟩
                refine tree_mem ?_ ?_
                ·
                  refine (mN (l := [u8 7, u8 3, u8 1, u8 2]) (t := 5) (v := fun b => .slice (some ⟨b, 0, none⟩) 4 4) (d := 31) hA hO ?_)
                  clear hA hO fr; intro fr w232 b89 hA hO
                  refine ⟨(hO.sub [3, 4, 5]), ?_⟩
                  replace hA := hA.sb (e' := [(0, i32 a), (1, i32 0), (4, bl false), (5, pt b1), (6, pt b2), (7, pt b3), (8, i64 3), (9, pt b84), (11, pt b88), (26, .agg #[i32 0, i32 a, i32 0, i32 0, i32 0, i32 0, i32 0, i32 0, i32 0, i32 0, i32 0, i32 0, i32 0, i32 0, i32 0, i32 0, i64 0]), (31, .slice (some ⟨b89, 0, none⟩) 4 4)])
                  refine tree_mem ?_ ?_
                  ·
                    refine (mK (f := 18) (args := [.agg (List.toArray (regsL (rgs [0, a, 0]) 0)), .slice (some ⟨b89, 0, none⟩) 4 4, i64 0]) (d := (some 32)) (v := .tuple #[.agg #[i32 0, i32 a, i32 0, i32 0, i32 0, i32 0, i32 0, i32 0, i32 0, i32 0, i32 0, i32 0, i32 0, i32 0, i32 0, i32 0, i64 0], i64 0, .agg #[i64 2, i64 2, i64 0, i64 0, i64 0, i64 0, i64 0]]) hA hO Tryd.func18 (rs (exec_any (rgs [0, a, 0]) 0 0 _ [7, 3, 1, 2] _ (hT.keep hO.only (fun h => h)) (rgs2_ok' ha hb) (by decide) (by decide) ((hO.b 0).sl (xs := [7, 3, 1, 2]) (U8s.cons (inK_u8 (by decide) (by decide)) (U8s.cons (inK_u8 (by decide) (by decide)) (U8s.cons (inK_u8 (by decide) (by decide)) (U8s.cons (inK_u8 (by decide) (by decide)) U8s.nil)))) rfl (by kernel_rfl)))) ?_)
                    clear hA hO fr; intro fr w233 hA hO
                    refine ⟨(hO.sub [3, 4, 5]), ?_⟩
                    replace hA := hA.sb (e' := [(0, i32 a), (1, i32 0), (4, bl false), (5, pt b1), (6, pt b2), (7, pt b3), (8, i64 3), (9, pt b84), (11, pt b88), (32, .tuple #[.agg #[i32 0, i32 a, i32 0, i32 0, i32 0, i32 0, i32 0, i32 0, i32 0, i32 0, i32 0, i32 0, i32 0, i32 0, i32 0, i32 0, i64 0], i64 0, .agg #[i64 2, i64 2, i64 0, i64 0, i64 0, i64 0, i64 0]])])
                    refine ckT (l := [7, 8, 9, 10]) (e' := [(0, i32 a), (1, i32 0), (4, bl false), (5, pt b1), (6, pt b2), (7, pt b3), (8, i64 3), (9, pt b84), (11, pt b88), (33, .agg #[i32 0, i32 a, i32 0, i32 0, i32 0, i32 0, i32 0, i32 0, i32 0, i32 0, i32 0, i32 0, i32 0, i32 0, i32 0, i32 0, i64 0]), (34, i64 0), (35, .agg #[i64 2, i64 2, i64 0, i64 0, i64 0, i64 0, i64 0])]) hA [] c0 ?_
                    clear hA fr; intro fr hA
                    refine tree_mem ?_ ?_
                    ·
                      refine (mS (off := 0) (vc := [i32 0, i32 a, i32 0, i32 0, i32 0, i32 0, i32 0, i32 0, i32 0, i32 0, i32 0, i32 0, i32 0, i32 0, i32 0, i32 0, i64 0]) 2 hA hO ?_)
                      clear hO; intro w234 hO
                      refine ⟨(hO.sub [3, 4, 5]), ?_⟩
                      replace hA := hA.sb (e' := [(0, i32 a), (1, i32 0), (4, bl false), (5, pt b1), (6, pt b2), (7, pt b3), (8, i64 3), (9, pt b84), (11, pt b88), (34, i64 0), (35, .agg #[i64 2, i64 2, i64 0, i64 0, i64 0, i64 0, i64 0])])
                      refine ckT (l := [14]) (e' := [(0, i32 a), (1, i32 0), (4, bl false), (5, pt b1), (6, pt b2), (7, pt b3), (8, i64 3), (9, pt b84), (11, pt b88), (35, .agg #[i64 2, i64 2, i64 0, i64 0, i64 0, i64 0, i64 0])]) hA [] c0 ?_
                      clear hA fr; intro fr hA
                      refine tree_mem ?_ ?_
                      ·
                        refine (mS (off := 0) (vc := [i64 2, i64 2, i64 0, i64 0, i64 0, i64 0, i64 0]) 1 hA hO ?_)
                        clear hO; intro w235 hO
                        refine ⟨(hO.sub [3, 4, 5]), ?_⟩
                        replace hA := hA.sb (e' := [(0, i32 a), (1, i32 0), (4, bl false), (5, pt b1), (6, pt b2), (7, pt b3), (8, i64 3), (9, pt b84), (11, pt b88)])
                        refine tree_fin ?_
                        refine then_normal ?_
                        exact ⟨b84, b88, hA.sb, (hO.sub [1, 2, 3, 4, 5]), trivial⟩
                      ·
                        exact trivial
                    ·
                      exact trivial
                  ·
                    exact trivial
                ·
                  exact trivial
              ·
                exact trivial
          ·
            refine tree_mem ?_ ?_
            ·
              refine (mN (l := [i64 0, i64 0, i64 0, i64 0, i64 0, i64 0, i64 0]) (t := 43) (v := pt) (d := 11) hA hO ?_)
              clear hA hO fr; intro fr w236 b90 hA hO
              refine ⟨(hO.sub [1, 2, 3]), ?_⟩
              refine tree_mem ?_ ?_
              ·
                refine (mN (l := [u8 7, u8 3, u8 1, u8 2]) (t := 5) (v := fun b => .slice (some ⟨b, 0, none⟩) 4 4) (d := 31) hA hO ?_)
                clear hA hO fr; intro fr w237 b91 hA hO
                refine ⟨(hO.sub [2, 3, 4]), ?_⟩
                replace hA := hA.sb (e' := [(0, i32 a), (1, i32 0), (4, bl false), (5, pt b1), (6, pt b2), (7, pt b3), (8, i64 3), (11, pt b90), (26, .agg #[i32 0, i32 a, i32 0, i32 0, i32 0, i32 0, i32 0, i32 0, i32 0, i32 0, i32 0, i32 0, i32 0, i32 0, i32 0, i32 0, i64 0]), (31, .slice (some ⟨b91, 0, none⟩) 4 4)])
                refine tree_mem ?_ ?_
                ·
                  refine (mK (f := 18) (args := [.agg (List.toArray (regsL (rgs [0, a, 0]) 0)), .slice (some ⟨b91, 0, none⟩) 4 4, i64 0]) (d := (some 32)) (v := .tuple #[.agg #[i32 0, i32 a, i32 0, i32 0, i32 0, i32 0, i32 0, i32 0, i32 0, i32 0, i32 0, i32 0, i32 0, i32 0, i32 0, i32 0, i64 0], i64 0, .agg #[i64 2, i64 2, i64 0, i64 0, i64 0, i64 0, i64 0]]) hA hO Tryd.func18 (rs (exec_any (rgs [0, a, 0]) 0 0 _ [7, 3, 1, 2] _ (hT.keep hO.only (fun h => h)) (rgs2_ok' ha hb) (by decide) (by decide) ((hO.b 0).sl (xs := [7, 3, 1, 2]) (U8s.cons (inK_u8 (by decide) (by decide)) (U8s.cons (inK_u8 (by decide) (by decide)) (U8s.cons (inK_u8 (by decide) (by decide)) (U8s.cons (inK_u8 (by decide) (by decide)) U8s.nil)))) rfl (by kernel_rfl)))) ?_)
                  clear hA hO fr; intro fr w238 hA hO
                  refine ⟨(hO.sub [2, 3, 4]), ?_⟩
                  replace hA := hA.sb (e' := [(0, i32 a), (1, i32 0), (4, bl false), (5, pt b1), (6, pt b2), (7, pt b3), (8, i64 3), (11, pt b90), (32, .tuple #[.agg #[i32 0, i32 a, i32 0, i32 0, i32 0, i32 0, i32 0, i32 0, i32 0, i32 0, i32 0, i32 0, i32 0, i32 0, i32 0, i32 0, i64 0], i64 0, .agg #[i64 2, i64 2, i64 0, i64 0, i64 0, i64 0, i64 0]])])
                  refine ckT (l := [7, 8, 9, 10]) (e' := [(0, i32 a), (1, i32 0), (4, bl false), (5, pt b1), (6, pt b2), (7, pt b3), (8, i64 3), (11, pt b90), (33, .agg #[i32 0, i32 a, i32 0, i32 0, i32 0, i32 0, i32 0, i32 0, i32 0, i32 0, i32 0, i32 0, i32 0, i32 0, i32 0, i32 0, i64 0]), (34, i64 0), (35, .agg #[i64 2, i64 2, i64 0, i64 0, i64 0, i64 0, i64 0])]) hA [] c0 ?_
                  clear hA fr; intro fr hA
                  refine tree_mem ?_ ?_
                  ·
                    refine (mN (l := [i32 0, i32 0, i32 0, i32 0, i32 0, i32 0, i32 0, i32 0, i32 0, i32 0, i32 0, i32 0, i32 0, i32 0, i32 0, i32 0, i64 0]) (t := 40) (v := pt) (d := 9) hA hO ?_)
                    clear hA hO fr; intro fr w239 b92 hA hO
                    refine ⟨(hO.sub [3, 4, 5]), ?_⟩
                    refine tree_mem ?_ ?_
                    ·
                      refine (mS (off := 0) (vc := [i32 0, i32 a, i32 0, i32 0, i32 0, i32 0, i32 0, i32 0, i32 0, i32 0, i32 0, i32 0, i32 0, i32 0, i32 0, i32 0, i64 0]) 0 hA hO ?_)
                      clear hO; intro w240 hO
                      refine ⟨(hO.sub [3, 4, 5]), ?_⟩
                      replace hA := hA.sb (e' := [(0, i32 a), (1, i32 0), (4, bl false), (5, pt b1), (6, pt b2), (7, pt b3), (8, i64 3), (9, pt b92), (11, pt b90), (34, i64 0), (35, .agg #[i64 2, i64 2, i64 0, i64 0, i64 0, i64 0, i64 0])])
                      refine ckT (l := [14]) (e' := [(0, i32 a), (1, i32 0), (4, bl false), (5, pt b1), (6, pt b2), (7, pt b3), (8, i64 3), (9, pt b92), (11, pt b90), (35, .agg #[i64 2, i64 2, i64 0, i64 0, i64 0, i64 0, i64 0])]) hA [] c0 ?_
                      clear hA fr; intro fr hA
                      refine tree_mem ?_ ?_
                      ·
                        refine (mS (off := 0) (vc := [i64 2, i64 2, i64 0, i64 0, i64 0, i64 0, i64 0]) 2 hA hO ?_)
                        clear hO; intro w241 hO
                        refine ⟨(hO.sub [3, 4, 5]), ?_⟩
                        replace hA := hA.sb (e' := [(0, i32 a), (1, i32 0), (4, bl false), (5, pt b1), (6, pt b2), (7, pt b3), (8, i64 3), (9, pt b92), (11, pt b90)])
                        refine tree_fin ?_
                        refine then_normal ?_
                        exact ⟨b92, b90, hA.sb, (hO.sub [2, 0, 3, 4, 5]), trivial⟩
                      ·
                        exact trivial
                    ·
                      exact trivial
                  ·
                    exact trivial
                ·
                  refine tree_mem ?_ ?_
                  ·
                    refine (mN (l := [i32 0, i32 0, i32 0, i32 0, i32 0, i32 0, i32 0, i32 0, i32 0, i32 0, i32 0, i32 0, i32 0, i32 0, i32 0, i32 0, i64 0]) (t := 40) (v := pt) (d := 9) hA hO ?_)
                    clear hA hO fr; intro fr w242 b93 hA hO
                    refine ⟨(hO.sub [3, 4, 5]), ?_⟩
                    refine tree_mem ?_ ?_
                    ·
                      refine (mK (f := 18) (args := [.agg (List.toArray (regsL (rgs [0, a, 0]) 0)), .slice (some ⟨b91, 0, none⟩) 4 4, i64 0]) (d := (some 32)) (v := .tuple #[.agg #[i32 0, i32 a, i32 0, i32 0, i32 0, i32 0, i32 0, i32 0, i32 0, i32 0, i32 0, i32 0, i32 0, i32 0, i32 0, i32 0, i64 0], i64 0, .agg #[i64 2, i64 2, i64 0, i64 0, i64 0, i64 0, i64 0]]) hA hO Tryd.func18 (rs (exec_any (rgs [0, a, 0]) 0 0 _ [7, 3, 1, 2] _ (hT.keep hO.only (fun h => h)) (rgs2_ok' ha hb) (by decide) (by decide) ((hO.b 1).sl (xs := [7, 3, 1, 2]) (U8s.cons (inK_u8 (by decide) (by decide)) (U8s.cons (inK_u8 (by decide) (by decide)) (U8s.cons (inK_u8 (by decide) (by decide)) (U8s.cons (inK_u8 (by decide) (by decide)) U8s.nil)))) rfl (by kernel_rfl)))) ?_)
                      clear hA hO fr; intro fr w243 hA hO
                      refine ⟨(hO.sub [3, 4, 5]), ?_⟩
                      replace hA := hA.sb (e' := [(0, i32 a), (1, i32 0), (4, bl false), (5, pt b1), (6, pt b2), (7, pt b3), (8, i64 3), (9, pt b93), (11, pt b90), (32, .tuple #[.agg #[i32 0, i32 a, i32 0, i32 0, i32 0, i32 0, i32 0, i32 0, i32 0, i32 0, i32 0, i32 0, i32 0, i32 0, i32 0, i32 0, i64 0], i64 0, .agg #[i64 2, i64 2, i64 0, i64 0, i64 0, i64 0, i64 0]])])
                      refine ckT (l := [7, 8, 9, 10]) (e' := [(0, i32 a), (1, i32 0), (4, bl false), (5, pt b1), (6, pt b2), (7, pt b3), (8, i64 3), (9, pt b93), (11, pt b90), (33, .agg #[i32 0, i32 a, i32 0, i32 0, i32 0, i32 0, i32 0, i32 0, i32 0, i32 0, i32 0, i32 0, i32 0, i32 0, i32 0, i32 0, i64 0]), (34, i64 0), (35, .agg #[i64 2, i64 2, i64 0, i64 0, i64 0, i64 0, i64 0])]) hA [] c0 ?_
                      clear hA fr; intro fr hA
                      refine tree_mem ?_ ?_
                      ·
                        refine (mS (off := 0) (vc := [i32 0, i32 a, i32 0, i32 0, i32 0, i32 0, i32 0, i32 0, i32 0, i32 0, i32 0, i32 0, i32 0, i32 0, i32 0, i32 0, i64 0]) 0 hA hO ?_)
                        clear hO; intro w244 hO
                        refine ⟨(hO.sub [3, 4, 5]), ?_⟩
                        replace hA := hA.sb (e' := [(0, i32 a), (1, i32 0), (4, bl false), (5, pt b1), (6, pt b2), (7, pt b3), (8, i64 3), (9, pt b93), (11, pt b90), (34, i64 0), (35, .agg #[i64 2, i64 2, i64 0, i64 0, i64 0, i64 0, i64 0])])
                        refine ckT (l := [14]) (e' := [(0, i32 a), (1, i32 0), (4, bl false), (5, pt b1), (6, pt b2), (7, pt b3), (8, i64 3), (9, pt b93), (11, pt b90), (35, .agg #[i64 2, i64 2, i64 0, i64 0, i64 0, i64 0, i64 0])]) hA [] c0 ?_
                        clear hA fr; intro fr hA
                        refine tree_mem ?_ ?_
                        ·
                          refine (mS (off := 0) (vc := [i64 2, i64 2, i64 0, i64 0, i64 0, i64 0, i64 0]) 2 hA hO ?_)
                          clear hO; intro w245 hO
                          refine ⟨(hO.sub [3, 4, 5]), ?_⟩
                          replace hA := hA.sb (e' := [(0, i32 a), (1, i32 0), (4, bl false), (5, pt b1), (6, pt b2), (7, pt b3), (8, i64 3), (9, pt b93), (11, pt b90)])
                          refine tree_fin ?_
                          refine then_normal ?_
                          exact ⟨b93, b90, hA.sb, (hO.sub [2, 0, 3, 4, 5]), trivial⟩
                        ·
                          exact trivial
                      ·
                        exact trivial
                    ·
                      exact trivial
                  ·
                    exact trivial
              ·
                refine tree_mem ?_ ?_
                ·
                  refine (mN (l := [i32 0, i32 0, i32 0, i32 0, i32 0, i32 0, i32 0, i32 0, i32 0, i32 0, i32 0, i32 0, i32 0, i32 0, i32 0, i32 0, i64 0]) (t := 40) (v := pt) (d := 9) hA hO ?_)
                  clear hA hO fr; intro fr w246 b94 hA hO
                  refine ⟨(hO.sub [2, 3, 4]), ?_⟩
                  refine tree_mem ?_ ?_
                  ·
                    refine (mN (l := [u8 7, u8 3, u8 1, u8 2]) (t := 5) (v := fun b => .slice (some ⟨b, 0, none⟩) 4 4) (d := 31) hA hO ?_)
                    clear hA hO fr; intro fr w247 b95 hA hO
                    refine ⟨(hO.sub [3, 4, 5]), ?_⟩
                    replace hA := hA.sb (e' := [(0, i32 a), (1, i32 0), (4, bl false), (5, pt b1), (6, pt b2), (7, pt b3), (8, i64 3), (9, pt b94), (11, pt b90), (26, .agg #[i32 0, i32 a, i32 0, i32 0, i32 0, i32 0, i32 0, i32 0, i32 0, i32 0, i32 0, i32 0, i32 0, i32 0, i32 0, i32 0, i64 0]), (31, .slice (some ⟨b95, 0, none⟩) 4 4)])
                    refine tree_mem ?_ ?_
                    ·
                      refine (mK (f := 18) (args := [.agg (List.toArray (regsL (rgs [0, a, 0]) 0)), .slice (some ⟨b95, 0, none⟩) 4 4, i64 0]) (d := (some 32)) (v := .tuple #[.agg #[i32 0, i32 a, i32 0, i32 0, i32 0, i32 0, i32 0, i32 0, i32 0, i32 0, i32 0, i32 0, i32 0, i32 0, i32 0, i32 0, i64 0], i64 0, .agg #[i64 2, i64 2, i64 0, i64 0, i64 0, i64 0, i64 0]]) hA hO Tryd.func18 (rs (exec_any (rgs [0, a, 0]) 0 0 _ [7, 3, 1, 2] _ (hT.keep hO.only (fun h => h)) (rgs2_ok' ha hb) (by decide) (by decide) ((hO.b 0).sl (xs := [7, 3, 1, 2]) (U8s.cons (inK_u8 (by decide) (by decide)) (U8s.cons (inK_u8 (by decide) (by decide)) (U8s.cons (inK_u8 (by decide) (by decide)) (U8s.cons (inK_u8 (by decide) (by decide)) U8s.nil)))) rfl (by kernel_rfl)))) ?_)
                      clear hA hO fr; intro fr w248 hA hO
                      refine ⟨(hO.sub [3, 4, 5]), ?_⟩
                      replace hA := hA.sb (e' := [(0, i32 a), (1, i32 0), (4, bl false), (5, pt b1), (6, pt b2), (7, pt b3), (8, i64 3), (9, pt b94), (11, pt b90), (32, .tuple #[.agg #[i32 0, i32 a, i32 0, i32 0, i32 0, i32 0, i32 0, i32 0, i32 0, i32 0, i32 0, i32 0, i32 0, i32 0, i32 0, i32 0, i64 0], i64 0, .agg #[i64 2, i64 2, i64 0, i64 0, i64 0, i64 0, i64 0]])])
                      refine ckT (l := [7, 8, 9, 10]) (e' := [(0, i32 a), (1, i32 0), (4, bl false), (5, pt b1), (6, pt b2), (7, pt b3), (8, i64 3), (9, pt b94), (11, pt b90), (33, .agg #[i32 0, i32 a, i32 0, i32 0, i32 0, i32 0, i32 0, i32 0, i32 0, i32 0, i32 0, i32 0, i32 0, i32 0, i32 0, i32 0, i64 0]), (34, i64 0), (35, .agg #[i64 2, i64 2, i64 0, i64 0, i64 0, i64 0, i64 0])]) hA [] c0 ?_
                      clear hA fr; intro fr hA
                      refine tree_mem ?_ ?_
                      ·
                        refine (mS (off := 0) (vc := [i32 0, i32 a, i32 0, i32 0, i32 0, i32 0, i32 0, i32 0, i32 0, i32 0, i32 0, i32 0, i32 0, i32 0, i32 0, i32 0, i64 0]) 1 hA hO ?_)
                        clear hO; intro w249 hO
                        refine ⟨(hO.sub [3, 4, 5]), ?_⟩
                        replace hA := hA.sb (e' := [(0, i32 a), (1, i32 0), (4, bl false), (5, pt b1), (6, pt b2), (7, pt b3), (8, i64 3), (9, pt b94), (11, pt b90), (34, i64 0), (35, .agg #[i64 2, i64 2, i64 0, i64 0, i64 0, i64 0, i64 0])])
                        refine ckT (l := [14]) (e' := [(0, i32 a), (1, i32 0), (4, bl false), (5, pt b1), (6, pt b2), (7, pt b3), (8, i64 3), (9, pt b94), (11, pt b90), (35, .agg #[i64 2, i64 2, i64 0, i64 0, i64 0, i64 0, i64 0])]) hA [] c0 ?_
                        clear hA fr; intro fr hA
                        refine tree_mem ?_ ?_
                        ·
                          refine (mS (off := 0) (vc := [i64 2, i64 2, i64 0, i64 0, i64 0, i64 0, i64 0]) 2 hA hO ?_)
                          clear hO; intro w250 hO
                          refine ⟨(hO.sub [3, 4, 5]), ?_⟩
                          replace hA := hA.sb (e' := [(0, i32 a), (1, i32 0), (4, bl false), (5, pt b1), (6, pt b2), (7, pt b3), (8, i64 3), (9, pt b94), (11, pt b90)])
                          refine tree_fin ?_
                          refine then_normal ?_
                          exact ⟨b94, b90, hA.sb, (hO.sub [2, 1, 3, 4, 5]), trivial⟩
                        ·
                          exact trivial
                      ·
                        exact trivial
                    ·
                      exact trivial
                  ·
                    exact trivial
                ·
                  exact trivial
            ·
              exact trivial
    ·
      refine wp_seq ?_
      refine sC (e' := [(0, i32 a), (1, i32 0), (4, bl false), (5, pt b1), (6, pt b2), (7, pt b3), (8, i64 4), (22, bl true)]) 2 hA [] c0 ?_
      clear hA fr; intro fr hA
      refine cT hA ?_
      refine wp_skip ?_
      refine then_normal ?_
      refine wp_seq ?_
      refine wp_block ?_
      refine sJ (fun fr W => ∃ (j9 : Nat) (j10 : Nat), Holds 132 [] fr [(0, i32 a), (1, i32 0), (4, bl false), (5, pt b1), (6, pt b2), (7, pt b3), (8, i64 4), (9, pt j9), (11, pt j10)] ∧ Ow Tryd.prog none' w W [(j10, 43, [i64 2, i64 2, i64 0, i64 0, i64 0, i64 0, i64 0]), (j9, 40, [i32 0, i32 a, i32 0, i32 0, i32 0, i32 0, i32 0, i32 0, i32 0, i32 0, i32 0, i32 0, i32 0, i32 0, i32 0, i32 0, i64 0]), (b3, 47, [i64 (IntKind.i32.wrap (a + 0)), i64 (IntKind.i32.wrap (a - 0)), i64 (IntKind.i32.wrap (a * 0)), i64 0, i64 0]), (b2, 47, [i64 4, i64 5, i64 6, i64 7, i64 8]), (b1, 40, [i32 0, i32 a, i32 0, i32 0, i32 0, i32 0, i32 0, i32 0, i32 0, i32 0, i32 0, i32 0, i32 0, i32 0, i32 0, i32 0, i64 0])] ∧ True) ?_ ?_
      · rintro fr w251 ⟨j9, j10, hA, hO, -⟩
        refine wp_seq ?_
        refine sC (e' := [(0, i32 a), (1, i32 0), (4, bl false), (5, pt b1), (6, pt b2), (7, pt b3), (8, i64 4), (9, pt j9), (11, pt j10), (43, bl true)]) 8 hA [i64 8] (cc (⟨by omega, by omega⟩ : (0 : Int) ≤ 4 ∧ 4 < ((5 : Nat) : Int)) (cc (hO.l1 3 4 3 (i64 8)) c0)) ?_
        clear hA fr; intro fr hA
        refine cT hA ?_
        refine wp_seq ?_
        refine sC (e' := [(0, i32 a), (1, i32 0), (4, bl false), (5, pt b1), (6, pt b2), (7, pt b3), (8, i64 4), (9, pt j9), (11, pt j10), (51, bl false)]) 8 hA [.agg #[i64 2, i64 2, i64 0, i64 0, i64 0, i64 0, i64 0], bl true, .agg #[i32 0, i32 a, i32 0, i32 0, i32 0, i32 0, i32 0, i32 0, i32 0, i32 0, i32 0, i32 0, i32 0, i32 0, i32 0, i32 0, i64 0], .agg #[i32 0, i32 a, i32 0, i32 0, i32 0, i32 0, i32 0, i32 0, i32 0, i32 0, i32 0, i32 0, i32 0, i32 0, i32 0, i32 0, i64 0], bl true] (cc (hO.ln 0 0 43 [i64 2, i64 2, i64 0, i64 0, i64 0, i64 0, i64 0]) (cc ((eqG_of (by kernel_rfl) (by kernel_rfl)) : EqG Tryd.prog 43 (.agg #[i64 2, i64 2, i64 0, i64 0, i64 0, i64 0, i64 0]) (.agg #[i64 2, i64 2, i64 0, i64 0, i64 0, i64 0, i64 0]) true) (cc (hO.ln 1 0 40 [i32 0, i32 a, i32 0, i32 0, i32 0, i32 0, i32 0, i32 0, i32 0, i32 0, i32 0, i32 0, i32 0, i32 0, i32 0, i32 0, i64 0]) (cc (hO.ln 4 0 40 [i32 0, i32 a, i32 0, i32 0, i32 0, i32 0, i32 0, i32 0, i32 0, i32 0, i32 0, i32 0, i32 0, i32 0, i32 0, i32 0, i64 0]) (cc ((eqG_of (b := ((0 == 0) && ((a == a) && ((0 == 0) && ((0 == 0) && ((0 == 0) && ((0 == 0) && ((0 == 0) && ((0 == 0) && ((0 == 0) && ((0 == 0) && ((0 == 0) && ((0 == 0) && ((0 == 0) && ((0 == 0) && ((0 == 0) && ((0 == 0) && true)))))))))))))))) && ((0 == 0) && true)) (by kernel_rfl) (by kernel_rfl)).cast (by simp) : EqG Tryd.prog 40 (.agg #[i32 0, i32 a, i32 0, i32 0, i32 0, i32 0, i32 0, i32 0, i32 0, i32 0, i32 0, i32 0, i32 0, i32 0, i32 0, i32 0, i64 0]) (.agg #[i32 0, i32 a, i32 0, i32 0, i32 0, i32 0, i32 0, i32 0, i32 0, i32 0, i32 0, i32 0, i32 0, i32 0, i32 0, i32 0, i64 0]) true) c0))))) ?_
        clear hA fr; intro fr hA
        refine cF hA ?_
        refine wp_skip ?_
        refine then_normal ?_
        refine wp_exit ?_
        refine then_exit ?_
        refine inBlock_exit ?_
        refine then_normal ?_
        refine rC (e' := [(0, i32 a), (1, i32 0), (4, bl false), (5, pt b1), (6, pt b2), (7, pt b3), (8, i64 5)]) 3 hA [bl false] c0 ?_
        clear hA fr; intro fr hA
        refine then_normal ?_
        exact ⟨0, by decide, (.inr (.inr (.inr (.inr (.inr ⟨rfl, hA.sb, (hO.sub [2, 3, 4])⟩)))))⟩
      ·
        have hS := hO
        refine rT (.q 0 (.q 1 (.q 2 (.q 3 (.q 4 (.m 5 (.m 6 (.q 7 (.q 8 (.q 9 (.q 10 (.m 11 (.m 12 (.m 13 (.q 14 (.m 15 .fin .non)) .non) .non) (.m 12 (.m 11 (.m 13 (.q 14 (.m 15 .fin .non)) .non) .non) .non)))))) (.m 11 (.m 6 (.q 7 (.q 8 (.q 9 (.q 10 (.m 12 (.m 13 (.q 14 (.m 15 .fin .non)) .non) .non))))) (.m 12 (.m 6 (.q 7 (.q 8 (.q 9 (.q 10 (.m 13 (.q 14 (.m 15 .fin .non)) .non))))) .non) .non)) (.m 12 (.m 6 (.q 7 (.q 8 (.q 9 (.q 10 (.m 11 (.m 13 (.q 14 (.m 15 .fin .non)) .non) .non))))) (.m 11 (.m 6 (.q 7 (.q 8 (.q 9 (.q 10 (.m 13 (.q 14 (.m 15 .fin .non)) .non))))) .non) .non)) .non))) (.m 11 (.m 5 (.m 6 (.q 7 (.q 8 (.q 9 (.q 10 (.m 12 (.m 13 (.q 14 (.m 15 .fin .non)) .non) .non))))) (.m 12 (.m 6 (.q 7 (.q 8 (.q 9 (.q 10 (.m 13 (.q 14 (.m 15 .fin .non)) .non))))) .non) .non)) (.m 12 (.m 5 (.m 6 (.q 7 (.q 8 (.q 9 (.q 10 (.m 13 (.q 14 (.m 15 .fin .non)) .non))))) .non) .non) .non)) (.m 12 (.m 5 (.m 6 (.q 7 (.q 8 (.q 9 (.q 10 (.m 11 (.m 13 (.q 14 (.m 15 .fin .non)) .non) .non))))) (.m 11 (.m 6 (.q 7 (.q 8 (.q 9 (.q 10 (.m 13 (.q 14 (.m 15 .fin .non)) .non))))) .non) .non)) (.m 11 (.m 5 (.m 6 (.q 7 (.q 8 (.q 9 (.q 10 (.m 13 (.q 14 (.m 15 .fin .non)) .non))))) .non) .non) .non)) .non)))))))) hS ?_
        intro w252 ho; replace hO := hO.st ho; clear ho
        refine ckT (l := [0, 1, 2, 3, 4]) (e' := [(0, i32 a), (1, i32 0), (4, bl false), (5, pt b1), (6, pt b2), (7, pt b3), (8, i64 4), (26, .agg #[i32 0, i32 a, i32 0, i32 0, i32 0, i32 0, i32 0, i32 0, i32 0, i32 0, i32 0, i32 0, i32 0, i32 0, i32 0, i32 0, i64 0]), (30, u8 8)]) hA [.agg #[i32 0, i32 a, i32 0, i32 0, i32 0, i32 0, i32 0, i32 0, i32 0, i32 0, i32 0, i32 0, i32 0, i32 0, i32 0, i32 0, i64 0], i64 8, bl false] (cc (hS.sn 2 0 40 [i32 0, i32 a, i32 0, i32 0, i32 0, i32 0, i32 0, i32 0, i32 0, i32 0, i32 0, i32 0, i32 0, i32 0, i32 0, i32 0, i64 0]) (cc (⟨by omega, by omega⟩ : (0 : Int) ≤ 4 ∧ 4 < ((5 : Nat) : Int)) (cc (hS.s1 1 4 3 (i64 8)) c0))) ?_
        clear hA fr; intro fr hA
        refine tree_mem ?_ ?_
        ·
          refine (mN (l := [u8 8, u8 3, u8 1, u8 2]) (t := 5) (v := fun b => .slice (some ⟨b, 0, none⟩) 4 4) (d := 31) hA hO ?_)
          clear hA hO fr; intro fr w253 b96 hA hO
          refine ⟨(hO.sub [1, 2, 3]), ?_⟩
          replace hA := hA.sb (e' := [(0, i32 a), (1, i32 0), (4, bl false), (5, pt b1), (6, pt b2), (7, pt b3), (8, i64 4), (26, .agg #[i32 0, i32 a, i32 0, i32 0, i32 0, i32 0, i32 0, i32 0, i32 0, i32 0, i32 0, i32 0, i32 0, i32 0, i32 0, i32 0, i64 0]), (31, .slice (some ⟨b96, 0, none⟩) 4 4)])
          refine tree_mem ?_ ?_
          ·
            refine (mK (f := 18) (args := [.agg (List.toArray (regsL (rgs [0, a, 0]) 0)), .slice (some ⟨b96, 0, none⟩) 4 4, i64 0]) (d := (some 32)) (v := .tuple #[.agg #[i32 0, i32 a, i32 0, i32 0, i32 0, i32 0, i32 0, i32 0, i32 0, i32 0, i32 0, i32 0, i32 0, i32 0, i32 0, i32 0, i64 0], i64 0, .agg #[i64 2, i64 2, i64 0, i64 0, i64 0, i64 0, i64 0]]) hA hO Tryd.func18 (rs (exec_any (rgs [0, a, 0]) 0 0 _ [8, 3, 1, 2] _ (hT.keep hO.only (fun h => h)) (rgs2_ok' ha hb) (by decide) (by decide) ((hO.b 0).sl (xs := [8, 3, 1, 2]) (U8s.cons (inK_u8 (by decide) (by decide)) (U8s.cons (inK_u8 (by decide) (by decide)) (U8s.cons (inK_u8 (by decide) (by decide)) (U8s.cons (inK_u8 (by decide) (by decide)) U8s.nil)))) rfl (by kernel_rfl)))) ?_)
            clear hA hO fr; intro fr w254 hA hO
            refine ⟨(hO.sub [1, 2, 3]), ?_⟩
            replace hA := hA.sb (e' := [(0, i32 a), (1, i32 0), (4, bl false), (5, pt b1), (6, pt b2), (7, pt b3), (8, i64 4), (32, .tuple #[.agg #[i32 0, i32 a, i32 0, i32 0, i32 0, i32 0, i32 0, i32 0, i32 0, i32 0, i32 0, i32 0, i32 0, i32 0, i32 0, i32 0, i64 0], i64 0, .agg #[i64 2, i64 2, i64 0, i64 0, i64 0, i64 0, i64 0]])])
            refine ckT (l := [7, 8, 9, 10]) (e' := [(0, i32 a), (1, i32 0), (4, bl false), (5, pt b1), (6, pt b2), (7, pt b3), (8, i64 4), (33, .agg #[i32 0, i32 a, i32 0, i32 0, i32 0, i32 0, i32 0, i32 0, i32 0, i32 0, i32 0, i32 0, i32 0, i32 0, i32 0, i32 0, i64 0]), (34, i64 0), (35, .agg #[i64 2, i64 2, i64 0, i64 0, i64 0, i64 0, i64 0])]) hA [] c0 ?_
            clear hA fr; intro fr hA
            refine tree_mem ?_ ?_
            ·
              refine (mN (l := [i32 0, i32 0, i32 0, i32 0, i32 0, i32 0, i32 0, i32 0, i32 0, i32 0, i32 0, i32 0, i32 0, i32 0, i32 0, i32 0, i64 0]) (t := 40) (v := pt) (d := 9) hA hO ?_)
              clear hA hO fr; intro fr w255 b97 hA hO
              refine ⟨(hO.sub [2, 3, 4]), ?_⟩
              refine tree_mem ?_ ?_
              ·
                refine (mN (l := [i64 0, i64 0, i64 0, i64 0, i64 0, i64 0, i64 0]) (t := 43) (v := pt) (d := 11) hA hO ?_)
                clear hA hO fr; intro fr w256 b98 hA hO
                refine ⟨(hO.sub [3, 4, 5]), ?_⟩
                refine tree_mem ?_ ?_
                ·
                  refine (mS (off := 0) (vc := [i32 0, i32 a, i32 0, i32 0, i32 0, i32 0, i32 0, i32 0, i32 0, i32 0, i32 0, i32 0, i32 0, i32 0, i32 0, i32 0, i64 0]) 1 hA hO ?_)
                  clear hO; intro w257 hO
                  refine ⟨(hO.sub [3, 4, 5]), ?_⟩
                  replace hA := hA.sb (e' := [(0, i32 a), (1, i32 0), (4, bl false), (5, pt b1), (6, pt b2), (7, pt b3), (8, i64 4), (9, pt b97), (11, pt b98), (34, i64 0), (35, .agg #[i64 2, i64 2, i64 0, i64 0, i64 0, i64 0, i64 0])])
                  refine ckT (l := [14]) (e' := [(0, i32 a), (1, i32 0), (4, bl false), (5, pt b1), (6, pt b2), (7, pt b3), (8, i64 4), (9, pt b97), (11, pt b98), (35, .agg #[i64 2, i64 2, i64 0, i64 0, i64 0, i64 0, i64 0])]) hA [] c0 ?_
                  clear hA fr; intro fr hA
                  refine tree_mem ?_ ?_
                  ·
                    refine (mS (off := 0) (vc := [i64 2, i64 2, i64 0, i64 0, i64 0, i64 0, i64 0]) 0 hA hO ?_)
                    clear hO; intro w258 hO
                    refine ⟨(hO.sub [3, 4, 5]), ?_⟩
                    replace hA := hA.sb (e' := [(0, i32 a), (1, i32 0), (4, bl false), (5, pt b1), (6, pt b2), (7, pt b3), (8, i64 4), (9, pt b97), (11, pt b98)])
                    refine tree_fin ?_
                    refine then_normal ?_
                    exact ⟨b97, b98, hA.sb, (hO.sub [0, 1, 3, 4, 5]), trivial⟩
                  ·
                    exact trivial
                ·
                  exact trivial
              ·
                exact trivial
            ·
              refine tree_mem ?_ ?_
              ·
                refine (mN (l := [i64 0, i64 0, i64 0, i64 0, i64 0, i64 0, i64 0]) (t := 43) (v := pt) (d := 11) hA hO ?_)
                clear hA hO fr; intro fr w259 b99 hA hO
                refine ⟨(hO.sub [2, 3, 4]), ?_⟩
                refine tree_mem ?_ ?_
                ·
                  refine (mN (l := [i32 0, i32 0, i32 0, i32 0, i32 0, i32 0, i32 0, i32 0, i32 0, i32 0, i32 0, i32 0, i32 0, i32 0, i32 0, i32 0, i64 0]) (t := 40) (v := pt) (d := 9) hA hO ?_)
                  clear hA hO fr; intro fr w260 b100 hA hO
                  refine ⟨(hO.sub [3, 4, 5]), ?_⟩
                  refine tree_mem ?_ ?_
                  ·
                    refine (mS (off := 0) (vc := [i32 0, i32 a, i32 0, i32 0, i32 0, i32 0, i32 0, i32 0, i32 0, i32 0, i32 0, i32 0, i32 0, i32 0, i32 0, i32 0, i64 0]) 0 hA hO ?_)
                    clear hO; intro w261 hO
                    refine ⟨(hO.sub [3, 4, 5]), ?_⟩
                    replace hA := hA.sb (e' := [(0, i32 a), (1, i32 0), (4, bl false), (5, pt b1), (6, pt b2), (7, pt b3), (8, i64 4), (9, pt b100), (11, pt b99), (34, i64 0), (35, .agg #[i64 2, i64 2, i64 0, i64 0, i64 0, i64 0, i64 0])])
                    refine ckT (l := [14]) (e' := [(0, i32 a), (1, i32 0), (4, bl false), (5, pt b1), (6, pt b2), (7, pt b3), (8, i64 4), (9, pt b100), (11, pt b99), (35, .agg #[i64 2, i64 2, i64 0, i64 0, i64 0, i64 0, i64 0])]) hA [] c0 ?_
                    clear hA fr; intro fr hA
                    refine tree_mem ?_ ?_
                    ·
                      refine (mS (off := 0) (vc := [i64 2, i64 2, i64 0, i64 0, i64 0, i64 0, i64 0]) 1 hA hO ?_)
                      clear hO; intro w262 hO
                      refine ⟨(hO.sub [3, 4, 5]), ?_⟩
                      replace hA := hA.sb (e' := [(0, i32 a), (1, i32 0), (4, bl false), (5, pt b1), (6, pt b2), (7, pt b3), (8, i64 4), (9, pt b100), (11, pt b99)])
                      refine tree_fin ?_
                      refine then_normal ?_
                      exact ⟨b100, b99, hA.sb, (hO.sub [1, 0, 3, 4, 5]), trivial⟩
                    ·
                      exact trivial
                  ·
                    exact trivial
                ·
                  exact trivial
              ·
                exact trivial
          ·
            refine tree_mem ?_ ?_
            ·
              refine (mN (l := [i32 0, i32 0, i32 0, i32 0, i32 0, i32 0, i32 0, i32 0, i32 0, i32 0, i32 0, i32 0, i32 0, i32 0, i32 0, i32 0, i64 0]) (t := 40) (v := pt) (d := 9) hA hO ?_)
              clear hA hO fr; intro fr w263 b101 hA hO
              refine ⟨(hO.sub [2, 3, 4]), ?_⟩
              refine tree_mem ?_ ?_
              ·
                refine (mK (f := 18) (args := [.agg (List.toArray (regsL (rgs [0, a, 0]) 0)), .slice (some ⟨b96, 0, none⟩) 4 4, i64 0]) (d := (some 32)) (v := .tuple #[.agg #[i32 0, i32 a, i32 0, i32 0, i32 0, i32 0, i32 0, i32 0, i32 0, i32 0, i32 0, i32 0, i32 0, i32 0, i32 0, i32 0, i64 0], i64 0, .agg #[i64 2, i64 2, i64 0, i64 0, i64 0, i64 0, i64 0]]) hA hO Tryd.func18 (rs (exec_any (rgs [0, a, 0]) 0 0 _ [8, 3, 1, 2] _ (hT.keep hO.only (fun h => h)) (rgs2_ok' ha hb) (by decide) (by decide) ((hO.b 1).sl (xs := [8, 3, 1, 2]) (U8s.cons (inK_u8 (by decide) (by decide)) (U8s.cons (inK_u8 (by decide) (by decide)) (U8s.cons (inK_u8 (by decide) (by decide)) (U8s.cons (inK_u8 (by decide) (by decide)) U8s.nil)))) rfl (by kernel_rfl)))) ?_)
                clear hA hO fr; intro fr w264 hA hO
                refine ⟨(hO.sub [2, 3, 4]), ?_⟩
                replace hA := hA.sb (e' := [(0, i32 a), (1, i32 0), (4, bl false), (5, pt b1), (6, pt b2), (7, pt b3), (8, i64 4), (9, pt b101), (32, .tuple #[.agg #[i32 0, i32 a, i32 0, i32 0, i32 0, i32 0, i32 0, i32 0, i32 0, i32 0, i32 0, i32 0, i32 0, i32 0, i32 0, i32 0, i64 0], i64 0, .agg #[i64 2, i64 2, i64 0, i64 0, i64 0, i64 0, i64 0]])])
                refine ckT (l := [7, 8, 9, 10]) (e' := [(0, i32 a), (1, i32 0), (4, bl false), (5, pt b1), (6, pt b2), (7, pt b3), (8, i64 4), (9, pt b101), (33, .agg #[i32 0, i32 a, i32 0, i32 0, i32 0, i32 0, i32 0, i32 0, i32 0, i32 0, i32 0, i32 0, i32 0, i32 0, i32 0, i32 0, i64 0]), (34, i64 0), (35, .agg #[i64 2, i64 2, i64 0, i64 0, i64 0, i64 0, i64 0])]) hA [] c0 ?_
                clear hA fr; intro fr hA
                refine tree_mem ?_ ?_
                ·
                  refine (mN (l := [i64 0, i64 0, i64 0, i64 0, i64 0, i64 0, i64 0]) (t := 43) (v := pt) (d := 11) hA hO ?_)
                  clear hA hO fr; intro fr w265 b102 hA hO
                  refine ⟨(hO.sub [3, 4, 5]), ?_⟩
                  refine tree_mem ?_ ?_
                  ·
                    refine (mS (off := 0) (vc := [i32 0, i32 a, i32 0, i32 0, i32 0, i32 0, i32 0, i32 0, i32 0, i32 0, i32 0, i32 0, i32 0, i32 0, i32 0, i32 0, i64 0]) 1 hA hO ?_)
                    clear hO; intro w266 hO
                    refine ⟨(hO.sub [3, 4, 5]), ?_⟩
                    replace hA := hA.sb (e' := [(0, i32 a), (1, i32 0), (4, bl false), (5, pt b1), (6, pt b2), (7, pt b3), (8, i64 4), (9, pt b101), (11, pt b102), (34, i64 0), (35, .agg #[i64 2, i64 2, i64 0, i64 0, i64 0, i64 0, i64 0])])
                    refine ckT (l := [14]) (e' := [(0, i32 a), (1, i32 0), (4, bl false), (5, pt b1), (6, pt b2), (7, pt b3), (8, i64 4), (9, pt b101), (11, pt b102), (35, .agg #[i64 2, i64 2, i64 0, i64 0, i64 0, i64 0, i64 0])]) hA [] c0 ?_
                    clear hA fr; intro fr hA
                    refine tree_mem ?_ ?_
                    ·
                      refine (mS (off := 0) (vc := [i64 2, i64 2, i64 0, i64 0, i64 0, i64 0, i64 0]) 0 hA hO ?_)
                      clear hO; intro w267 hO
                      refine ⟨(hO.sub [3, 4, 5]), ?_⟩
                      replace hA := hA.sb (e' := [(0, i32 a), (1, i32 0), (4, bl false), (5, pt b1), (6, pt b2), (7, pt b3), (8, i64 4), (9, pt b101), (11, pt b102)])
                      refine tree_fin ?_
                      refine then_normal ?_
                      exact ⟨b101, b102, hA.sb, (hO.sub [0, 1, 3, 4, 5]), trivial⟩
                    ·
                      exact trivial
                  ·
                    exact trivial
                ·
                  exact trivial
              ·
                refine tree_mem ?_ ?_
                ·
                  refine (mN (l := [i64 0, i64 0, i64 0, i64 0, i64 0, i64 0, i64 0]) (t := 43) (v := pt) (d := 11) hA hO ?_)
                  clear hA hO fr; intro fr w268 b103 hA hO
                  refine ⟨(hO.sub [3, 4, 5]), ?_⟩
                  refine tree_mem ?_ ?_
                  ·
                    refine (mK (f := 18) (args := [.agg (List.toArray (regsL (rgs [0, a, 0]) 0)), .slice (some ⟨b96, 0, none⟩) 4 4, i64 0]) (d := (some 32)) (v := .tuple #[.agg #[i32 0, i32 a, i32 0, i32 0, i32 0, i32 0, i32 0, i32 0, i32 0, i32 0, i32 0, i32 0, i32 0, i32 0, i32 0, i32 0, i64 0], i64 0, .agg #[i64 2, i64 2, i64 0, i64 0, i64 0, i64 0, i64 0]]) hA hO Tryd.func18 (rs (exec_any (rgs [0, a, 0]) 0 0 _ [8, 3, 1, 2] _ (hT.keep hO.only (fun h => h)) (rgs2_ok' ha hb) (by decide) (by decide) ((hO.b 2).sl (xs := [8, 3, 1, 2]) (U8s.cons (inK_u8 (by decide) (by decide)) (U8s.cons (inK_u8 (by decide) (by decide)) (U8s.cons (inK_u8 (by decide) (by decide)) (U8s.cons (inK_u8 (by decide) (by decide)) U8s.nil)))) rfl (by kernel_rfl)))) ?_)
                    clear hA hO fr; intro fr w269 hA hO
                    refine ⟨(hO.sub [3, 4, 5]), ?_⟩
                    replace hA := hA.sb (e' := [(0, i32 a), (1, i32 0), (4, bl false), (5, pt b1), (6, pt b2), (7, pt b3), (8, i64 4), (9, pt b101), (11, pt b103), (32, .tuple #[.agg #[i32 0, i32 a, i32 0, i32 0, i32 0, i32 0, i32 0, i32 0, i32 0, i32 0, i32 0, i32 0, i32 0, i32 0, i32 0, i32 0, i64 0], i64 0, .agg #[i64 2, i64 2, i64 0, i64 0, i64 0, i64 0, i64 0]])])
                    refine ckT (l := [7, 8, 9, 10]) (e' := [(0, i32 a), (1, i32 0), (4, bl false), (5, pt b1), (6, pt b2), (7, pt b3), (8, i64 4), (9, pt b101), (11, pt b103), (33, .agg #[i32 0, i32 a, i32 0, i32 0, i32 0, i32 0, i32 0, i32 0, i32 0, i32 0, i32 0, i32 0, i32 0, i32 0, i32 0, i32 0, i64 0]), (34, i64 0), (35, .agg #[i64 2, i64 2, i64 0, i64 0, i64 0, i64 0, i64 0])]) hA [] c0 ?_
                    clear hA fr; intro fr hA
                    refine tree_mem ?_ ?_
                    ·
                      refine (mS (off := 0) (vc := [i32 0, i32 a, i32 0, i32 0, i32 0, i32 0, i32 0, i32 0, i32 0, i32 0, i32 0, i32 0, i32 0, i32 0, i32 0, i32 0, i64 0]) 1 hA hO ?_)
                      clear hO; intro w270 hO
                      refine ⟨(hO.sub [3, 4, 5]), ?_⟩
                      replace hA := hA.sb (e' := [(0, i32 a), (1, i32 0), (4, bl false), (5, pt b1), (6, pt b2), (7, pt b3), (8, i64 4), (9, pt b101), (11, pt b103), (34, i64 0), (35, .agg #[i64 2, i64 2, i64 0, i64 0, i64 0, i64 0, i64 0])])
                      refine ckT (l := [14]) (e' := [(0, i32 a), (1, i32 0), (4, bl false), (5, pt b1), (6, pt b2), (7, pt b3), (8, i64 4), (9, pt b101), (11, pt b103), (35, .agg #[i64 2, i64 2, i64 0, i64 0, i64 0, i64 0, i64 0])]) hA [] c0 ?_
                      clear hA fr; intro fr hA
                      refine tree_mem ?_ ?_
                      ·
                        refine (mS (off := 0) (vc := [i64 2, i64 2, i64 0, i64 0, i64 0, i64 0, i64 0]) 0 hA hO ?_)
                        clear hO; intro w271 hO
                        refine ⟨(hO.sub [3, 4, 5]), ?_⟩
                        replace hA := hA.sb (e' := [(0, i32 a), (1, i32 0), (4, bl false), (5, pt b1), (6, pt b2), (7, pt b3), (8, i64 4), (9, pt b101), (11, pt b103)])
                        refine tree_fin ?_
                        refine then_normal ?_
                        exact ⟨b101, b103, hA.sb, (hO.sub [0, 1, 3, 4, 5]), trivial⟩
                      ·
                        exact trivial
                    ·
                      exact trivial
                  ·
                    exact trivial
                ·
                  exact trivial
            ·
              refine tree_mem ?_ ?_
              ·
                refine (mN (l := [i64 0, i64 0, i64 0, i64 0, i64 0, i64 0, i64 0]) (t := 43) (v := pt) (d := 11) hA hO ?_)
                clear hA hO fr; intro fr w272 b104 hA hO
                refine ⟨(hO.sub [2, 3, 4]), ?_⟩
                refine tree_mem ?_ ?_
                ·
                  refine (mK (f := 18) (args := [.agg (List.toArray (regsL (rgs [0, a, 0]) 0)), .slice (some ⟨b96, 0, none⟩) 4 4, i64 0]) (d := (some 32)) (v := .tuple #[.agg #[i32 0, i32 a, i32 0, i32 0, i32 0, i32 0, i32 0, i32 0, i32 0, i32 0, i32 0, i32 0, i32 0, i32 0, i32 0, i32 0, i64 0], i64 0, .agg #[i64 2, i64 2, i64 0, i64 0, i64 0, i64 0, i64 0]]) hA hO Tryd.func18 (rs (exec_any (rgs [0, a, 0]) 0 0 _ [8, 3, 1, 2] _ (hT.keep hO.only (fun h => h)) (rgs2_ok' ha hb) (by decide) (by decide) ((hO.b 1).sl (xs := [8, 3, 1, 2]) (U8s.cons (inK_u8 (by decide) (by decide)) (U8s.cons (inK_u8 (by decide) (by decide)) (U8s.cons (inK_u8 (by decide) (by decide)) (U8s.cons (inK_u8 (by decide) (by decide)) U8s.nil)))) rfl (by kernel_rfl)))) ?_)
                  clear hA hO fr; intro fr w273 hA hO
                  refine ⟨(hO.sub [2, 3, 4]), ?_⟩
                  replace hA := hA.sb (e' := [(0, i32 a), (1, i32 0), (4, bl false), (5, pt b1), (6, pt b2), (7, pt b3), (8, i64 4), (11, pt b104), (32, .tuple #[.agg #[i32 0, i32 a, i32 0, i32 0, i32 0, i32 0, i32 0, i32 0, i32 0, i32 0, i32 0, i32 0, i32 0, i32 0, i32 0, i32 0, i64 0], i64 0, .agg #[i64 2, i64 2, i64 0, i64 0, i64 0, i64 0, i64 0]])])
                  refine ckT (l := [7, 8, 9, 10]) (e' := [(0, i32 a), (1, i32 0), (4, bl false), (5, pt b1), (6, pt b2), (7, pt b3), (8, i64 4), (11, pt b104), (33, .agg #[i32 0, i32 a, i32 0, i32 0, i32 0, i32 0, i32 0, i32 0, i32 0, i32 0, i32 0, i32 0, i32 0, i32 0, i32 0, i32 0, i64 0]), (34, i64 0), (35, .agg #[i64 2, i64 2, i64 0, i64 0, i64 0, i64 0, i64 0])]) hA [] c0 ?_
                  clear hA fr; intro fr hA
                  refine tree_mem ?_ ?_
                  ·
                    refine (mN (l := [i32 0, i32 0, i32 0, i32 0, i32 0, i32 0, i32 0, i32 0, i32 0, i32 0, i32 0, i32 0, i32 0, i32 0, i32 0, i32 0, i64 0]) (t := 40) (v := pt) (d := 9) hA hO ?_)
                    clear hA hO fr; intro fr w274 b105 hA hO
                    refine ⟨(hO.sub [3, 4, 5]), ?_⟩
                    refine tree_mem ?_ ?_
                    ·
                      refine (mS (off := 0) (vc := [i32 0, i32 a, i32 0, i32 0, i32 0, i32 0, i32 0, i32 0, i32 0, i32 0, i32 0, i32 0, i32 0, i32 0, i32 0, i32 0, i64 0]) 0 hA hO ?_)
                      clear hO; intro w275 hO
                      refine ⟨(hO.sub [3, 4, 5]), ?_⟩
                      replace hA := hA.sb (e' := [(0, i32 a), (1, i32 0), (4, bl false), (5, pt b1), (6, pt b2), (7, pt b3), (8, i64 4), (9, pt b105), (11, pt b104), (34, i64 0), (35, .agg #[i64 2, i64 2, i64 0, i64 0, i64 0, i64 0, i64 0])])
                      refine ckT (l := [14]) (e' := [(0, i32 a), (1, i32 0), (4, bl false), (5, pt b1), (6, pt b2), (7, pt b3), (8, i64 4), (9, pt b105), (11, pt b104), (35, .agg #[i64 2, i64 2, i64 0, i64 0, i64 0, i64 0, i64 0])]) hA [] c0 ?_
                      clear hA fr; intro fr hA
                      refine tree_mem ?_ ?_
                      ·
                        refine (mS (off := 0) (vc := [i64 2, i64 2, i64 0, i64 0, i64 0, i64 0, i64 0]) 1 hA hO ?_)
                        clear hO; intro w276 hO
                        refine ⟨(hO.sub [3, 4, 5]), ?_⟩
                        replace hA := hA.sb (e' := [(0, i32 a), (1, i32 0), (4, bl false), (5, pt b1), (6, pt b2), (7, pt b3), (8, i64 4), (9, pt b105), (11, pt b104)])
                        refine tree_fin ?_
                        refine then_normal ?_
                        exact ⟨b105, b104, hA.sb, (hO.sub [1, 0, 3, 4, 5]), trivial⟩
                      ·
                        exact trivial
                    ·
                      exact trivial
                  ·
                    exact trivial
                ·
                  refine tree_mem ?_ ?_
                  ·
                    refine (mN (l := [i32 0, i32 0, i32 0, i32 0, i32 0, i32 0, i32 0, i32 0, i32 0, i32 0, i32 0, i32 0, i32 0, i32 0, i32 0, i32 0, i64 0]) (t := 40) (v := pt) (d := 9) hA hO ?_)
                    clear hA hO fr; intro fr w277 b106 hA hO
                    refine ⟨(hO.sub [3, 4, 5]), ?_⟩
                    refine tree_mem ?_ ?_
                    ·
                      refine (mK (f := 18) (args := [.agg (List.toArray (regsL (rgs [0, a, 0]) 0)), .slice (some ⟨b96, 0, none⟩) 4 4, i64 0]) (d := (some 32)) (v := .tuple #[.agg #[i32 0, i32 a, i32 0, i32 0, i32 0, i32 0, i32 0, i32 0, i32 0, i32 0, i32 0, i32 0, i32 0, i32 0, i32 0, i32 0, i64 0], i64 0, .agg #[i64 2, i64 2, i64 0, i64 0, i64 0, i64 0, i64 0]]) hA hO Tryd.func18 (rs (exec_any (rgs [0, a, 0]) 0 0 _ [8, 3, 1, 2] _ (hT.keep hO.only (fun h => h)) (rgs2_ok' ha hb) (by decide) (by decide) ((hO.b 2).sl (xs := [8, 3, 1, 2]) (U8s.cons (inK_u8 (by decide) (by decide)) (U8s.cons (inK_u8 (by decide) (by decide)) (U8s.cons (inK_u8 (by decide) (by decide)) (U8s.cons (inK_u8 (by decide) (by decide)) U8s.nil)))) rfl (by kernel_rfl)))) ?_)
                      clear hA hO fr; intro fr w278 hA hO
                      refine ⟨(hO.sub [3, 4, 5]), ?_⟩
                      replace hA := hA.sb (e' := [(0, i32 a), (1, i32 0), (4, bl false), (5, pt b1), (6, pt b2), (7, pt b3), (8, i64 4), (9, pt b106), (11, pt b104), (32, .tuple #[.agg #[i32 0, i32 a, i32 0, i32 0, i32 0, i32 0, i32 0, i32 0, i32 0, i32 0, i32 0, i32 0, i32 0, i32 0, i32 0, i32 0, i64 0], i64 0, .agg #[i64 2, i64 2, i64 0, i64 0, i64 0, i64 0, i64 0]])])
                      refine ckT (l := [7, 8, 9, 10]) (e' := [(0, i32 a), (1, i32 0), (4, bl false), (5, pt b1), (6, pt b2), (7, pt b3), (8, i64 4), (9, pt b106), (11, pt b104), (33, .agg #[i32 0, i32 a, i32 0, i32 0, i32 0, i32 0, i32 0, i32 0, i32 0, i32 0, i32 0, i32 0, i32 0, i32 0, i32 0, i32 0, i64 0]), (34, i64 0), (35, .agg #[i64 2, i64 2, i64 0, i64 0, i64 0, i64 0, i64 0])]) hA [] c0 ?_
                      clear hA fr; intro fr hA
                      refine tree_mem ?_ ?_
                      ·
                        refine (mS (off := 0) (vc := [i32 0, i32 a, i32 0, i32 0, i32 0, i32 0, i32 0, i32 0, i32 0, i32 0, i32 0, i32 0, i32 0, i32 0, i32 0, i32 0, i64 0]) 0 hA hO ?_)
                        clear hO; intro w279 hO
                        refine ⟨(hO.sub [3, 4, 5]), ?_⟩
                        replace hA := hA.sb (e' := [(0, i32 a), (1, i32 0), (4, bl false), (5, pt b1), (6, pt b2), (7, pt b3), (8, i64 4), (9, pt b106), (11, pt b104), (34, i64 0), (35, .agg #[i64 2, i64 2, i64 0, i64 0, i64 0, i64 0, i64 0])])
                        refine ckT (l := [14]) (e' := [(0, i32 a), (1, i32 0), (4, bl false), (5, pt b1), (6, pt b2), (7, pt b3), (8, i64 4), (9, pt b106), (11, pt b104), (35, .agg #[i64 2, i64 2, i64 0, i64 0, i64 0, i64 0, i64 0])]) hA [] c0 ?_
                        clear hA fr; intro fr hA
                        refine tree_mem ?_ ?_
                        ·
                          refine (mS (off := 0) (vc := [i64 2, i64 2, i64 0, i64 0, i64 0, i64 0, i64 0]) 1 hA hO ?_)
                          clear hO; intro w280 hO
                          refine ⟨(hO.sub [3, 4, 5]), ?_⟩
                          replace hA := hA.sb (e' := [(0, i32 a), (1, i32 0), (4, bl false), (5, pt b1), (6, pt b2), (7, pt b3), (8, i64 4), (9, pt b106), (11, pt b104)])
                          refine tree_fin ?_
                          refine then_normal ?_
                          exact ⟨b106, b104, hA.sb, (hO.sub [1, 0, 3, 4, 5]), trivial⟩
                        ·
                          exact trivial
                      ·
                        exact trivial
                    ·
                      exact trivial
                  ·
                    exact trivial
              ·
                exact trivial
        ·
          refine tree_mem ?_ ?_
          ·
            refine (mN (l := [i32 0, i32 0, i32 0, i32 0, i32 0, i32 0, i32 0, i32 0, i32 0, i32 0, i32 0, i32 0, i32 0, i32 0, i32 0, i32 0, i64 0]) (t := 40) (v := pt) (d := 9) hA hO ?_)
            clear hA hO fr; intro fr w281 b107 hA hO
            refine ⟨(hO.sub [1, 2, 3]), ?_⟩
            refine tree_mem ?_ ?_
            ·
              refine (mN (l := [u8 8, u8 3, u8 1, u8 2]) (t := 5) (v := fun b => .slice (some ⟨b, 0, none⟩) 4 4) (d := 31) hA hO ?_)
              clear hA hO fr; intro fr w282 b108 hA hO
              refine ⟨(hO.sub [2, 3, 4]), ?_⟩
              replace hA := hA.sb (e' := [(0, i32 a), (1, i32 0), (4, bl false), (5, pt b1), (6, pt b2), (7, pt b3), (8, i64 4), (9, pt b107), (26, .agg #[i32 0, i32 a, i32 0, i32 0, i32 0, i32 0, i32 0, i32 0, i32 0, i32 0, i32 0, i32 0, i32 0, i32 0, i32 0, i32 0, i64 0]), (31, .slice (some ⟨b108, 0, none⟩) 4 4)])
              refine tree_mem ?_ ?_
              ·
                refine (mK (f := 18) (args := [.agg (List.toArray (regsL (rgs [0, a, 0]) 0)), .slice (some ⟨b108, 0, none⟩) 4 4, i64 0]) (d := (some 32)) (v := .tuple #[.agg #[i32 0, i32 a, i32 0, i32 0, i32 0, i32 0, i32 0, i32 0, i32 0, i32 0, i32 0, i32 0, i32 0, i32 0, i32 0, i32 0, i64 0], i64 0, .agg #[i64 2, i64 2, i64 0, i64 0, i64 0, i64 0, i64 0]]) hA hO Tryd.func18 (rs (exec_any (rgs [0, a, 0]) 0 0 _ [8, 3, 1, 2] _ (hT.keep hO.only (fun h => h)) (rgs2_ok' ha hb) (by decide) (by decide) ((hO.b 0).sl (xs := [8, 3, 1, 2]) (U8s.cons (inK_u8 (by decide) (by decide)) (U8s.cons (inK_u8 (by decide) (by decide)) (U8s.cons (inK_u8 (by decide) (by decide)) (U8s.cons (inK_u8 (by decide) (by decide)) U8s.nil)))) rfl (by kernel_rfl)))) ?_)
                clear hA hO fr; intro fr w283 hA hO
                refine ⟨(hO.sub [2, 3, 4]), ?_⟩
                replace hA := hA.sb (e' := [(0, i32 a), (1, i32 0), (4, bl false), (5, pt b1), (6, pt b2), (7, pt b3), (8, i64 4), (9, pt b107), (32, .tuple #[.agg #[i32 0, i32 a, i32 0, i32 0, i32 0, i32 0, i32 0, i32 0, i32 0, i32 0, i32 0, i32 0, i32 0, i32 0, i32 0, i32 0, i64 0], i64 0, .agg #[i64 2, i64 2, i64 0, i64 0, i64 0, i64 0, i64 0]])])
                refine ckT (l := [7, 8, 9, 10]) (e' := [(0, i32 a), (1, i32 0), (4, bl false), (5, pt b1), (6, pt b2), (7, pt b3), (8, i64 4), (9, pt b107), (33, .agg #[i32 0, i32 a, i32 0, i32 0, i32 0, i32 0, i32 0, i32 0, i32 0, i32 0, i32 0, i32 0, i32 0, i32 0, i32 0, i32 0, i64 0]), (34, i64 0), (35, .agg #[i64 2, i64 2, i64 0, i64 0, i64 0, i64 0, i64 0])]) hA [] c0 ?_
                clear hA fr; intro fr hA
                refine tree_mem ?_ ?_
                ·
                  refine (mN (l := [i64 0, i64 0, i64 0, i64 0, i64 0, i64 0, i64 0]) (t := 43) (v := pt) (d := 11) hA hO ?_)
                  clear hA hO fr; intro fr w284 b109 hA hO
                  refine ⟨(hO.sub [3, 4, 5]), ?_⟩
                  refine tree_mem ?_ ?_
                  ·
                    refine (mS (off := 0) (vc := [i32 0, i32 a, i32 0, i32 0, i32 0, i32 0, i32 0, i32 0, i32 0, i32 0, i32 0, i32 0, i32 0, i32 0, i32 0, i32 0, i64 0]) 2 hA hO ?_)
                    clear hO; intro w285 hO
                    refine ⟨(hO.sub [3, 4, 5]), ?_⟩
                    replace hA := hA.sb (e' := [(0, i32 a), (1, i32 0), (4, bl false), (5, pt b1), (6, pt b2), (7, pt b3), (8, i64 4), (9, pt b107), (11, pt b109), (34, i64 0), (35, .agg #[i64 2, i64 2, i64 0, i64 0, i64 0, i64 0, i64 0])])
                    refine ckT (l := [14]) (e' := [(0, i32 a), (1, i32 0), (4, bl false), (5, pt b1), (6, pt b2), (7, pt b3), (8, i64 4), (9, pt b107), (11, pt b109), (35, .agg #[i64 2, i64 2, i64 0, i64 0, i64 0, i64 0, i64 0])]) hA [] c0 ?_
                    clear hA fr; intro fr hA
                    refine tree_mem ?_ ?_
                    ·
                      refine (mS (off := 0) (vc := [i64 2, i64 2, i64 0, i64 0, i64 0, i64 0, i64 0]) 0 hA hO ?_)
                      clear hO; intro w286 hO
                      refine ⟨(hO.sub [3, 4, 5]), ?_⟩
                      replace hA := hA.sb (e' := [(0, i32 a), (1, i32 0), (4, bl false), (5, pt b1), (6, pt b2), (7, pt b3), (8, i64 4), (9, pt b107), (11, pt b109)])
                      refine tree_fin ?_
                      refine then_normal ?_
                      exact ⟨b107, b109, hA.sb, (hO.sub [0, 2, 3, 4, 5]), trivial⟩
                    ·
                      exact trivial
                  ·
                    exact trivial
                ·
                  exact trivial
              ·
                refine tree_mem ?_ ?_
                ·
                  refine (mN (l := [i64 0, i64 0, i64 0, i64 0, i64 0, i64 0, i64 0]) (t := 43) (v := pt) (d := 11) hA hO ?_)
                  clear hA hO fr; intro fr w287 b110 hA hO
                  refine ⟨(hO.sub [3, 4, 5]), ?_⟩
                  refine tree_mem ?_ ?_
                  ·
                    refine (mK (f := 18) (args := [.agg (List.toArray (regsL (rgs [0, a, 0]) 0)), .slice (some ⟨b108, 0, none⟩) 4 4, i64 0]) (d := (some 32)) (v := .tuple #[.agg #[i32 0, i32 a, i32 0, i32 0, i32 0, i32 0, i32 0, i32 0, i32 0, i32 0, i32 0, i32 0, i32 0, i32 0, i32 0, i32 0, i64 0], i64 0, .agg #[i64 2, i64 2, i64 0, i64 0, i64 0, i64 0, i64 0]]) hA hO Tryd.func18 (rs (exec_any (rgs [0, a, 0]) 0 0 _ [8, 3, 1, 2] _ (hT.keep hO.only (fun h => h)) (rgs2_ok' ha hb) (by decide) (by decide) ((hO.b 1).sl (xs := [8, 3, 1, 2]) (U8s.cons (inK_u8 (by decide) (by decide)) (U8s.cons (inK_u8 (by decide) (by decide)) (U8s.cons (inK_u8 (by decide) (by decide)) (U8s.cons (inK_u8 (by decide) (by decide)) U8s.nil)))) rfl (by kernel_rfl)))) ?_)
                    clear hA hO fr; intro fr w288 hA hO
                    refine ⟨(hO.sub [3, 4, 5]), ?_⟩
                    replace hA := hA.sb (e' := [(0, i32 a), (1, i32 0), (4, bl false), (5, pt b1), (6, pt b2), (7, pt b3), (8, i64 4), (9, pt b107), (11, pt b110), (32, .tuple #[.agg #[i32 0, i32 a, i32 0, i32 0, i32 0, i32 0, i32 0, i32 0, i32 0, i32 0, i32 0, i32 0, i32 0, i32 0, i32 0, i32 0, i64 0], i64 0, .agg #[i64 2, i64 2, i64 0, i64 0, i64 0, i64 0, i64 0]])])
                    refine ckT (l := [7, 8, 9, 10]) (e' := [(0, i32 a), (1, i32 0), (4, bl false), (5, pt b1), (6, pt b2), (7, pt b3), (8, i64 4), (9, pt b107), (11, pt b110), (33, .agg #[i32 0, i32 a, i32 0, i32 0, i32 0, i32 0, i32 0, i32 0, i32 0, i32 0, i32 0, i32 0, i32 0, i32 0, i32 0, i32 0, i64 0]), (34, i64 0), (35, .agg #[i64 2, i64 2, i64 0, i64 0, i64 0, i64 0, i64 0])]) hA [] c0 ?_
                    clear hA fr; intro fr hA
                    refine tree_mem ?_ ?_
                    ·
                      refine (mS (off := 0) (vc := [i32 0, i32 a, i32 0, i32 0, i32 0, i32 0, i32 0, i32 0, i32 0, i32 0, i32 0, i32 0, i32 0, i32 0, i32 0, i32 0, i64 0]) 2 hA hO ?_)
                      clear hO; intro w289 hO
                      refine ⟨(hO.sub [3, 4, 5]), ?_⟩
                      replace hA := hA.sb (e' := [(0, i32 a), (1, i32 0), (4, bl false), (5, pt b1), (6, pt b2), (7, pt b3), (8, i64 4), (9, pt b107), (11, pt b110), (34, i64 0), (35, .agg #[i64 2, i64 2, i64 0, i64 0, i64 0, i64 0, i64 0])])
                      refine ckT (l := [14]) (e' := [(0, i32 a), (1, i32 0), (4, bl false), (5, pt b1), (6, pt b2), (7, pt b3), (8, i64 4), (9, pt b107), (11, pt b110), (35, .agg #[i64 2, i64 2, i64 0, i64 0, i64 0, i64 0, i64 0])]) hA [] c0 ?_
                      clear hA fr; intro fr hA
                      refine tree_mem ?_ ?_
                      ·
                        refine (mS (off := 0) (vc := [i64 2, i64 2, i64 0, i64 0, i64 0, i64 0, i64 0]) 0 hA hO ?_)
                        clear hO; intro w290 hO
                        refine ⟨(hO.sub [3, 4, 5]), ?_⟩
                        replace hA := hA.sb (e' := [(0, i32 a), (1, i32 0), (4, bl false), (5, pt b1), (6, pt b2), (7, pt b3), (8, i64 4), (9, pt b107), (11, pt b110)])
                        refine tree_fin ?_
                        refine then_normal ?_
                        exact ⟨b107, b110, hA.sb, (hO.sub [0, 2, 3, 4, 5]), trivial⟩
                      ·
                        exact trivial
                    ·
                      exact trivial
                  ·
                    exact trivial
                ·
                  exact trivial
            ·
              refine tree_mem ?_ ?_
              ·
                refine (mN (l := [i64 0, i64 0, i64 0, i64 0, i64 0, i64 0, i64 0]) (t := 43) (v := pt) (d := 11) hA hO ?_)
                clear hA hO fr; intro fr w291 b111 hA hO
                refine ⟨(hO.sub [2, 3, 4]), ?_⟩
                refine tree_mem ?_ ?_
                ·
                  refine (mN (l := [u8 8, u8 3, u8 1, u8 2]) (t := 5) (v := fun b => .slice (some ⟨b, 0, none⟩) 4 4) (d := 31) hA hO ?_)
                  clear hA hO fr; intro fr w292 b112 hA hO
                  refine ⟨(hO.sub [3, 4, 5]), ?_⟩
                  replace hA := hA.sb (e' := [(0, i32 a), (1, i32 0), (4, bl false), (5, pt b1), (6, pt b2), (7, pt b3), (8, i64 4), (9, pt b107), (11, pt b111), (26, .agg #[i32 0, i32 a, i32 0, i32 0, i32 0, i32 0, i32 0, i32 0, i32 0, i32 0, i32 0, i32 0, i32 0, i32 0, i32 0, i32 0, i64 0]), (31, .slice (some ⟨b112, 0, none⟩) 4 4)])
                  refine tree_mem ?_ ?_
                  ·
                    refine (mK (f := 18) (args := [.agg (List.toArray (regsL (rgs [0, a, 0]) 0)), .slice (some ⟨b112, 0, none⟩) 4 4, i64 0]) (d := (some 32)) (v := .tuple #[.agg #[i32 0, i32 a, i32 0, i32 0, i32 0, i32 0, i32 0, i32 0, i32 0, i32 0, i32 0, i32 0, i32 0, i32 0, i32 0, i32 0, i64 0], i64 0, .agg #[i64 2, i64 2, i64 0, i64 0, i64 0, i64 0, i64 0]]) hA hO Tryd.func18 (rs (exec_any (rgs [0, a, 0]) 0 0 _ [8, 3, 1, 2] _ (hT.keep hO.only (fun h => h)) (rgs2_ok' ha hb) (by decide) (by decide) ((hO.b 0).sl (xs := [8, 3, 1, 2]) (U8s.cons (inK_u8 (by decide) (by decide)) (U8s.cons (inK_u8 (by decide) (by decide)) (U8s.cons (inK_u8 (by decide) (by decide)) (U8s.cons (inK_u8 (by decide) (by decide)) U8s.nil)))) rfl (by kernel_rfl)))) ?_)
                    clear hA hO fr; intro fr w293 hA hO
                    refine ⟨(hO.sub [3, 4, 5]), ?_⟩
                    replace hA := hA.sb (e' := [(0, i32 a), (1, i32 0), (4, bl false), (5, pt b1), (6, pt b2), (7, pt b3), (8, i64 4), (9, pt b107), (11, pt b111), (32, .tuple #[.agg #[i32 0, i32 a, i32 0, i32 0, i32 0, i32 0, i32 0, i32 0, i32 0, i32 0, i32 0, i32 0, i32 0, i32 0, i32 0, i32 0, i64 0], i64 0, .agg #[i64 2, i64 2, i64 0, i64 0, i64 0, i64 0, i64 0]])])
                    refine ckT (l := [7, 8, 9, 10]) (e' := [(0, i32 a), (1, i32 0), (4, bl false), (5, pt b1), (6, pt b2), (7, pt b3), (8, i64 4), (9, pt b107), (11, pt b111), (33, .agg #[i32 0, i32 a, i32 0, i32 0, i32 0, i32 0, i32 0, i32 0, i32 0, i32 0, i32 0, i32 0, i32 0, i32 0, i32 0, i32 0, i64 0]), (34, i64 0), (35, .agg #[i64 2, i64 2, i64 0, i64 0, i64 0, i64 0, i64 0])]) hA [] c0 ?_
                    clear hA fr; intro fr hA
                    refine tree_mem ?_ ?_
                    ·
                      refine (mS (off := 0) (vc := [i32 0, i32 a, i32 0, i32 0, i32 0, i32 0, i32 0, i32 0, i32 0, i32 0, i32 0, i32 0, i32 0, i32 0, i32 0, i32 0, i64 0]) 2 hA hO ?_)
                      clear hO; intro w294 hO
                      refine ⟨(hO.sub [3, 4, 5]), ?_⟩
                      replace hA := hA.sb (e' := [(0, i32 a), (1, i32 0), (4, bl false), (5, pt b1), (6, pt b2), (7, pt b3), (8, i64 4), (9, pt b107), (11, pt b111), (34, i64 0), (35, .agg #[i64 2, i64 2, i64 0, i64 0, i64 0, i64 0, i64 0])])
                      refine ckT (l := [14]) (e' := [(0, i32 a), (1, i32 0), (4, bl false), (5, pt b1), (6, pt b2), (7, pt b3), (8, i64 4), (9, pt b107), (11, pt b111), (35, .agg #[i64 2, i64 2, i64 0, i64 0, i64 0, i64 0, i64 0])]) hA [] c0 ?_
                      clear hA fr; intro fr hA
                      refine tree_mem ?_ ?_
                      ·
                        refine (mS (off := 0) (vc := [i64 2, i64 2, i64 0, i64 0, i64 0, i64 0, i64 0]) 1 hA hO ?_)
                        clear hO; intro w295 hO
                        refine ⟨(hO.sub [3, 4, 5]), ?_⟩
                        replace hA := hA.sb (e' := [(0, i32 a), (1, i32 0), (4, bl false), (5, pt b1), (6, pt b2), (7, pt b3), (8, i64 4), (9, pt b107), (11, pt b111)])
                        refine tree_fin ?_
                        refine then_normal ?_
                        exact ⟨b107, b111, hA.sb, (hO.sub [1, 2, 3, 4, 5]), trivial⟩
                      ·
                        exact trivial
                    ·
                      exact trivial
                  ·
                    exact trivial
                ·
                  exact trivial
              ·
                exact trivial
          ·
            refine tree_mem ?_ ?_
            ·
              refine (mN (l := [i64 0, i64 0, i64 0, i64 0, i64 0, i64 0, i64 0]) (t := 43) (v := pt) (d := 11) hA hO ?_)
              clear hA hO fr; intro fr w296 b113 hA hO
              refine ⟨(hO.sub [1, 2, 3]), ?_⟩
              refine tree_mem ?_ ?_
              ·
                refine (mN (l := [u8 8, u8 3, u8 1, u8 2]) (t := 5) (v := fun b => .slice (some ⟨b, 0, none⟩) 4 4) (d := 31) hA hO ?_)
                clear hA hO fr; intro fr w297 b114 hA hO
                refine ⟨(hO.sub [2, 3, 4]), ?_⟩
                replace hA := hA.sb (e' := [(0, i32 a), (1, i32 0), (4, bl false), (5, pt b1), (6, pt b2), (7, pt b3), (8, i64 4), (11, pt b113), (26, .agg #[i32 0, i32 a, i32 0, i32 0, i32 0, i32 0, i32 0, i32 0, i32 0, i32 0, i32 0, i32 0, i32 0, i32 0, i32 0, i32 0, i64 0]), (31, .slice (some ⟨b114, 0, none⟩) 4 4)])
                refine tree_mem ?_ ?_
                ·
                  refine (mK (f := 18) (args := [.agg (List.toArray (regsL (rgs [0, a, 0]) 0)), .slice (some ⟨b114, 0, none⟩) 4 4, i64 0]) (d := (some 32)) (v := .tuple #[.agg #[i32 0, i32 a, i32 0, i32 0, i32 0, i32 0, i32 0, i32 0, i32 0, i32 0, i32 0, i32 0, i32 0, i32 0, i32 0, i32 0, i64 0], i64 0, .agg #[i64 2, i64 2, i64 0, i64 0, i64 0, i64 0, i64 0]]) hA hO Tryd.func18 (rs (exec_any (rgs [0, a, 0]) 0 0 _ [8, 3, 1, 2] _ (hT.keep hO.only (fun h => h)) (rgs2_ok' ha hb) (by decide) (by decide) ((hO.b 0).sl (xs := [8, 3, 1, 2]) (U8s.cons (inK_u8 (by decide) (by decide)) (U8s.cons (inK_u8 (by decide) (by decide)) (U8s.cons (inK_u8 (by decide) (by decide)) (U8s.cons (inK_u8 (by decide) (by decide)) U8s.nil)))) rfl (by kernel_rfl)))) ?_)
                  clear hA hO fr; intro fr w298 hA hO
                  refine ⟨(hO.sub [2, 3, 4]), ?_⟩
                  replace hA := hA.sb (e' := [(0, i32 a), (1, i32 0), (4, bl false), (5, pt b1), (6, pt b2), (7, pt b3), (8, i64 4), (11, pt b113), (32, .tuple #[.agg #[i32 0, i32 a, i32 0, i32 0, i32 0, i32 0, i32 0, i32 0, i32 0, i32 0, i32 0, i32 0, i32 0, i32 0, i32 0, i32 0, i64 0], i64 0, .agg #[i64 2, i64 2, i64 0, i64 0, i64 0, i64 0, i64 0]])])
                  refine ckT (l := [7, 8, 9, 10]) (e' := [(0, i32 a), (1, i32 0), (4, bl false), (5, pt b1), (6, pt b2), (7, pt b3), (8, i64 4), (11, pt b113), (33, .agg #[i32 0, i32 a, i32 0, i32 0, i32 0, i32 0, i32 0, i32 0, i32 0, i32 0, i32 0, i32 0, i32 0, i32 0, i32 0, i32 0, i64 0]), (34, i64 0), (35, .agg #[i64 2, i64 2, i64 0, i64 0, i64 0, i64 0, i64 0])]) hA [] c0 ?_
                  clear hA fr; intro fr hA
                  refine tree_mem ?_ ?_
                  ·
                    refine (mN (l := [i32 0, i32 0, i32 0, i32 0, i32 0, i32 0, i32 0, i32 0, i32 0, i32 0, i32 0, i32 0, i32 0, i32 0, i32 0, i32 0, i64 0]) (t := 40) (v := pt) (d := 9) hA hO ?_)
                    clear hA hO fr; intro fr w299 b115 hA hO
                    refine ⟨(hO.sub [3, 4, 5]), ?_⟩
                    refine tree_mem ?_ ?_
                    ·
                      refine (mS (off := 0) (vc := [i32 0, i32 a, i32 0, i32 0, i32 0, i32 0, i32 0, i32 0, i32 0, i32 0, i32 0, i32 0, i32 0, i32 0, i32 0, i32 0, i64 0]) 0 hA hO ?_)
                      clear hO; intro w300 hO
                      refine ⟨(hO.sub [3, 4, 5]), ?_⟩
                      replace hA := hA.sb (e' := [(0, i32 a), (1, i32 0), (4, bl false), (5, pt b1), (6, pt b2), (7, pt b3), (8, i64 4), (9, pt b115), (11, pt b113), (34, i64 0), (35, .agg #[i64 2, i64 2, i64 0, i64 0, i64 0, i64 0, i64 0])])
                      refine ckT (l := [14]) (e' := [(0, i32 a), (1, i32 0), (4, bl false), (5, pt b1), (6, pt b2), (7, pt b3), (8, i64 4), (9, pt b115), (11, pt b113), (35, .agg #[i64 2, i64 2, i64 0, i64 0, i64 0, i64 0, i64 0])]) hA [] c0 ?_
                      clear hA fr; intro fr hA
                      refine tree_mem ?_ ?_
                      ·
                        refine (mS (off := 0) (vc := [i64 2, i64 2, i64 0, i64 0, i64 0, i64 0, i64 0]) 2 hA hO ?_)
                        clear hO; intro w301 hO
                        refine ⟨(hO.sub [3, 4, 5]), ?_⟩
                        replace hA := hA.sb (e' := [(0, i32 a), (1, i32 0), (4, bl false), (5, pt b1), (6, pt b2), (7, pt b3), (8, i64 4), (9, pt b115), (11, pt b113)])
                        refine tree_fin ?_
                        refine then_normal ?_
                        exact ⟨b115, b113, hA.sb, (hO.sub [2, 0, 3, 4, 5]), trivial⟩
                      ·
                        exact trivial
                    ·
                      exact trivial
                  ·
                    exact trivial
                ·
                  refine tree_mem ?_ ?_
                  ·
                    refine (mN (l := [i32 0, i32 0, i32 0, i32 0, i32 0, i32 0, i32 0, i32 0, i32 0, i32 0, i32 0, i32 0, i32 0, i32 0, i32 0, i32 0, i64 0]) (t := 40) (v := pt) (d := 9) hA hO ?_)
                    clear hA hO fr; intro fr w302 b116 hA hO
                    refine ⟨(hO.sub [3, 4, 5]), ?_⟩
                    refine tree_mem ?_ ?_
                    ·
                      refine (mK (f := 18) (args := [.agg (List.toArray (regsL (rgs [0, a, 0]) 0)), .slice (some ⟨b114, 0, none⟩) 4 4, i64 0]) (d := (some 32)) (v := .tuple #[.agg #[i32 0, i32 a, i32 0, i32 0, i32 0, i32 0, i32 0, i32 0, i32 0, i32 0, i32 0, i32 0, i32 0, i32 0, i32 0, i32 0, i64 0], i64 0, .agg #[i64 2, i64 2, i64 0, i64 0, i64 0, i64 0, i64 0]]) hA hO Tryd.func18 (rs (exec_any (rgs [0, a, 0]) 0 0 _ [8, 3, 1, 2] _ (hT.keep hO.only (fun h => h)) (rgs2_ok' ha hb) (by decide) (by decide) ((hO.b 1).sl (xs := [8, 3, 1, 2]) (U8s.cons (inK_u8 (by decide) (by decide)) (U8s.cons (inK_u8 (by decide) (by decide)) (U8s.cons (inK_u8 (by decide) (by decide)) (U8s.cons (inK_u8 (by decide) (by decide)) U8s.nil)))) rfl (by kernel_rfl)))) ?_)
                      clear hA hO fr; intro fr w303 hA hO
                      refine ⟨(hO.sub [3, 4, 5]), ?_⟩
                      replace hA := hA.sb (e' := [(0, i32 a), (1, i32 0), (4, bl false), (5, pt b1), (6, pt b2), (7, pt b3), (8, i64 4), (9, pt b116), (11, pt b113), (32, .tuple #[.agg #[i32 0, i32 a, i32 0, i32 0, i32 0, i32 0, i32 0, i32 0, i32 0, i32 0, i32 0, i32 0, i32 0, i32 0, i32 0, i32 0, i64 0], i64 0, .agg #[i64 2, i64 2, i64 0, i64 0, i64 0, i64 0, i64 0]])])
                      refine ckT (l := [7, 8, 9, 10]) (e' := [(0, i32 a), (1, i32 0), (4, bl false), (5, pt b1), (6, pt b2), (7, pt b3), (8, i64 4), (9, pt b116), (11, pt b113), (33, .agg #[i32 0, i32 a, i32 0, i32 0, i32 0, i32 0, i32 0, i32 0, i32 0, i32 0, i32 0, i32 0, i32 0, i32 0, i32 0, i32 0, i64 0]), (34, i64 0), (35, .agg #[i64 2, i64 2, i64 0, i64 0, i64 0, i64 0, i64 0])]) hA [] c0 ?_
                      clear hA fr; intro fr hA
                      refine tree_mem ?_ ?_
                      ·
                        refine (mS (off := 0) (vc := [i32 0, i32 a, i32 0, i32 0, i32 0, i32 0, i32 0, i32 0, i32 0, i32 0, i32 0, i32 0, i32 0, i32 0, i32 0, i32 0, i64 0]) 0 hA hO ?_)
                        clear hO; intro w304 hO
                        refine ⟨(hO.sub [3, 4, 5]), ?_⟩
                        replace hA := hA.sb (e' := [(0, i32 a), (1, i32 0), (4, bl false), (5, pt b1), (6, pt b2), (7, pt b3), (8, i64 4), (9, pt b116), (11, pt b113), (34, i64 0), (35, .agg #[i64 2, i64 2, i64 0, i64 0, i64 0, i64 0, i64 0])])
                        refine ckT (l := [14]) (e' := [(0, i32 a), (1, i32 0), (4, bl false), (5, pt b1), (6, pt b2), (7, pt b3), (8, i64 4), (9, pt b116), (11, pt b113), (35, .agg #[i64 2, i64 2, i64 0, i64 0, i64 0, i64 0, i64 0])]) hA [] c0 ?_
                        clear hA fr; intro fr hA
                        refine tree_mem ?_ ?_
                        ·
                          refine (mS (off := 0) (vc := [i64 2, i64 2, i64 0, i64 0, i64 0, i64 0, i64 0]) 2 hA hO ?_)
                          clear hO; intro w305 hO
                          refine ⟨(hO.sub [3, 4, 5]), ?_⟩
                          replace hA := hA.sb (e' := [(0, i32 a), (1, i32 0), (4, bl false), (5, pt b1), (6, pt b2), (7, pt b3), (8, i64 4), (9, pt b116), (11, pt b113)])
                          refine tree_fin ?_
                          refine then_normal ?_
                          exact ⟨b116, b113, hA.sb, (hO.sub [2, 0, 3, 4, 5]), trivial⟩
                        ·
                          exact trivial
                      ·
                        exact trivial
                    ·
                      exact trivial
                  ·
                    exact trivial
              ·
                refine tree_mem ?_ ?_
                ·
                  refine (mN (l := [i32 0, i32 0, i32 0, i32 0, i32 0, i32 0, i32 0, i32 0, i32 0, i32 0, i32 0, i32 0, i32 0, i32 0, i32 0, i32 0, i64 0]) (t := 40) (v := pt) (d := 9) hA hO ?_)
                  clear hA hO fr; intro fr w306 b117 hA hO
                  refine ⟨(hO.sub [2, 3, 4]), ?_⟩
                  refine tree_mem ?_ ?_
                  ·
                    refine (mN (l := [u8 8, u8 3, u8 1, u8 2]) (t := 5) (v := fun b => .slice (some ⟨b, 0, none⟩) 4 4) (d := 31) hA hO ?_)
                    clear hA hO fr; intro fr w307 b118 hA hO
                    refine ⟨(hO.sub [3, 4, 5]), ?_⟩
                    replace hA := hA.sb (e' := [(0, i32 a), (1, i32 0), (4, bl false), (5, pt b1), (6, pt b2), (7, pt b3), (8, i64 4), (9, pt b117), (11, pt b113), (26, .agg #[i32 0, i32 a, i32 0, i32 0, i32 0, i32 0, i32 0, i32 0, i32 0, i32 0, i32 0, i32 0, i32 0, i32 0, i32 0, i32 0, i64 0]), (31, .slice (some ⟨b118, 0, none⟩) 4 4)])
                    refine tree_mem ?_ ?_
                    ·
                      refine (mK (f := 18) (args := [.agg (List.toArray (regsL (rgs [0, a, 0]) 0)), .slice (some ⟨b118, 0, none⟩) 4 4, i64 0]) (d := (some 32)) (v := .tuple #[.agg #[i32 0, i32 a, i32 0, i32 0, i32 0, i32 0, i32 0, i32 0, i32 0, i32 0, i32 0, i32 0, i32 0, i32 0, i32 0, i32 0, i64 0], i64 0, .agg #[i64 2, i64 2, i64 0, i64 0, i64 0, i64 0, i64 0]]) hA hO Tryd.func18 (rs (exec_any (rgs [0, a, 0]) 0 0 _ [8, 3, 1, 2] _ (hT.keep hO.only (fun h => h)) (rgs2_ok' ha hb) (by decide) (by decide) ((hO.b 0).sl (xs := [8, 3, 1, 2]) (U8s.cons (inK_u8 (by decide) (by decide)) (U8s.cons (inK_u8 (by decide) (by decide)) (U8s.cons (inK_u8 (by decide) (by decide)) (U8s.cons (inK_u8 (by decide) (by decide)) U8s.nil)))) rfl (by kernel_rfl)))) ?_)
                      clear hA hO fr; intro fr w308 hA hO
                      refine ⟨(hO.sub [3, 4, 5]), ?_⟩
                      replace hA := hA.sb (e' := [(0, i32 a), (1, i32 0), (4, bl false), (5, pt b1), (6, pt b2), (7, pt b3), (8, i64 4), (9, pt b117), (11, pt b113), (32, .tuple #[.agg #[i32 0, i32 a, i32 0, i32 0, i32 0, i32 0, i32 0, i32 0, i32 0, i32 0, i32 0, i32 0, i32 0, i32 0, i32 0, i32 0, i64 0], i64 0, .agg #[i64 2, i64 2, i64 0, i64 0, i64 0, i64 0, i64 0]])])
                      refine ckT (l := [7, 8, 9, 10]) (e' := [(0, i32 a), (1, i32 0), (4, bl false), (5, pt b1), (6, pt b2), (7, pt b3), (8, i64 4), (9, pt b117), (11, pt b113), (33, .agg #[i32 0, i32 a, i32 0, i32 0, i32 0, i32 0, i32 0, i32 0, i32 0, i32 0, i32 0, i32 0, i32 0, i32 0, i32 0, i32 0, i64 0]), (34, i64 0), (35, .agg #[i64 2, i64 2, i64 0, i64 0, i64 0, i64 0, i64 0])]) hA [] c0 ?_
                      clear hA fr; intro fr hA
                      refine tree_mem ?_ ?_
                      ·
                        refine (mS (off := 0) (vc := [i32 0, i32 a, i32 0, i32 0, i32 0, i32 0, i32 0, i32 0, i32 0, i32 0, i32 0, i32 0, i32 0, i32 0, i32 0, i32 0, i64 0]) 1 hA hO ?_)
                        clear hO; intro w309 hO
                        refine ⟨(hO.sub [3, 4, 5]), ?_⟩
                        replace hA := hA.sb (e' := [(0, i32 a), (1, i32 0), (4, bl false), (5, pt b1), (6, pt b2), (7, pt b3), (8, i64 4), (9, pt b117), (11, pt b113), (34, i64 0), (35, .agg #[i64 2, i64 2, i64 0, i64 0, i64 0, i64 0, i64 0])])
                        refine ckT (l := [14]) (e' := [(0, i32 a), (1, i32 0), (4, bl false), (5, pt b1), (6, pt b2), (7, pt b3), (8, i64 4), (9, pt b117), (11, pt b113), (35, .agg #[i64 2, i64 2, i64 0, i64 0, i64 0, i64 0, i64 0])]) hA [] c0 ?_
                        clear hA fr; intro fr hA
                        refine tree_mem ?_ ?_
                        ·
                          refine (mS (off := 0) (vc := [i64 2, i64 2, i64 0, i64 0, i64 0, i64 0, i64 0]) 2 hA hO ?_)
                          clear hO; intro w310 hO
                          refine ⟨(hO.sub [3, 4, 5]), ?_⟩
                          replace hA := hA.sb (e' := [(0, i32 a), (1, i32 0), (4, bl false), (5, pt b1), (6, pt b2), (7, pt b3), (8, i64 4), (9, pt b117), (11, pt b113)])
                          refine tree_fin ?_
                          refine then_normal ?_
                          exact ⟨b117, b113, hA.sb, (hO.sub [2, 1, 3, 4, 5]), trivial⟩
                        ·
                          exact trivial
                      ·
                        exact trivial
                    ·
                      exact trivial
                  ·
                    exact trivial
                ·
                  exact trivial
            ·
              exact trivial
    ·
      refine wp_seq ?_
      refine sC (e' := [(0, i32 a), (1, i32 0), (4, bl false), (5, pt b1), (6, pt b2), (7, pt b3), (8, i64 5), (22, bl false)]) 2 hA [] c0 ?_
      clear hA fr; intro fr hA
      refine cF hA ?_
      refine wp_exit ?_
      refine then_exit ?_
      refine then_exit ?_
      refine inBlock_exit ?_
      refine then_normal ?_
      refine sC (e' := [(1, i32 0), (4, bl false), (7, pt b3), (12, i64 a), (13, i64 0)]) 6 hA [bl true, bl false] (cc ((inK_i64 (by omega) (by omega)) : inK .i64 a) c0) ?_
      clear hA fr; intro fr hA
      refine wp_seq ?_
      refine sR (l := (rg 0 28)) ?_
      refine ck (l := (rg 0 9)) (r := (rg 9 19)) (e' := [(1, i32 0), (4, bl false), (7, pt b3), (12, i64 a), (13, i64 0), (72, bl (((((IntKind.i32.wrap (a + 0)) - a) - 0).tmod 4294967296) != 0)), (73, bl (((((IntKind.i32.wrap (a + 0)) - a) - 0).tmod 4294967296) != 0))]) hA [i64 (IntKind.i32.wrap (a + 0)), bl true, bl true, bl false] (cc (⟨by omega, by omega⟩ : (0 : Int) ≤ 0 ∧ 0 < ((5 : Nat) : Int)) (cc (hO.l1 0 0 3 (i64 (IntKind.i32.wrap (a + 0)))) (cc ((inK_i64 (by omega) (by omega)) : inK .i64 ((IntKind.i32.wrap (a + 0)) - a)) (cc ((inK_i64 (by omega) (by omega)) : inK .i64 (((IntKind.i32.wrap (a + 0)) - a) - 0)) (cc (by omega : 4294967296 ≠ (0 : Int)) c0))))) ?_
      clear hA fr; intro fr hA
      replace hA := hA.bool (f := fun z => [(1, i32 0), (4, bl false), (7, pt b3), (12, i64 a), (13, i64 0), (72, .bool z), (73, .bool z)]) (ar_add a 0 : (((((IntKind.i32.wrap (a + 0)) - a) - 0).tmod 4294967296) != 0) = false)
      refine ck (l := (rg 9 10)) (r := (rg 19 9)) (e' := [(1, i32 0), (4, bl false), (7, pt b3), (12, i64 a), (13, i64 0), (81, bl (((((IntKind.i32.wrap (a - 0)) - a) + 0).tmod 4294967296) != 0)), (82, bl (((((IntKind.i32.wrap (a - 0)) - a) + 0).tmod 4294967296) != 0)), (83, bl (((((IntKind.i32.wrap (a - 0)) - a) + 0).tmod 4294967296) != 0))]) hA [i64 (IntKind.i32.wrap (a - 0)), bl true, bl true, bl false] (cc (⟨by omega, by omega⟩ : (0 : Int) ≤ 1 ∧ 1 < ((5 : Nat) : Int)) (cc (hO.l1 0 1 3 (i64 (IntKind.i32.wrap (a - 0)))) (cc ((inK_i64 (by omega) (by omega)) : inK .i64 ((IntKind.i32.wrap (a - 0)) - a)) (cc ((inK_i64 (by omega) (by omega)) : inK .i64 (((IntKind.i32.wrap (a - 0)) - a) + 0)) (cc (by omega : 4294967296 ≠ (0 : Int)) c0))))) ?_
      clear hA fr; intro fr hA
      replace hA := hA.bool (f := fun z => [(1, i32 0), (4, bl false), (7, pt b3), (12, i64 a), (13, i64 0), (81, .bool z), (82, .bool z), (83, .bool z)]) (ar_sub a 0 : (((((IntKind.i32.wrap (a - 0)) - a) + 0).tmod 4294967296) != 0) = false)
      refine ck (l := (rg 19 9)) (r := []) (e' := [(1, i32 0), (4, bl false), (7, pt b3), (12, i64 a), (13, i64 0), (92, bl ((((IntKind.i32.wrap (a * 0)) - (a * 0)).tmod 4294967296) != 0))]) hA [i64 (IntKind.i32.wrap (a * 0)), bl true, bl true, bl false] (cc (⟨by omega, by omega⟩ : (0 : Int) ≤ 2 ∧ 2 < ((5 : Nat) : Int)) (cc (hO.l1 0 2 3 (i64 (IntKind.i32.wrap (a * 0)))) (cc ((inK_i64 (by omega) (by omega)) : inK .i64 (a * 0)) (cc ((inK_i64 (by omega) (by omega)) : inK .i64 ((IntKind.i32.wrap (a * 0)) - (a * 0))) (cc (by omega : 4294967296 ≠ (0 : Int)) c0))))) ?_
      clear hA fr; intro fr hA
      refine end_ops ?_
      refine then_normal ?_
      replace hA := hA.bool (f := fun z => [(1, i32 0), (4, bl false), (7, pt b3), (12, i64 a), (13, i64 0), (92, .bool z)]) (ar_mul a 0 : ((((IntKind.i32.wrap (a * 0)) - (a * 0)).tmod 4294967296) != 0) = false)
      refine cF hA ?_
      refine wp_skip ?_
      refine then_normal ?_
      refine sC (e' := [(4, bl true)]) 40 hA [] c0 ?_
      clear hA fr; intro fr hA
      refine wp_ret ?_
      refine cR (cs := [none]) (us := [bl true]) hA [] trivial ?_
      have hF := hO.only; clear hA hO
      exact ⟨rfl, hF⟩

end Go.Proofs.YtcaokjdihhbkjaaDoor
