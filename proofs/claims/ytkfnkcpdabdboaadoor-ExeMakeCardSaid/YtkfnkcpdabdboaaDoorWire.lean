/- The layer exe: wire.Int and what leans on it. -/
import Derived.Test.YtkfnkcpdabdboaaDoorBase
set_option linter.unusedVariables false
set_option linter.unusedSimpArgs false
set_option maxRecDepth 10000
namespace Go.Proofs.YtkfnkcpdabdboaaDoor
open Go Go.RowKit Go.Proofs.Sx

theorem int_any (p : Option Addr) (c : Nat) (xs : List Int) (T : OwL) (w : World) (h0 : Ow Tryd.prog (inT T) w w T) (hT : One fB 5 1 p c xs T) (hu : U8s xs) (x : Int) (hx : inK .i64 x) (hb : xs.length ≤ 1000000)  :
    Calls Tryd.prog 25 #[.slice p xs.length c, i64 x] w fun e w' => ∃ p' c' T', e = .returned (.slice p' (xs ++ encI x).length c') ∧ Ow Tryd.prog (inT T) w w' T' ∧ One fB 5 1 p' c' (xs ++ encI x) T' := by
  refine c_enter (args := [.slice p xs.length c, i64 x]) (m := 27) (n := 29) Tryd.func25 rfl (by kernel_rfl) (by kernel_rfl) fun fr hA => ?_
  have hO : Ow Tryd.prog (inT T) w w ([] ++ (T ++ ([]))) := h0.to (by simp only [List.nil_append, List.append_nil])
  refine sC (e' := [(0, .slice p xs.length c), (1, i64 x), (4, .slice none 0 0)]) 1 hA [] c0 ?_
  clear hA fr; intro fr hA
  refine sC (e' := [(0, .slice p xs.length c), (1, i64 x), (4, .slice none 0 0), (5, u64 (IntKind.u64.wrap ((IntKind.u64.wrap x) * 2)))]) 4 hA [bl false, bl false] (cc (by omega : (0 : Int) ≤ 1) c0) ?_
  clear hA fr; intro fr hA
  refine wp_seq ?_
  refine sC (e' := [(0, .slice p xs.length c), (4, .slice none 0 0), (5, u64 (IntKind.u64.wrap ((IntKind.u64.wrap x) * 2))), (10, bl (decide (x < 0)))]) 2 hA [] c0 ?_
  clear hA fr; intro fr hA
  rcases Bool.eq_false_or_eq_true (decide (x < 0)) with h1 | h1
  ·
    replace hA := hA.bool (f := fun z_ => [(0, .slice p xs.length c), (4, .slice none 0 0), (5, u64 (IntKind.u64.wrap ((IntKind.u64.wrap x) * 2))), (10, .bool z_)]) h1
    have h1p := of_decide_eq_true h1
    refine cT hA ?_
    refine rC (e' := [(0, .slice p xs.length c), (4, .slice none 0 0), (5, u64 (bits .xor .u64 18446744073709551615 (IntKind.u64.wrap ((IntKind.u64.wrap x) * 2))))]) 3 hA [] c0 ?_
    clear hA fr; intro fr hA
    replace hA := hA.int (f := fun z_ => [(0, .slice p xs.length c), (4, .slice none 0 0), (5, .int .u64 z_)]) (zig_neg hx (by omega) : bits .xor .u64 18446744073709551615 (IntKind.u64.wrap ((IntKind.u64.wrap x) * 2)) = ((zig x : Nat) : Int))
    refine then_normal ?_
    refine wp_seq ?_
    refine wp_block ?_
    refine c_loop (fun mm fr W => ∃ (u k : Nat) (ys : List Int) (pL1 : Option Addr) (cL1 : Nat) (TL1 : OwL), mm = 2 * u ∧ Holds 29 [] fr [(0, .slice pL1 ys.length cL1), (4, .slice none 0 0), (5, u64 ((u : Nat) : Int))] ∧ Ow Tryd.prog (inT T) w W ([] ++ (TL1 ++ ([]))) ∧ One fB 5 1 pL1 cL1 ys TL1 ∧ U8s ys ∧ u < 128 ^ (k + 1) ∧ ys ++ grp (k + 1) u = xs ++ encI x ∧ ys.length + k ≤ xs.length + 9 ∧ u < 18446744073709551616 ∧ True) ?_ ?_
    · exact ⟨_, zig x, 9, xs, p, c, T, rfl, (hA.sub (e' := [(0, .slice p xs.length c), (4, .slice none 0 0), (5, u64 ((zig x : Nat) : Int))]) [0, 4, 5] (by kernel_rfl)).cast (by kernel_rfl), (hO : Ow Tryd.prog (inT T) w _ ([] ++ (T ++ ([])))), hT, hu, (by have := zig_lt hx; omega), rfl, (by omega), (zig_lt hx), trivial⟩
    · rintro _ fr w1 ⟨u, k, ys, pL1, cL1, TL1, rfl, hA, hO, hTL1, huL1, hk, hg, hl, hu64, -⟩
      refine wp_seq ?_
      refine sC (e' := [(0, .slice pL1 ys.length cL1), (4, .slice none 0 0), (5, u64 ((u : Nat) : Int)), (13, u64 ((u : Nat) : Int)), (14, bl (decide (((u : Nat) : Int) ≥ 128)))]) 2 hA [] c0 ?_
      clear hA fr; intro fr hA
      rcases Bool.eq_false_or_eq_true (decide (((u : Nat) : Int) ≥ 128)) with h2 | h2
      ·
        replace hA := hA.bool (f := fun z_ => [(0, .slice pL1 ys.length cL1), (4, .slice none 0 0), (5, u64 ((u : Nat) : Int)), (13, u64 ((u : Nat) : Int)), (14, .bool z_)]) h2
        have h2p := of_decide_eq_true h2
        refine cT hA ?_
        refine wp_skip ?_
        refine then_normal ?_
        refine wp_seq ?_
        refine wp_block ?_
        refine rR (l := (rg 0 8)) ?_
        refine ck (l := (rg 0 5)) (r := [5, 6, 7]) (e' := [(0, .slice pL1 ys.length cL1), (4, .slice none 0 0), (5, u64 ((u : Nat) : Int)), (13, u64 ((u : Nat) : Int)), (14, bl true), (17, .slice pL1 ys.length cL1), (18, u64 ((u : Nat) : Int)), (19, u64 (((u : Nat) : Int) % 128)), (20, u64 (128 + (((u : Nat) : Int) % 128))), (21, u8 (IntKind.u8.wrap (128 + (((u : Nat) : Int) % 128))))]) hA [bl true, bl true, bl false] (cc (⟨by omega, by omega, inK_u64 (by omega) (by omega)⟩ : (0 : Int) ≤ ((u : Nat) : Int) ∧ (0 : Int) < 128 ∧ inK .u64 ((u : Nat) : Int)) (cc ((inK_u64 (by omega) (by omega)) : inK .u64 (128 + (((u : Nat) : Int) % 128))) c0)) ?_
        clear hA fr; intro fr hA
        refine wpOps_cons' (mN (l := [u8 (IntKind.u8.wrap (128 + (((u : Nat) : Int) % 128)))]) (t := 5) (v := fun b => .slice (some ⟨b, 0, none⟩) 1 1) (d := 22) hA hO ?_)
        clear hA hO fr; intro fr w2 b1 hA hO
        replace hO : Ow Tryd.prog (inT T) w w2 ([(b1, 5, [u8 (IntKind.u8.wrap (128 + (((u : Nat) : Int) % 128)))])] ++ (TL1 ++ ([]))) := hO
        refine wpOps_cons' (mA (f := fB) (el := 5) (sz := 1) (bytes := 1) (p := pL1) (c := cL1) (l := ys) (l' := [IntKind.u8.wrap (128 + (((u : Nat) : Int) % 128))]) (T := TL1) (t := 22) (tx := 22) (ty := 22) (x := .slice (some ⟨b1, 0, none⟩) 1 1) (d := 23) [(b1, 5, [u8 (IntKind.u8.wrap (128 + (((u : Nat) : Int) % 128)))])] ([]) encB hA hO hTL1 (Vw.src (e' := 5) encB ((hO.b 0).vw (off := 0) (xs := [IntKind.u8.wrap (128 + (((u : Nat) : Int) % 128))]) (by kernel_rfl)) (by kernel_rfl)) (by first | omega | (simp only [List.length_append, List.length_cons, List.length_nil]; omega)) (by unfold maxLen; first | omega | (simp only [List.length_append, List.length_cons, List.length_nil]; omega)) ?_)
        clear hA hO fr; intro fr w3 p1 c1 T1 hA hO hT1
        have huT1 : U8s (ys ++ ([IntKind.u8.wrap (128 + (((u : Nat) : Int) % 128))])) := (U8s.app huL1 (U8s.cons (wrap_inK .u8 _) U8s.nil))
        refine ck (l := [7]) (r := []) (e' := [(0, .slice p1 ((ys ++ ([IntKind.u8.wrap (128 + (((u : Nat) : Int) % 128))])).length) c1), (4, .slice none 0 0), (5, u64 ((u : Nat) : Int)), (13, u64 ((u : Nat) : Int)), (14, bl true), (17, .slice pL1 ys.length cL1), (18, u64 ((u : Nat) : Int)), (19, u64 (((u : Nat) : Int) % 128)), (20, u64 (128 + (((u : Nat) : Int) % 128))), (21, u8 (IntKind.u8.wrap (128 + (((u : Nat) : Int) % 128)))), (22, .slice (some ⟨b1, 0, none⟩) 1 1), (23, .slice p1 ((ys ++ ([IntKind.u8.wrap (128 + (((u : Nat) : Int) % 128))])).length) c1)]) hA [] c0 ?_
        clear hA fr; intro fr hA
        refine end_ops ?_
        refine inBlock_normal ?_
        refine then_normal ?_
        refine rC (e' := [(0, .slice p1 ((ys ++ ([IntKind.u8.wrap (128 + (((u : Nat) : Int) % 128))])).length) c1), (4, .slice none 0 0), (5, u64 (((u : Nat) : Int) / 128)), (13, u64 ((u : Nat) : Int)), (14, bl true), (15, u64 ((u : Nat) : Int)), (16, u64 (((u : Nat) : Int) / 128)), (17, .slice pL1 ys.length cL1), (18, u64 ((u : Nat) : Int)), (19, u64 (((u : Nat) : Int) % 128)), (20, u64 (128 + (((u : Nat) : Int) % 128))), (21, u8 (IntKind.u8.wrap (128 + (((u : Nat) : Int) % 128)))), (22, .slice (some ⟨b1, 0, none⟩) 1 1), (23, .slice p1 ((ys ++ ([IntKind.u8.wrap (128 + (((u : Nat) : Int) % 128))])).length) c1)]) 3 hA [bl true] (cc (⟨by omega, by omega, inK_u64 (by omega) (by omega)⟩ : (0 : Int) ≤ ((u : Nat) : Int) ∧ (0 : Int) < 128 ∧ inK .u64 ((u : Nat) : Int)) c0) ?_
        clear hA fr; intro fr hA
        replace hA := hA.int (f := fun z_ => [(0, .slice p1 ((ys ++ ([IntKind.u8.wrap (128 + (((u : Nat) : Int) % 128))])).length) c1), (4, .slice none 0 0), (5, .int .u64 z_), (13, u64 ((u : Nat) : Int)), (14, bl true), (15, u64 ((u : Nat) : Int)), (16, .int .u64 z_), (17, .slice pL1 ys.length cL1), (18, u64 ((u : Nat) : Int)), (19, u64 (((u : Nat) : Int) % 128)), (20, u64 (128 + (((u : Nat) : Int) % 128))), (21, u8 (IntKind.u8.wrap (128 + (((u : Nat) : Int) % 128)))), (22, .slice (some ⟨b1, 0, none⟩) 1 1), (23, .slice p1 ((ys ++ ([IntKind.u8.wrap (128 + (((u : Nat) : Int) % 128))])).length) c1)]) (by omega : ((u : Nat) : Int) / 128 = ((u / 128 : Nat) : Int))
        refine then_normal ?_
        have hk2 : k ≠ 0 := by rintro rfl; simp only [Nat.zero_add, Nat.pow_one] at hk; omega
        obtain ⟨m, rfl⟩ : ∃ m, k = m + 1 := ⟨k - 1, by omega⟩
        exact ⟨_, by omega, u / 128, m, ys ++ ([IntKind.u8.wrap (128 + (((u : Nat) : Int) % 128))]), p1, c1, T1, rfl, (hA.sub (e' := [(0, .slice p1 ((ys ++ ([IntKind.u8.wrap (128 + (((u : Nat) : Int) % 128))])).length) c1), (4, .slice none 0 0), (5, u64 ((u / 128 : Nat) : Int))]) [0, 4, 5] (by kernel_rfl)).cast (by kernel_rfl), (Ow.subP (A := [(b1, 5, [u8 (IntKind.u8.wrap (128 + (((u : Nat) : Int) % 128)))])]) (A' := []) (B := T1 ++ ([])) hO (.cons _ .slnil)), hT1, huT1, (by rw [Nat.pow_succ] at hk; exact Nat.div_lt_of_lt_mul (by rw [Nat.mul_comm]; exact hk)), (by rw [← hg, grp_more (m := m + 1) (u := u) (by omega), List.append_assoc]; rfl), (by simp only [List.length_append, List.length_cons, List.length_nil]; omega), (by omega), trivial⟩
      ·
        replace hA := hA.bool (f := fun z_ => [(0, .slice pL1 ys.length cL1), (4, .slice none 0 0), (5, u64 ((u : Nat) : Int)), (13, u64 ((u : Nat) : Int)), (14, .bool z_)]) h2
        have h2p := of_decide_eq_false h2
        refine cF hA ?_
        refine wp_exit ?_
        refine then_exit ?_
        refine then_exit ?_
        refine inBlock_exit ?_
        refine then_normal ?_
        refine sR (l := (rg 0 6)) ?_
        refine ck (l := [0, 1, 2]) (r := [3, 4, 5]) (e' := [(4, .slice none 0 0), (24, .slice pL1 ys.length cL1), (26, u8 (IntKind.u8.wrap ((u : Nat) : Int)))]) hA [bl false] c0 ?_
        clear hA fr; intro fr hA
        refine wpOps_cons' (mN (l := [u8 (IntKind.u8.wrap ((u : Nat) : Int))]) (t := 5) (v := fun b => .slice (some ⟨b, 0, none⟩) 1 1) (d := 27) hA hO ?_)
        clear hA hO fr; intro fr w4 b2 hA hO
        replace hA := hA.sb (e' := [(4, .slice none 0 0), (24, .slice pL1 ys.length cL1), (27, .slice (some ⟨b2, 0, none⟩) 1 1)])
        replace hO : Ow Tryd.prog (inT T) w w4 ([(b2, 5, [u8 (IntKind.u8.wrap ((u : Nat) : Int))])] ++ (TL1 ++ ([]))) := hO
        refine wpOps_cons' (mA (f := fB) (el := 5) (sz := 1) (bytes := 1) (p := pL1) (c := cL1) (l := ys) (l' := [IntKind.u8.wrap ((u : Nat) : Int)]) (T := TL1) (t := 22) (tx := 22) (ty := 22) (x := .slice (some ⟨b2, 0, none⟩) 1 1) (d := 28) [(b2, 5, [u8 (IntKind.u8.wrap ((u : Nat) : Int))])] ([]) encB hA hO hTL1 (Vw.src (e' := 5) encB ((hO.b 0).vw (off := 0) (xs := [IntKind.u8.wrap ((u : Nat) : Int)]) (by kernel_rfl)) (by kernel_rfl)) (by first | omega | (simp only [List.length_append, List.length_cons, List.length_nil]; omega)) (by unfold maxLen; first | omega | (simp only [List.length_append, List.length_cons, List.length_nil]; omega)) ?_)
        clear hA hO fr; intro fr w5 p2 c2 T2 hA hO hT2
        have huT2 : U8s (ys ++ ([IntKind.u8.wrap ((u : Nat) : Int)])) := (U8s.app huL1 (U8s.cons (wrap_inK .u8 _) U8s.nil))
        replace hA := hA.sb (e' := [(4, .slice none 0 0), (28, .slice p2 ((ys ++ ([IntKind.u8.wrap ((u : Nat) : Int)])).length) c2)])
        refine ck (l := [5]) (r := []) (e' := [(4, .slice p2 ((ys ++ ([IntKind.u8.wrap ((u : Nat) : Int)])).length) c2)]) hA [] c0 ?_
        clear hA fr; intro fr hA
        refine end_ops ?_
        refine then_normal ?_
        refine wp_ret ?_
        refine cR (cs := [none]) (us := [.slice p2 ((ys ++ ([IntKind.u8.wrap ((u : Nat) : Int)])).length) c2]) hA [] trivial ?_
        have eQ : (ys ++ ([IntKind.u8.wrap ((u : Nat) : Int)])) = (xs ++ encI x) := by rw [← hg, grp_last (by omega)]
        exact ⟨_, _, _, by rw [← eQ]; rfl, Ow.just (A := [(b2, 5, [u8 (IntKind.u8.wrap ((u : Nat) : Int))])]) (T := T2) (B := []) hO, eQ ▸ hT2⟩
  ·
    replace hA := hA.bool (f := fun z_ => [(0, .slice p xs.length c), (4, .slice none 0 0), (5, u64 (IntKind.u64.wrap ((IntKind.u64.wrap x) * 2))), (10, .bool z_)]) h1
    have h1p := of_decide_eq_false h1
    refine cF hA ?_
    refine wp_skip ?_
    refine then_normal ?_
    refine wp_seq ?_
    refine wp_block ?_
    refine c_loop (fun mm fr W => ∃ (u k : Nat) (ys : List Int) (pL2 : Option Addr) (cL2 : Nat) (TL2 : OwL), mm = 2 * u ∧ Holds 29 [] fr [(0, .slice pL2 ys.length cL2), (4, .slice none 0 0), (5, u64 ((u : Nat) : Int))] ∧ Ow Tryd.prog (inT T) w W ([] ++ (TL2 ++ ([]))) ∧ One fB 5 1 pL2 cL2 ys TL2 ∧ U8s ys ∧ u < 128 ^ (k + 1) ∧ ys ++ grp (k + 1) u = xs ++ encI x ∧ ys.length + k ≤ xs.length + 9 ∧ u < 18446744073709551616 ∧ True) ?_ ?_
    · exact ⟨_, zig x, 9, xs, p, c, T, rfl, (hA.sub (e' := [(0, .slice p xs.length c), (4, .slice none 0 0), (5, u64 (IntKind.u64.wrap ((IntKind.u64.wrap x) * 2)))]) [0, 4, 5] (by kernel_rfl)).cast (by simp only [zig_pos hx (by omega)]), (hO : Ow Tryd.prog (inT T) w _ ([] ++ (T ++ ([])))), hT, hu, (by have := zig_lt hx; omega), rfl, (by omega), (zig_lt hx), trivial⟩
    · rintro _ fr w6 ⟨u, k, ys, pL2, cL2, TL2, rfl, hA, hO, hTL2, huL2, hk, hg, hl, hu64, -⟩
      refine wp_seq ?_
      refine sC (e' := [(0, .slice pL2 ys.length cL2), (4, .slice none 0 0), (5, u64 ((u : Nat) : Int)), (13, u64 ((u : Nat) : Int)), (14, bl (decide (((u : Nat) : Int) ≥ 128)))]) 2 hA [] c0 ?_
      clear hA fr; intro fr hA
      rcases Bool.eq_false_or_eq_true (decide (((u : Nat) : Int) ≥ 128)) with h3 | h3
      ·
        replace hA := hA.bool (f := fun z_ => [(0, .slice pL2 ys.length cL2), (4, .slice none 0 0), (5, u64 ((u : Nat) : Int)), (13, u64 ((u : Nat) : Int)), (14, .bool z_)]) h3
        have h3p := of_decide_eq_true h3
        refine cT hA ?_
        refine wp_skip ?_
        refine then_normal ?_
        refine wp_seq ?_
        refine wp_block ?_
        refine rR (l := (rg 0 8)) ?_
        refine ck (l := (rg 0 5)) (r := [5, 6, 7]) (e' := [(0, .slice pL2 ys.length cL2), (4, .slice none 0 0), (5, u64 ((u : Nat) : Int)), (13, u64 ((u : Nat) : Int)), (14, bl true), (17, .slice pL2 ys.length cL2), (18, u64 ((u : Nat) : Int)), (19, u64 (((u : Nat) : Int) % 128)), (20, u64 (128 + (((u : Nat) : Int) % 128))), (21, u8 (IntKind.u8.wrap (128 + (((u : Nat) : Int) % 128))))]) hA [bl true, bl true, bl false] (cc (⟨by omega, by omega, inK_u64 (by omega) (by omega)⟩ : (0 : Int) ≤ ((u : Nat) : Int) ∧ (0 : Int) < 128 ∧ inK .u64 ((u : Nat) : Int)) (cc ((inK_u64 (by omega) (by omega)) : inK .u64 (128 + (((u : Nat) : Int) % 128))) c0)) ?_
        clear hA fr; intro fr hA
        refine wpOps_cons' (mN (l := [u8 (IntKind.u8.wrap (128 + (((u : Nat) : Int) % 128)))]) (t := 5) (v := fun b => .slice (some ⟨b, 0, none⟩) 1 1) (d := 22) hA hO ?_)
        clear hA hO fr; intro fr w7 b3 hA hO
        replace hO : Ow Tryd.prog (inT T) w w7 ([(b3, 5, [u8 (IntKind.u8.wrap (128 + (((u : Nat) : Int) % 128)))])] ++ (TL2 ++ ([]))) := hO
        refine wpOps_cons' (mA (f := fB) (el := 5) (sz := 1) (bytes := 1) (p := pL2) (c := cL2) (l := ys) (l' := [IntKind.u8.wrap (128 + (((u : Nat) : Int) % 128))]) (T := TL2) (t := 22) (tx := 22) (ty := 22) (x := .slice (some ⟨b3, 0, none⟩) 1 1) (d := 23) [(b3, 5, [u8 (IntKind.u8.wrap (128 + (((u : Nat) : Int) % 128)))])] ([]) encB hA hO hTL2 (Vw.src (e' := 5) encB ((hO.b 0).vw (off := 0) (xs := [IntKind.u8.wrap (128 + (((u : Nat) : Int) % 128))]) (by kernel_rfl)) (by kernel_rfl)) (by first | omega | (simp only [List.length_append, List.length_cons, List.length_nil]; omega)) (by unfold maxLen; first | omega | (simp only [List.length_append, List.length_cons, List.length_nil]; omega)) ?_)
        clear hA hO fr; intro fr w8 p3 c3 T3 hA hO hT3
        have huT3 : U8s (ys ++ ([IntKind.u8.wrap (128 + (((u : Nat) : Int) % 128))])) := (U8s.app huL2 (U8s.cons (wrap_inK .u8 _) U8s.nil))
        refine ck (l := [7]) (r := []) (e' := [(0, .slice p3 ((ys ++ ([IntKind.u8.wrap (128 + (((u : Nat) : Int) % 128))])).length) c3), (4, .slice none 0 0), (5, u64 ((u : Nat) : Int)), (13, u64 ((u : Nat) : Int)), (14, bl true), (17, .slice pL2 ys.length cL2), (18, u64 ((u : Nat) : Int)), (19, u64 (((u : Nat) : Int) % 128)), (20, u64 (128 + (((u : Nat) : Int) % 128))), (21, u8 (IntKind.u8.wrap (128 + (((u : Nat) : Int) % 128)))), (22, .slice (some ⟨b3, 0, none⟩) 1 1), (23, .slice p3 ((ys ++ ([IntKind.u8.wrap (128 + (((u : Nat) : Int) % 128))])).length) c3)]) hA [] c0 ?_
        clear hA fr; intro fr hA
        refine end_ops ?_
        refine inBlock_normal ?_
        refine then_normal ?_
        refine rC (e' := [(0, .slice p3 ((ys ++ ([IntKind.u8.wrap (128 + (((u : Nat) : Int) % 128))])).length) c3), (4, .slice none 0 0), (5, u64 (((u : Nat) : Int) / 128)), (13, u64 ((u : Nat) : Int)), (14, bl true), (15, u64 ((u : Nat) : Int)), (16, u64 (((u : Nat) : Int) / 128)), (17, .slice pL2 ys.length cL2), (18, u64 ((u : Nat) : Int)), (19, u64 (((u : Nat) : Int) % 128)), (20, u64 (128 + (((u : Nat) : Int) % 128))), (21, u8 (IntKind.u8.wrap (128 + (((u : Nat) : Int) % 128)))), (22, .slice (some ⟨b3, 0, none⟩) 1 1), (23, .slice p3 ((ys ++ ([IntKind.u8.wrap (128 + (((u : Nat) : Int) % 128))])).length) c3)]) 3 hA [bl true] (cc (⟨by omega, by omega, inK_u64 (by omega) (by omega)⟩ : (0 : Int) ≤ ((u : Nat) : Int) ∧ (0 : Int) < 128 ∧ inK .u64 ((u : Nat) : Int)) c0) ?_
        clear hA fr; intro fr hA
        replace hA := hA.int (f := fun z_ => [(0, .slice p3 ((ys ++ ([IntKind.u8.wrap (128 + (((u : Nat) : Int) % 128))])).length) c3), (4, .slice none 0 0), (5, .int .u64 z_), (13, u64 ((u : Nat) : Int)), (14, bl true), (15, u64 ((u : Nat) : Int)), (16, .int .u64 z_), (17, .slice pL2 ys.length cL2), (18, u64 ((u : Nat) : Int)), (19, u64 (((u : Nat) : Int) % 128)), (20, u64 (128 + (((u : Nat) : Int) % 128))), (21, u8 (IntKind.u8.wrap (128 + (((u : Nat) : Int) % 128)))), (22, .slice (some ⟨b3, 0, none⟩) 1 1), (23, .slice p3 ((ys ++ ([IntKind.u8.wrap (128 + (((u : Nat) : Int) % 128))])).length) c3)]) (by omega : ((u : Nat) : Int) / 128 = ((u / 128 : Nat) : Int))
        refine then_normal ?_
        have hk2 : k ≠ 0 := by rintro rfl; simp only [Nat.zero_add, Nat.pow_one] at hk; omega
        obtain ⟨m, rfl⟩ : ∃ m, k = m + 1 := ⟨k - 1, by omega⟩
        exact ⟨_, by omega, u / 128, m, ys ++ ([IntKind.u8.wrap (128 + (((u : Nat) : Int) % 128))]), p3, c3, T3, rfl, (hA.sub (e' := [(0, .slice p3 ((ys ++ ([IntKind.u8.wrap (128 + (((u : Nat) : Int) % 128))])).length) c3), (4, .slice none 0 0), (5, u64 ((u / 128 : Nat) : Int))]) [0, 4, 5] (by kernel_rfl)).cast (by kernel_rfl), (Ow.subP (A := [(b3, 5, [u8 (IntKind.u8.wrap (128 + (((u : Nat) : Int) % 128)))])]) (A' := []) (B := T3 ++ ([])) hO (.cons _ .slnil)), hT3, huT3, (by rw [Nat.pow_succ] at hk; exact Nat.div_lt_of_lt_mul (by rw [Nat.mul_comm]; exact hk)), (by rw [← hg, grp_more (m := m + 1) (u := u) (by omega), List.append_assoc]; rfl), (by simp only [List.length_append, List.length_cons, List.length_nil]; omega), (by omega), trivial⟩
      ·
        replace hA := hA.bool (f := fun z_ => [(0, .slice pL2 ys.length cL2), (4, .slice none 0 0), (5, u64 ((u : Nat) : Int)), (13, u64 ((u : Nat) : Int)), (14, .bool z_)]) h3
        have h3p := of_decide_eq_false h3
        refine cF hA ?_
        refine wp_exit ?_
        refine then_exit ?_
        refine then_exit ?_
        refine inBlock_exit ?_
        refine then_normal ?_
        refine sR (l := (rg 0 6)) ?_
        refine ck (l := [0, 1, 2]) (r := [3, 4, 5]) (e' := [(4, .slice none 0 0), (24, .slice pL2 ys.length cL2), (26, u8 (IntKind.u8.wrap ((u : Nat) : Int)))]) hA [bl false] c0 ?_
        clear hA fr; intro fr hA
        refine wpOps_cons' (mN (l := [u8 (IntKind.u8.wrap ((u : Nat) : Int))]) (t := 5) (v := fun b => .slice (some ⟨b, 0, none⟩) 1 1) (d := 27) hA hO ?_)
        clear hA hO fr; intro fr w9 b4 hA hO
        replace hA := hA.sb (e' := [(4, .slice none 0 0), (24, .slice pL2 ys.length cL2), (27, .slice (some ⟨b4, 0, none⟩) 1 1)])
        replace hO : Ow Tryd.prog (inT T) w w9 ([(b4, 5, [u8 (IntKind.u8.wrap ((u : Nat) : Int))])] ++ (TL2 ++ ([]))) := hO
        refine wpOps_cons' (mA (f := fB) (el := 5) (sz := 1) (bytes := 1) (p := pL2) (c := cL2) (l := ys) (l' := [IntKind.u8.wrap ((u : Nat) : Int)]) (T := TL2) (t := 22) (tx := 22) (ty := 22) (x := .slice (some ⟨b4, 0, none⟩) 1 1) (d := 28) [(b4, 5, [u8 (IntKind.u8.wrap ((u : Nat) : Int))])] ([]) encB hA hO hTL2 (Vw.src (e' := 5) encB ((hO.b 0).vw (off := 0) (xs := [IntKind.u8.wrap ((u : Nat) : Int)]) (by kernel_rfl)) (by kernel_rfl)) (by first | omega | (simp only [List.length_append, List.length_cons, List.length_nil]; omega)) (by unfold maxLen; first | omega | (simp only [List.length_append, List.length_cons, List.length_nil]; omega)) ?_)
        clear hA hO fr; intro fr w10 p4 c4 T4 hA hO hT4
        have huT4 : U8s (ys ++ ([IntKind.u8.wrap ((u : Nat) : Int)])) := (U8s.app huL2 (U8s.cons (wrap_inK .u8 _) U8s.nil))
        replace hA := hA.sb (e' := [(4, .slice none 0 0), (28, .slice p4 ((ys ++ ([IntKind.u8.wrap ((u : Nat) : Int)])).length) c4)])
        refine ck (l := [5]) (r := []) (e' := [(4, .slice p4 ((ys ++ ([IntKind.u8.wrap ((u : Nat) : Int)])).length) c4)]) hA [] c0 ?_
        clear hA fr; intro fr hA
        refine end_ops ?_
        refine then_normal ?_
        refine wp_ret ?_
        refine cR (cs := [none]) (us := [.slice p4 ((ys ++ ([IntKind.u8.wrap ((u : Nat) : Int)])).length) c4]) hA [] trivial ?_
        have eQ : (ys ++ ([IntKind.u8.wrap ((u : Nat) : Int)])) = (xs ++ encI x) := by rw [← hg, grp_last (by omega)]
        exact ⟨_, _, _, by rw [← eQ]; rfl, Ow.just (A := [(b4, 5, [u8 (IntKind.u8.wrap ((u : Nat) : Int))])]) (T := T4) (B := []) hO, eQ ▸ hT4⟩

end Go.Proofs.YtkfnkcpdabdboaaDoor
