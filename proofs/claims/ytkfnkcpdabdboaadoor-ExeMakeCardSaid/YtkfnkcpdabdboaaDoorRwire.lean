/- The layer exe: the reference: numbers and bytes. -/
import Derived.Test.YtkfnkcpdabdboaaDoorRvalid
set_option linter.unusedVariables false
set_option linter.unusedSimpArgs false
set_option maxRecDepth 10000
namespace Go.Proofs.YtkfnkcpdabdboaaDoor
open Go Go.RowKit Go.Proofs.Sx

theorem rgrp_last (u k : Nat) (w : World) (hu : u < 128) :
    Calls Tryd.prog 41 #[u64 ((u : Nat) : Int)] w fun e w' => ∃ p c T, e = .returned (.slice p (grp (k + 1) u).length c) ∧ Ow Tryd.prog none' w w' T ∧ One fB 5 1 p c (grp (k + 1) u) T := by
  refine c_enter (args := [u64 ((u : Nat) : Int)]) (m := 16) (n := 17) Tryd.func41 rfl (by kernel_rfl) (by kernel_rfl) fun fr hA => ?_
  have hO := Ow.nil Tryd.prog none' w
  refine sC (e' := [(0, u64 ((u : Nat) : Int)), (2, .slice none 0 0)]) 1 hA [] c0 ?_
  clear hA fr; intro fr hA
  refine wp_seq ?_
  refine sC (e' := [(0, u64 ((u : Nat) : Int)), (2, .slice none 0 0), (4, bl (decide (((u : Nat) : Int) < 128)))]) 2 hA [] c0 ?_
  clear hA fr; intro fr hA
  rcases Bool.eq_false_or_eq_true (decide (((u : Nat) : Int) < 128)) with h1 | h1
  ·
    replace hA := hA.bool (f := fun z_ => [(0, u64 ((u : Nat) : Int)), (2, .slice none 0 0), (4, .bool z_)]) h1
    have h1p := of_decide_eq_true h1
    refine cT hA ?_
    refine sR (l := [0, 1, 2, 3]) ?_
    refine ck (l := [0, 1]) (r := [2, 3]) (e' := [(0, u64 ((u : Nat) : Int)), (2, .slice none 0 0), (6, u8 (IntKind.u8.wrap ((u : Nat) : Int)))]) hA [bl false] c0 ?_
    clear hA fr; intro fr hA
    refine wpOps_cons' (mN (l := [u8 (IntKind.u8.wrap ((u : Nat) : Int))]) (t := 5) (v := fun b => .slice (some ⟨b, 0, none⟩) 1 1) (d := 7) hA hO ?_)
    clear hA hO fr; intro fr w1 b1 hA hO
    replace hA := hA.sb (e' := [(0, u64 ((u : Nat) : Int)), (2, .slice none 0 0), (7, .slice (some ⟨b1, 0, none⟩) 1 1)])
    refine ck (l := [3]) (r := []) (e' := [(0, u64 ((u : Nat) : Int)), (2, .slice (some ⟨b1, 0, none⟩) 1 1)]) hA [] c0 ?_
    clear hA fr; intro fr hA
    refine end_ops ?_
    refine then_normal ?_
    refine wp_ret ?_
    refine then_ret ?_
    refine cR (cs := [none]) (us := [.slice (some ⟨b1, 0, none⟩) 1 1]) hA [] trivial ?_
    have hT1 : One fB 5 1 (some ⟨b1, 0, none⟩) 1 [IntKind.u8.wrap ((u : Nat) : Int)] [(b1, 5, [u8 (IntKind.u8.wrap ((u : Nat) : Int))])] := One.ofBlk (r := []) (by kernel_rfl) (by first | decide | simp) (by decide) (by kernel_rfl)
    replace hO := Ow.move (A := []) (B := []) (C := []) (x := (b1, 5, [u8 (IntKind.u8.wrap ((u : Nat) : Int))])) hO
    replace hO : Ow Tryd.prog none' w w1 ([] ++ ([(b1, 5, [u8 (IntKind.u8.wrap ((u : Nat) : Int))])] ++ ([]))) := hO.to (by simp only [List.append_assoc, List.cons_append, List.nil_append, List.append_nil])
    replace hO : Ow Tryd.prog none' w w1 ([] ++ ([(b1, 5, [u8 (IntKind.u8.wrap ((u : Nat) : Int))])] ++ ([]))) := hO
    have eQ : ([IntKind.u8.wrap ((u : Nat) : Int)]) = (grp (k + 1) u) := by rw [grp_last hu]
    exact ⟨_, _, _, by rw [← eQ]; rfl, Ow.just (A := []) (T := [(b1, 5, [u8 (IntKind.u8.wrap ((u : Nat) : Int))])]) (B := []) hO, eQ ▸ hT1⟩
  ·
    exfalso; have q_ := of_decide_eq_false h1; omega

theorem rgrp_more (u k : Nat) (w : World) (hu : 128 ≤ u) (hq : u < 128 ^ (k + 2)) (h64 : u < 18446744073709551616) (hk9 : k ≤ 9) (ih : ∀ v, v < 128 ^ (k + 1) → v < 18446744073709551616 → ∀ w, Calls Tryd.prog 41 #[.int .u64 ((v : Nat) : Int)] w fun e w' => ∃ p c T, e = .returned (.slice p (grp (k + 1) v).length c) ∧ Ow Tryd.prog none' w w' T ∧ One fB 5 1 p c (grp (k + 1) v) T) :
    Calls Tryd.prog 41 #[u64 ((u : Nat) : Int)] w fun e w' => ∃ p c T, e = .returned (.slice p (grp (k + 1 + 1) u).length c) ∧ Ow Tryd.prog none' w w' T ∧ One fB 5 1 p c (grp (k + 1 + 1) u) T := by
  refine c_enter (args := [u64 ((u : Nat) : Int)]) (m := 16) (n := 17) Tryd.func41 rfl (by kernel_rfl) (by kernel_rfl) fun fr hA => ?_
  have hO := Ow.nil Tryd.prog none' w
  have lg_ := grp_len (k + 1) (u / 128)
  refine sC (e' := [(0, u64 ((u : Nat) : Int)), (2, .slice none 0 0)]) 1 hA [] c0 ?_
  clear hA fr; intro fr hA
  refine wp_seq ?_
  refine sC (e' := [(0, u64 ((u : Nat) : Int)), (2, .slice none 0 0), (4, bl (decide (((u : Nat) : Int) < 128)))]) 2 hA [] c0 ?_
  clear hA fr; intro fr hA
  rcases Bool.eq_false_or_eq_true (decide (((u : Nat) : Int) < 128)) with h1 | h1
  ·
    exfalso; have q_ := of_decide_eq_true h1; omega
  ·
    replace hA := hA.bool (f := fun z_ => [(0, u64 ((u : Nat) : Int)), (2, .slice none 0 0), (4, .bool z_)]) h1
    have h1p := of_decide_eq_false h1
    refine cF hA ?_
    refine wp_skip ?_
    refine then_normal ?_
    refine sR (l := (rg 0 10)) ?_
    refine ck (l := [0, 1, 2, 3]) (r := (rg 4 6)) (e' := [(0, u64 ((u : Nat) : Int)), (2, .slice none 0 0), (11, u8 (IntKind.u8.wrap (IntKind.u64.wrap (128 + (((u : Nat) : Int) % 128)))))]) hA [bl true, bl false, bl false] (cc (⟨by omega, by omega, inK_u64 (by omega) (by omega)⟩ : (0 : Int) ≤ ((u : Nat) : Int) ∧ (0 : Int) < 128 ∧ inK .u64 ((u : Nat) : Int)) c0) ?_
    clear hA fr; intro fr hA
    refine wpOps_cons' (mN (l := [u8 (IntKind.u8.wrap (IntKind.u64.wrap (128 + (((u : Nat) : Int) % 128))))]) (t := 5) (v := fun b => .slice (some ⟨b, 0, none⟩) 1 1) (d := 12) hA hO ?_)
    clear hA hO fr; intro fr w1 b1 hA hO
    replace hA := hA.sb (e' := [(0, u64 ((u : Nat) : Int)), (2, .slice none 0 0), (12, .slice (some ⟨b1, 0, none⟩) 1 1)])
    refine ck (l := [5, 6]) (r := [7, 8, 9]) (e' := [(2, .slice none 0 0), (12, .slice (some ⟨b1, 0, none⟩) 1 1), (14, u64 (((u : Nat) : Int) / 128))]) hA [bl true] (cc (⟨by omega, by omega, inK_u64 (by omega) (by omega)⟩ : (0 : Int) ≤ ((u : Nat) : Int) ∧ (0 : Int) < 128 ∧ inK .u64 ((u : Nat) : Int)) c0) ?_
    clear hA fr; intro fr hA
    replace hA := hA.int (f := fun z_ => [(2, .slice none 0 0), (12, .slice (some ⟨b1, 0, none⟩) 1 1), (14, .int .u64 z_)]) (by omega : ((u : Nat) : Int) / 128 = ((u / 128 : Nat) : Int))
    refine wpOps_cons' (mC (f := 41) (args := [u64 ((u / 128 : Nat) : Int)]) (d := (some 15)) hA Tryd.func41 ((ih (u / 128) (by rw [Nat.pow_succ] at hq; exact Nat.div_lt_of_lt_mul (by rw [Nat.mul_comm]; exact hq)) (by omega) _).mono ?_))
    rintro en w2 ⟨p1, c1, T1, rfl, hW, hT1⟩
    refine ⟨_, rfl, ?_⟩
    clear hA fr; intro fr hA
    have huT1 : U8s (grp (k + 1) (u / 128)) := grp_u8 _ _
    replace hO : Ow Tryd.prog none' w _ ([(b1, 5, [u8 (IntKind.u8.wrap (IntKind.u64.wrap (128 + (((u : Nat) : Int) % 128))))])]) := hO; replace hO := Ow.join hO hW; clear hW
    replace hO : Ow Tryd.prog none' w w2 ([(b1, 5, [u8 (IntKind.u8.wrap (IntKind.u64.wrap (128 + (((u : Nat) : Int) % 128))))])] ++ (T1 ++ ([]))) := hO.to (by simp only [List.append_assoc, List.cons_append, List.nil_append, List.append_nil])
    replace hA := hA.sb (e' := [(2, .slice none 0 0), (12, .slice (some ⟨b1, 0, none⟩) 1 1), (15, .slice p1 ((grp (k + 1) (u / 128)).length) c1)])
    have hT2 : One fB 5 1 (some ⟨b1, 0, none⟩) 1 [IntKind.u8.wrap (IntKind.u64.wrap (128 + (((u : Nat) : Int) % 128)))] [(b1, 5, [u8 (IntKind.u8.wrap (IntKind.u64.wrap (128 + (((u : Nat) : Int) % 128))))])] := One.ofBlk (r := []) (by kernel_rfl) (by first | decide | simp) (by decide) (by kernel_rfl)
    replace hO := Ow.move (A := []) (B := []) (C := T1 ++ ([])) (x := (b1, 5, [u8 (IntKind.u8.wrap (IntKind.u64.wrap (128 + (((u : Nat) : Int) % 128))))])) hO
    replace hO : Ow Tryd.prog none' w w2 ([] ++ ([(b1, 5, [u8 (IntKind.u8.wrap (IntKind.u64.wrap (128 + (((u : Nat) : Int) % 128))))])] ++ (T1 ++ ([])))) := hO.to (by simp only [List.append_assoc, List.cons_append, List.nil_append, List.append_nil])
    replace hO : Ow Tryd.prog none' w w2 ([] ++ ([(b1, 5, [u8 (IntKind.u8.wrap (IntKind.u64.wrap (128 + (((u : Nat) : Int) % 128))))])] ++ (T1 ++ ([])))) := hO
    refine wpOps_cons' (mA (f := fB) (el := 5) (sz := 1) (bytes := 1) (p := some ⟨b1, 0, none⟩) (c := 1) (l := [IntKind.u8.wrap (IntKind.u64.wrap (128 + (((u : Nat) : Int) % 128)))]) (l' := grp (k + 1) (u / 128)) (T := [(b1, 5, [u8 (IntKind.u8.wrap (IntKind.u64.wrap (128 + (((u : Nat) : Int) % 128))))])]) (t := 22) (tx := 22) (ty := 22) (x := .slice p1 ((grp (k + 1) (u / 128)).length) c1) (d := 16) [] (T1 ++ ([])) encB hA hO hT2 (Vw.src (e' := 5) encB (hT1.vw (A := ([] ++ ([(b1, 5, [u8 (IntKind.u8.wrap (IntKind.u64.wrap (128 + (((u : Nat) : Int) % 128))))])] ++ ([])))) (B := []) (hO.to (by simp only [List.append_assoc, List.cons_append, List.nil_append, List.append_nil]) : Ow Tryd.prog none' w _ (([] ++ ([(b1, 5, [u8 (IntKind.u8.wrap (IntKind.u64.wrap (128 + (((u : Nat) : Int) % 128))))])] ++ ([]))) ++ (T1 ++ ([])))).m) (by kernel_rfl)) (by first | omega | (simp only [List.length_append, List.length_cons, List.length_nil]; omega)) (by unfold maxLen; first | omega | (simp only [List.length_append, List.length_cons, List.length_nil]; omega)) ?_)
    clear hA hO fr; intro fr w3 p2 c2 T3 hA hO hT3
    have huT3 : U8s (([IntKind.u8.wrap (IntKind.u64.wrap (128 + (((u : Nat) : Int) % 128)))]) ++ (grp (k + 1) (u / 128))) := (U8s.app (U8s.cons (wrap_inK .u8 _) U8s.nil) huT1)
    replace hA := hA.sb (e' := [(2, .slice none 0 0), (16, .slice p2 ((([IntKind.u8.wrap (IntKind.u64.wrap (128 + (((u : Nat) : Int) % 128)))]) ++ (grp (k + 1) (u / 128))).length) c2)])
    refine ck (l := [9]) (r := []) (e' := [(2, .slice p2 ((([IntKind.u8.wrap (IntKind.u64.wrap (128 + (((u : Nat) : Int) % 128)))]) ++ (grp (k + 1) (u / 128))).length) c2)]) hA [] c0 ?_
    clear hA fr; intro fr hA
    refine end_ops ?_
    refine then_normal ?_
    refine wp_ret ?_
    refine cR (cs := [none]) (us := [.slice p2 ((([IntKind.u8.wrap (IntKind.u64.wrap (128 + (((u : Nat) : Int) % 128)))]) ++ (grp (k + 1) (u / 128))).length) c2]) hA [] trivial ?_
    have eQ : (([IntKind.u8.wrap (IntKind.u64.wrap (128 + (((u : Nat) : Int) % 128)))]) ++ (grp (k + 1) (u / 128))) = (grp (k + 1 + 1) u) := by rw [grp_more hu, u64_mod, show (128 + ((u : Nat) : Int) % 128) % 18446744073709551616 = 128 + ((u : Nat) : Int) % 128 by omega]; rfl
    exact ⟨_, _, _, by rw [← eQ]; rfl, Ow.just (A := []) (T := T3) (B := T1 ++ ([])) hO, eQ ▸ hT3⟩

theorem rgrp_any : ∀ (k u : Nat), k ≤ 10 → u < 128 ^ (k + 1) → u < 18446744073709551616 → ∀ w : World, Calls Tryd.prog 41 #[.int .u64 ((u : Nat) : Int)] w fun e w' => ∃ p c T, e = .returned (.slice p (grp (k + 1) u).length c) ∧ Ow Tryd.prog none' w w' T ∧ One fB 5 1 p c (grp (k + 1) u) T
  | 0, u, _, h, _, w => rgrp_last u 0 w (by simpa using h)
  | k + 1, u, hk, h, h6, w => by
    by_cases hu : u < 128
    · exact rgrp_last u (k + 1) w hu
    · exact rgrp_more u k w (by omega) h h6 (by omega) fun v hv h6 w => rgrp_any k v (by omega) hv h6 w

theorem rzig_pos {n : Int} (h : inK .i64 n) (h0 : ¬ n < 0) : IntKind.u64.wrap (2 * (IntKind.u64.wrap n)) = ((zig n : Nat) : Int) := by
  have h1 : -9223372036854775808 ≤ n ∧ n ≤ 9223372036854775807 := h
  rw [u64_mod, u64_mod]; unfold zig; rw [if_neg h0]; omega
theorem rzig_neg {n : Int} (h : inK .i64 n) (h0 : n < 0) : IntKind.u64.wrap ((IntKind.u64.wrap (2 * (IntKind.u64.wrap (0 - (n + 1))))) + 1) = ((zig n : Nat) : Int) := by
  have h1 : -9223372036854775808 ≤ n ∧ n ≤ 9223372036854775807 := h
  rw [u64_mod, u64_mod, u64_mod]; unfold zig; rw [if_pos h0]; omega

theorem rint_any (x : Int) (w : World) (hx : inK .i64 x) :
    Calls Tryd.prog 28 #[i64 x] w fun e w' => ∃ p c T, e = .returned (.slice p (encI x).length c) ∧ Ow Tryd.prog none' w w' T ∧ One fB 5 1 p c (encI x) T := by
  refine c_enter (args := [i64 x]) (m := 15) (n := 16) Tryd.func28 rfl (by kernel_rfl) (by kernel_rfl) fun fr hA => ?_
  have hO := Ow.nil Tryd.prog none' w
  have hxb : -9223372036854775808 ≤ x ∧ x ≤ 9223372036854775807 := hx
  refine sC (e' := [(0, i64 x), (2, .slice none 0 0)]) 1 hA [] c0 ?_
  clear hA fr; intro fr hA
  refine wp_seq ?_
  refine sC (e' := [(0, i64 x), (2, .slice none 0 0), (4, bl (decide (x < 0)))]) 2 hA [] c0 ?_
  clear hA fr; intro fr hA
  rcases Bool.eq_false_or_eq_true (decide (x < 0)) with h1 | h1
  ·
    replace hA := hA.bool (f := fun z_ => [(0, i64 x), (2, .slice none 0 0), (4, .bool z_)]) h1
    have h1p := of_decide_eq_true h1
    refine cT hA ?_
    refine sR (l := (rg 0 8)) ?_
    refine ck (l := (rg 0 6)) (r := [6, 7]) (e' := [(0, i64 x), (2, .slice none 0 0), (10, u64 (IntKind.u64.wrap ((IntKind.u64.wrap (2 * (IntKind.u64.wrap (0 - (x + 1))))) + 1)))]) hA [bl true, bl true, bl false, bl false, bl false] (cc ((inK_i64 (by omega) (by omega)) : inK .i64 (x + 1)) (cc ((inK_i64 (by omega) (by omega)) : inK .i64 (0 - (x + 1))) c0)) ?_
    clear hA fr; intro fr hA
    replace hA := hA.int (f := fun z_ => [(0, i64 x), (2, .slice none 0 0), (10, .int .u64 z_)]) (rzig_neg hx (by omega) : IntKind.u64.wrap ((IntKind.u64.wrap (2 * (IntKind.u64.wrap (0 - (x + 1))))) + 1) = ((zig x : Nat) : Int))
    refine wpOps_cons' (mC (f := 41) (args := [u64 ((zig x : Nat) : Int)]) (d := (some 11)) hA Tryd.func41 ((rgrp_any 9 (zig x) (by omega) (by have := zig_lt hx; omega) (zig_lt hx) _).mono ?_))
    rintro en w1 ⟨p1, c1, T1, rfl, hW, hT1⟩
    refine ⟨_, rfl, ?_⟩
    clear hA fr; intro fr hA
    have huT1 : U8s (encI x) := encI_u8 _
    replace hO : Ow Tryd.prog none' w _ ([]) := hO; replace hO := Ow.join hO hW; clear hW
    replace hO : Ow Tryd.prog none' w w1 ([] ++ (T1 ++ ([]))) := hO.to (by simp only [List.append_assoc, List.cons_append, List.nil_append, List.append_nil])
    replace hA := hA.sb (e' := [(0, i64 x), (2, .slice none 0 0), (11, .slice p1 ((encI x).length) c1)])
    refine ck (l := [7]) (r := []) (e' := [(0, i64 x), (2, .slice p1 ((encI x).length) c1)]) hA [] c0 ?_
    clear hA fr; intro fr hA
    refine end_ops ?_
    refine then_normal ?_
    refine wp_ret ?_
    refine then_ret ?_
    refine cR (cs := [none]) (us := [.slice p1 ((encI x).length) c1]) hA [] trivial ?_
    exact ⟨_, _, _, rfl, Ow.just (A := []) (T := T1) (B := []) hO, hT1⟩
  ·
    replace hA := hA.bool (f := fun z_ => [(0, i64 x), (2, .slice none 0 0), (4, .bool z_)]) h1
    have h1p := of_decide_eq_false h1
    refine cF hA ?_
    refine wp_skip ?_
    refine then_normal ?_
    refine sR (l := (rg 0 5)) ?_
    refine ck (l := [0, 1, 2]) (r := [3, 4]) (e' := [(2, .slice none 0 0), (14, u64 (IntKind.u64.wrap (2 * (IntKind.u64.wrap x))))]) hA [bl false, bl false] c0 ?_
    clear hA fr; intro fr hA
    replace hA := hA.int (f := fun z_ => [(2, .slice none 0 0), (14, .int .u64 z_)]) (rzig_pos hx (by omega) : IntKind.u64.wrap (2 * (IntKind.u64.wrap x)) = ((zig x : Nat) : Int))
    refine wpOps_cons' (mC (f := 41) (args := [u64 ((zig x : Nat) : Int)]) (d := (some 15)) hA Tryd.func41 ((rgrp_any 9 (zig x) (by omega) (by have := zig_lt hx; omega) (zig_lt hx) _).mono ?_))
    rintro en w2 ⟨p2, c2, T2, rfl, hW, hT2⟩
    refine ⟨_, rfl, ?_⟩
    clear hA fr; intro fr hA
    have huT2 : U8s (encI x) := encI_u8 _
    replace hO : Ow Tryd.prog none' w _ ([]) := hO; replace hO := Ow.join hO hW; clear hW
    replace hO : Ow Tryd.prog none' w w2 ([] ++ (T2 ++ ([]))) := hO.to (by simp only [List.append_assoc, List.cons_append, List.nil_append, List.append_nil])
    replace hA := hA.sb (e' := [(2, .slice none 0 0), (15, .slice p2 ((encI x).length) c2)])
    refine ck (l := [4]) (r := []) (e' := [(2, .slice p2 ((encI x).length) c2)]) hA [] c0 ?_
    clear hA fr; intro fr hA
    refine end_ops ?_
    refine then_normal ?_
    refine wp_ret ?_
    refine cR (cs := [none]) (us := [.slice p2 ((encI x).length) c2]) hA [] trivial ?_
    exact ⟨_, _, _, rfl, Ow.just (A := []) (T := T2) (B := []) hO, hT2⟩

theorem rbytes_any (ad : Option Addr) (cy : Nat) (ys : List Int) (w : World) (hs : SlI w (.slice ad ys.length cy) ys) (hb2 : ys.length ≤ 10000) :
    Calls Tryd.prog 29 #[.slice ad ys.length cy] w fun e w' => ∃ p c T, e = .returned (.slice p (encI ((ys.length : Nat) : Int) ++ ys).length c) ∧ Ow Tryd.prog none' w w' T ∧ One fB 5 1 p c (encI ((ys.length : Nat) : Int) ++ ys) T := by
  refine c_enter (args := [.slice ad ys.length cy]) (m := 7) (n := 8) Tryd.func29 rfl (by kernel_rfl) (by kernel_rfl) fun fr hA => ?_
  have hO := Ow.nil Tryd.prog none' w
  have hel := encI_len ((ys.length : Nat) : Int)
  refine sC (e' := [(0, .slice ad ys.length cy), (2, .slice none 0 0)]) 1 hA [] c0 ?_
  clear hA fr; intro fr hA
  refine sR (l := (rg 0 6)) ?_
  refine ck (l := [0, 1]) (r := [2, 3, 4, 5]) (e' := [(0, .slice ad ys.length cy), (2, .slice none 0 0), (4, i64 ((ys.length : Nat) : Int))]) hA [] c0 ?_
  clear hA fr; intro fr hA
  refine wpOps_cons' (mC (f := 28) (args := [i64 ((ys.length : Nat) : Int)]) (d := (some 5)) hA Tryd.func28 ((rint_any ((ys.length : Nat) : Int) _ (inK_i64 (by omega) (by omega))).mono ?_))
  rintro en w1 ⟨p1, c1, T1, rfl, hW, hT1⟩
  refine ⟨_, rfl, ?_⟩
  clear hA fr; intro fr hA
  have huT1 : U8s (encI ((ys.length : Nat) : Int)) := encI_u8 _
  replace hO : Ow Tryd.prog none' w _ ([]) := hO; replace hO := Ow.join hO hW; clear hW
  replace hO : Ow Tryd.prog none' w w1 ([] ++ (T1 ++ ([]))) := hO.to (by simp only [List.append_assoc, List.cons_append, List.nil_append, List.append_nil])
  replace hA := hA.sb (e' := [(0, .slice ad ys.length cy), (2, .slice none 0 0), (5, .slice p1 ((encI ((ys.length : Nat) : Int)).length) c1)])
  refine ck (l := [3]) (r := [4, 5]) (e' := [(2, .slice none 0 0), (5, .slice p1 ((encI ((ys.length : Nat) : Int)).length) c1), (6, .slice ad ys.length cy)]) hA [] c0 ?_
  clear hA fr; intro fr hA
  replace hO : Ow Tryd.prog none' w w1 ([] ++ (T1 ++ ([]))) := hO
  refine wpOps_cons' (mA (f := fB) (el := 5) (sz := 1) (bytes := 1) (p := p1) (c := c1) (l := encI ((ys.length : Nat) : Int)) (l' := ys) (T := T1) (t := 22) (tx := 22) (ty := 22) (x := .slice ad ys.length cy) (d := 7) [] ([]) encB hA hO hT1 (Vw.src (e' := 5) encB ((hs.keep hO.only)).vw (by kernel_rfl)) (by first | omega | (simp only [List.length_append, List.length_cons, List.length_nil]; omega)) (by unfold maxLen; first | omega | (simp only [List.length_append, List.length_cons, List.length_nil]; omega)) ?_)
  clear hA hO fr; intro fr w2 p2 c2 T2 hA hO hT2
  have huT2 : U8s ((encI ((ys.length : Nat) : Int)) ++ ys) := (U8s.app huT1 ((hs.keep hO.only)).1)
  replace hA := hA.sb (e' := [(2, .slice none 0 0), (7, .slice p2 (((encI ((ys.length : Nat) : Int)) ++ ys).length) c2)])
  refine ck (l := [5]) (r := []) (e' := [(2, .slice p2 (((encI ((ys.length : Nat) : Int)) ++ ys).length) c2)]) hA [] c0 ?_
  clear hA fr; intro fr hA
  refine end_ops ?_
  refine then_normal ?_
  refine wp_ret ?_
  refine cR (cs := [none]) (us := [.slice p2 (((encI ((ys.length : Nat) : Int)) ++ ys).length) c2]) hA [] trivial ?_
  exact ⟨_, _, _, rfl, Ow.just (A := []) (T := T2) (B := []) hO, hT2⟩

end Go.Proofs.YtkfnkcpdabdboaaDoor
