/- The layer exe: the reference: sums. -/
import Derived.Test.YtkfnkcpdabdboaaDoorRwire
set_option linter.unusedVariables false
set_option linter.unusedSimpArgs false
set_option maxRecDepth 10000
namespace Go.Proofs.YtkfnkcpdabdboaaDoor
open Go Go.RowKit Go.Proofs.Sx

theorem rstep_any (h x : Int) (w : World) (hx : inK .u8 x) :
    Calls Tryd.prog 51 #[u64 h, u8 x] w fun e w' => e = .returned (.int .u64 (stepF h x)) ∧ Only none' w w' := by
  refine c_enter (args := [u64 h, u8 x]) (m := 13) (n := 15) Tryd.func51 rfl (by kernel_rfl) (by kernel_rfl) fun fr hA => ?_
  have hO := Ow.nil Tryd.prog none' w
  have hxb : 0 ≤ x ∧ x ≤ 255 := hx
  refine sC (e' := [(0, u64 h), (1, u8 x), (4, u64 0)]) 1 hA [] c0 ?_
  clear hA fr; intro fr hA
  refine sC (e' := [(4, u64 0), (5, u64 (IntKind.u64.wrap ((bits .xor .u64 h x) * 15111065706836454659)))]) 6 hA [bl true, bl false] (cc ((inK_u64 (by omega) (by omega)) : inK .u64 x) c0) ?_
  clear hA fr; intro fr hA
  refine sC (e' := [(4, u64 (bits .xor .u64 (IntKind.u64.wrap ((bits .xor .u64 h x) * 15111065706836454659)) ((IntKind.u64.wrap ((bits .xor .u64 h x) * 15111065706836454659)) / 536870912)))]) 5 hA [bl false] (cc (by omega : (0 : Int) ≤ 29) c0) ?_
  clear hA fr; intro fr hA
  refine wp_ret ?_
  refine cR (cs := [none]) (us := [u64 (bits .xor .u64 (IntKind.u64.wrap ((bits .xor .u64 h x) * 15111065706836454659)) ((IntKind.u64.wrap ((bits .xor .u64 h x) * 15111065706836454659)) / 536870912))]) hA [] trivial ?_
  have hF := hO.only; clear hA hO
  exact ⟨rfl, hF⟩

theorem rfrom_nil (h : Int) (w : World) :
    Calls Tryd.prog 42 #[u64 h, .slice none 0 0] w fun e w' => e = .returned (.int .u64 h) ∧ Only none' w w' := by
  refine c_enter (args := [u64 h, .slice none 0 0]) (m := 17) (n := 19) Tryd.func42 rfl (by kernel_rfl) (by kernel_rfl) fun fr hA => ?_
  have hO := Ow.nil Tryd.prog none' w
  refine sC (e' := [(0, u64 h), (1, .slice none 0 0), (4, u64 0)]) 1 hA [] c0 ?_
  clear hA fr; intro fr hA
  refine wp_seq ?_
  refine sC (e' := [(0, u64 h), (1, .slice none 0 0), (4, u64 0), (5, i64 0)]) 1 hA [] c0 ?_
  clear hA fr; intro fr hA
  refine wp_block ?_
  refine c_loop (fun mm fr W => (mm = 0 ∧ Holds 19 [] fr [(0, u64 h), (1, .slice none 0 0), (4, u64 0), (5, i64 0)] ∧ Ow Tryd.prog none' w W [])) ?_ ?_
  · exact ⟨_, ⟨rfl, hA.sb, hO.to⟩⟩
  · rintro _ fr w1 (⟨rfl, hA, hO⟩)
    ·
      refine wp_seq ?_
      refine sC (e' := [(0, u64 h), (1, .slice none 0 0), (4, u64 0), (5, i64 0), (9, bl false)]) 4 hA [] c0 ?_
      clear hA fr; intro fr hA
      refine cF hA ?_
      refine wp_exit ?_
      refine then_exit ?_
      refine then_exit ?_
      refine inBlock_exit ?_
      refine then_normal ?_
      refine sC (e' := [(4, u64 h)]) 2 hA [] c0 ?_
      clear hA fr; intro fr hA
      refine wp_ret ?_
      refine cR (cs := [none]) (us := [u64 h]) hA [] trivial ?_
      have hF := hO.only; clear hA hO
      exact ⟨rfl, hF⟩

theorem rfrom_some (h : Int) (ad : Addr) (c : Nat) (xs : List Int) (w : World) (hu : U8s xs) (hc : Cel w ad xs) (hl : xs.length ≤ 1000000) :
    Calls Tryd.prog 42 #[u64 h, .slice (some ad) xs.length c] w fun e w' => e = .returned (.int .u64 (sumF h xs)) ∧ Only none' w w' := by
  refine c_enter (args := [u64 h, .slice (some ad) xs.length c]) (m := 17) (n := 19) Tryd.func42 rfl (by kernel_rfl) (by kernel_rfl) fun fr hA => ?_
  have hO := Ow.nil Tryd.prog none' w
  refine sC (e' := [(0, u64 h), (1, .slice (some ad) xs.length c), (4, u64 0)]) 1 hA [] c0 ?_
  clear hA fr; intro fr hA
  refine wp_seq ?_
  refine sC (e' := [(0, u64 h), (1, .slice (some ad) xs.length c), (4, u64 0), (5, i64 0)]) 1 hA [] c0 ?_
  clear hA fr; intro fr hA
  refine wp_block ?_
  refine c_loop (fun mm fr W => ∃ (i : Nat), mm = xs.length - i ∧ Holds 19 [] fr [(0, u64 (sumF h (xs.take i))), (1, .slice (some ad) xs.length c), (4, u64 0), (5, i64 ((i : Nat) : Int))] ∧ Ow Tryd.prog none' w W [] ∧ i ≤ xs.length ∧ True) ?_ ?_
  · exact ⟨_, 0, rfl, (hA.sub (e' := [(0, u64 h), (1, .slice (some ad) xs.length c), (4, u64 0), (5, i64 0)]) [0, 1, 4, 5] (by kernel_rfl)).cast (by kernel_rfl), hO.to, (by omega), trivial⟩
  · rintro _ fr w1 ⟨i, rfl, hA, hO, hi, -⟩
    have hq := hu.nth i
    refine wp_seq ?_
    refine sC (e' := [(0, u64 (sumF h (xs.take i))), (1, .slice (some ad) xs.length c), (4, u64 0), (5, i64 ((i : Nat) : Int)), (6, i64 ((i : Nat) : Int)), (7, .slice (some ad) xs.length c), (8, i64 ((xs.length : Nat) : Int)), (9, bl (decide (((i : Nat) : Int) < ((xs.length : Nat) : Int))))]) 4 hA [] c0 ?_
    clear hA fr; intro fr hA
    rcases Bool.eq_false_or_eq_true (decide (((i : Nat) : Int) < ((xs.length : Nat) : Int))) with h1 | h1
    ·
      replace hA := hA.bool (f := fun z_ => [(0, u64 (sumF h (xs.take i))), (1, .slice (some ad) xs.length c), (4, u64 0), (5, i64 ((i : Nat) : Int)), (6, i64 ((i : Nat) : Int)), (7, .slice (some ad) xs.length c), (8, i64 ((xs.length : Nat) : Int)), (9, .bool z_)]) h1
      have h1p := of_decide_eq_true h1
      refine cT hA ?_
      refine wp_skip ?_
      refine then_normal ?_
      refine wp_seq ?_
      refine wp_block ?_
      refine rR (l := (rg 0 7)) ?_
      refine ck (l := (rg 0 5)) (r := [5, 6]) (e' := [(0, u64 (sumF h (xs.take i))), (1, .slice (some ad) xs.length c), (4, u64 0), (5, i64 ((i : Nat) : Int)), (6, i64 ((i : Nat) : Int)), (7, .slice (some ad) xs.length c), (8, i64 ((xs.length : Nat) : Int)), (9, bl true), (12, u64 (sumF h (xs.take i))), (13, .slice (some ad) xs.length c), (14, i64 ((i : Nat) : Int)), (15, .pointer (some (ad.add i))), (16, u8 (xs.getD i 0))]) hA [u8 (xs.getD i 0)] (cc (⟨by omega, by omega⟩ : (0 : Int) ≤ ((i : Nat) : Int) ∧ ((i : Nat) : Int) < ((xs.length : Nat) : Int)) (cc ((ld_cell (by kernel_rfl) (hO.only.cell (hc i (by omega)) (fun h => h))) : Ld Tryd.prog w1 (ad.add i) 5 (u8 (xs.getD i 0))) c0)) ?_
      clear hA fr; intro fr hA
      refine wpOps_cons' (mK (f := 51) (args := [u64 (sumF h (xs.take i)), u8 (xs.getD i 0)]) (d := (some 17)) (v := u64 (sumF h (xs.take (i + 1)))) hA hO Tryd.func51 (rs (rstep_any (sumF h (xs.take i)) (xs.getD i 0) _ (hu.nth i)) (congrArg (Value.int .u64) (sumF_step h xs (by omega)))) ?_)
      clear hA hO fr; intro fr w2 hA hO
      refine ck (l := [6]) (r := []) (e' := [(0, u64 (sumF h (xs.take (i + 1)))), (1, .slice (some ad) xs.length c), (4, u64 0), (5, i64 ((i : Nat) : Int)), (6, i64 ((i : Nat) : Int)), (7, .slice (some ad) xs.length c), (8, i64 ((xs.length : Nat) : Int)), (9, bl true), (12, u64 (sumF h (xs.take i))), (13, .slice (some ad) xs.length c), (14, i64 ((i : Nat) : Int)), (15, .pointer (some (ad.add i))), (16, u8 (xs.getD i 0)), (17, u64 (sumF h (xs.take (i + 1))))]) hA [] c0 ?_
      clear hA fr; intro fr hA
      refine end_ops ?_
      refine inBlock_normal ?_
      refine then_normal ?_
      refine rC (e' := [(0, u64 (sumF h (xs.take (i + 1)))), (1, .slice (some ad) xs.length c), (4, u64 0), (5, i64 (((i : Nat) : Int) + 1)), (6, i64 ((i : Nat) : Int)), (7, .slice (some ad) xs.length c), (8, i64 ((xs.length : Nat) : Int)), (9, bl true), (10, i64 ((i : Nat) : Int)), (11, i64 (((i : Nat) : Int) + 1)), (12, u64 (sumF h (xs.take i))), (13, .slice (some ad) xs.length c), (14, i64 ((i : Nat) : Int)), (15, .pointer (some (ad.add i))), (16, u8 (xs.getD i 0)), (17, u64 (sumF h (xs.take (i + 1))))]) 3 hA [bl true] (cc ((inK_i64 (by omega) (by omega)) : inK .i64 (((i : Nat) : Int) + 1)) c0) ?_
      clear hA fr; intro fr hA
      refine then_normal ?_
      exact ⟨_, by omega, i + 1, rfl, (hA.sub (e' := [(0, u64 (sumF h (xs.take (i + 1)))), (1, .slice (some ad) xs.length c), (4, u64 0), (5, i64 (((i : Nat) : Int) + 1))]) [0, 1, 4, 5] (by kernel_rfl)).cast (by kernel_rfl), hO.to, (by omega), trivial⟩
    ·
      replace hA := hA.bool (f := fun z_ => [(0, u64 (sumF h (xs.take i))), (1, .slice (some ad) xs.length c), (4, u64 0), (5, i64 ((i : Nat) : Int)), (6, i64 ((i : Nat) : Int)), (7, .slice (some ad) xs.length c), (8, i64 ((xs.length : Nat) : Int)), (9, .bool z_)]) h1
      have h1p := of_decide_eq_false h1
      refine cF hA ?_
      refine wp_exit ?_
      refine then_exit ?_
      refine then_exit ?_
      refine inBlock_exit ?_
      refine then_normal ?_
      refine sC (e' := [(4, u64 (sumF h (xs.take i)))]) 2 hA [] c0 ?_
      clear hA fr; intro fr hA
      refine wp_ret ?_
      refine cR (cs := [none]) (us := [u64 (sumF h (xs.take i))]) hA [] trivial ?_
      have hF := hO.only; clear hA hO
      obtain rfl : i = xs.length := by omega
      exact ⟨by rw [List.take_length]; rfl, hF⟩

theorem rfrom_any (h : Int) (v : Value) (xs : List Int) (w : World) (hs : SlI w v xs) (hl : xs.length ≤ 1000000) : Calls Tryd.prog 42 #[.int .u64 h, v] w fun e w' => e = .returned (.int .u64 (sumF h xs)) ∧ Only none' w w' := by
  obtain ⟨hu, ⟨rfl, rfl⟩ | ⟨ad, c, rfl, hc⟩⟩ := hs
  · exact rfrom_nil h w
  · exact rfrom_some h ad c xs w hu hc hl

theorem shr_b (x : Int) (i : Nat) (hx : 0 ≤ x ∧ x < 18446744073709551616) : 0 ≤ x / 2 ^ (8 * i) ∧ x / 2 ^ (8 * i) < 18446744073709551616 := by
  have h2 : (0 : Int) < 2 ^ (8 * i) := Int.pow_pos (by decide)
  refine ⟨Int.ediv_nonneg hx.1 (Int.le_of_lt h2), Int.lt_of_le_of_lt (Int.ediv_le_self _ hx.1) hx.2⟩
theorem shr_step (x : Int) (i : Nat) : (x / 2 ^ (8 * i)) / 256 = x / 2 ^ (8 * (i + 1)) := by
  rw [Int.ediv_ediv_of_nonneg (Int.le_of_lt (Int.pow_pos (by decide))), show (8 * (i + 1)) = 8 * i + 8 by omega, Int.pow_add]; rfl
theorem leb_mod (x : Int) (i : Nat) (hi : i < 8) : IntKind.u8.wrap ((x / 2 ^ (8 * i)) % 256) = leb x i := by
  unfold leb
  rw [show min (8 * ((i : Nat) : Int)).toNat 64 = 8 * i by omega]
  simp only [IntKind.wrap, show IntKind.u8.signed = false from rfl, Bool.false_and, Bool.false_eq_true, if_false, show (2 : Int) ^ IntKind.u8.bits = 256 from rfl]; omega

theorem reight_any (x : Int) (w : World) (hx : 0 ≤ x ∧ x < 18446744073709551616) :
    Calls Tryd.prog 30 #[u64 x] w fun e w' => ∃ p c T, e = .returned (.slice p (leL x 8).length c) ∧ Ow Tryd.prog none' w w' T ∧ One fB 5 1 p c (leL x 8) T := by
  refine c_enter (args := [u64 x]) (m := 17) (n := 18) Tryd.func30 rfl (by kernel_rfl) (by kernel_rfl) fun fr hA => ?_
  have hO := Ow.nil Tryd.prog none' w
  refine sC (e' := [(0, u64 x), (2, .slice none 0 0)]) 1 hA [] c0 ?_
  clear hA fr; intro fr hA
  refine sC (e' := [(0, u64 x), (2, .slice none 0 0), (3, .slice none 0 0)]) 1 hA [] c0 ?_
  clear hA fr; intro fr hA
  refine wp_seq ?_
  refine sC (e' := [(0, u64 x), (2, .slice none 0 0), (3, .slice none 0 0), (4, i64 0)]) 1 hA [] c0 ?_
  clear hA fr; intro fr hA
  refine wp_block ?_
  have hT1 := One.nil fB 5 1
  replace hO : Ow Tryd.prog none' w w ([] ++ ([] ++ ([]))) := hO.to (by simp only [List.append_assoc, List.cons_append, List.nil_append, List.append_nil])
  have huL1 : U8s ([]) := U8s.nil
  rw [show ([]) = leL x 0 from rfl] at hT1 huL1
  refine c_loop (fun mm fr W => ∃ (i : Nat) (pL1 : Option Addr) (cL1 : Nat) (TL1 : OwL), mm = 8 - i ∧ Holds 18 [] fr [(0, u64 (x / 2 ^ (8 * i))), (2, .slice none 0 0), (3, .slice pL1 ((leL x i).length) cL1), (4, i64 ((i : Nat) : Int))] ∧ Ow Tryd.prog none' w W ([] ++ (TL1 ++ ([]))) ∧ One fB 5 1 pL1 cL1 (leL x i) TL1 ∧ U8s (leL x i) ∧ i ≤ 8 ∧ True) ?_ ?_
  · exact ⟨_, 0, none, 0, [], rfl, (hA.sub (e' := [(0, u64 x), (2, .slice none 0 0), (3, .slice none ((leL x 0).length) 0), (4, i64 0)]) [0, 2, 3, 4] (by kernel_rfl)).cast (by simp), (hO : Ow Tryd.prog none' w _ ([] ++ ([] ++ ([])))), hT1, huL1, (by omega), trivial⟩
  · rintro _ fr w1 ⟨i, pL1, cL1, TL1, rfl, hA, hO, hTL1, huL1, hi, -⟩
    have hlen : (leL x i).length = i := leL_len _ _
    have hxi := shr_b x i hx
    refine wp_seq ?_
    refine sC (e' := [(0, u64 (x / 2 ^ (8 * i))), (2, .slice none 0 0), (3, .slice pL1 ((leL x i).length) cL1), (4, i64 ((i : Nat) : Int)), (5, i64 ((i : Nat) : Int)), (6, bl (decide (((i : Nat) : Int) < 8)))]) 2 hA [] c0 ?_
    clear hA fr; intro fr hA
    rcases Bool.eq_false_or_eq_true (decide (((i : Nat) : Int) < 8)) with h1 | h1
    ·
      replace hA := hA.bool (f := fun z_ => [(0, u64 (x / 2 ^ (8 * i))), (2, .slice none 0 0), (3, .slice pL1 ((leL x i).length) cL1), (4, i64 ((i : Nat) : Int)), (5, i64 ((i : Nat) : Int)), (6, .bool z_)]) h1
      have h1p := of_decide_eq_true h1
      refine cT hA ?_
      refine wp_skip ?_
      refine then_normal ?_
      refine wp_seq ?_
      refine wp_block ?_
      refine sR (l := (rg 0 7)) ?_
      refine ck (l := [0, 1, 2, 3]) (r := [4, 5, 6]) (e' := [(0, u64 (x / 2 ^ (8 * i))), (2, .slice none 0 0), (3, .slice pL1 ((leL x i).length) cL1), (4, i64 ((i : Nat) : Int)), (5, i64 ((i : Nat) : Int)), (6, bl true), (9, .slice pL1 ((leL x i).length) cL1), (10, u64 (x / 2 ^ (8 * i))), (11, u64 ((x / 2 ^ (8 * i)) % 256)), (12, u8 (IntKind.u8.wrap ((x / 2 ^ (8 * i)) % 256)))]) hA [bl true, bl false] (cc (⟨by omega, by omega, inK_u64 (by omega) (by omega)⟩ : (0 : Int) ≤ x / 2 ^ (8 * i) ∧ (0 : Int) < 256 ∧ inK .u64 (x / 2 ^ (8 * i))) c0) ?_
      clear hA fr; intro fr hA
      refine wpOps_cons' (mN (l := [u8 (IntKind.u8.wrap ((x / 2 ^ (8 * i)) % 256))]) (t := 5) (v := fun b => .slice (some ⟨b, 0, none⟩) 1 1) (d := 13) hA hO ?_)
      clear hA hO fr; intro fr w2 b1 hA hO
      replace hO : Ow Tryd.prog none' w w2 ([(b1, 5, [u8 (IntKind.u8.wrap ((x / 2 ^ (8 * i)) % 256))])] ++ (TL1 ++ ([]))) := hO
      refine wpOps_cons' (mA (f := fB) (el := 5) (sz := 1) (bytes := 1) (p := pL1) (c := cL1) (l := leL x i) (l' := [IntKind.u8.wrap ((x / 2 ^ (8 * i)) % 256)]) (T := TL1) (t := 22) (tx := 22) (ty := 22) (x := .slice (some ⟨b1, 0, none⟩) 1 1) (d := 14) [(b1, 5, [u8 (IntKind.u8.wrap ((x / 2 ^ (8 * i)) % 256))])] ([]) encB hA hO hTL1 (Vw.src (e' := 5) encB ((hO.b 0).vw (off := 0) (xs := [IntKind.u8.wrap ((x / 2 ^ (8 * i)) % 256)]) (by kernel_rfl)) (by kernel_rfl)) (by first | omega | (simp only [List.length_append, List.length_cons, List.length_nil]; omega)) (by unfold maxLen; first | omega | (simp only [List.length_append, List.length_cons, List.length_nil]; omega)) ?_)
      clear hA hO fr; intro fr w3 p1 c1 T2 hA hO hT2
      have huT2 : U8s ((leL x i) ++ ([IntKind.u8.wrap ((x / 2 ^ (8 * i)) % 256)])) := (U8s.app huL1 (U8s.cons (wrap_inK .u8 _) U8s.nil))
      rw [show ((leL x i) ++ ([IntKind.u8.wrap ((x / 2 ^ (8 * i)) % 256)])) = leL x (i + 1) from (by rw [← leL_succ, ← leb_mod x i (by omega)])] at hA hT2 huT2
      refine ck (l := [6]) (r := []) (e' := [(0, u64 (x / 2 ^ (8 * i))), (2, .slice none 0 0), (3, .slice p1 ((leL x (i + 1)).length) c1), (4, i64 ((i : Nat) : Int)), (5, i64 ((i : Nat) : Int)), (6, bl true), (9, .slice pL1 ((leL x i).length) cL1), (10, u64 (x / 2 ^ (8 * i))), (11, u64 ((x / 2 ^ (8 * i)) % 256)), (12, u8 (IntKind.u8.wrap ((x / 2 ^ (8 * i)) % 256))), (13, .slice (some ⟨b1, 0, none⟩) 1 1), (14, .slice p1 ((leL x (i + 1)).length) c1)]) hA [] c0 ?_
      clear hA fr; intro fr hA
      refine end_ops ?_
      refine then_normal ?_
      refine rC (e' := [(0, u64 ((x / 2 ^ (8 * i)) / 256)), (2, .slice none 0 0), (3, .slice p1 ((leL x (i + 1)).length) c1), (4, i64 ((i : Nat) : Int)), (5, i64 ((i : Nat) : Int)), (6, bl true), (9, .slice pL1 ((leL x i).length) cL1), (10, u64 (x / 2 ^ (8 * i))), (11, u64 ((x / 2 ^ (8 * i)) % 256)), (12, u8 (IntKind.u8.wrap ((x / 2 ^ (8 * i)) % 256))), (13, .slice (some ⟨b1, 0, none⟩) 1 1), (14, .slice p1 ((leL x (i + 1)).length) c1), (15, u64 (x / 2 ^ (8 * i))), (16, u64 ((x / 2 ^ (8 * i)) / 256))]) 3 hA [bl true] (cc (⟨by omega, by omega, inK_u64 (by omega) (by omega)⟩ : (0 : Int) ≤ x / 2 ^ (8 * i) ∧ (0 : Int) < 256 ∧ inK .u64 (x / 2 ^ (8 * i))) c0) ?_
      clear hA fr; intro fr hA
      replace hA := hA.int (f := fun z_ => [(0, .int .u64 z_), (2, .slice none 0 0), (3, .slice p1 ((leL x (i + 1)).length) c1), (4, i64 ((i : Nat) : Int)), (5, i64 ((i : Nat) : Int)), (6, bl true), (9, .slice pL1 ((leL x i).length) cL1), (10, u64 (x / 2 ^ (8 * i))), (11, u64 ((x / 2 ^ (8 * i)) % 256)), (12, u8 (IntKind.u8.wrap ((x / 2 ^ (8 * i)) % 256))), (13, .slice (some ⟨b1, 0, none⟩) 1 1), (14, .slice p1 ((leL x (i + 1)).length) c1), (15, u64 (x / 2 ^ (8 * i))), (16, .int .u64 z_)]) (shr_step x i : (x / 2 ^ (8 * i)) / 256 = x / 2 ^ (8 * (i + 1)))
      refine inBlock_normal ?_
      refine then_normal ?_
      refine rC (e' := [(0, u64 (x / 2 ^ (8 * (i + 1)))), (2, .slice none 0 0), (3, .slice p1 ((leL x (i + 1)).length) c1), (4, i64 (((i : Nat) : Int) + 1)), (5, i64 ((i : Nat) : Int)), (6, bl true), (7, i64 ((i : Nat) : Int)), (8, i64 (((i : Nat) : Int) + 1)), (9, .slice pL1 ((leL x i).length) cL1), (10, u64 (x / 2 ^ (8 * i))), (11, u64 ((x / 2 ^ (8 * i)) % 256)), (12, u8 (IntKind.u8.wrap ((x / 2 ^ (8 * i)) % 256))), (13, .slice (some ⟨b1, 0, none⟩) 1 1), (14, .slice p1 ((leL x (i + 1)).length) c1), (15, u64 (x / 2 ^ (8 * i))), (16, u64 (x / 2 ^ (8 * (i + 1))))]) 3 hA [bl true] (cc ((inK_i64 (by omega) (by omega)) : inK .i64 (((i : Nat) : Int) + 1)) c0) ?_
      clear hA fr; intro fr hA
      refine then_normal ?_
      exact ⟨_, by omega, i + 1, p1, c1, T2, rfl, (hA.sub (e' := [(0, u64 (x / 2 ^ (8 * (i + 1)))), (2, .slice none 0 0), (3, .slice p1 ((leL x (i + 1)).length) c1), (4, i64 (((i : Nat) : Int) + 1))]) [0, 2, 3, 4] (by kernel_rfl)).cast (by kernel_rfl), (Ow.subP (A := [(b1, 5, [u8 (IntKind.u8.wrap ((x / 2 ^ (8 * i)) % 256))])]) (A' := []) (B := T2 ++ ([])) hO (.cons _ .slnil)), hT2, huT2, (by omega), trivial⟩
    ·
      replace hA := hA.bool (f := fun z_ => [(0, u64 (x / 2 ^ (8 * i))), (2, .slice none 0 0), (3, .slice pL1 ((leL x i).length) cL1), (4, i64 ((i : Nat) : Int)), (5, i64 ((i : Nat) : Int)), (6, .bool z_)]) h1
      have h1p := of_decide_eq_false h1
      refine cF hA ?_
      refine wp_exit ?_
      refine then_exit ?_
      refine then_exit ?_
      refine inBlock_exit ?_
      refine then_normal ?_
      refine sC (e' := [(2, .slice pL1 ((leL x i).length) cL1)]) 2 hA [] c0 ?_
      clear hA fr; intro fr hA
      refine wp_ret ?_
      refine cR (cs := [none]) (us := [.slice pL1 ((leL x i).length) cL1]) hA [] trivial ?_
      obtain rfl : i = 8 := by omega
      exact ⟨_, _, _, rfl, Ow.just (A := []) (T := TL1) (B := []) hO, hTL1⟩

theorem rof_any (v : Option Addr) (c : Nat) (xs : List Int) (w : World) (hs : SlI w (.slice v xs.length c) xs) (hl : xs.length ≤ 900000) :
    Calls Tryd.prog 31 #[.slice v xs.length c] w fun e w' => e = .returned (.int .u64 (sumO xs)) ∧ Only none' w w' := by
  refine c_enter (args := [.slice v xs.length c]) (m := 9) (n := 10) Tryd.func31 rfl (by kernel_rfl) (by kernel_rfl) fun fr hA => ?_
  have hO := Ow.nil Tryd.prog none' w
  refine sC (e' := [(0, .slice v xs.length c), (2, u64 0)]) 1 hA [] c0 ?_
  clear hA fr; intro fr hA
  refine sR (l := (rg 0 8)) ?_
  refine ck (l := [0]) (r := (rg 1 7)) (e' := [(0, .slice v xs.length c), (2, u64 0), (3, .slice v xs.length c)]) hA [] c0 ?_
  clear hA fr; intro fr hA
  refine wpOps_cons' (mK (f := 42) (args := [u64 125762890854254, .slice v xs.length c]) (d := (some 4)) (v := u64 (sumF 125762890854254 xs)) hA hO Tryd.func42 (rfrom_any 125762890854254 _ xs _ (hs.keep hO.only) (by first | omega | (simp only [List.length_append, List.length_nil, leL_len]; omega))) ?_)
  clear hA hO fr; intro fr w1 hA hO
  replace hA := hA.sb (e' := [(0, .slice v xs.length c), (2, u64 0), (4, u64 (sumF 125762890854254 xs))])
  refine ck (l := [2, 3, 4]) (r := [5, 6, 7]) (e' := [(2, u64 0), (4, u64 (sumF 125762890854254 xs)), (7, u64 (IntKind.u64.wrap ((xs.length : Nat) : Int)))]) hA [bl false] c0 ?_
  clear hA fr; intro fr hA
  refine wpOps_cons' (mC (f := 30) (args := [u64 (IntKind.u64.wrap ((xs.length : Nat) : Int))]) (d := (some 8)) hA Tryd.func30 ((reight_any (IntKind.u64.wrap ((xs.length : Nat) : Int)) _ (by rw [u64_mod]; omega)).mono ?_))
  rintro en w2 ⟨p1, c1, T1, rfl, hW, hT1⟩
  refine ⟨_, rfl, ?_⟩
  clear hA fr; intro fr hA
  have huT1 : U8s (leL (IntKind.u64.wrap ((xs.length : Nat) : Int)) 8) := (leL_u8 _ _)
  replace hO : Ow Tryd.prog none' w _ ([]) := hO; replace hO := Ow.join hO hW; clear hW
  replace hO : Ow Tryd.prog none' w w2 ([] ++ (T1 ++ ([]))) := hO.to (by simp only [List.append_assoc, List.cons_append, List.nil_append, List.append_nil])
  replace hA := hA.sb (e' := [(2, u64 0), (4, u64 (sumF 125762890854254 xs)), (8, .slice p1 ((leL (IntKind.u64.wrap ((xs.length : Nat) : Int)) 8).length) c1)])
  refine wpOps_cons' (mK (f := 42) (args := [u64 (sumF 125762890854254 xs), .slice p1 ((leL (IntKind.u64.wrap ((xs.length : Nat) : Int)) 8).length) c1]) (d := (some 9)) (v := u64 (sumF (sumF 125762890854254 xs) (leL (IntKind.u64.wrap ((xs.length : Nat) : Int)) 8))) hA hO Tryd.func42 (rfrom_any (sumF 125762890854254 xs) _ (leL (IntKind.u64.wrap ((xs.length : Nat) : Int)) 8) _ (Vw.sl (hT1.vw (A := []) (B := []) hO.m) huT1) (by first | omega | (simp only [List.length_append, List.length_nil, leL_len]; omega))) ?_)
  clear hA hO fr; intro fr w3 hA hO
  replace hA := hA.sb (e' := [(2, u64 0), (9, u64 (sumF (sumF 125762890854254 xs) (leL (IntKind.u64.wrap ((xs.length : Nat) : Int)) 8)))])
  refine ck (l := [7]) (r := []) (e' := [(2, u64 (sumF (sumF 125762890854254 xs) (leL (IntKind.u64.wrap ((xs.length : Nat) : Int)) 8)))]) hA [] c0 ?_
  clear hA fr; intro fr hA
  refine end_ops ?_
  refine then_normal ?_
  refine wp_ret ?_
  refine cR (cs := [none]) (us := [u64 (sumF (sumF 125762890854254 xs) (leL (IntKind.u64.wrap ((xs.length : Nat) : Int)) 8))]) hA [] trivial ?_
  have hF := hO.only; clear hA hO
  exact ⟨by first | rfl | (unfold sumO; rw [show IntKind.u64.wrap ((xs.length : Nat) : Int) = ((xs.length : Nat) : Int) from (u64_mod _).trans (by omega)]), hF⟩

end Go.Proofs.YtkfnkcpdabdboaaDoor
