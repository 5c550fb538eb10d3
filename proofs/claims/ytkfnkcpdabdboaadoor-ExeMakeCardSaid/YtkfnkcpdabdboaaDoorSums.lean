/- The layer exe: wire.Bytes, the sums, sealed. -/
import Derived.Test.YtkfnkcpdabdboaaDoorWire
import Derived.Test.YtkfnkcpdabdboaaDoorCdecode
set_option linter.unusedVariables false
set_option linter.unusedSimpArgs false
set_option maxRecDepth 10000
namespace Go.Proofs.YtkfnkcpdabdboaaDoor
open Go Go.RowKit Go.Proofs.Sx

theorem bytes_any (p : Option Addr) (c : Nat) (xs : List Int) (T : OwL) (w : World) (h0 : Ow Tryd.prog (inT T) w w T) (hT : One fB 5 1 p c xs T) (hu : U8s xs) (ad : Option Addr) (cy : Nat) (ys : List Int) (hk : SlK (inT T) w (.slice ad ys.length cy) ys) (hb : xs.length ≤ 900000) (hb2 : ys.length ≤ 10000) :
    Calls Tryd.prog 27 #[.slice p xs.length c, .slice ad ys.length cy] w fun e w' => ∃ p' c' T', e = .returned (.slice p' (xs ++ encI ((ys.length : Nat) : Int) ++ ys).length c') ∧ Ow Tryd.prog (inT T) w w' T' ∧ One fB 5 1 p' c' (xs ++ encI ((ys.length : Nat) : Int) ++ ys) T' := by
  refine c_enter (args := [.slice p xs.length c, .slice ad ys.length cy]) (m := 9) (n := 11) Tryd.func27 rfl (by kernel_rfl) (by kernel_rfl) fun fr hA => ?_
  have hO : Ow Tryd.prog (inT T) w w ([] ++ (T ++ ([]))) := h0.to (by simp only [List.nil_append, List.append_nil])
  have hel := encI_len ((ys.length : Nat) : Int)
  refine sC (e' := [(0, .slice p xs.length c), (1, .slice ad ys.length cy), (4, .slice none 0 0)]) 1 hA [] c0 ?_
  clear hA fr; intro fr hA
  refine sR (l := (rg 0 7)) ?_
  refine ck (l := [0, 1, 2]) (r := [3, 4, 5, 6]) (e' := [(1, .slice ad ys.length cy), (4, .slice none 0 0), (5, .slice p xs.length c), (7, i64 ((ys.length : Nat) : Int))]) hA [] c0 ?_
  clear hA fr; intro fr hA
  replace hO : Ow Tryd.prog (inT T) w w ([] ++ (T ++ ([]))) := hO
  refine wpOps_cons' (mC (f := 25) (args := [.slice p xs.length c, i64 ((ys.length : Nat) : Int)]) (d := (some 8)) hA Tryd.func25 ((int_any p c xs T _ (Ow.self (A := []) (T := T) (B := []) hO) hT hu ((ys.length : Nat) : Int) (inK_i64 (by omega) (by omega)) (by omega)).mono ?_))
  rintro en w1 ⟨p1, c1, T1, rfl, hW, hT1⟩
  refine ⟨_, rfl, ?_⟩
  clear hA fr; intro fr hA
  replace hO := Ow.pass (A := []) (T := T) (B := []) hO hW; clear hW
  have huT1 : U8s (xs ++ encI ((ys.length : Nat) : Int)) := U8s.app hu (encI_u8 _)
  replace hO : Ow Tryd.prog (inT T) w w1 ([] ++ (T1 ++ ([]))) := hO.to (by simp only [List.append_assoc, List.cons_append, List.nil_append, List.append_nil])
  replace hA := hA.sb (e' := [(1, .slice ad ys.length cy), (4, .slice none 0 0), (8, .slice p1 ((xs ++ encI ((ys.length : Nat) : Int)).length) c1)])
  refine ck (l := [4]) (r := [5, 6]) (e' := [(4, .slice none 0 0), (8, .slice p1 ((xs ++ encI ((ys.length : Nat) : Int)).length) c1), (9, .slice ad ys.length cy)]) hA [] c0 ?_
  clear hA fr; intro fr hA
  replace hO : Ow Tryd.prog (inT T) w w1 ([] ++ (T1 ++ ([]))) := hO
  refine wpOps_cons' (mA (f := fB) (el := 5) (sz := 1) (bytes := 1) (p := p1) (c := c1) (l := xs ++ encI ((ys.length : Nat) : Int)) (l' := ys) (T := T1) (t := 22) (tx := 22) (ty := 22) (x := .slice ad ys.length cy) (d := 10) [] ([]) encB hA hO hT1 (Vw.src (e' := 5) encB ((hk.sl hO.only)).vw (by kernel_rfl)) (by first | omega | (simp only [List.length_append, List.length_cons, List.length_nil]; omega)) (by unfold maxLen; first | omega | (simp only [List.length_append, List.length_cons, List.length_nil]; omega)) ?_)
  clear hA hO fr; intro fr w2 p2 c2 T2 hA hO hT2
  have huT2 : U8s ((xs ++ encI ((ys.length : Nat) : Int)) ++ ys) := (U8s.app huT1 ((hk.sl hO.only)).1)
  replace hA := hA.sb (e' := [(4, .slice none 0 0), (10, .slice p2 (((xs ++ encI ((ys.length : Nat) : Int)) ++ ys).length) c2)])
  refine ck (l := [6]) (r := []) (e' := [(4, .slice p2 (((xs ++ encI ((ys.length : Nat) : Int)) ++ ys).length) c2)]) hA [] c0 ?_
  clear hA fr; intro fr hA
  refine end_ops ?_
  refine then_normal ?_
  refine wp_ret ?_
  refine cR (cs := [none]) (us := [.slice p2 (((xs ++ encI ((ys.length : Nat) : Int)) ++ ys).length) c2]) hA [] trivial ?_
  exact ⟨_, _, _, rfl, Ow.just (A := []) (T := T2) (B := []) hO, hT2⟩

theorem from_nil (h : Int) (w : World) :
    Calls Tryd.prog 49 #[u64 h, .slice none 0 0] w fun e w' => e = .returned (.int .u64 h) ∧ Only none' w w' := by
  refine c_enter (args := [u64 h, .slice none 0 0]) (m := 23) (n := 25) Tryd.func49 rfl (by kernel_rfl) (by kernel_rfl) fun fr hA => ?_
  have hO := Ow.nil Tryd.prog none' w
  refine sC (e' := [(0, u64 h), (1, .slice none 0 0), (4, u64 0)]) 1 hA [] c0 ?_
  clear hA fr; intro fr hA
  refine wp_seq ?_
  refine sC (e' := [(0, u64 h), (4, u64 0), (8, .slice none 0 0), (9, i64 0), (10, i64 0)]) 3 hA [] c0 ?_
  clear hA fr; intro fr hA
  refine wp_block ?_
  refine c_loop (fun mm fr W => (mm = 0 ∧ Holds 25 [] fr [(0, u64 h), (4, u64 0), (8, .slice none 0 0), (9, i64 0), (10, i64 0)] ∧ Ow Tryd.prog none' w W [])) ?_ ?_
  · exact ⟨_, ⟨rfl, hA.sb, hO.to⟩⟩
  · rintro _ fr w1 (⟨rfl, hA, hO⟩)
    ·
      refine sC (e' := [(0, u64 h), (4, u64 0), (8, .slice none 0 0), (9, i64 0), (10, i64 0), (11, bl false)]) 1 hA [] c0 ?_
      clear hA fr; intro fr hA
      refine wp_seq ?_
      refine cF hA ?_
      refine wp_exit ?_
      refine then_exit ?_
      refine then_exit ?_
      refine inBlock_exit ?_
      refine then_normal ?_
      refine sC (e' := [(4, u64 h)]) 2 hA [] c0 ?_
      clear hA fr; intro fr hA
      refine wp_ret ?_
      refine cR (cs := [none]) (us := [u64 h]) hA [] trivial ?_
      have hF := hO.only; clear hA hO
      exact ⟨rfl, hF⟩

theorem from_some (h : Int) (ad : Addr) (c : Nat) (xs : List Int) (w : World) (hu : U8s xs) (hc : Cel w ad xs) (hl : xs.length ≤ 1000000) :
    Calls Tryd.prog 49 #[u64 h, .slice (some ad) xs.length c] w fun e w' => e = .returned (.int .u64 (sumF h xs)) ∧ Only none' w w' := by
  refine c_enter (args := [u64 h, .slice (some ad) xs.length c]) (m := 23) (n := 25) Tryd.func49 rfl (by kernel_rfl) (by kernel_rfl) fun fr hA => ?_
  have hO := Ow.nil Tryd.prog none' w
  refine sC (e' := [(0, u64 h), (1, .slice (some ad) xs.length c), (4, u64 0)]) 1 hA [] c0 ?_
  clear hA fr; intro fr hA
  refine wp_seq ?_
  refine sC (e' := [(0, u64 h), (4, u64 0), (8, .slice (some ad) xs.length c), (9, i64 ((xs.length : Nat) : Int)), (10, i64 0)]) 3 hA [] c0 ?_
  clear hA fr; intro fr hA
  refine wp_block ?_
  refine c_loop (fun mm fr W => ∃ (i : Nat), mm = xs.length - i ∧ Holds 25 [] fr [(0, u64 (sumF h (xs.take i))), (4, u64 0), (8, .slice (some ad) xs.length c), (9, i64 ((xs.length : Nat) : Int)), (10, i64 ((i : Nat) : Int))] ∧ Ow Tryd.prog none' w W [] ∧ i ≤ xs.length ∧ True) ?_ ?_
  · exact ⟨_, 0, rfl, (hA.sub (e' := [(0, u64 h), (4, u64 0), (8, .slice (some ad) xs.length c), (9, i64 ((xs.length : Nat) : Int)), (10, i64 0)]) [0, 4, 8, 9, 10] (by kernel_rfl)).cast (by kernel_rfl), hO.to, (by omega), trivial⟩
  · rintro _ fr w1 ⟨i, rfl, hA, hO, hi, -⟩
    have hq := hu.nth i
    refine sC (e' := [(0, u64 (sumF h (xs.take i))), (4, u64 0), (8, .slice (some ad) xs.length c), (9, i64 ((xs.length : Nat) : Int)), (10, i64 ((i : Nat) : Int)), (11, bl (decide (((i : Nat) : Int) < ((xs.length : Nat) : Int))))]) 1 hA [] c0 ?_
    clear hA fr; intro fr hA
    refine wp_seq ?_
    rcases Bool.eq_false_or_eq_true (decide (((i : Nat) : Int) < ((xs.length : Nat) : Int))) with h1 | h1
    ·
      replace hA := hA.bool (f := fun z_ => [(0, u64 (sumF h (xs.take i))), (4, u64 0), (8, .slice (some ad) xs.length c), (9, i64 ((xs.length : Nat) : Int)), (10, i64 ((i : Nat) : Int)), (11, .bool z_)]) h1
      have h1p := of_decide_eq_true h1
      refine cT hA ?_
      refine wp_skip ?_
      refine then_normal ?_
      refine wp_seq ?_
      refine wp_block ?_
      refine sC (e' := [(0, u64 (sumF h (xs.take i))), (4, u64 0), (6, u8 (xs.getD i 0)), (8, .slice (some ad) xs.length c), (9, i64 ((xs.length : Nat) : Int)), (10, i64 ((i : Nat) : Int)), (11, bl true), (12, .pointer (some (ad.add i))), (13, u8 (xs.getD i 0))]) 3 hA [u8 (xs.getD i 0)] (cc (⟨by omega, by omega⟩ : (0 : Int) ≤ ((i : Nat) : Int) ∧ ((i : Nat) : Int) < ((xs.length : Nat) : Int)) (cc ((ld_cell (by kernel_rfl) (hO.only.cell (hc i (by omega)) (fun h => h))) : Ld Tryd.prog w1 (ad.add i) 5 (u8 (xs.getD i 0))) c0)) ?_
      clear hA fr; intro fr hA
      refine sC (e' := [(0, u64 (sumF h (xs.take i))), (4, u64 0), (6, u8 (xs.getD i 0)), (7, u64 (IntKind.u64.wrap ((bits .xor .u64 (sumF h (xs.take i)) (xs.getD i 0)) * 15111065706836454659))), (8, .slice (some ad) xs.length c), (9, i64 ((xs.length : Nat) : Int)), (10, i64 ((i : Nat) : Int)), (11, bl true), (12, .pointer (some (ad.add i))), (13, u8 (xs.getD i 0)), (14, u64 (sumF h (xs.take i))), (15, u8 (xs.getD i 0)), (16, u64 (xs.getD i 0)), (17, u64 (bits .xor .u64 (sumF h (xs.take i)) (xs.getD i 0))), (18, u64 (IntKind.u64.wrap ((bits .xor .u64 (sumF h (xs.take i)) (xs.getD i 0)) * 15111065706836454659)))]) 6 hA [bl true, bl false] (cc ((inK_u64 (by omega) (by omega)) : inK .u64 (xs.getD i 0)) c0) ?_
      clear hA fr; intro fr hA
      refine rC (e' := [(0, u64 (bits .xor .u64 (IntKind.u64.wrap ((bits .xor .u64 (sumF h (xs.take i)) (xs.getD i 0)) * 15111065706836454659)) ((IntKind.u64.wrap ((bits .xor .u64 (sumF h (xs.take i)) (xs.getD i 0)) * 15111065706836454659)) / 536870912))), (4, u64 0), (6, u8 (xs.getD i 0)), (7, u64 (IntKind.u64.wrap ((bits .xor .u64 (sumF h (xs.take i)) (xs.getD i 0)) * 15111065706836454659))), (8, .slice (some ad) xs.length c), (9, i64 ((xs.length : Nat) : Int)), (10, i64 ((i : Nat) : Int)), (11, bl true), (12, .pointer (some (ad.add i))), (13, u8 (xs.getD i 0)), (14, u64 (sumF h (xs.take i))), (15, u8 (xs.getD i 0)), (16, u64 (xs.getD i 0)), (17, u64 (bits .xor .u64 (sumF h (xs.take i)) (xs.getD i 0))), (18, u64 (IntKind.u64.wrap ((bits .xor .u64 (sumF h (xs.take i)) (xs.getD i 0)) * 15111065706836454659))), (19, u64 (IntKind.u64.wrap ((bits .xor .u64 (sumF h (xs.take i)) (xs.getD i 0)) * 15111065706836454659))), (20, u64 (IntKind.u64.wrap ((bits .xor .u64 (sumF h (xs.take i)) (xs.getD i 0)) * 15111065706836454659))), (21, u64 ((IntKind.u64.wrap ((bits .xor .u64 (sumF h (xs.take i)) (xs.getD i 0)) * 15111065706836454659)) / 536870912)), (22, u64 (bits .xor .u64 (IntKind.u64.wrap ((bits .xor .u64 (sumF h (xs.take i)) (xs.getD i 0)) * 15111065706836454659)) ((IntKind.u64.wrap ((bits .xor .u64 (sumF h (xs.take i)) (xs.getD i 0)) * 15111065706836454659)) / 536870912)))]) 5 hA [bl false] (cc (by omega : (0 : Int) ≤ 29) c0) ?_
      clear hA fr; intro fr hA
      replace hA := hA.int (f := fun z_ => [(0, .int .u64 z_), (4, u64 0), (6, u8 (xs.getD i 0)), (7, u64 (IntKind.u64.wrap ((bits .xor .u64 (sumF h (xs.take i)) (xs.getD i 0)) * 15111065706836454659))), (8, .slice (some ad) xs.length c), (9, i64 ((xs.length : Nat) : Int)), (10, i64 ((i : Nat) : Int)), (11, bl true), (12, .pointer (some (ad.add i))), (13, u8 (xs.getD i 0)), (14, u64 (sumF h (xs.take i))), (15, u8 (xs.getD i 0)), (16, u64 (xs.getD i 0)), (17, u64 (bits .xor .u64 (sumF h (xs.take i)) (xs.getD i 0))), (18, u64 (IntKind.u64.wrap ((bits .xor .u64 (sumF h (xs.take i)) (xs.getD i 0)) * 15111065706836454659))), (19, u64 (IntKind.u64.wrap ((bits .xor .u64 (sumF h (xs.take i)) (xs.getD i 0)) * 15111065706836454659))), (20, u64 (IntKind.u64.wrap ((bits .xor .u64 (sumF h (xs.take i)) (xs.getD i 0)) * 15111065706836454659))), (21, u64 ((IntKind.u64.wrap ((bits .xor .u64 (sumF h (xs.take i)) (xs.getD i 0)) * 15111065706836454659)) / 536870912)), (22, .int .u64 z_)]) (sumF_step h xs (by omega) : bits .xor .u64 (IntKind.u64.wrap ((bits .xor .u64 (sumF h (xs.take i)) (xs.getD i 0)) * 15111065706836454659)) ((IntKind.u64.wrap ((bits .xor .u64 (sumF h (xs.take i)) (xs.getD i 0)) * 15111065706836454659)) / 536870912) = sumF h (xs.take (i + 1)))
      refine inBlock_normal ?_
      refine then_normal ?_
      refine rC (e' := [(0, u64 (sumF h (xs.take (i + 1)))), (4, u64 0), (6, u8 (xs.getD i 0)), (7, u64 (IntKind.u64.wrap ((bits .xor .u64 (sumF h (xs.take i)) (xs.getD i 0)) * 15111065706836454659))), (8, .slice (some ad) xs.length c), (9, i64 ((xs.length : Nat) : Int)), (10, i64 (((i : Nat) : Int) + 1)), (11, bl true), (12, .pointer (some (ad.add i))), (13, u8 (xs.getD i 0)), (14, u64 (sumF h (xs.take i))), (15, u8 (xs.getD i 0)), (16, u64 (xs.getD i 0)), (17, u64 (bits .xor .u64 (sumF h (xs.take i)) (xs.getD i 0))), (18, u64 (IntKind.u64.wrap ((bits .xor .u64 (sumF h (xs.take i)) (xs.getD i 0)) * 15111065706836454659))), (19, u64 (IntKind.u64.wrap ((bits .xor .u64 (sumF h (xs.take i)) (xs.getD i 0)) * 15111065706836454659))), (20, u64 (IntKind.u64.wrap ((bits .xor .u64 (sumF h (xs.take i)) (xs.getD i 0)) * 15111065706836454659))), (21, u64 ((IntKind.u64.wrap ((bits .xor .u64 (sumF h (xs.take i)) (xs.getD i 0)) * 15111065706836454659)) / 536870912)), (22, u64 (sumF h (xs.take (i + 1)))), (23, i64 (((i : Nat) : Int) + 1))]) 2 hA [bl true] (cc ((inK_i64 (by omega) (by omega)) : inK .i64 (((i : Nat) : Int) + 1)) c0) ?_
      clear hA fr; intro fr hA
      refine then_normal ?_
      exact ⟨_, by omega, i + 1, rfl, (hA.sub (e' := [(0, u64 (sumF h (xs.take (i + 1)))), (4, u64 0), (8, .slice (some ad) xs.length c), (9, i64 ((xs.length : Nat) : Int)), (10, i64 (((i : Nat) : Int) + 1))]) [0, 4, 8, 9, 10] (by kernel_rfl)).cast (by kernel_rfl), hO.to, (by omega), trivial⟩
    ·
      replace hA := hA.bool (f := fun z_ => [(0, u64 (sumF h (xs.take i))), (4, u64 0), (8, .slice (some ad) xs.length c), (9, i64 ((xs.length : Nat) : Int)), (10, i64 ((i : Nat) : Int)), (11, .bool z_)]) h1
      have h1p := of_decide_eq_false h1
      refine cF hA ?_
      refine wp_exit ?_
      refine then_exit ?_
      refine then_exit ?_
      refine inBlock_exit ?_
      refine then_normal ?_
      refine sC (e' := [(4, u64 (sumF h (xs.take i)))]) 2 hA [] c0 ?_
      clear hA fr; intro fr hA
      refine wp_ret ?_
      refine cR (cs := [none]) (us := [u64 (sumF h (xs.take i))]) hA [] trivial ?_
      have hF := hO.only; clear hA hO
      obtain rfl : i = xs.length := by omega
      exact ⟨by rw [List.take_length]; rfl, hF⟩

theorem from_any (h : Int) (v : Value) (xs : List Int) (w : World) (hs : SlI w v xs) (hl : xs.length ≤ 1000000) : Calls Tryd.prog 49 #[.int .u64 h, v] w fun e w' => e = .returned (.int .u64 (sumF h xs)) ∧ Only none' w w' := by
  obtain ⟨hu, ⟨rfl, rfl⟩ | ⟨ad, c, rfl, hc⟩⟩ := hs
  · exact from_nil h w
  · exact from_some h ad c xs w hu hc hl

theorem eight_any (p : Option Addr) (c : Nat) (xs : List Int) (T : OwL) (w : World) (h0 : Ow Tryd.prog (inT T) w w T) (hT : One fB 5 1 p c xs T) (hu : U8s xs) (x : Int) (hb : xs.length ≤ 1000000) :
    Calls Tryd.prog 50 #[.slice p xs.length c, i64 x] w fun e w' => ∃ p' c' T', e = .returned (.slice p' (xs ++ leL (IntKind.u64.wrap x) 8).length c') ∧ Ow Tryd.prog (inT T) w w' T' ∧ One fB 5 1 p' c' (xs ++ leL (IntKind.u64.wrap x) 8) T' := by
  refine c_enter (args := [.slice p xs.length c, i64 x]) (m := 18) (n := 20) Tryd.func50 rfl (by kernel_rfl) (by kernel_rfl) fun fr hA => ?_
  have hO : Ow Tryd.prog (inT T) w w ([] ++ (T ++ ([]))) := h0.to (by simp only [List.nil_append, List.append_nil])
  refine sC (e' := [(0, .slice p xs.length c), (1, i64 x), (4, .slice none 0 0)]) 1 hA [] c0 ?_
  clear hA fr; intro fr hA
  refine wp_seq ?_
  refine sC (e' := [(0, .slice p xs.length c), (1, i64 x), (4, .slice none 0 0), (6, i64 0)]) 1 hA [] c0 ?_
  clear hA fr; intro fr hA
  refine wp_block ?_
  rw [show xs = xs ++ leL (IntKind.u64.wrap x) 0 from (by simp only [leL, List.range_zero, List.map_nil, List.append_nil])] at hA hT hu
  refine c_loop (fun mm fr W => ∃ (i : Nat) (pL1 : Option Addr) (cL1 : Nat) (TL1 : OwL), mm = 8 - i ∧ Holds 20 [] fr [(0, .slice pL1 ((xs ++ leL (IntKind.u64.wrap x) i).length) cL1), (1, i64 x), (4, .slice none 0 0), (6, i64 ((i : Nat) : Int))] ∧ Ow Tryd.prog (inT T) w W ([] ++ (TL1 ++ ([]))) ∧ One fB 5 1 pL1 cL1 (xs ++ leL (IntKind.u64.wrap x) i) TL1 ∧ U8s (xs ++ leL (IntKind.u64.wrap x) i) ∧ i ≤ 8 ∧ True) ?_ ?_
  · exact ⟨_, 0, p, c, T, rfl, (hA.sub (e' := [(0, .slice p ((xs ++ leL (IntKind.u64.wrap x) 0).length) c), (1, i64 x), (4, .slice none 0 0), (6, i64 0)]) [0, 1, 4, 6] (by kernel_rfl)).cast (by kernel_rfl), (hO : Ow Tryd.prog (inT T) w _ ([] ++ (T ++ ([])))), hT, hu, (by omega), trivial⟩
  · rintro _ fr w1 ⟨i, pL1, cL1, TL1, rfl, hA, hO, hTL1, huL1, hi, -⟩
    have hlen : (leL (IntKind.u64.wrap x) i).length = i := leL_len _ _
    refine sC (e' := [(0, .slice pL1 ((xs ++ leL (IntKind.u64.wrap x) i).length) cL1), (1, i64 x), (4, .slice none 0 0), (6, i64 ((i : Nat) : Int)), (7, bl (decide (((i : Nat) : Int) < 8)))]) 1 hA [] c0 ?_
    clear hA fr; intro fr hA
    refine wp_seq ?_
    rcases Bool.eq_false_or_eq_true (decide (((i : Nat) : Int) < 8)) with h1 | h1
    ·
      replace hA := hA.bool (f := fun z_ => [(0, .slice pL1 ((xs ++ leL (IntKind.u64.wrap x) i).length) cL1), (1, i64 x), (4, .slice none 0 0), (6, i64 ((i : Nat) : Int)), (7, .bool z_)]) h1
      have h1p := of_decide_eq_true h1
      refine cT hA ?_
      refine wp_skip ?_
      refine then_normal ?_
      refine wp_seq ?_
      refine wp_block ?_
      refine sC (e' := [(0, .slice pL1 ((xs ++ leL (IntKind.u64.wrap x) i).length) cL1), (1, i64 x), (4, .slice none 0 0), (5, i64 ((i : Nat) : Int)), (6, i64 ((i : Nat) : Int)), (7, bl true), (8, i64 ((i : Nat) : Int))]) 2 hA [] c0 ?_
      clear hA fr; intro fr hA
      refine rR (l := (rg 0 10)) ?_
      refine ck (l := (rg 0 7)) (r := [7, 8, 9]) (e' := [(0, .slice pL1 ((xs ++ leL (IntKind.u64.wrap x) i).length) cL1), (1, i64 x), (4, .slice none 0 0), (5, i64 ((i : Nat) : Int)), (6, i64 ((i : Nat) : Int)), (7, bl true), (8, i64 ((i : Nat) : Int)), (9, .slice pL1 ((xs ++ leL (IntKind.u64.wrap x) i).length) cL1), (10, i64 x), (11, u64 (IntKind.u64.wrap x)), (12, i64 ((i : Nat) : Int)), (13, i64 (8 * ((i : Nat) : Int))), (14, u64 ((IntKind.u64.wrap x) / 2 ^ (min (8 * ((i : Nat) : Int)).toNat 64))), (15, u8 (IntKind.u8.wrap ((IntKind.u64.wrap x) / 2 ^ (min (8 * ((i : Nat) : Int)).toNat 64))))]) hA [bl false, bl true, bl false, bl false] (cc ((inK_i64 (by omega) (by omega)) : inK .i64 (8 * ((i : Nat) : Int))) (cc (by omega : (0 : Int) ≤ 8 * ((i : Nat) : Int)) c0)) ?_
      clear hA fr; intro fr hA
      refine wpOps_cons' (mN (l := [u8 (IntKind.u8.wrap ((IntKind.u64.wrap x) / 2 ^ (min (8 * ((i : Nat) : Int)).toNat 64)))]) (t := 5) (v := fun b => .slice (some ⟨b, 0, none⟩) 1 1) (d := 16) hA hO ?_)
      clear hA hO fr; intro fr w2 b1 hA hO
      replace hO : Ow Tryd.prog (inT T) w w2 ([(b1, 5, [u8 (IntKind.u8.wrap ((IntKind.u64.wrap x) / 2 ^ (min (8 * ((i : Nat) : Int)).toNat 64)))])] ++ (TL1 ++ ([]))) := hO
      refine wpOps_cons' (mA (f := fB) (el := 5) (sz := 1) (bytes := 1) (p := pL1) (c := cL1) (l := xs ++ leL (IntKind.u64.wrap x) i) (l' := [IntKind.u8.wrap ((IntKind.u64.wrap x) / 2 ^ (min (8 * ((i : Nat) : Int)).toNat 64))]) (T := TL1) (t := 22) (tx := 22) (ty := 22) (x := .slice (some ⟨b1, 0, none⟩) 1 1) (d := 17) [(b1, 5, [u8 (IntKind.u8.wrap ((IntKind.u64.wrap x) / 2 ^ (min (8 * ((i : Nat) : Int)).toNat 64)))])] ([]) encB hA hO hTL1 (Vw.src (e' := 5) encB ((hO.b 0).vw (off := 0) (xs := [IntKind.u8.wrap ((IntKind.u64.wrap x) / 2 ^ (min (8 * ((i : Nat) : Int)).toNat 64))]) (by kernel_rfl)) (by kernel_rfl)) (by first | omega | (simp only [List.length_append, List.length_cons, List.length_nil]; omega)) (by unfold maxLen; first | omega | (simp only [List.length_append, List.length_cons, List.length_nil]; omega)) ?_)
      clear hA hO fr; intro fr w3 p1 c1 T1 hA hO hT1
      have huT1 : U8s ((xs ++ leL (IntKind.u64.wrap x) i) ++ ([IntKind.u8.wrap ((IntKind.u64.wrap x) / 2 ^ (min (8 * ((i : Nat) : Int)).toNat 64))])) := (U8s.app huL1 (U8s.cons (wrap_inK .u8 _) U8s.nil))
      rw [show ((xs ++ leL (IntKind.u64.wrap x) i) ++ ([IntKind.u8.wrap ((IntKind.u64.wrap x) / 2 ^ (min (8 * ((i : Nat) : Int)).toNat 64))])) = xs ++ leL (IntKind.u64.wrap x) (i + 1) from (by rw [← leL_succ, List.append_assoc]; rfl)] at hA hT1 huT1
      refine ck (l := [9]) (r := []) (e' := [(0, .slice p1 ((xs ++ leL (IntKind.u64.wrap x) (i + 1)).length) c1), (1, i64 x), (4, .slice none 0 0), (5, i64 ((i : Nat) : Int)), (6, i64 ((i : Nat) : Int)), (7, bl true), (8, i64 ((i : Nat) : Int)), (9, .slice pL1 ((xs ++ leL (IntKind.u64.wrap x) i).length) cL1), (10, i64 x), (11, u64 (IntKind.u64.wrap x)), (12, i64 ((i : Nat) : Int)), (13, i64 (8 * ((i : Nat) : Int))), (14, u64 ((IntKind.u64.wrap x) / 2 ^ (min (8 * ((i : Nat) : Int)).toNat 64))), (15, u8 (IntKind.u8.wrap ((IntKind.u64.wrap x) / 2 ^ (min (8 * ((i : Nat) : Int)).toNat 64)))), (16, .slice (some ⟨b1, 0, none⟩) 1 1), (17, .slice p1 ((xs ++ leL (IntKind.u64.wrap x) (i + 1)).length) c1)]) hA [] c0 ?_
      clear hA fr; intro fr hA
      refine end_ops ?_
      refine inBlock_normal ?_
      refine then_normal ?_
      refine rC (e' := [(0, .slice p1 ((xs ++ leL (IntKind.u64.wrap x) (i + 1)).length) c1), (1, i64 x), (4, .slice none 0 0), (5, i64 ((i : Nat) : Int)), (6, i64 (((i : Nat) : Int) + 1)), (7, bl true), (8, i64 ((i : Nat) : Int)), (9, .slice pL1 ((xs ++ leL (IntKind.u64.wrap x) i).length) cL1), (10, i64 x), (11, u64 (IntKind.u64.wrap x)), (12, i64 ((i : Nat) : Int)), (13, i64 (8 * ((i : Nat) : Int))), (14, u64 ((IntKind.u64.wrap x) / 2 ^ (min (8 * ((i : Nat) : Int)).toNat 64))), (15, u8 (IntKind.u8.wrap ((IntKind.u64.wrap x) / 2 ^ (min (8 * ((i : Nat) : Int)).toNat 64)))), (16, .slice (some ⟨b1, 0, none⟩) 1 1), (17, .slice p1 ((xs ++ leL (IntKind.u64.wrap x) (i + 1)).length) c1), (18, i64 (((i : Nat) : Int) + 1))]) 2 hA [bl true] (cc ((inK_i64 (by omega) (by omega)) : inK .i64 (((i : Nat) : Int) + 1)) c0) ?_
      clear hA fr; intro fr hA
      refine then_normal ?_
      exact ⟨_, by omega, i + 1, p1, c1, T1, rfl, (hA.sub (e' := [(0, .slice p1 ((xs ++ leL (IntKind.u64.wrap x) (i + 1)).length) c1), (1, i64 x), (4, .slice none 0 0), (6, i64 (((i : Nat) : Int) + 1))]) [0, 1, 4, 6] (by kernel_rfl)).cast (by kernel_rfl), (Ow.subP (A := [(b1, 5, [u8 (IntKind.u8.wrap ((IntKind.u64.wrap x) / 2 ^ (min (8 * ((i : Nat) : Int)).toNat 64)))])]) (A' := []) (B := T1 ++ ([])) hO (.cons _ .slnil)), hT1, huT1, (by omega), trivial⟩
    ·
      replace hA := hA.bool (f := fun z_ => [(0, .slice pL1 ((xs ++ leL (IntKind.u64.wrap x) i).length) cL1), (1, i64 x), (4, .slice none 0 0), (6, i64 ((i : Nat) : Int)), (7, .bool z_)]) h1
      have h1p := of_decide_eq_false h1
      refine cF hA ?_
      refine wp_exit ?_
      refine then_exit ?_
      refine then_exit ?_
      refine inBlock_exit ?_
      refine then_normal ?_
      refine sC (e' := [(4, .slice pL1 ((xs ++ leL (IntKind.u64.wrap x) i).length) cL1)]) 2 hA [] c0 ?_
      clear hA fr; intro fr hA
      refine wp_ret ?_
      refine cR (cs := [none]) (us := [.slice pL1 ((xs ++ leL (IntKind.u64.wrap x) i).length) cL1]) hA [] trivial ?_
      obtain rfl : i = 8 := by omega
      exact ⟨_, _, _, rfl, Ow.just (A := []) (T := TL1) (B := []) hO, hTL1⟩

end Go.Proofs.YtkfnkcpdabdboaaDoor
