/- The layer command: the reference: tokens and the small methods. -/
import Derived.Test.YtfhcpegemapbkaaCmdToks
set_option linter.unusedVariables false
set_option linter.unusedSimpArgs false
set_option maxRecDepth 10000
namespace Go.Proofs.Ytfhcpegemapbkaa
open Go Go.Shelf Go.RowKit Go.Proofs Go.Proofs.Sx

theorem tword_any (sv : ByteArray) (n : Nat) (w : World) :
    Calls Try.prog 48 #[.agg #[str (rt sv n), i64 ((n : Nat) : Int)]] w fun e w' => e = .returned (.bool (decide (kd sv n = 1))) ∧ Only none' w w' := by
 refine c_enter (args := [.agg #[str (rt sv n), i64 ((n : Nat) : Int)]]) (m := 11) (n := 12) Try.func48 rfl (by kernel_rfl) (by kernel_rfl) fun fr hA => ?_
 have hO := Ow.nil Try.prog none' w
 have hrl := rl_kd sv n
 have hrz := rt_size sv n
 have hsb := sb_b (rt sv n) 0
 refine sR (l := [0, 1]) ?_
 refine wpOps_cons' (mN (l := [str (rt sv n), i64 ((n : Nat) : Int)]) (t := 68) (v := pt) (d := 1) hA hO ?_)
 clear hA hO fr; intro fr w1 b1 hA hO
 replace hA := hA.sb (e' := [(1, pt b1)])
 refine ck (l := [1]) (r := []) (e' := [(1, pt b1), (2, bl false)]) hA [] c0 ?_
 clear hA fr; intro fr hA
 refine end_ops ?_
 refine then_normal ?_
 refine sR (l := (rg 0 10)) ?_
 refine ck (l := [0, 1, 2, 3]) (r := (rg 4 6)) (e' := [(1, pt b1), (2, bl false), (5, bl (!((rt sv n).toList == (⟨#[]⟩ : ByteArray).toList))), (6, bl (!((rt sv n).toList == (⟨#[]⟩ : ByteArray).toList)))]) hA [str (rt sv n)] (cc (hO.l1 0 0 9 (str (rt sv n))) c0) ?_
 clear hA fr; intro fr hA
 replace hA := hA.bool (f := fun z_ => [(1, pt b1), (2, bl false), (5, .bool !z_), (6, .bool !z_)]) (rt_none sv n : ((rt sv n).toList == (⟨#[]⟩ : ByteArray).toList) = (decide (kd sv n = 0)))
 rcases Bool.eq_false_or_eq_true (decide (kd sv n = 0)) with h1 | h1
 · rw [h1] at hA
   have h1p := of_decide_eq_true h1
   refine ck (l := (rg 4 6)) (r := []) (e' := [(2, bl false)]) hA [] c0 ?_
   clear hA fr; intro fr hA
   refine end_ops ?_
   refine then_normal ?_
   refine wp_ret ?_
   refine cR (cs := [none]) (us := [bl false]) hA [] trivial ?_
   have hF := hO.only; clear hA hO
   exact ⟨congrArg (fun b => Ending.returned (.bool b)) (by first | rfl | exact (decide_eq_false (by omega)).symm | exact (decide_eq_true (by omega)).symm), hF⟩
 rw [h1] at hA
 have h1p := of_decide_eq_false h1
 refine ck (l := [4, 5, 6]) (r := [7, 8, 9]) (e' := [(2, bl false), (6, bl true), (9, u8 (sb (rt sv n) 0))]) hA [str (rt sv n)] (cc (hO.l1 0 0 9 (str (rt sv n))) (cc (⟨by omega, by omega⟩ : (0 : Int) ≤ 0 ∧ 0 < (((rt sv n).size : Nat) : Int)) c0)) ?_
 clear hA fr; intro fr hA
 refine wpOps_cons' (mK (f := 41) (args := [u8 (sb (rt sv n) 0)]) (d := (some 10)) (v := bl (partI (sb (rt sv n) 0))) hA hO Try.func41 (inner_any (sb (rt sv n) 0) _ (by omega) (by omega)) ?_)
 clear hA hO fr; intro fr w2 hA hO
 replace hA := hA.sb (e' := [(2, bl false), (6, bl true), (10, bl (partI (sb (rt sv n) 0)))])
 refine ck (l := [8, 9]) (r := []) (e' := [(2, bl (partI (sb (rt sv n) 0)))]) hA [] c0 ?_
 clear hA fr; intro fr hA
 replace hA := hA.bool (f := fun z_ => [(2, .bool z_)]) (part_rt (by omega) : (partI (sb (rt sv n) 0)) = (decide (kd sv n = 1)))
 refine end_ops ?_
 refine then_normal ?_
 refine wp_ret ?_
 refine cR (cs := [none]) (us := [bl (decide (kd sv n = 1))]) hA [] trivial ?_
 have hF := hO.only; clear hA hO
 exact ⟨congrArg (fun b => Ending.returned (.bool b)) (by first | rfl | exact (decide_eq_false (by omega)).symm | exact (decide_eq_true (by omega)).symm), hF⟩

theorem rbegins_any (sv : ByteArray) (n : Nat) (w : World) :
    Calls Try.prog 26 #[.agg #[str (rt sv n), i64 ((n : Nat) : Int)]] w fun e w' => e = .returned (.bool (begK (kd sv n))) ∧ Only none' w w' := by
 refine c_enter (args := [.agg #[str (rt sv n), i64 ((n : Nat) : Int)]]) (m := 19) (n := 20) Try.func26 rfl (by kernel_rfl) (by kernel_rfl) fun fr hA => ?_
 have hO := Ow.nil Try.prog none' w
 have hrl := rl_kd sv n
 refine sR (l := [0, 1]) ?_
 refine wpOps_cons' (mN (l := [str (rt sv n), i64 ((n : Nat) : Int)]) (t := 68) (v := pt) (d := 1) hA hO ?_)
 clear hA hO fr; intro fr w1 b1 hA hO
 replace hA := hA.sb (e' := [(1, pt b1)])
 refine ck (l := [1]) (r := []) (e' := [(1, pt b1), (2, bl false)]) hA [] c0 ?_
 clear hA fr; intro fr hA
 refine end_ops ?_
 refine then_normal ?_
 refine sR (l := (rg 0 18)) ?_
 refine ck (l := [0]) (r := (rg 1 17)) (e' := [(1, pt b1), (2, bl false), (3, .agg #[str (rt sv n), i64 ((n : Nat) : Int)])]) hA [.agg #[str (rt sv n), i64 ((n : Nat) : Int)]] (cc (hO.ln 0 0 68 [str (rt sv n), i64 ((n : Nat) : Int)]) c0) ?_
 clear hA fr; intro fr hA
 refine wpOps_cons' (mK (f := 48) (args := [.agg #[str (rt sv n), i64 ((n : Nat) : Int)]]) (d := (some 4)) (v := bl (decide (kd sv n = 1))) hA hO Try.func48 (tword_any sv n _) ?_)
 clear hA hO fr; intro fr w2 hA hO
 replace hA := hA.sb (e' := [(1, pt b1), (2, bl false), (4, bl (decide (kd sv n = 1)))])
 refine ck (l := [2]) (r := (rg 3 15)) (e' := [(1, pt b1), (2, bl false), (4, bl (decide (kd sv n = 1))), (5, bl (decide (kd sv n = 1)))]) hA [] c0 ?_
 clear hA fr; intro fr hA
 rcases Bool.eq_false_or_eq_true (decide (kd sv n = 1)) with h1 | h1
 · rw [h1] at hA
   have h1p := of_decide_eq_true h1
   refine ck (l := (rg 3 15)) (r := []) (e' := [(2, bl true)]) hA [] c0 ?_
   clear hA fr; intro fr hA
   refine end_ops ?_
   refine then_normal ?_
   refine wp_ret ?_
   refine cR (cs := [none]) (us := [bl true]) hA [] trivial ?_
   have hF := hO.only; clear hA hO
   refine ⟨congrArg (fun b => Ending.returned (.bool b)) ?_, hF⟩
   unfold begK
   first | exact (decide_eq_true (by omega)).symm | exact (decide_eq_false (by omega)).symm | exact decide_eq_decide.2 (by omega)
 rw [h1] at hA
 have h1p := of_decide_eq_false h1
 refine ck (l := (rg 3 5)) (r := (rg 8 10)) (e' := [(1, pt b1), (2, bl false), (8, bl ((rt sv n).toList == (⟨#[60]⟩ : ByteArray).toList)), (9, bl ((rt sv n).toList == (⟨#[60]⟩ : ByteArray).toList)), (10, bl ((rt sv n).toList == (⟨#[60]⟩ : ByteArray).toList))]) hA [str (rt sv n)] (cc (hO.l1 0 0 9 (str (rt sv n))) c0) ?_
 clear hA fr; intro fr hA
 replace hA := hA.bool (f := fun z_ => [(1, pt b1), (2, bl false), (8, .bool z_), (9, .bool z_), (10, .bool z_)]) (rt_lt sv n : ((rt sv n).toList == (⟨#[60]⟩ : ByteArray).toList) = (decide (kd sv n = 2)))
 rcases Bool.eq_false_or_eq_true (decide (kd sv n = 2)) with h2 | h2
 · rw [h2] at hA
   have h2p := of_decide_eq_true h2
   refine ck (l := (rg 8 10)) (r := []) (e' := [(2, bl true)]) hA [] c0 ?_
   clear hA fr; intro fr hA
   refine end_ops ?_
   refine then_normal ?_
   refine wp_ret ?_
   refine cR (cs := [none]) (us := [bl true]) hA [] trivial ?_
   have hF := hO.only; clear hA hO
   refine ⟨congrArg (fun b => Ending.returned (.bool b)) ?_, hF⟩
   unfold begK
   first | exact (decide_eq_true (by omega)).symm | exact (decide_eq_false (by omega)).symm | exact decide_eq_decide.2 (by omega)
 rw [h2] at hA
 have h2p := of_decide_eq_false h2
 refine ck (l := (rg 8 5)) (r := (rg 13 5)) (e' := [(1, pt b1), (2, bl false), (13, bl ((rt sv n).toList == (⟨#[62]⟩ : ByteArray).toList)), (14, bl ((rt sv n).toList == (⟨#[62]⟩ : ByteArray).toList)), (15, bl ((rt sv n).toList == (⟨#[62]⟩ : ByteArray).toList))]) hA [str (rt sv n)] (cc (hO.l1 0 0 9 (str (rt sv n))) c0) ?_
 clear hA fr; intro fr hA
 replace hA := hA.bool (f := fun z_ => [(1, pt b1), (2, bl false), (13, .bool z_), (14, .bool z_), (15, .bool z_)]) (rt_gt sv n : ((rt sv n).toList == (⟨#[62]⟩ : ByteArray).toList) = (decide (kd sv n = 3)))
 rcases Bool.eq_false_or_eq_true (decide (kd sv n = 3)) with h3 | h3
 · rw [h3] at hA
   have h3p := of_decide_eq_true h3
   refine ck (l := (rg 13 5)) (r := []) (e' := [(2, bl true)]) hA [] c0 ?_
   clear hA fr; intro fr hA
   refine end_ops ?_
   refine then_normal ?_
   refine wp_ret ?_
   refine cR (cs := [none]) (us := [bl true]) hA [] trivial ?_
   have hF := hO.only; clear hA hO
   refine ⟨congrArg (fun b => Ending.returned (.bool b)) ?_, hF⟩
   unfold begK
   first | exact (decide_eq_true (by omega)).symm | exact (decide_eq_false (by omega)).symm | exact decide_eq_decide.2 (by omega)
 rw [h3] at hA
 have h3p := of_decide_eq_false h3
 refine ck (l := (rg 13 5)) (r := []) (e' := [(2, bl ((rt sv n).toList == (⟨#[62, 62]⟩ : ByteArray).toList))]) hA [str (rt sv n)] (cc (hO.l1 0 0 9 (str (rt sv n))) c0) ?_
 clear hA fr; intro fr hA
 replace hA := hA.bool (f := fun z_ => [(2, .bool z_)]) (rt_app sv n : ((rt sv n).toList == (⟨#[62, 62]⟩ : ByteArray).toList) = (decide (kd sv n = 4)))
 refine end_ops ?_
 refine then_normal ?_
 refine wp_ret ?_
 refine cR (cs := [none]) (us := [bl (decide (kd sv n = 4))]) hA [] trivial ?_
 have hF := hO.only; clear hA hO
 refine ⟨congrArg (fun b => Ending.returned (.bool b)) ?_, hF⟩
 unfold begK
 first | exact (decide_eq_true (by omega)).symm | exact (decide_eq_false (by omega)).symm | exact decide_eq_decide.2 (by omega)

theorem kd_np {s : ByteArray} {n : Nat} (h : partI (sb s n) = false) : kd s n ≠ 1 := fun e => by
  rcases kd_spec s n with q | ⟨_, _, q⟩ | ⟨_, _, q⟩
  · omega
  · rw [h] at q; cases q
  · omega
theorem kd_p {s : ByteArray} {n : Nat} (hn : n < s.size) (h : partI (sb s n) = true) : kd s n = 1 := by
 rcases kd_spec s n with q | ⟨q, _, _⟩ | ⟨_, q, _⟩
 · omega
 · exact q
 rw [h] at q; cases q
theorem tok_step {s : ByteArray} {i m : Nat} {o : List (ByteArray × Nat)} (ho : o ++ tks s (sk s i) = tks s (sk s 0)) (hi : i < s.size) (hb : ¬ blankI (sb s i) = true) (hm : m = rl s i) :
    (o ++ [(s.extract i (i + m), i)]) ++ tks s (sk s (i + m)) = tks s (sk s 0) := by
 rw [sk_stop (n := i) (by rintro ⟨_, q⟩; exact hb q), tks_more hi] at ho
 subst hm
 rw [← ho, List.append_assoc]; rfl

theorem tokens_any (sv : ByteArray) (w : World) (hs : sv.size ≤ 1000000) :
    Calls Try.prog 25 #[str sv] w fun e w' => ∃ p c T, e = .returned (.slice p (tks sv (sk sv 0)).length c) ∧ One fK 68 2 p c (tks sv (sk sv 0)) T ∧ Ow Try.prog none' w w' T := by
 refine c_enter (args := [str sv]) (m := 82) (n := 83) Try.func25 rfl (by kernel_rfl) (by kernel_rfl) fun fr hA => ?_
 have hO := Ow.nil Try.prog none' w
 refine sC (e' := [(0, str sv), (2, .slice none 0 0)]) 1 hA [] c0 ?_
 clear hA fr; intro fr hA
 refine sC (e' := [(0, str sv), (2, .slice none 0 0), (3, .slice none 0 0)]) 1 hA [] c0 ?_
 clear hA fr; intro fr hA
 refine wp_seq ?_
 refine sC (e' := [(0, str sv), (2, .slice none 0 0), (3, .slice none 0 0), (4, i64 0)]) 1 hA [] c0 ?_
 clear hA fr; intro fr hA
 refine wp_block ?_
 have hT1 := One.nil fK 68 2
 replace hO : Ow Try.prog none' w w ([] ++ ([] ++ ([]))) := hO.to (by first | rfl | (simp only [TP, apd]))
 refine c_loop (fun mm fr W => ∃ (i : Nat) (o : List (ByteArray × Nat)) (pL1 : Option Addr) (cL1 : Nat) (TL1 : OwL), mm = sv.size - i ∧ Holds 83 [] fr [(0, str sv), (2, .slice none 0 0), (3, .slice pL1 o.length cL1), (4, i64 ((i : Nat) : Int))] ∧ Ow Try.prog none' w W ([] ++ (TL1 ++ ([]))) ∧ One fK 68 2 pL1 cL1 o TL1 ∧ i ≤ sv.size ∧ o ++ tks sv (sk sv i) = tks sv (sk sv 0) ∧ o.length ≤ i ∧ True) ?_ ?_
 · exact ⟨_, 0, [], none, 0, [], rfl, (hA.sub (e' := [(0, str sv), (2, .slice none 0 0), (3, .slice none 0 0), (4, i64 0)]) [0, 2, 3, 4] (by kernel_rfl)).cast (by kernel_rfl), (hO : Ow Try.prog none' w _ ([] ++ ([] ++ ([])))), hT1, (Nat.zero_le _), rfl, (Nat.le_refl _), trivial⟩
 rintro _ fr w1 ⟨i, o, pL1, cL1, TL1, rfl, hA, hO, hTL1, hi, ho, hol, -⟩
 have hsb := sb_b sv i
 have hkd := kd_spec sv i
 have hrl := rl_kd sv i
 refine wp_seq ?_
 refine sC (e' := [(0, str sv), (2, .slice none 0 0), (3, .slice pL1 o.length cL1), (4, i64 ((i : Nat) : Int)), (9, bl (decide (((i : Nat) : Int) < ((sv.size : Nat) : Int))))]) 4 hA [] c0 ?_
 clear hA fr; intro fr hA
 rcases Bool.eq_false_or_eq_true (decide (((i : Nat) : Int) < ((sv.size : Nat) : Int))) with h1 | h1
 · replace hA := hA.bool (f := fun z_ => [(0, str sv), (2, .slice none 0 0), (3, .slice pL1 o.length cL1), (4, i64 ((i : Nat) : Int)), (9, .bool z_)]) h1
   have h1p := of_decide_eq_true h1
   refine cT hA ?_
   refine wp_skip ?_
   refine then_normal ?_
   refine wp_block ?_
   refine sC (e' := [(0, str sv), (2, .slice none 0 0), (3, .slice pL1 o.length cL1), (4, i64 ((i : Nat) : Int)), (5, i64 1)]) 1 hA [] c0 ?_
   clear hA fr; intro fr hA
   refine wp_seq ?_
   refine wp_block ?_
   refine sR (l := (rg 0 11)) ?_
   refine ck (l := (rg 0 5)) (r := (rg 5 6)) (e' := [(0, str sv), (2, .slice none 0 0), (3, .slice pL1 o.length cL1), (4, i64 ((i : Nat) : Int)), (5, i64 1), (14, bl ((sb sv i) == 32)), (15, bl ((sb sv i) == 32))]) hA [] (cc (⟨by omega, by omega⟩ : (0 : Int) ≤ ((i : Nat) : Int) ∧ ((i : Nat) : Int) < ((sv.size : Nat) : Int)) c0) ?_
   clear hA fr; intro fr hA
   rcases Bool.eq_false_or_eq_true ((sb sv i) == 32) with h2 | h2
   · replace hA := hA.bool (f := fun z_ => [(0, str sv), (2, .slice none 0 0), (3, .slice pL1 o.length cL1), (4, i64 ((i : Nat) : Int)), (5, i64 1), (14, .bool z_), (15, .bool z_)]) h2
     have h2p := eq_of_beq h2
     refine ck (l := (rg 5 6)) (r := []) (e' := [(0, str sv), (2, .slice none 0 0), (3, .slice pL1 o.length cL1), (4, i64 ((i : Nat) : Int)), (5, i64 1), (10, bl true)]) hA [] c0 ?_
     clear hA fr; intro fr hA
     refine end_ops ?_
     refine then_normal ?_
     refine cT hA ?_
     refine sC (e' := [(0, str sv), (2, .slice none 0 0), (3, .slice pL1 o.length cL1), (4, i64 (((i : Nat) : Int) + 1)), (5, i64 1)]) 3 hA [bl true] (cc ((inK_i64 (by omega) (by omega)) : inK .i64 (((i : Nat) : Int) + 1)) c0) ?_
     clear hA fr; intro fr hA
     replace hA := hA.int (f := fun z_ => [(0, str sv), (2, .slice none 0 0), (3, .slice pL1 o.length cL1), (4, .int .i64 z_), (5, i64 1)]) (rfl : ((i : Nat) : Int) + 1 = ((i + 1 : Nat) : Int))
     refine wp_exit ?_
     refine inBlock_other (by decide) ?_
     refine then_exit ?_
     refine inBlock_exit ?_
     refine then_normal ?_
     exact ⟨_, by omega, i + 1, o, pL1, cL1, TL1, rfl, (hA.sub (e' := [(0, str sv), (2, .slice none 0 0), (3, .slice pL1 o.length cL1), (4, i64 ((i + 1 : Nat) : Int))]) [0, 2, 3, 4] (by kernel_rfl)).cast (by kernel_rfl), (hO : Ow Try.prog none' w _ ([] ++ (TL1 ++ ([])))), hTL1, (by omega), (by rw [← sk_more (by omega) (by unfold blankI; exact decide_eq_true (by omega))]; exact ho), (by omega), trivial⟩
   replace hA := hA.bool (f := fun z_ => [(0, str sv), (2, .slice none 0 0), (3, .slice pL1 o.length cL1), (4, i64 ((i : Nat) : Int)), (5, i64 1), (14, .bool z_), (15, .bool z_)]) h2
   have h2p := ne_of_beq_false h2
   refine ck (l := (rg 5 6)) (r := []) (e' := [(0, str sv), (2, .slice none 0 0), (3, .slice pL1 o.length cL1), (4, i64 ((i : Nat) : Int)), (5, i64 1), (10, bl ((sb sv i) == 9))]) hA [] (cc (⟨by omega, by omega⟩ : (0 : Int) ≤ ((i : Nat) : Int) ∧ ((i : Nat) : Int) < ((sv.size : Nat) : Int)) c0) ?_
   clear hA fr; intro fr hA
   refine end_ops ?_
   refine then_normal ?_
   rcases Bool.eq_false_or_eq_true ((sb sv i) == 9) with h3 | h3
   · replace hA := hA.bool (f := fun z_ => [(0, str sv), (2, .slice none 0 0), (3, .slice pL1 o.length cL1), (4, i64 ((i : Nat) : Int)), (5, i64 1), (10, .bool z_)]) h3
     have h3p := eq_of_beq h3
     refine cT hA ?_
     refine sC (e' := [(0, str sv), (2, .slice none 0 0), (3, .slice pL1 o.length cL1), (4, i64 (((i : Nat) : Int) + 1)), (5, i64 1)]) 3 hA [bl true] (cc ((inK_i64 (by omega) (by omega)) : inK .i64 (((i : Nat) : Int) + 1)) c0) ?_
     clear hA fr; intro fr hA
     replace hA := hA.int (f := fun z_ => [(0, str sv), (2, .slice none 0 0), (3, .slice pL1 o.length cL1), (4, .int .i64 z_), (5, i64 1)]) (rfl : ((i : Nat) : Int) + 1 = ((i + 1 : Nat) : Int))
     refine wp_exit ?_
     refine inBlock_other (by decide) ?_
     refine then_exit ?_
     refine inBlock_exit ?_
     refine then_normal ?_
     exact ⟨_, by omega, i + 1, o, pL1, cL1, TL1, rfl, (hA.sub (e' := [(0, str sv), (2, .slice none 0 0), (3, .slice pL1 o.length cL1), (4, i64 ((i + 1 : Nat) : Int))]) [0, 2, 3, 4] (by kernel_rfl)).cast (by kernel_rfl), (hO : Ow Try.prog none' w _ ([] ++ (TL1 ++ ([])))), hTL1, (by omega), (by rw [← sk_more (by omega) (by unfold blankI; exact decide_eq_true (by omega))]; exact ho), (by omega), trivial⟩
   replace hA := hA.bool (f := fun z_ => [(0, str sv), (2, .slice none 0 0), (3, .slice pL1 o.length cL1), (4, i64 ((i : Nat) : Int)), (5, i64 1), (10, .bool z_)]) h3
   have h3p := ne_of_beq_false h3
   refine cF hA ?_
   refine sR (l := (rg 0 5)) ?_
   refine ck (l := [0, 1, 2]) (r := [3, 4]) (e' := [(0, str sv), (2, .slice none 0 0), (3, .slice pL1 o.length cL1), (4, i64 ((i : Nat) : Int)), (5, i64 1), (26, u8 (sb sv i))]) hA [] (cc (⟨by omega, by omega⟩ : (0 : Int) ≤ ((i : Nat) : Int) ∧ ((i : Nat) : Int) < ((sv.size : Nat) : Int)) c0) ?_
   clear hA fr; intro fr hA
   refine wpOps_cons' (mK (f := 41) (args := [u8 (sb sv i)]) (d := (some 27)) (v := bl (partI (sb sv i))) hA hO Try.func41 (inner_any (sb sv i) _ (by omega) (by omega)) ?_)
   clear hA hO fr; intro fr w2 hA hO
   replace hA := hA.sb (e' := [(0, str sv), (2, .slice none 0 0), (3, .slice pL1 o.length cL1), (4, i64 ((i : Nat) : Int)), (5, i64 1), (27, bl (partI (sb sv i)))])
   refine ck (l := [4]) (r := []) (e' := [(0, str sv), (2, .slice none 0 0), (3, .slice pL1 o.length cL1), (4, i64 ((i : Nat) : Int)), (5, i64 1), (23, bl (partI (sb sv i)))]) hA [] c0 ?_
   clear hA fr; intro fr hA
   refine end_ops ?_
   refine then_normal ?_
   rcases Bool.eq_false_or_eq_true (partI (sb sv i)) with h4 | h4
   · replace hA := hA.bool (f := fun z_ => [(0, str sv), (2, .slice none 0 0), (3, .slice pL1 o.length cL1), (4, i64 ((i : Nat) : Int)), (5, i64 1), (23, .bool z_)]) h4
     refine cT hA ?_
     refine wp_block ?_
     refine c_loop (fun mm fr W => ∃ (m : Nat), mm = sv.size - i - m ∧ Holds 83 [] fr [(0, str sv), (2, .slice none 0 0), (3, .slice pL1 o.length cL1), (4, i64 ((i : Nat) : Int)), (5, i64 ((m : Nat) : Int))] ∧ Ow Try.prog none' w W ([] ++ (TL1 ++ ([]))) ∧ i + m ≤ sv.size ∧ wl sv (i + m) + m = wl sv i ∧ 1 ≤ m ∧ True) ?_ ?_
     · exact ⟨_, 1, rfl, (hA.sub (e' := [(0, str sv), (2, .slice none 0 0), (3, .slice pL1 o.length cL1), (4, i64 ((i : Nat) : Int)), (5, i64 1)]) [0, 2, 3, 4, 5] (by kernel_rfl)).cast (by kernel_rfl), (hO : Ow Try.prog none' w _ ([] ++ (TL1 ++ ([])))), (by omega), (wl_more (by omega) (by assumption)).symm, (Nat.le_refl _), trivial⟩
     rintro _ fr w3 ⟨m, rfl, hA, hO, hm, hk, hm1, -⟩
     have hsm := sb_b sv (i + m)
     refine wp_seq ?_
     refine sR (l := (rg 0 14)) ?_
     refine ck (l := (rg 0 7)) (r := (rg 7 7)) (e' := [(0, str sv), (2, .slice none 0 0), (3, .slice pL1 o.length cL1), (4, i64 ((i : Nat) : Int)), (5, i64 ((m : Nat) : Int)), (33, bl (decide ((((i : Nat) : Int) + ((m : Nat) : Int)) < ((sv.size : Nat) : Int)))), (34, bl (decide ((((i : Nat) : Int) + ((m : Nat) : Int)) < ((sv.size : Nat) : Int))))]) hA [bl true] (cc ((inK_i64 (by omega) (by omega)) : inK .i64 (((i : Nat) : Int) + ((m : Nat) : Int))) c0) ?_
     clear hA fr; intro fr hA
     rcases Bool.eq_false_or_eq_true (decide ((((i : Nat) : Int) + ((m : Nat) : Int)) < ((sv.size : Nat) : Int))) with h5 | h5
     · replace hA := hA.bool (f := fun z_ => [(0, str sv), (2, .slice none 0 0), (3, .slice pL1 o.length cL1), (4, i64 ((i : Nat) : Int)), (5, i64 ((m : Nat) : Int)), (33, .bool z_), (34, .bool z_)]) h5
       have h5p := of_decide_eq_true h5
       refine ck (l := (rg 7 5)) (r := [12, 13]) (e' := [(0, str sv), (2, .slice none 0 0), (3, .slice pL1 o.length cL1), (4, i64 ((i : Nat) : Int)), (5, i64 ((m : Nat) : Int)), (34, bl true), (39, u8 (sb sv ((((i : Nat) : Int) + ((m : Nat) : Int)).toNat)))]) hA [bl true] (cc ((inK_i64 (by omega) (by omega)) : inK .i64 (((i : Nat) : Int) + ((m : Nat) : Int))) (cc (⟨by omega, by omega⟩ : (0 : Int) ≤ ((i : Nat) : Int) + ((m : Nat) : Int) ∧ ((i : Nat) : Int) + ((m : Nat) : Int) < ((sv.size : Nat) : Int)) c0)) ?_
       clear hA fr; intro fr hA
       replace hA := hA.int (f := fun z_ => [(0, str sv), (2, .slice none 0 0), (3, .slice pL1 o.length cL1), (4, i64 ((i : Nat) : Int)), (5, i64 ((m : Nat) : Int)), (34, bl true), (39, .int .u8 z_)]) (rfl : sb sv ((((i : Nat) : Int) + ((m : Nat) : Int)).toNat) = sb sv (i + m))
       refine wpOps_cons' (mK (f := 41) (args := [u8 (sb sv (i + m))]) (d := (some 40)) (v := bl (partI (sb sv (i + m)))) hA hO Try.func41 (inner_any (sb sv (i + m)) _ (by omega) (by omega)) ?_)
       clear hA hO fr; intro fr w4 hA hO
       replace hA := hA.sb (e' := [(0, str sv), (2, .slice none 0 0), (3, .slice pL1 o.length cL1), (4, i64 ((i : Nat) : Int)), (5, i64 ((m : Nat) : Int)), (34, bl true), (40, bl (partI (sb sv (i + m))))])
       refine ck (l := [13]) (r := []) (e' := [(0, str sv), (2, .slice none 0 0), (3, .slice pL1 o.length cL1), (4, i64 ((i : Nat) : Int)), (5, i64 ((m : Nat) : Int)), (41, bl (partI (sb sv (i + m))))]) hA [] c0 ?_
       clear hA fr; intro fr hA
       refine end_ops ?_
       refine then_normal ?_
       rcases Bool.eq_false_or_eq_true (partI (sb sv (i + m))) with h6 | h6
       · replace hA := hA.bool (f := fun z_ => [(0, str sv), (2, .slice none 0 0), (3, .slice pL1 o.length cL1), (4, i64 ((i : Nat) : Int)), (5, i64 ((m : Nat) : Int)), (41, .bool z_)]) h6
         refine cT hA ?_
         refine wp_skip ?_
         refine then_normal ?_
         refine wp_block ?_
         refine rC (e' := [(0, str sv), (2, .slice none 0 0), (3, .slice pL1 o.length cL1), (4, i64 ((i : Nat) : Int)), (5, i64 (((m : Nat) : Int) + 1))]) 3 hA [bl true] (cc ((inK_i64 (by omega) (by omega)) : inK .i64 (((m : Nat) : Int) + 1)) c0) ?_
         clear hA fr; intro fr hA
         refine inBlock_normal ?_
         refine then_normal ?_
         exact ⟨_, by omega, m + 1, rfl, (hA.sub (e' := [(0, str sv), (2, .slice none 0 0), (3, .slice pL1 o.length cL1), (4, i64 ((i : Nat) : Int)), (5, i64 (((m : Nat) : Int) + 1))]) [0, 2, 3, 4, 5] (by kernel_rfl)).cast (by kernel_rfl), (hO : Ow Try.prog none' w _ ([] ++ (TL1 ++ ([])))), (by omega), (by rw [← hk, wl_more (n := i + m) (by omega) (by assumption)]; rw [Nat.add_assoc i m 1]; omega), (by omega), trivial⟩
       replace hA := hA.bool (f := fun z_ => [(0, str sv), (2, .slice none 0 0), (3, .slice pL1 o.length cL1), (4, i64 ((i : Nat) : Int)), (5, i64 ((m : Nat) : Int)), (41, .bool z_)]) h6
       refine cF hA ?_
       refine wp_exit ?_
       refine then_exit ?_
       refine then_exit ?_
       refine inBlock_exit ?_
       refine inBlock_normal ?_
       refine then_normal ?_
       refine sR (l := (rg 0 12)) ?_
       refine ck (l := (rg 0 9)) (r := [9, 10, 11]) (e' := [(0, str sv), (2, .slice none 0 0), (3, .slice pL1 o.length cL1), (4, i64 ((i : Nat) : Int)), (5, i64 ((m : Nat) : Int)), (63, .slice pL1 o.length cL1), (71, .agg #[str (sv.extract i ((((i : Nat) : Int) + ((m : Nat) : Int)).toNat)), i64 ((i : Nat) : Int)])]) hA [bl true] (cc ((inK_i64 (by omega) (by omega)) : inK .i64 (((i : Nat) : Int) + ((m : Nat) : Int))) (cc (⟨by omega, by omega, by omega⟩ : (0 : Int) ≤ ((i : Nat) : Int) ∧ (((i : Nat) : Int) : Int) ≤ ((i : Nat) : Int) + ((m : Nat) : Int) ∧ (((i : Nat) : Int) + ((m : Nat) : Int) : Int) ≤ ((sv.size : Nat) : Int)) c0)) ?_
       clear hA fr; intro fr hA
       refine wpOps_cons' (mN (l := [str (sv.extract i ((((i : Nat) : Int) + ((m : Nat) : Int)).toNat)), i64 ((i : Nat) : Int)]) (t := 68) (v := fun b => .slice (some ⟨b, 0, none⟩) 1 1) (d := 72) hA hO ?_)
       clear hA hO fr; intro fr w5 b1 hA hO
       replace hA := hA.sb (e' := [(0, str sv), (2, .slice none 0 0), (3, .slice pL1 o.length cL1), (4, i64 ((i : Nat) : Int)), (5, i64 ((m : Nat) : Int)), (63, .slice pL1 o.length cL1), (72, .slice (some ⟨b1, 0, none⟩) 1 1)])
       replace hO : Ow Try.prog none' w w5 ([(b1, 68, [str (sv.extract i ((((i : Nat) : Int) + ((m : Nat) : Int)).toNat)), i64 ((i : Nat) : Int)])] ++ (TL1 ++ ([]))) := hO
       refine wpOps_cons' (mA (f := fK) (el := 68) (sz := 2) (bytes := 24) (p := pL1) (c := cL1) (l := o) (l' := ([(sv.extract i ((((i : Nat) : Int) + ((m : Nat) : Int)).toNat), i)] : List (ByteArray × Nat))) (T := TL1) (t := 63) (tx := 63) (ty := 63) (x := .slice (some ⟨b1, 0, none⟩) 1 1) (d := 73) [(b1, 68, [str (sv.extract i ((((i : Nat) : Int) + ((m : Nat) : Int)).toNat)), i64 ((i : Nat) : Int)])] ([]) encK hA hO hTL1 (Vw.src (e' := 68) encK ((hO.b 0).vw (off := 0) (xs := ([(sv.extract i ((((i : Nat) : Int) + ((m : Nat) : Int)).toNat), i)] : List (ByteArray × Nat))) (by kernel_rfl)) (by kernel_rfl)) (by first | omega | (simp only [List.length_append, List.length_cons, List.length_nil]; omega)) (by unfold maxLen; first | omega | (simp only [List.length_append, List.length_cons, List.length_nil]; omega)) ?_)
       clear hA hO fr; intro fr w6 p1 c1 T2 hA hO hT2
       replace hA := hA.sb (e' := [(0, str sv), (2, .slice none 0 0), (3, .slice pL1 o.length cL1), (4, i64 ((i : Nat) : Int)), (5, i64 ((m : Nat) : Int)), (73, .slice p1 ((o ++ ([(sv.extract i ((((i : Nat) : Int) + ((m : Nat) : Int)).toNat), i)] : List (ByteArray × Nat))).length) c1)])
       refine ck (l := [11]) (r := []) (e' := [(0, str sv), (2, .slice none 0 0), (3, .slice p1 ((o ++ ([(sv.extract i ((((i : Nat) : Int) + ((m : Nat) : Int)).toNat), i)] : List (ByteArray × Nat))).length) c1), (4, i64 ((i : Nat) : Int)), (5, i64 ((m : Nat) : Int))]) hA [] c0 ?_
       clear hA fr; intro fr hA
       refine end_ops ?_
       refine then_normal ?_
       refine rC (e' := [(0, str sv), (2, .slice none 0 0), (3, .slice p1 ((o ++ ([(sv.extract i ((((i : Nat) : Int) + ((m : Nat) : Int)).toNat), i)] : List (ByteArray × Nat))).length) c1), (4, i64 (((i : Nat) : Int) + ((m : Nat) : Int)))]) 4 hA [bl true] (cc ((inK_i64 (by omega) (by omega)) : inK .i64 (((i : Nat) : Int) + ((m : Nat) : Int))) c0) ?_
       clear hA fr; intro fr hA
       replace hA := hA.int (f := fun z_ => [(0, str sv), (2, .slice none 0 0), (3, .slice p1 ((o ++ ([(sv.extract i ((((i : Nat) : Int) + ((m : Nat) : Int)).toNat), i)] : List (ByteArray × Nat))).length) c1), (4, .int .i64 z_)]) (rfl : ((i : Nat) : Int) + ((m : Nat) : Int) = ((i + m : Nat) : Int))
       refine inBlock_normal ?_
       refine then_normal ?_
       have hw0_ : wl sv (i + m) = 0 := wl_stop (by rintro ⟨q1_, q2_⟩; first | omega | simp_all)
       have hk1_ : kd sv i = 1 := kd_p (by omega) (by assumption)
       exact ⟨_, by omega, i + m, o ++ ([(sv.extract i ((((i : Nat) : Int) + ((m : Nat) : Int)).toNat), i)] : List (ByteArray × Nat)), p1, c1, T2, rfl, (hA.sub (e' := [(0, str sv), (2, .slice none 0 0), (3, .slice p1 ((o ++ ([(sv.extract i ((((i : Nat) : Int) + ((m : Nat) : Int)).toNat), i)] : List (ByteArray × Nat))).length) c1), (4, i64 ((i + m : Nat) : Int))]) [0, 2, 3, 4] (by kernel_rfl)).cast (by kernel_rfl), (Ow.subP (A := [(b1, 68, [str (sv.extract i ((((i : Nat) : Int) + ((m : Nat) : Int)).toNat)), i64 ((i : Nat) : Int)])]) (A' := []) (B := T2 ++ ([])) hO (.cons _ .slnil)), hT2, (by omega), (tok_step (m := m) ho (by omega) (by unfold blankI; intro q_; have := of_decide_eq_true q_; omega) (by omega)), (by simp only [List.length_append, List.length_cons, List.length_nil]; omega), trivial⟩
     replace hA := hA.bool (f := fun z_ => [(0, str sv), (2, .slice none 0 0), (3, .slice pL1 o.length cL1), (4, i64 ((i : Nat) : Int)), (5, i64 ((m : Nat) : Int)), (33, .bool z_), (34, .bool z_)]) h5
     have h5p := of_decide_eq_false h5
     refine ck (l := (rg 7 7)) (r := []) (e' := [(0, str sv), (2, .slice none 0 0), (3, .slice pL1 o.length cL1), (4, i64 ((i : Nat) : Int)), (5, i64 ((m : Nat) : Int)), (41, bl false)]) hA [] c0 ?_
     clear hA fr; intro fr hA
     refine end_ops ?_
     refine then_normal ?_
     refine cF hA ?_
     refine wp_exit ?_
     refine then_exit ?_
     refine then_exit ?_
     refine inBlock_exit ?_
     refine inBlock_normal ?_
     refine then_normal ?_
     refine sR (l := (rg 0 12)) ?_
     refine ck (l := (rg 0 9)) (r := [9, 10, 11]) (e' := [(0, str sv), (2, .slice none 0 0), (3, .slice pL1 o.length cL1), (4, i64 ((i : Nat) : Int)), (5, i64 ((m : Nat) : Int)), (63, .slice pL1 o.length cL1), (71, .agg #[str (sv.extract i ((((i : Nat) : Int) + ((m : Nat) : Int)).toNat)), i64 ((i : Nat) : Int)])]) hA [bl true] (cc ((inK_i64 (by omega) (by omega)) : inK .i64 (((i : Nat) : Int) + ((m : Nat) : Int))) (cc (⟨by omega, by omega, by omega⟩ : (0 : Int) ≤ ((i : Nat) : Int) ∧ (((i : Nat) : Int) : Int) ≤ ((i : Nat) : Int) + ((m : Nat) : Int) ∧ (((i : Nat) : Int) + ((m : Nat) : Int) : Int) ≤ ((sv.size : Nat) : Int)) c0)) ?_
     clear hA fr; intro fr hA
     refine wpOps_cons' (mN (l := [str (sv.extract i ((((i : Nat) : Int) + ((m : Nat) : Int)).toNat)), i64 ((i : Nat) : Int)]) (t := 68) (v := fun b => .slice (some ⟨b, 0, none⟩) 1 1) (d := 72) hA hO ?_)
     clear hA hO fr; intro fr w7 b2 hA hO
     replace hA := hA.sb (e' := [(0, str sv), (2, .slice none 0 0), (3, .slice pL1 o.length cL1), (4, i64 ((i : Nat) : Int)), (5, i64 ((m : Nat) : Int)), (63, .slice pL1 o.length cL1), (72, .slice (some ⟨b2, 0, none⟩) 1 1)])
     replace hO : Ow Try.prog none' w w7 ([(b2, 68, [str (sv.extract i ((((i : Nat) : Int) + ((m : Nat) : Int)).toNat)), i64 ((i : Nat) : Int)])] ++ (TL1 ++ ([]))) := hO
     refine wpOps_cons' (mA (f := fK) (el := 68) (sz := 2) (bytes := 24) (p := pL1) (c := cL1) (l := o) (l' := ([(sv.extract i ((((i : Nat) : Int) + ((m : Nat) : Int)).toNat), i)] : List (ByteArray × Nat))) (T := TL1) (t := 63) (tx := 63) (ty := 63) (x := .slice (some ⟨b2, 0, none⟩) 1 1) (d := 73) [(b2, 68, [str (sv.extract i ((((i : Nat) : Int) + ((m : Nat) : Int)).toNat)), i64 ((i : Nat) : Int)])] ([]) encK hA hO hTL1 (Vw.src (e' := 68) encK ((hO.b 0).vw (off := 0) (xs := ([(sv.extract i ((((i : Nat) : Int) + ((m : Nat) : Int)).toNat), i)] : List (ByteArray × Nat))) (by kernel_rfl)) (by kernel_rfl)) (by first | omega | (simp only [List.length_append, List.length_cons, List.length_nil]; omega)) (by unfold maxLen; first | omega | (simp only [List.length_append, List.length_cons, List.length_nil]; omega)) ?_)
     clear hA hO fr; intro fr w8 p2 c2 T3 hA hO hT3
     replace hA := hA.sb (e' := [(0, str sv), (2, .slice none 0 0), (3, .slice pL1 o.length cL1), (4, i64 ((i : Nat) : Int)), (5, i64 ((m : Nat) : Int)), (73, .slice p2 ((o ++ ([(sv.extract i ((((i : Nat) : Int) + ((m : Nat) : Int)).toNat), i)] : List (ByteArray × Nat))).length) c2)])
     refine ck (l := [11]) (r := []) (e' := [(0, str sv), (2, .slice none 0 0), (3, .slice p2 ((o ++ ([(sv.extract i ((((i : Nat) : Int) + ((m : Nat) : Int)).toNat), i)] : List (ByteArray × Nat))).length) c2), (4, i64 ((i : Nat) : Int)), (5, i64 ((m : Nat) : Int))]) hA [] c0 ?_
     clear hA fr; intro fr hA
     refine end_ops ?_
     refine then_normal ?_
     refine rC (e' := [(0, str sv), (2, .slice none 0 0), (3, .slice p2 ((o ++ ([(sv.extract i ((((i : Nat) : Int) + ((m : Nat) : Int)).toNat), i)] : List (ByteArray × Nat))).length) c2), (4, i64 (((i : Nat) : Int) + ((m : Nat) : Int)))]) 4 hA [bl true] (cc ((inK_i64 (by omega) (by omega)) : inK .i64 (((i : Nat) : Int) + ((m : Nat) : Int))) c0) ?_
     clear hA fr; intro fr hA
     replace hA := hA.int (f := fun z_ => [(0, str sv), (2, .slice none 0 0), (3, .slice p2 ((o ++ ([(sv.extract i ((((i : Nat) : Int) + ((m : Nat) : Int)).toNat), i)] : List (ByteArray × Nat))).length) c2), (4, .int .i64 z_)]) (rfl : ((i : Nat) : Int) + ((m : Nat) : Int) = ((i + m : Nat) : Int))
     refine inBlock_normal ?_
     refine then_normal ?_
     have hw0_ : wl sv (i + m) = 0 := wl_stop (by rintro ⟨q1_, q2_⟩; first | omega | simp_all)
     have hk1_ : kd sv i = 1 := kd_p (by omega) (by assumption)
     exact ⟨_, by omega, i + m, o ++ ([(sv.extract i ((((i : Nat) : Int) + ((m : Nat) : Int)).toNat), i)] : List (ByteArray × Nat)), p2, c2, T3, rfl, (hA.sub (e' := [(0, str sv), (2, .slice none 0 0), (3, .slice p2 ((o ++ ([(sv.extract i ((((i : Nat) : Int) + ((m : Nat) : Int)).toNat), i)] : List (ByteArray × Nat))).length) c2), (4, i64 ((i + m : Nat) : Int))]) [0, 2, 3, 4] (by kernel_rfl)).cast (by kernel_rfl), (Ow.subP (A := [(b2, 68, [str (sv.extract i ((((i : Nat) : Int) + ((m : Nat) : Int)).toNat)), i64 ((i : Nat) : Int)])]) (A' := []) (B := T3 ++ ([])) hO (.cons _ .slnil)), hT3, (by omega), (tok_step (m := m) ho (by omega) (by unfold blankI; intro q_; have := of_decide_eq_true q_; omega) (by omega)), (by simp only [List.length_append, List.length_cons, List.length_nil]; omega), trivial⟩
   replace hA := hA.bool (f := fun z_ => [(0, str sv), (2, .slice none 0 0), (3, .slice pL1 o.length cL1), (4, i64 ((i : Nat) : Int)), (5, i64 1), (23, .bool z_)]) h4
   refine cF hA ?_
   refine sR (l := (rg 0 19)) ?_
   refine ck (l := (rg 0 5)) (r := (rg 5 14)) (e' := [(0, str sv), (2, .slice none 0 0), (3, .slice pL1 o.length cL1), (4, i64 ((i : Nat) : Int)), (5, i64 1), (48, bl ((sb sv i) == 62)), (49, bl ((sb sv i) == 62))]) hA [] (cc (⟨by omega, by omega⟩ : (0 : Int) ≤ ((i : Nat) : Int) ∧ ((i : Nat) : Int) < ((sv.size : Nat) : Int)) c0) ?_
   clear hA fr; intro fr hA
   rcases Bool.eq_false_or_eq_true ((sb sv i) == 62) with h7 | h7
   · replace hA := hA.bool (f := fun z_ => [(0, str sv), (2, .slice none 0 0), (3, .slice pL1 o.length cL1), (4, i64 ((i : Nat) : Int)), (5, i64 1), (48, .bool z_), (49, .bool z_)]) h7
     have h7p := eq_of_beq h7
     refine ck (l := (rg 5 7)) (r := (rg 12 7)) (e' := [(0, str sv), (2, .slice none 0 0), (3, .slice pL1 o.length cL1), (4, i64 ((i : Nat) : Int)), (5, i64 1), (54, bl (decide ((((i : Nat) : Int) + 1) < ((sv.size : Nat) : Int)))), (55, bl (decide ((((i : Nat) : Int) + 1) < ((sv.size : Nat) : Int)))), (56, bl (decide ((((i : Nat) : Int) + 1) < ((sv.size : Nat) : Int))))]) hA [bl true] (cc ((inK_i64 (by omega) (by omega)) : inK .i64 (((i : Nat) : Int) + 1)) c0) ?_
     clear hA fr; intro fr hA
     rcases Bool.eq_false_or_eq_true (decide ((((i : Nat) : Int) + 1) < ((sv.size : Nat) : Int))) with h8 | h8
     · replace hA := hA.bool (f := fun z_ => [(0, str sv), (2, .slice none 0 0), (3, .slice pL1 o.length cL1), (4, i64 ((i : Nat) : Int)), (5, i64 1), (54, .bool z_), (55, .bool z_), (56, .bool z_)]) h8
       have h8p := of_decide_eq_true h8
       refine ck (l := (rg 12 7)) (r := []) (e' := [(0, str sv), (2, .slice none 0 0), (3, .slice pL1 o.length cL1), (4, i64 ((i : Nat) : Int)), (5, i64 1), (44, bl ((sb sv ((((i : Nat) : Int) + 1).toNat)) == 62))]) hA [bl true] (cc ((inK_i64 (by omega) (by omega)) : inK .i64 (((i : Nat) : Int) + 1)) (cc (⟨by omega, by omega⟩ : (0 : Int) ≤ ((i : Nat) : Int) + 1 ∧ ((i : Nat) : Int) + 1 < ((sv.size : Nat) : Int)) c0)) ?_
       clear hA fr; intro fr hA
       replace hA := hA.bool (f := fun z_ => [(0, str sv), (2, .slice none 0 0), (3, .slice pL1 o.length cL1), (4, i64 ((i : Nat) : Int)), (5, i64 1), (44, .bool z_)]) (rfl : ((sb sv ((((i : Nat) : Int) + 1).toNat)) == 62) = (sb sv (i + 1) == 62))
       refine end_ops ?_
       refine then_normal ?_
       rcases Bool.eq_false_or_eq_true (sb sv (i + 1) == 62) with h9 | h9
       · replace hA := hA.bool (f := fun z_ => [(0, str sv), (2, .slice none 0 0), (3, .slice pL1 o.length cL1), (4, i64 ((i : Nat) : Int)), (5, i64 1), (44, .bool z_)]) h9
         have h9p := eq_of_beq h9
         refine cT hA ?_
         refine rC (e' := [(0, str sv), (2, .slice none 0 0), (3, .slice pL1 o.length cL1), (4, i64 ((i : Nat) : Int)), (5, i64 2)]) 1 hA [] c0 ?_
         clear hA fr; intro fr hA
         refine inBlock_normal ?_
         refine then_normal ?_
         refine sR (l := (rg 0 12)) ?_
         refine ck (l := (rg 0 9)) (r := [9, 10, 11]) (e' := [(0, str sv), (2, .slice none 0 0), (3, .slice pL1 o.length cL1), (4, i64 ((i : Nat) : Int)), (5, i64 2), (63, .slice pL1 o.length cL1), (71, .agg #[str (sv.extract i ((((i : Nat) : Int) + 2).toNat)), i64 ((i : Nat) : Int)])]) hA [bl true] (cc ((inK_i64 (by omega) (by omega)) : inK .i64 (((i : Nat) : Int) + 2)) (cc (⟨by omega, by omega, by omega⟩ : (0 : Int) ≤ ((i : Nat) : Int) ∧ (((i : Nat) : Int) : Int) ≤ ((i : Nat) : Int) + 2 ∧ (((i : Nat) : Int) + 2 : Int) ≤ ((sv.size : Nat) : Int)) c0)) ?_
         clear hA fr; intro fr hA
         refine wpOps_cons' (mN (l := [str (sv.extract i ((((i : Nat) : Int) + 2).toNat)), i64 ((i : Nat) : Int)]) (t := 68) (v := fun b => .slice (some ⟨b, 0, none⟩) 1 1) (d := 72) hA hO ?_)
         clear hA hO fr; intro fr w9 b3 hA hO
         replace hA := hA.sb (e' := [(0, str sv), (2, .slice none 0 0), (3, .slice pL1 o.length cL1), (4, i64 ((i : Nat) : Int)), (5, i64 2), (63, .slice pL1 o.length cL1), (72, .slice (some ⟨b3, 0, none⟩) 1 1)])
         replace hO : Ow Try.prog none' w w9 ([(b3, 68, [str (sv.extract i ((((i : Nat) : Int) + 2).toNat)), i64 ((i : Nat) : Int)])] ++ (TL1 ++ ([]))) := hO
         refine wpOps_cons' (mA (f := fK) (el := 68) (sz := 2) (bytes := 24) (p := pL1) (c := cL1) (l := o) (l' := ([(sv.extract i ((((i : Nat) : Int) + 2).toNat), i)] : List (ByteArray × Nat))) (T := TL1) (t := 63) (tx := 63) (ty := 63) (x := .slice (some ⟨b3, 0, none⟩) 1 1) (d := 73) [(b3, 68, [str (sv.extract i ((((i : Nat) : Int) + 2).toNat)), i64 ((i : Nat) : Int)])] ([]) encK hA hO hTL1 (Vw.src (e' := 68) encK ((hO.b 0).vw (off := 0) (xs := ([(sv.extract i ((((i : Nat) : Int) + 2).toNat), i)] : List (ByteArray × Nat))) (by kernel_rfl)) (by kernel_rfl)) (by first | omega | (simp only [List.length_append, List.length_cons, List.length_nil]; omega)) (by unfold maxLen; first | omega | (simp only [List.length_append, List.length_cons, List.length_nil]; omega)) ?_)
         clear hA hO fr; intro fr w10 p3 c3 T4 hA hO hT4
         replace hA := hA.sb (e' := [(0, str sv), (2, .slice none 0 0), (3, .slice pL1 o.length cL1), (4, i64 ((i : Nat) : Int)), (5, i64 2), (73, .slice p3 ((o ++ ([(sv.extract i ((((i : Nat) : Int) + 2).toNat), i)] : List (ByteArray × Nat))).length) c3)])
         refine ck (l := [11]) (r := []) (e' := [(0, str sv), (2, .slice none 0 0), (3, .slice p3 ((o ++ ([(sv.extract i ((((i : Nat) : Int) + 2).toNat), i)] : List (ByteArray × Nat))).length) c3), (4, i64 ((i : Nat) : Int)), (5, i64 2)]) hA [] c0 ?_
         clear hA fr; intro fr hA
         refine end_ops ?_
         refine then_normal ?_
         refine rC (e' := [(0, str sv), (2, .slice none 0 0), (3, .slice p3 ((o ++ ([(sv.extract i ((((i : Nat) : Int) + 2).toNat), i)] : List (ByteArray × Nat))).length) c3), (4, i64 (((i : Nat) : Int) + 2))]) 4 hA [bl true] (cc ((inK_i64 (by omega) (by omega)) : inK .i64 (((i : Nat) : Int) + 2)) c0) ?_
         clear hA fr; intro fr hA
         replace hA := hA.int (f := fun z_ => [(0, str sv), (2, .slice none 0 0), (3, .slice p3 ((o ++ ([(sv.extract i ((((i : Nat) : Int) + 2).toNat), i)] : List (ByteArray × Nat))).length) c3), (4, .int .i64 z_)]) (rfl : ((i : Nat) : Int) + 2 = ((i + 2 : Nat) : Int))
         refine inBlock_normal ?_
         refine then_normal ?_
         have hk1_ : kd sv i ≠ 1 := kd_np (by assumption)
         exact ⟨_, by omega, i + 2, o ++ ([(sv.extract i ((((i : Nat) : Int) + 2).toNat), i)] : List (ByteArray × Nat)), p3, c3, T4, rfl, (hA.sub (e' := [(0, str sv), (2, .slice none 0 0), (3, .slice p3 ((o ++ ([(sv.extract i ((((i : Nat) : Int) + 2).toNat), i)] : List (ByteArray × Nat))).length) c3), (4, i64 ((i + 2 : Nat) : Int))]) [0, 2, 3, 4] (by kernel_rfl)).cast (by kernel_rfl), (Ow.subP (A := [(b3, 68, [str (sv.extract i ((((i : Nat) : Int) + 2).toNat)), i64 ((i : Nat) : Int)])]) (A' := []) (B := T4 ++ ([])) hO (.cons _ .slnil)), hT4, (by omega), (tok_step (m := 2) ho (by omega) (by unfold blankI; intro q_; have := of_decide_eq_true q_; omega) (by omega)), (by simp only [List.length_append, List.length_cons, List.length_nil]; omega), trivial⟩
       replace hA := hA.bool (f := fun z_ => [(0, str sv), (2, .slice none 0 0), (3, .slice pL1 o.length cL1), (4, i64 ((i : Nat) : Int)), (5, i64 1), (44, .bool z_)]) h9
       have h9p := ne_of_beq_false h9
       refine cF hA ?_
       refine wp_skip ?_
       refine inBlock_normal ?_
       refine then_normal ?_
       refine sR (l := (rg 0 12)) ?_
       refine ck (l := (rg 0 9)) (r := [9, 10, 11]) (e' := [(0, str sv), (2, .slice none 0 0), (3, .slice pL1 o.length cL1), (4, i64 ((i : Nat) : Int)), (5, i64 1), (63, .slice pL1 o.length cL1), (71, .agg #[str (sv.extract i ((((i : Nat) : Int) + 1).toNat)), i64 ((i : Nat) : Int)])]) hA [bl true] (cc ((inK_i64 (by omega) (by omega)) : inK .i64 (((i : Nat) : Int) + 1)) (cc (⟨by omega, by omega, by omega⟩ : (0 : Int) ≤ ((i : Nat) : Int) ∧ (((i : Nat) : Int) : Int) ≤ ((i : Nat) : Int) + 1 ∧ (((i : Nat) : Int) + 1 : Int) ≤ ((sv.size : Nat) : Int)) c0)) ?_
       clear hA fr; intro fr hA
       refine wpOps_cons' (mN (l := [str (sv.extract i ((((i : Nat) : Int) + 1).toNat)), i64 ((i : Nat) : Int)]) (t := 68) (v := fun b => .slice (some ⟨b, 0, none⟩) 1 1) (d := 72) hA hO ?_)
       clear hA hO fr; intro fr w11 b4 hA hO
       replace hA := hA.sb (e' := [(0, str sv), (2, .slice none 0 0), (3, .slice pL1 o.length cL1), (4, i64 ((i : Nat) : Int)), (5, i64 1), (63, .slice pL1 o.length cL1), (72, .slice (some ⟨b4, 0, none⟩) 1 1)])
       replace hO : Ow Try.prog none' w w11 ([(b4, 68, [str (sv.extract i ((((i : Nat) : Int) + 1).toNat)), i64 ((i : Nat) : Int)])] ++ (TL1 ++ ([]))) := hO
       refine wpOps_cons' (mA (f := fK) (el := 68) (sz := 2) (bytes := 24) (p := pL1) (c := cL1) (l := o) (l' := ([(sv.extract i ((((i : Nat) : Int) + 1).toNat), i)] : List (ByteArray × Nat))) (T := TL1) (t := 63) (tx := 63) (ty := 63) (x := .slice (some ⟨b4, 0, none⟩) 1 1) (d := 73) [(b4, 68, [str (sv.extract i ((((i : Nat) : Int) + 1).toNat)), i64 ((i : Nat) : Int)])] ([]) encK hA hO hTL1 (Vw.src (e' := 68) encK ((hO.b 0).vw (off := 0) (xs := ([(sv.extract i ((((i : Nat) : Int) + 1).toNat), i)] : List (ByteArray × Nat))) (by kernel_rfl)) (by kernel_rfl)) (by first | omega | (simp only [List.length_append, List.length_cons, List.length_nil]; omega)) (by unfold maxLen; first | omega | (simp only [List.length_append, List.length_cons, List.length_nil]; omega)) ?_)
       clear hA hO fr; intro fr w12 p4 c4 T5 hA hO hT5
       replace hA := hA.sb (e' := [(0, str sv), (2, .slice none 0 0), (3, .slice pL1 o.length cL1), (4, i64 ((i : Nat) : Int)), (5, i64 1), (73, .slice p4 ((o ++ ([(sv.extract i ((((i : Nat) : Int) + 1).toNat), i)] : List (ByteArray × Nat))).length) c4)])
       refine ck (l := [11]) (r := []) (e' := [(0, str sv), (2, .slice none 0 0), (3, .slice p4 ((o ++ ([(sv.extract i ((((i : Nat) : Int) + 1).toNat), i)] : List (ByteArray × Nat))).length) c4), (4, i64 ((i : Nat) : Int)), (5, i64 1)]) hA [] c0 ?_
       clear hA fr; intro fr hA
       refine end_ops ?_
       refine then_normal ?_
       refine rC (e' := [(0, str sv), (2, .slice none 0 0), (3, .slice p4 ((o ++ ([(sv.extract i ((((i : Nat) : Int) + 1).toNat), i)] : List (ByteArray × Nat))).length) c4), (4, i64 (((i : Nat) : Int) + 1))]) 4 hA [bl true] (cc ((inK_i64 (by omega) (by omega)) : inK .i64 (((i : Nat) : Int) + 1)) c0) ?_
       clear hA fr; intro fr hA
       replace hA := hA.int (f := fun z_ => [(0, str sv), (2, .slice none 0 0), (3, .slice p4 ((o ++ ([(sv.extract i ((((i : Nat) : Int) + 1).toNat), i)] : List (ByteArray × Nat))).length) c4), (4, .int .i64 z_)]) (rfl : ((i : Nat) : Int) + 1 = ((i + 1 : Nat) : Int))
       refine inBlock_normal ?_
       refine then_normal ?_
       have hk1_ : kd sv i ≠ 1 := kd_np (by assumption)
       exact ⟨_, by omega, i + 1, o ++ ([(sv.extract i ((((i : Nat) : Int) + 1).toNat), i)] : List (ByteArray × Nat)), p4, c4, T5, rfl, (hA.sub (e' := [(0, str sv), (2, .slice none 0 0), (3, .slice p4 ((o ++ ([(sv.extract i ((((i : Nat) : Int) + 1).toNat), i)] : List (ByteArray × Nat))).length) c4), (4, i64 ((i + 1 : Nat) : Int))]) [0, 2, 3, 4] (by kernel_rfl)).cast (by kernel_rfl), (Ow.subP (A := [(b4, 68, [str (sv.extract i ((((i : Nat) : Int) + 1).toNat)), i64 ((i : Nat) : Int)])]) (A' := []) (B := T5 ++ ([])) hO (.cons _ .slnil)), hT5, (by omega), (tok_step (m := 1) ho (by omega) (by unfold blankI; intro q_; have := of_decide_eq_true q_; omega) (by omega)), (by simp only [List.length_append, List.length_cons, List.length_nil]; omega), trivial⟩
     replace hA := hA.bool (f := fun z_ => [(0, str sv), (2, .slice none 0 0), (3, .slice pL1 o.length cL1), (4, i64 ((i : Nat) : Int)), (5, i64 1), (54, .bool z_), (55, .bool z_), (56, .bool z_)]) h8
     have h8p := of_decide_eq_false h8
     refine ck (l := (rg 12 7)) (r := []) (e' := [(0, str sv), (2, .slice none 0 0), (3, .slice pL1 o.length cL1), (4, i64 ((i : Nat) : Int)), (5, i64 1), (44, bl false)]) hA [] c0 ?_
     clear hA fr; intro fr hA
     refine end_ops ?_
     refine then_normal ?_
     refine cF hA ?_
     refine wp_skip ?_
     refine inBlock_normal ?_
     refine then_normal ?_
     refine sR (l := (rg 0 12)) ?_
     refine ck (l := (rg 0 9)) (r := [9, 10, 11]) (e' := [(0, str sv), (2, .slice none 0 0), (3, .slice pL1 o.length cL1), (4, i64 ((i : Nat) : Int)), (5, i64 1), (63, .slice pL1 o.length cL1), (71, .agg #[str (sv.extract i ((((i : Nat) : Int) + 1).toNat)), i64 ((i : Nat) : Int)])]) hA [bl true] (cc ((inK_i64 (by omega) (by omega)) : inK .i64 (((i : Nat) : Int) + 1)) (cc (⟨by omega, by omega, by omega⟩ : (0 : Int) ≤ ((i : Nat) : Int) ∧ (((i : Nat) : Int) : Int) ≤ ((i : Nat) : Int) + 1 ∧ (((i : Nat) : Int) + 1 : Int) ≤ ((sv.size : Nat) : Int)) c0)) ?_
     clear hA fr; intro fr hA
     refine wpOps_cons' (mN (l := [str (sv.extract i ((((i : Nat) : Int) + 1).toNat)), i64 ((i : Nat) : Int)]) (t := 68) (v := fun b => .slice (some ⟨b, 0, none⟩) 1 1) (d := 72) hA hO ?_)
     clear hA hO fr; intro fr w13 b5 hA hO
     replace hA := hA.sb (e' := [(0, str sv), (2, .slice none 0 0), (3, .slice pL1 o.length cL1), (4, i64 ((i : Nat) : Int)), (5, i64 1), (63, .slice pL1 o.length cL1), (72, .slice (some ⟨b5, 0, none⟩) 1 1)])
     replace hO : Ow Try.prog none' w w13 ([(b5, 68, [str (sv.extract i ((((i : Nat) : Int) + 1).toNat)), i64 ((i : Nat) : Int)])] ++ (TL1 ++ ([]))) := hO
     refine wpOps_cons' (mA (f := fK) (el := 68) (sz := 2) (bytes := 24) (p := pL1) (c := cL1) (l := o) (l' := ([(sv.extract i ((((i : Nat) : Int) + 1).toNat), i)] : List (ByteArray × Nat))) (T := TL1) (t := 63) (tx := 63) (ty := 63) (x := .slice (some ⟨b5, 0, none⟩) 1 1) (d := 73) [(b5, 68, [str (sv.extract i ((((i : Nat) : Int) + 1).toNat)), i64 ((i : Nat) : Int)])] ([]) encK hA hO hTL1 (Vw.src (e' := 68) encK ((hO.b 0).vw (off := 0) (xs := ([(sv.extract i ((((i : Nat) : Int) + 1).toNat), i)] : List (ByteArray × Nat))) (by kernel_rfl)) (by kernel_rfl)) (by first | omega | (simp only [List.length_append, List.length_cons, List.length_nil]; omega)) (by unfold maxLen; first | omega | (simp only [List.length_append, List.length_cons, List.length_nil]; omega)) ?_)
     clear hA hO fr; intro fr w14 p5 c5 T6 hA hO hT6
     replace hA := hA.sb (e' := [(0, str sv), (2, .slice none 0 0), (3, .slice pL1 o.length cL1), (4, i64 ((i : Nat) : Int)), (5, i64 1), (73, .slice p5 ((o ++ ([(sv.extract i ((((i : Nat) : Int) + 1).toNat), i)] : List (ByteArray × Nat))).length) c5)])
     refine ck (l := [11]) (r := []) (e' := [(0, str sv), (2, .slice none 0 0), (3, .slice p5 ((o ++ ([(sv.extract i ((((i : Nat) : Int) + 1).toNat), i)] : List (ByteArray × Nat))).length) c5), (4, i64 ((i : Nat) : Int)), (5, i64 1)]) hA [] c0 ?_
     clear hA fr; intro fr hA
     refine end_ops ?_
     refine then_normal ?_
     refine rC (e' := [(0, str sv), (2, .slice none 0 0), (3, .slice p5 ((o ++ ([(sv.extract i ((((i : Nat) : Int) + 1).toNat), i)] : List (ByteArray × Nat))).length) c5), (4, i64 (((i : Nat) : Int) + 1))]) 4 hA [bl true] (cc ((inK_i64 (by omega) (by omega)) : inK .i64 (((i : Nat) : Int) + 1)) c0) ?_
     clear hA fr; intro fr hA
     replace hA := hA.int (f := fun z_ => [(0, str sv), (2, .slice none 0 0), (3, .slice p5 ((o ++ ([(sv.extract i ((((i : Nat) : Int) + 1).toNat), i)] : List (ByteArray × Nat))).length) c5), (4, .int .i64 z_)]) (rfl : ((i : Nat) : Int) + 1 = ((i + 1 : Nat) : Int))
     refine inBlock_normal ?_
     refine then_normal ?_
     have hk1_ : kd sv i ≠ 1 := kd_np (by assumption)
     exact ⟨_, by omega, i + 1, o ++ ([(sv.extract i ((((i : Nat) : Int) + 1).toNat), i)] : List (ByteArray × Nat)), p5, c5, T6, rfl, (hA.sub (e' := [(0, str sv), (2, .slice none 0 0), (3, .slice p5 ((o ++ ([(sv.extract i ((((i : Nat) : Int) + 1).toNat), i)] : List (ByteArray × Nat))).length) c5), (4, i64 ((i + 1 : Nat) : Int))]) [0, 2, 3, 4] (by kernel_rfl)).cast (by kernel_rfl), (Ow.subP (A := [(b5, 68, [str (sv.extract i ((((i : Nat) : Int) + 1).toNat)), i64 ((i : Nat) : Int)])]) (A' := []) (B := T6 ++ ([])) hO (.cons _ .slnil)), hT6, (by omega), (tok_step (m := 1) ho (by omega) (by unfold blankI; intro q_; have := of_decide_eq_true q_; omega) (by omega)), (by simp only [List.length_append, List.length_cons, List.length_nil]; omega), trivial⟩
   replace hA := hA.bool (f := fun z_ => [(0, str sv), (2, .slice none 0 0), (3, .slice pL1 o.length cL1), (4, i64 ((i : Nat) : Int)), (5, i64 1), (48, .bool z_), (49, .bool z_)]) h7
   have h7p := ne_of_beq_false h7
   refine ck (l := (rg 5 14)) (r := []) (e' := [(0, str sv), (2, .slice none 0 0), (3, .slice pL1 o.length cL1), (4, i64 ((i : Nat) : Int)), (5, i64 1), (44, bl false)]) hA [] c0 ?_
   clear hA fr; intro fr hA
   refine end_ops ?_
   refine then_normal ?_
   refine cF hA ?_
   refine wp_skip ?_
   refine inBlock_normal ?_
   refine then_normal ?_
   refine sR (l := (rg 0 12)) ?_
   refine ck (l := (rg 0 9)) (r := [9, 10, 11]) (e' := [(0, str sv), (2, .slice none 0 0), (3, .slice pL1 o.length cL1), (4, i64 ((i : Nat) : Int)), (5, i64 1), (63, .slice pL1 o.length cL1), (71, .agg #[str (sv.extract i ((((i : Nat) : Int) + 1).toNat)), i64 ((i : Nat) : Int)])]) hA [bl true] (cc ((inK_i64 (by omega) (by omega)) : inK .i64 (((i : Nat) : Int) + 1)) (cc (⟨by omega, by omega, by omega⟩ : (0 : Int) ≤ ((i : Nat) : Int) ∧ (((i : Nat) : Int) : Int) ≤ ((i : Nat) : Int) + 1 ∧ (((i : Nat) : Int) + 1 : Int) ≤ ((sv.size : Nat) : Int)) c0)) ?_
   clear hA fr; intro fr hA
   refine wpOps_cons' (mN (l := [str (sv.extract i ((((i : Nat) : Int) + 1).toNat)), i64 ((i : Nat) : Int)]) (t := 68) (v := fun b => .slice (some ⟨b, 0, none⟩) 1 1) (d := 72) hA hO ?_)
   clear hA hO fr; intro fr w15 b6 hA hO
   replace hA := hA.sb (e' := [(0, str sv), (2, .slice none 0 0), (3, .slice pL1 o.length cL1), (4, i64 ((i : Nat) : Int)), (5, i64 1), (63, .slice pL1 o.length cL1), (72, .slice (some ⟨b6, 0, none⟩) 1 1)])
   replace hO : Ow Try.prog none' w w15 ([(b6, 68, [str (sv.extract i ((((i : Nat) : Int) + 1).toNat)), i64 ((i : Nat) : Int)])] ++ (TL1 ++ ([]))) := hO
   refine wpOps_cons' (mA (f := fK) (el := 68) (sz := 2) (bytes := 24) (p := pL1) (c := cL1) (l := o) (l' := ([(sv.extract i ((((i : Nat) : Int) + 1).toNat), i)] : List (ByteArray × Nat))) (T := TL1) (t := 63) (tx := 63) (ty := 63) (x := .slice (some ⟨b6, 0, none⟩) 1 1) (d := 73) [(b6, 68, [str (sv.extract i ((((i : Nat) : Int) + 1).toNat)), i64 ((i : Nat) : Int)])] ([]) encK hA hO hTL1 (Vw.src (e' := 68) encK ((hO.b 0).vw (off := 0) (xs := ([(sv.extract i ((((i : Nat) : Int) + 1).toNat), i)] : List (ByteArray × Nat))) (by kernel_rfl)) (by kernel_rfl)) (by first | omega | (simp only [List.length_append, List.length_cons, List.length_nil]; omega)) (by unfold maxLen; first | omega | (simp only [List.length_append, List.length_cons, List.length_nil]; omega)) ?_)
   clear hA hO fr; intro fr w16 p6 c6 T7 hA hO hT7
   replace hA := hA.sb (e' := [(0, str sv), (2, .slice none 0 0), (3, .slice pL1 o.length cL1), (4, i64 ((i : Nat) : Int)), (5, i64 1), (73, .slice p6 ((o ++ ([(sv.extract i ((((i : Nat) : Int) + 1).toNat), i)] : List (ByteArray × Nat))).length) c6)])
   refine ck (l := [11]) (r := []) (e' := [(0, str sv), (2, .slice none 0 0), (3, .slice p6 ((o ++ ([(sv.extract i ((((i : Nat) : Int) + 1).toNat), i)] : List (ByteArray × Nat))).length) c6), (4, i64 ((i : Nat) : Int)), (5, i64 1)]) hA [] c0 ?_
   clear hA fr; intro fr hA
   refine end_ops ?_
   refine then_normal ?_
   refine rC (e' := [(0, str sv), (2, .slice none 0 0), (3, .slice p6 ((o ++ ([(sv.extract i ((((i : Nat) : Int) + 1).toNat), i)] : List (ByteArray × Nat))).length) c6), (4, i64 (((i : Nat) : Int) + 1))]) 4 hA [bl true] (cc ((inK_i64 (by omega) (by omega)) : inK .i64 (((i : Nat) : Int) + 1)) c0) ?_
   clear hA fr; intro fr hA
   replace hA := hA.int (f := fun z_ => [(0, str sv), (2, .slice none 0 0), (3, .slice p6 ((o ++ ([(sv.extract i ((((i : Nat) : Int) + 1).toNat), i)] : List (ByteArray × Nat))).length) c6), (4, .int .i64 z_)]) (rfl : ((i : Nat) : Int) + 1 = ((i + 1 : Nat) : Int))
   refine inBlock_normal ?_
   refine then_normal ?_
   have hk1_ : kd sv i ≠ 1 := kd_np (by assumption)
   exact ⟨_, by omega, i + 1, o ++ ([(sv.extract i ((((i : Nat) : Int) + 1).toNat), i)] : List (ByteArray × Nat)), p6, c6, T7, rfl, (hA.sub (e' := [(0, str sv), (2, .slice none 0 0), (3, .slice p6 ((o ++ ([(sv.extract i ((((i : Nat) : Int) + 1).toNat), i)] : List (ByteArray × Nat))).length) c6), (4, i64 ((i + 1 : Nat) : Int))]) [0, 2, 3, 4] (by kernel_rfl)).cast (by kernel_rfl), (Ow.subP (A := [(b6, 68, [str (sv.extract i ((((i : Nat) : Int) + 1).toNat)), i64 ((i : Nat) : Int)])]) (A' := []) (B := T7 ++ ([])) hO (.cons _ .slnil)), hT7, (by omega), (tok_step (m := 1) ho (by omega) (by unfold blankI; intro q_; have := of_decide_eq_true q_; omega) (by omega)), (by simp only [List.length_append, List.length_cons, List.length_nil]; omega), trivial⟩
 replace hA := hA.bool (f := fun z_ => [(0, str sv), (2, .slice none 0 0), (3, .slice pL1 o.length cL1), (4, i64 ((i : Nat) : Int)), (9, .bool z_)]) h1
 have h1p := of_decide_eq_false h1
 refine cF hA ?_
 refine wp_exit ?_
 refine then_exit ?_
 refine then_exit ?_
 refine inBlock_exit ?_
 refine then_normal ?_
 refine sR (l := (rg 0 7)) ?_
 refine ck (l := [0, 1, 2, 3]) (r := [4, 5, 6]) (e' := [(2, .slice none 0 0), (77, .slice pL1 o.length cL1), (80, .agg #[str (⟨#[]⟩), i64 ((sv.size : Nat) : Int)])]) hA [] c0 ?_
 clear hA fr; intro fr hA
 refine wpOps_cons' (mN (l := [str (⟨#[]⟩), i64 ((sv.size : Nat) : Int)]) (t := 68) (v := fun b => .slice (some ⟨b, 0, none⟩) 1 1) (d := 81) hA hO ?_)
 clear hA hO fr; intro fr w17 b7 hA hO
 replace hA := hA.sb (e' := [(2, .slice none 0 0), (77, .slice pL1 o.length cL1), (81, .slice (some ⟨b7, 0, none⟩) 1 1)])
 replace hO : Ow Try.prog none' w w17 ([(b7, 68, [str (⟨#[]⟩), i64 ((sv.size : Nat) : Int)])] ++ (TL1 ++ ([]))) := hO
 refine wpOps_cons' (mA (f := fK) (el := 68) (sz := 2) (bytes := 24) (p := pL1) (c := cL1) (l := o) (l' := ([(⟨#[]⟩, sv.size)] : List (ByteArray × Nat))) (T := TL1) (t := 63) (tx := 63) (ty := 63) (x := .slice (some ⟨b7, 0, none⟩) 1 1) (d := 82) [(b7, 68, [str (⟨#[]⟩), i64 ((sv.size : Nat) : Int)])] ([]) encK hA hO hTL1 (Vw.src (e' := 68) encK ((hO.b 0).vw (off := 0) (xs := ([(⟨#[]⟩, sv.size)] : List (ByteArray × Nat))) (by kernel_rfl)) (by kernel_rfl)) (by first | omega | (simp only [List.length_append, List.length_cons, List.length_nil]; omega)) (by unfold maxLen; first | omega | (simp only [List.length_append, List.length_cons, List.length_nil]; omega)) ?_)
 clear hA hO fr; intro fr w18 p7 c7 T8 hA hO hT8
 replace hA := hA.sb (e' := [(2, .slice none 0 0), (82, .slice p7 ((o ++ ([(⟨#[]⟩, sv.size)] : List (ByteArray × Nat))).length) c7)])
 refine ck (l := [6]) (r := []) (e' := [(2, .slice p7 ((o ++ ([(⟨#[]⟩, sv.size)] : List (ByteArray × Nat))).length) c7)]) hA [] c0 ?_
 clear hA fr; intro fr hA
 refine end_ops ?_
 refine then_normal ?_
 refine wp_ret ?_
 refine cR (cs := [none]) (us := [.slice p7 ((o ++ ([(⟨#[]⟩, sv.size)] : List (ByteArray × Nat))).length) c7]) hA [] trivial ?_
 have hend : sk sv i = sv.size := by have h1_ := sk_le hi; have h2_ := le_sk sv i; omega
 rw [hend, tks_end (by omega)] at ho
 rw [ho] at hT8
 refine ⟨_, _, _, by rw [← ho]; rfl, hT8, ((Ow.subP (A := [(b7, 68, [str (⟨#[]⟩), i64 ((sv.size : Nat) : Int)])]) (A' := []) (B := T8 ++ ([])) hO (.cons _ .slnil))).to (by simp only [List.nil_append, List.append_nil])⟩

end Go.Proofs.Ytfhcpegemapbkaa
