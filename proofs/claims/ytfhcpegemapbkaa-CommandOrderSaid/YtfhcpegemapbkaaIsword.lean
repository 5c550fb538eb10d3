/- The layer command: IsWord of both. -/
import Derived.Test.YtfhcpegemapbkaaPart
set_option linter.unusedVariables false
set_option linter.unusedSimpArgs false
set_option maxRecDepth 10000
namespace Go.Proofs.Ytfhcpegemapbkaa
open Go Go.Shelf Go.RowKit Go.Proofs Go.Proofs.Sx

theorem isword_any (sv : ByteArray) (w : World) (hl : sv.size ≤ 1000000) :
    Calls Try.prog 21 #[str sv] w fun e w' => e = .returned (.bool (isWordB sv)) ∧ Only none' w w' := by
 refine c_enter (args := [str sv]) (m := 21) (n := 22) Try.func21 rfl (by kernel_rfl) (by kernel_rfl) fun fr hA => ?_
 have hO := Ow.nil Try.prog none' w
 refine sC (e' := [(0, str sv), (2, bl false)]) 1 hA [] c0 ?_
 clear hA fr; intro fr hA
 refine wp_seq ?_
 refine sC (e' := [(0, str sv), (2, bl false), (5, i64 ((sv.size : Nat) : Int)), (6, i64 0)]) 3 hA [] c0 ?_
 clear hA fr; intro fr hA
 refine wp_block ?_
 refine c_loop (fun mm fr W => ∃ (i : Nat), mm = sv.size - i ∧ Holds 22 [] fr [(0, str sv), (2, bl false), (5, i64 ((sv.size : Nat) : Int)), (6, i64 ((i : Nat) : Int))] ∧ Ow Try.prog none' w W [] ∧ i ≤ sv.size ∧ okW sv i = true ∧ True) ?_ ?_
 · exact ⟨_, 0, rfl, (hA.sub (e' := [(0, str sv), (2, bl false), (5, i64 ((sv.size : Nat) : Int)), (6, i64 0)]) [0, 2, 5, 6] (by kernel_rfl)).cast (by kernel_rfl), hO.to, (by omega), rfl, trivial⟩
 rintro _ fr w1 ⟨i, rfl, hA, hO, hi, ho, -⟩
 have hsb := sb_b sv i
 refine sC (e' := [(0, str sv), (2, bl false), (5, i64 ((sv.size : Nat) : Int)), (6, i64 ((i : Nat) : Int)), (7, bl (decide (((i : Nat) : Int) < ((sv.size : Nat) : Int))))]) 1 hA [] c0 ?_
 clear hA fr; intro fr hA
 refine wp_seq ?_
 rcases Bool.eq_false_or_eq_true (decide (((i : Nat) : Int) < ((sv.size : Nat) : Int))) with h1 | h1
 · rw [h1] at hA
   have h1p := of_decide_eq_true h1
   refine cT hA ?_
   refine wp_skip ?_
   refine then_normal ?_
   refine wp_seq ?_
   refine wp_block ?_
   refine sC (e' := [(0, str sv), (2, bl false), (3, i64 ((i : Nat) : Int)), (5, i64 ((sv.size : Nat) : Int)), (6, i64 ((i : Nat) : Int))]) 2 hA [] c0 ?_
   clear hA fr; intro fr hA
   refine sR (l := (rg 0 5)) ?_
   refine ck (l := [0, 1, 2]) (r := [3, 4]) (e' := [(0, str sv), (2, bl false), (5, i64 ((sv.size : Nat) : Int)), (6, i64 ((i : Nat) : Int)), (11, u8 (sb sv i))]) hA [] (cc (⟨by omega, by omega⟩ : (0 : Int) ≤ ((i : Nat) : Int) ∧ ((i : Nat) : Int) < ((sv.size : Nat) : Int)) c0) ?_
   clear hA fr; intro fr hA
   refine wpOps_cons' (mK (f := 40) (args := [u8 (sb sv i)]) (d := (some 12)) (v := bl (partI (sb sv i))) hA hO Try.func40 (part_any (sb sv i) _ (by omega) (by omega)) ?_)
   clear hA hO fr; intro fr w2 hA hO
   replace hA := hA.sb (e' := [(0, str sv), (2, bl false), (5, i64 ((sv.size : Nat) : Int)), (6, i64 ((i : Nat) : Int)), (12, bl (partI (sb sv i)))])
   refine ck (l := [4]) (r := []) (e' := [(0, str sv), (2, bl false), (5, i64 ((sv.size : Nat) : Int)), (6, i64 ((i : Nat) : Int)), (13, bl (!(partI (sb sv i))))]) hA [] c0 ?_
   clear hA fr; intro fr hA
   refine end_ops ?_
   refine then_normal ?_
   rcases Bool.eq_false_or_eq_true (partI (sb sv i)) with h2 | h2
   · rw [h2] at hA
     refine cF hA ?_
     refine wp_skip ?_
     refine inBlock_normal ?_
     refine then_normal ?_
     refine rC (e' := [(0, str sv), (2, bl false), (5, i64 ((sv.size : Nat) : Int)), (6, i64 (((i : Nat) : Int) + 1))]) 2 hA [bl true] (cc ((inK_i64 (by omega) (by omega)) : inK .i64 (((i : Nat) : Int) + 1)) c0) ?_
     clear hA fr; intro fr hA
     refine then_normal ?_
     exact ⟨_, by omega, i + 1, rfl, (hA.sub (e' := [(0, str sv), (2, bl false), (5, i64 ((sv.size : Nat) : Int)), (6, i64 (((i : Nat) : Int) + 1))]) [0, 2, 5, 6] (by kernel_rfl)).cast (by kernel_rfl), hO.to, (by omega), (by simp only [okW, ho, Bool.true_and]; assumption), trivial⟩
   rw [h2] at hA
   refine cT hA ?_
   refine sC (e' := [(0, str sv), (2, bl false), (5, i64 ((sv.size : Nat) : Int)), (6, i64 ((i : Nat) : Int))]) 1 hA [] c0 ?_
   clear hA fr; intro fr hA
   refine wp_ret ?_
   refine inBlock_ret ?_
   refine then_ret ?_
   refine then_ret ?_
   refine inBlock_ret ?_
   refine then_ret ?_
   refine cR (cs := [none]) (us := [bl false]) hA [] trivial ?_
   have hF := hO.only; clear hA hO
   first | exact ⟨congrArg (fun b => Ending.returned (.bool b)) (isw_no (by assumption) (by omega)).symm, hF⟩ | skip
   all_goals (have ei : i = sv.size := (by omega))
   all_goals (rw [ei] at ho)
   all_goals (refine ⟨congrArg (fun b => Ending.returned (.bool b)) ?_, hF⟩)
   all_goals (rw [isw_len ho])
   all_goals (have hem := str_empty sv)
   all_goals (by_cases hz : sv.size = 0)
   all_goals (first | rw [decide_eq_true hz] at hem | rw [decide_eq_false hz] at hem)
   all_goals (first | (exfalso; simp_all; done) | exact (decide_eq_true (by omega)).symm | exact (decide_eq_false (by omega)).symm | exact decide_eq_decide.2 (by omega))
 rw [h1] at hA
 have h1p := of_decide_eq_false h1
 refine cF hA ?_
 refine wp_exit ?_
 refine then_exit ?_
 refine then_exit ?_
 refine inBlock_exit ?_
 refine then_normal ?_
 refine sR (l := (rg 0 8)) ?_
 refine ck (l := [0, 1, 2]) (r := (rg 3 5)) (e' := [(0, str sv), (2, bl false), (16, bl (!(sv.toList == (⟨#[]⟩ : ByteArray).toList))), (17, bl (!(sv.toList == (⟨#[]⟩ : ByteArray).toList)))]) hA [] c0 ?_
 clear hA fr; intro fr hA
 rcases Bool.eq_false_or_eq_true (sv.toList == (⟨#[]⟩ : ByteArray).toList) with h3 | h3
 · rw [h3] at hA
   refine ck (l := (rg 3 5)) (r := []) (e' := [(2, bl false)]) hA [] c0 ?_
   clear hA fr; intro fr hA
   refine end_ops ?_
   refine then_normal ?_
   refine wp_ret ?_
   refine cR (cs := [none]) (us := [bl false]) hA [] trivial ?_
   have hF := hO.only; clear hA hO
   first | exact ⟨congrArg (fun b => Ending.returned (.bool b)) (isw_no (by assumption) (by omega)).symm, hF⟩ | skip
   all_goals (have ei : i = sv.size := (by omega))
   all_goals (rw [ei] at ho)
   all_goals (refine ⟨congrArg (fun b => Ending.returned (.bool b)) ?_, hF⟩)
   all_goals (rw [isw_len ho])
   all_goals (have hem := str_empty sv)
   all_goals (by_cases hz : sv.size = 0)
   all_goals (first | rw [decide_eq_true hz] at hem | rw [decide_eq_false hz] at hem)
   all_goals (first | (exfalso; simp_all; done) | exact (decide_eq_true (by omega)).symm | exact (decide_eq_false (by omega)).symm | exact decide_eq_decide.2 (by omega))
 rw [h3] at hA
 refine ck (l := (rg 3 5)) (r := []) (e' := [(2, bl (decide (((sv.size : Nat) : Int) ≤ 60)))]) hA [] c0 ?_
 clear hA fr; intro fr hA
 refine end_ops ?_
 refine then_normal ?_
 refine wp_ret ?_
 refine cR (cs := [none]) (us := [bl (decide (((sv.size : Nat) : Int) ≤ 60))]) hA [] trivial ?_
 have hF := hO.only; clear hA hO
 first | exact ⟨congrArg (fun b => Ending.returned (.bool b)) (isw_no (by assumption) (by omega)).symm, hF⟩ | skip
 all_goals (have ei : i = sv.size := (by omega))
 all_goals (rw [ei] at ho)
 all_goals (refine ⟨congrArg (fun b => Ending.returned (.bool b)) ?_, hF⟩)
 all_goals (rw [isw_len ho])
 all_goals (have hem := str_empty sv)
 all_goals (by_cases hz : sv.size = 0)
 all_goals (first | rw [decide_eq_true hz] at hem | rw [decide_eq_false hz] at hem)
 all_goals (first | (exfalso; simp_all; done) | exact (decide_eq_true (by omega)).symm | exact (decide_eq_false (by omega)).symm | exact decide_eq_decide.2 (by omega))

theorem risword_any (sv : ByteArray) (w : World) (hl : sv.size ≤ 1000000) :
    Calls Try.prog 22 #[str sv] w fun e w' => e = .returned (.bool (isWordB sv)) ∧ Only none' w w' := by
 refine c_enter (args := [str sv]) (m := 22) (n := 23) Try.func22 rfl (by kernel_rfl) (by kernel_rfl) fun fr hA => ?_
 have hO := Ow.nil Try.prog none' w
 refine sC (e' := [(0, str sv), (2, bl false)]) 1 hA [] c0 ?_
 clear hA fr; intro fr hA
 refine wp_seq ?_
 refine sC (e' := [(0, str sv), (2, bl false), (3, i64 0)]) 1 hA [] c0 ?_
 clear hA fr; intro fr hA
 refine wp_block ?_
 refine c_loop (fun mm fr W => ∃ (i : Nat), mm = sv.size - i ∧ Holds 23 [] fr [(0, str sv), (2, bl false), (3, i64 ((i : Nat) : Int))] ∧ Ow Try.prog none' w W [] ∧ i ≤ sv.size ∧ okW sv i = true ∧ True) ?_ ?_
 · exact ⟨_, 0, rfl, (hA.sub (e' := [(0, str sv), (2, bl false), (3, i64 0)]) [0, 2, 3] (by kernel_rfl)).cast (by kernel_rfl), hO.to, (by omega), rfl, trivial⟩
 rintro _ fr w1 ⟨i, rfl, hA, hO, hi, ho, -⟩
 have hsb := sb_b sv i
 refine wp_seq ?_
 refine sC (e' := [(0, str sv), (2, bl false), (3, i64 ((i : Nat) : Int)), (7, bl (decide (((i : Nat) : Int) < ((sv.size : Nat) : Int))))]) 4 hA [] c0 ?_
 clear hA fr; intro fr hA
 rcases Bool.eq_false_or_eq_true (decide (((i : Nat) : Int) < ((sv.size : Nat) : Int))) with h1 | h1
 · rw [h1] at hA
   have h1p := of_decide_eq_true h1
   refine cT hA ?_
   refine wp_skip ?_
   refine then_normal ?_
   refine wp_seq ?_
   refine wp_block ?_
   refine sR (l := (rg 0 5)) ?_
   refine ck (l := [0, 1, 2]) (r := [3, 4]) (e' := [(0, str sv), (2, bl false), (3, i64 ((i : Nat) : Int)), (12, u8 (sb sv i))]) hA [] (cc (⟨by omega, by omega⟩ : (0 : Int) ≤ ((i : Nat) : Int) ∧ ((i : Nat) : Int) < ((sv.size : Nat) : Int)) c0) ?_
   clear hA fr; intro fr hA
   refine wpOps_cons' (mK (f := 41) (args := [u8 (sb sv i)]) (d := (some 13)) (v := bl (partI (sb sv i))) hA hO Try.func41 (inner_any (sb sv i) _ (by omega) (by omega)) ?_)
   clear hA hO fr; intro fr w2 hA hO
   replace hA := hA.sb (e' := [(0, str sv), (2, bl false), (3, i64 ((i : Nat) : Int)), (13, bl (partI (sb sv i)))])
   refine ck (l := [4]) (r := []) (e' := [(0, str sv), (2, bl false), (3, i64 ((i : Nat) : Int)), (14, bl (!(partI (sb sv i))))]) hA [] c0 ?_
   clear hA fr; intro fr hA
   refine end_ops ?_
   refine then_normal ?_
   rcases Bool.eq_false_or_eq_true (partI (sb sv i)) with h2 | h2
   · rw [h2] at hA
     refine cF hA ?_
     refine wp_skip ?_
     refine inBlock_normal ?_
     refine then_normal ?_
     refine rC (e' := [(0, str sv), (2, bl false), (3, i64 (((i : Nat) : Int) + 1))]) 3 hA [bl true] (cc ((inK_i64 (by omega) (by omega)) : inK .i64 (((i : Nat) : Int) + 1)) c0) ?_
     clear hA fr; intro fr hA
     refine then_normal ?_
     exact ⟨_, by omega, i + 1, rfl, (hA.sub (e' := [(0, str sv), (2, bl false), (3, i64 (((i : Nat) : Int) + 1))]) [0, 2, 3] (by kernel_rfl)).cast (by kernel_rfl), hO.to, (by omega), (by simp only [okW, ho, Bool.true_and]; assumption), trivial⟩
   rw [h2] at hA
   refine cT hA ?_
   refine sC (e' := [(0, str sv), (2, bl false), (3, i64 ((i : Nat) : Int))]) 1 hA [] c0 ?_
   clear hA fr; intro fr hA
   refine wp_ret ?_
   refine inBlock_ret ?_
   refine then_ret ?_
   refine then_ret ?_
   refine inBlock_ret ?_
   refine then_ret ?_
   refine cR (cs := [none]) (us := [bl false]) hA [] trivial ?_
   have hF := hO.only; clear hA hO
   first | exact ⟨congrArg (fun b => Ending.returned (.bool b)) (isw_no (by assumption) (by omega)).symm, hF⟩ | skip
   all_goals (have ei : i = sv.size := (by omega))
   all_goals (rw [ei] at ho)
   all_goals (refine ⟨congrArg (fun b => Ending.returned (.bool b)) ?_, hF⟩)
   all_goals (rw [isw_len ho])
   all_goals (have hem := str_empty sv)
   all_goals (by_cases hz : sv.size = 0)
   all_goals (first | rw [decide_eq_true hz] at hem | rw [decide_eq_false hz] at hem)
   all_goals (first | (exfalso; simp_all; done) | exact (decide_eq_true (by omega)).symm | exact (decide_eq_false (by omega)).symm | exact decide_eq_decide.2 (by omega))
 rw [h1] at hA
 have h1p := of_decide_eq_false h1
 refine cF hA ?_
 refine wp_exit ?_
 refine then_exit ?_
 refine then_exit ?_
 refine inBlock_exit ?_
 refine then_normal ?_
 refine sR (l := (rg 0 9)) ?_
 refine ck (l := [0, 1, 2, 3]) (r := (rg 4 5)) (e' := [(0, str sv), (2, bl false), (17, bl (decide (((sv.size : Nat) : Int) ≥ 1))), (18, bl (decide (((sv.size : Nat) : Int) ≥ 1)))]) hA [] c0 ?_
 clear hA fr; intro fr hA
 rcases Bool.eq_false_or_eq_true (decide (((sv.size : Nat) : Int) ≥ 1)) with h3 | h3
 · rw [h3] at hA
   have h3p := of_decide_eq_true h3
   refine ck (l := (rg 4 5)) (r := []) (e' := [(2, bl (decide (((sv.size : Nat) : Int) ≤ 60)))]) hA [] c0 ?_
   clear hA fr; intro fr hA
   refine end_ops ?_
   refine then_normal ?_
   refine wp_ret ?_
   refine cR (cs := [none]) (us := [bl (decide (((sv.size : Nat) : Int) ≤ 60))]) hA [] trivial ?_
   have hF := hO.only; clear hA hO
   first | exact ⟨congrArg (fun b => Ending.returned (.bool b)) (isw_no (by assumption) (by omega)).symm, hF⟩ | skip
   all_goals (have ei : i = sv.size := (by omega))
   all_goals (rw [ei] at ho)
   all_goals (refine ⟨congrArg (fun b => Ending.returned (.bool b)) ?_, hF⟩)
   all_goals (rw [isw_len ho])
   all_goals (have hem := str_empty sv)
   all_goals (by_cases hz : sv.size = 0)
   all_goals (first | rw [decide_eq_true hz] at hem | rw [decide_eq_false hz] at hem)
   all_goals (first | (exfalso; simp_all; done) | exact (decide_eq_true (by omega)).symm | exact (decide_eq_false (by omega)).symm | exact decide_eq_decide.2 (by omega))
 rw [h3] at hA
 have h3p := of_decide_eq_false h3
 refine ck (l := (rg 4 5)) (r := []) (e' := [(2, bl false)]) hA [] c0 ?_
 clear hA fr; intro fr hA
 refine end_ops ?_
 refine then_normal ?_
 refine wp_ret ?_
 refine cR (cs := [none]) (us := [bl false]) hA [] trivial ?_
 have hF := hO.only; clear hA hO
 first | exact ⟨congrArg (fun b => Ending.returned (.bool b)) (isw_no (by assumption) (by omega)).symm, hF⟩ | skip
 all_goals (have ei : i = sv.size := (by omega))
 all_goals (rw [ei] at ho)
 all_goals (refine ⟨congrArg (fun b => Ending.returned (.bool b)) ?_, hF⟩)
 all_goals (rw [isw_len ho])
 all_goals (have hem := str_empty sv)
 all_goals (by_cases hz : sv.size = 0)
 all_goals (first | rw [decide_eq_true hz] at hem | rw [decide_eq_false hz] at hem)
 all_goals (first | (exfalso; simp_all; done) | exact (decide_eq_true (by omega)).symm | exact (decide_eq_false (by omega)).symm | exact decide_eq_decide.2 (by omega))

end Go.Proofs.Ytfhcpegemapbkaa
