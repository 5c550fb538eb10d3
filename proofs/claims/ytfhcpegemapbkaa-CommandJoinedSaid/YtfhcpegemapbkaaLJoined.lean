/- The layer command: the law CommandJoined. -/
import Derived.Test.YtfhcpegemapbkaaCmdStore
set_option linter.unusedVariables false
set_option linter.unusedSimpArgs false
set_option maxRecDepth 10000
namespace Go.Proofs.Ytfhcpegemapbkaa
open Go Go.Shelf Go.RowKit Go.Proofs Go.Proofs.Sx

theorem law_joined_ea (sv tv : ByteArray) (z : Bool) (w : World) {a : Nat} {b : Int} (hx : lineP false sv = .error (a, b)) :
    Calls Try.prog 7 #[str sv, str tv, bl z] w fun e w' => e = .returned (.bool true) ∧ Only none' w w' := by
 refine c_enter (args := [str sv, str tv, bl z]) (m := 116) (n := 119) Try.func7 rfl (by kernel_rfl) (by kernel_rfl) fun fr hA => ?_
 have hO := Ow.nil Try.prog none' w
 have hz1 : (⟨#[59]⟩ : ByteArray).size = 1 := rfl
 have hz2 : (⟨#[38]⟩ : ByteArray).size = 1 := rfl
 obtain ⟨s1, hs1⟩ : ∃ s1, s1 = sv ++ (⟨#[59]⟩ : ByteArray) ++ tv := ⟨_, rfl⟩
 obtain ⟨s2, hs2⟩ : ∃ s2, s2 = sv ++ (⟨#[38]⟩ : ByteArray) ++ tv := ⟨_, rfl⟩
 have hl1 : s1.size = sv.size + 1 + tv.size := by rw [hs1, ByteArray.size_append, ByteArray.size_append, hz1]
 have hl2 : s2.size = sv.size + 1 + tv.size := by rw [hs2, ByteArray.size_append, ByteArray.size_append, hz2]
 refine sC (e' := [(0, str sv), (1, str tv), (2, bl z), (6, bl false)]) 1 hA [] c0 ?_
 clear hA fr; intro fr hA
 refine wp_seq ?_
 refine sR (l := [0, 1]) ?_
 refine wpOps_cons' (mK (f := 9) (args := []) (d := (some 20)) (v := bl true) hA hO Try.func9 (awake_any _) ?_)
 clear hA hO fr; intro fr w1 hA hO
 replace hA := hA.sb (e' := [(0, str sv), (1, str tv), (2, bl z), (6, bl false), (20, bl true)])
 refine ck (l := [1]) (r := []) (e' := [(0, str sv), (1, str tv), (2, bl z), (6, bl false), (21, bl false)]) hA [] c0 ?_
 clear hA fr; intro fr hA
 refine end_ops ?_
 refine then_normal ?_
 refine cF hA ?_
 refine wp_skip ?_
 refine then_normal ?_
 refine wp_seq ?_
 refine sR (l := (rg 0 8)) ?_
 refine ck (l := [0, 1, 2, 3]) (r := [4, 5, 6, 7]) (e' := [(0, str sv), (1, str tv), (2, bl z), (6, bl false), (24, bl (decide (((sv.size : Nat) : Int) > 300))), (25, bl (decide (((sv.size : Nat) : Int) > 300)))]) hA [] c0 ?_
 clear hA fr; intro fr hA
 rcases Bool.eq_false_or_eq_true (decide (((sv.size : Nat) : Int) > 300)) with h1 | h1
 · rw [h1] at hA
   have h1p := of_decide_eq_true h1
   refine ck (l := [4, 5, 6, 7]) (r := []) (e' := [(0, str sv), (1, str tv), (2, bl z), (6, bl false), (29, bl true)]) hA [] c0 ?_
   clear hA fr; intro fr hA
   refine end_ops ?_
   refine then_normal ?_
   refine cT hA ?_
   refine sC (e' := [(6, bl true)]) 1 hA [] c0 ?_
   clear hA fr; intro fr hA
   refine wp_ret ?_
   refine then_ret ?_
   refine cR (cs := [none]) (us := [bl true]) hA [] trivial ?_
   have hF := hO.only; clear hA hO
   exact ⟨rfl, hF⟩
 rw [h1] at hA
 have h1p := of_decide_eq_false h1
 refine ck (l := [4, 5, 6, 7]) (r := []) (e' := [(0, str sv), (1, str tv), (2, bl z), (6, bl false), (29, bl (decide (((tv.size : Nat) : Int) > 300)))]) hA [] c0 ?_
 clear hA fr; intro fr hA
 refine end_ops ?_
 refine then_normal ?_
 rcases Bool.eq_false_or_eq_true (decide (((tv.size : Nat) : Int) > 300)) with h2 | h2
 · rw [h2] at hA
   have h2p := of_decide_eq_true h2
   refine cT hA ?_
   refine sC (e' := [(6, bl true)]) 1 hA [] c0 ?_
   clear hA fr; intro fr hA
   refine wp_ret ?_
   refine then_ret ?_
   refine cR (cs := [none]) (us := [bl true]) hA [] trivial ?_
   have hF := hO.only; clear hA hO
   exact ⟨rfl, hF⟩
 rw [h2] at hA
 have h2p := of_decide_eq_false h2
 refine cF hA ?_
 refine wp_skip ?_
 refine then_normal ?_
 refine sR (l := (rg 0 9)) ?_
 refine ck (l := [0]) (r := (rg 1 8)) (e' := [(0, str sv), (1, str tv), (2, bl z), (6, bl false), (31, str sv)]) hA [] c0 ?_
 clear hA fr; intro fr hA
 refine wpOps_cons' (mK (f := 10) (args := [str sv]) (d := (some 32)) (v := .tuple #[.slice none 0 0, i64 ((a : Nat) : Int), i64 b]) hA hO Try.func10 (parse_err (sv := sv) _ (by omega) hx) ?_)
 clear hA hO fr; intro fr w2 hA hO
 replace hA := hA.sb (e' := [(0, str sv), (1, str tv), (2, bl z), (6, bl false), (32, .tuple #[.slice none 0 0, i64 ((a : Nat) : Int), i64 b])])
 refine ck (l := (rg 2 7)) (r := []) (e' := [(0, str sv), (1, str tv), (2, bl z), (6, bl false), (7, .slice none 0 0), (9, i64 b)]) hA [] c0 ?_
 clear hA fr; intro fr hA
 refine end_ops ?_
 refine then_normal ?_
 refine sR (l := (rg 0 9)) ?_
 refine ck (l := [0]) (r := (rg 1 8)) (e' := [(0, str sv), (1, str tv), (2, bl z), (6, bl false), (7, .slice none 0 0), (9, i64 b), (37, str tv)]) hA [] c0 ?_
 clear hA fr; intro fr hA
 refine wpOps_cons' (mC (f := 10) (args := [str tv]) (d := (some 38)) hA Try.func10 ((parse_gen (sv := tv) _ (by omega)).mono ?_))
 rintro en w3 ⟨p1, k1, l1, T1, T2, a1, hj1, rfl, hT1, hT2, hW⟩
 refine ⟨_, rfl, ?_⟩
 clear hA fr; intro fr hA
 replace hO : Ow Try.prog none' w _ ([] ++ []) := hO.to (List.append_nil _).symm
 replace hO := Ow.join hO hW; clear hW
 replace hO : Ow Try.prog none' w _ ([] ++ (T1 ++ (T2 ++ ([])))) := hO.to (by first | rfl | (simp only [TP, apd]))
 have hsml1 : smL 1000000 (l1.map JV.d) := by rw [hj1]; exact okL_small _
 replace hA := hA.sb (e' := [(0, str sv), (1, str tv), (2, bl z), (6, bl false), (7, .slice none 0 0), (9, i64 b), (38, .tuple #[.slice p1 l1.length k1, i64 ((a1 : Nat) : Int), i64 (errE (lineP false tv))])])
 refine ck (l := (rg 2 7)) (r := []) (e' := [(0, str sv), (1, str tv), (2, bl z), (6, bl false), (7, .slice none 0 0), (9, i64 b), (10, .slice p1 l1.length k1), (12, i64 (errE (lineP false tv)))]) hA [] c0 ?_
 clear hA fr; intro fr hA
 refine end_ops ?_
 refine then_normal ?_
 refine wp_seq ?_
 refine sR (l := (rg 0 19)) ?_
 refine ck (l := [0, 1, 2]) (r := (rg 3 16)) (e' := [(0, str sv), (1, str tv), (2, bl z), (6, bl false), (7, .slice none 0 0), (10, .slice p1 l1.length k1), (12, i64 (errE (lineP false tv))), (43, bl (b != 0)), (44, bl (b != 0))]) hA [] c0 ?_
 clear hA fr; intro fr hA
 rw [(lineP_er hx : (b != 0) = (true))] at hA
 refine ck (l := (rg 3 16)) (r := []) (e' := [(0, str sv), (1, str tv), (2, bl z), (6, bl false), (7, .slice none 0 0), (10, .slice p1 l1.length k1), (60, bl true)]) hA [] c0 ?_
 clear hA fr; intro fr hA
 refine end_ops ?_
 refine then_normal ?_
 refine cT hA ?_
 refine sC (e' := [(6, bl true)]) 1 hA [] c0 ?_
 clear hA fr; intro fr hA
 refine wp_ret ?_
 refine then_ret ?_
 refine cR (cs := [none]) (us := [bl true]) hA [] trivial ?_
 have hF := hO.only; clear hA hO
 exact ⟨rfl, hF⟩

theorem law_joined_eb (sv tv : ByteArray) (z : Bool) (w : World) {x : List JobL} {a : Nat} {b : Int} (hx : lineP false sv = .ok x) (hy : lineP false tv = .error (a, b)) :
    Calls Try.prog 7 #[str sv, str tv, bl z] w fun e w' => e = .returned (.bool true) ∧ Only none' w w' := by
 refine c_enter (args := [str sv, str tv, bl z]) (m := 116) (n := 119) Try.func7 rfl (by kernel_rfl) (by kernel_rfl) fun fr hA => ?_
 have hO := Ow.nil Try.prog none' w
 have hz1 : (⟨#[59]⟩ : ByteArray).size = 1 := rfl
 have hz2 : (⟨#[38]⟩ : ByteArray).size = 1 := rfl
 obtain ⟨s1, hs1⟩ : ∃ s1, s1 = sv ++ (⟨#[59]⟩ : ByteArray) ++ tv := ⟨_, rfl⟩
 obtain ⟨s2, hs2⟩ : ∃ s2, s2 = sv ++ (⟨#[38]⟩ : ByteArray) ++ tv := ⟨_, rfl⟩
 have hl1 : s1.size = sv.size + 1 + tv.size := by rw [hs1, ByteArray.size_append, ByteArray.size_append, hz1]
 have hl2 : s2.size = sv.size + 1 + tv.size := by rw [hs2, ByteArray.size_append, ByteArray.size_append, hz2]
 refine sC (e' := [(0, str sv), (1, str tv), (2, bl z), (6, bl false)]) 1 hA [] c0 ?_
 clear hA fr; intro fr hA
 refine wp_seq ?_
 refine sR (l := [0, 1]) ?_
 refine wpOps_cons' (mK (f := 9) (args := []) (d := (some 20)) (v := bl true) hA hO Try.func9 (awake_any _) ?_)
 clear hA hO fr; intro fr w1 hA hO
 replace hA := hA.sb (e' := [(0, str sv), (1, str tv), (2, bl z), (6, bl false), (20, bl true)])
 refine ck (l := [1]) (r := []) (e' := [(0, str sv), (1, str tv), (2, bl z), (6, bl false), (21, bl false)]) hA [] c0 ?_
 clear hA fr; intro fr hA
 refine end_ops ?_
 refine then_normal ?_
 refine cF hA ?_
 refine wp_skip ?_
 refine then_normal ?_
 refine wp_seq ?_
 refine sR (l := (rg 0 8)) ?_
 refine ck (l := [0, 1, 2, 3]) (r := [4, 5, 6, 7]) (e' := [(0, str sv), (1, str tv), (2, bl z), (6, bl false), (24, bl (decide (((sv.size : Nat) : Int) > 300))), (25, bl (decide (((sv.size : Nat) : Int) > 300)))]) hA [] c0 ?_
 clear hA fr; intro fr hA
 rcases Bool.eq_false_or_eq_true (decide (((sv.size : Nat) : Int) > 300)) with h1 | h1
 · rw [h1] at hA
   have h1p := of_decide_eq_true h1
   refine ck (l := [4, 5, 6, 7]) (r := []) (e' := [(0, str sv), (1, str tv), (2, bl z), (6, bl false), (29, bl true)]) hA [] c0 ?_
   clear hA fr; intro fr hA
   refine end_ops ?_
   refine then_normal ?_
   refine cT hA ?_
   refine sC (e' := [(6, bl true)]) 1 hA [] c0 ?_
   clear hA fr; intro fr hA
   refine wp_ret ?_
   refine then_ret ?_
   refine cR (cs := [none]) (us := [bl true]) hA [] trivial ?_
   have hF := hO.only; clear hA hO
   exact ⟨rfl, hF⟩
 rw [h1] at hA
 have h1p := of_decide_eq_false h1
 refine ck (l := [4, 5, 6, 7]) (r := []) (e' := [(0, str sv), (1, str tv), (2, bl z), (6, bl false), (29, bl (decide (((tv.size : Nat) : Int) > 300)))]) hA [] c0 ?_
 clear hA fr; intro fr hA
 refine end_ops ?_
 refine then_normal ?_
 rcases Bool.eq_false_or_eq_true (decide (((tv.size : Nat) : Int) > 300)) with h2 | h2
 · rw [h2] at hA
   have h2p := of_decide_eq_true h2
   refine cT hA ?_
   refine sC (e' := [(6, bl true)]) 1 hA [] c0 ?_
   clear hA fr; intro fr hA
   refine wp_ret ?_
   refine then_ret ?_
   refine cR (cs := [none]) (us := [bl true]) hA [] trivial ?_
   have hF := hO.only; clear hA hO
   exact ⟨rfl, hF⟩
 rw [h2] at hA
 have h2p := of_decide_eq_false h2
 refine cF hA ?_
 refine wp_skip ?_
 refine then_normal ?_
 refine sR (l := (rg 0 9)) ?_
 refine ck (l := [0]) (r := (rg 1 8)) (e' := [(0, str sv), (1, str tv), (2, bl z), (6, bl false), (31, str sv)]) hA [] c0 ?_
 clear hA fr; intro fr hA
 refine wpOps_cons' (mC (f := 10) (args := [str sv]) (d := (some 32)) hA Try.func10 ((parse_ok (sv := sv) _ (by omega) hx).mono ?_))
 rintro en w2 ⟨p1, k1, l1, T1, T2, hj1, rfl, hT1, hT2, hW⟩
 refine ⟨_, rfl, ?_⟩
 clear hA fr; intro fr hA
 replace hO : Ow Try.prog none' w _ ([] ++ []) := hO.to (List.append_nil _).symm
 replace hO := Ow.join hO hW; clear hW
 replace hO : Ow Try.prog none' w _ ([] ++ (T1 ++ (T2 ++ ([])))) := hO.to (by first | rfl | (simp only [TP, apd]))
 have hsml1 : smL 1000000 (l1.map JV.d) := by rw [hj1]; exact valid_small (lineP_valid hx)
 have hlnl1 : l1.length ≤ 1000000 := by have := hsml1.1; simpa using this
 replace hA := hA.sb (e' := [(0, str sv), (1, str tv), (2, bl z), (6, bl false), (32, .tuple #[.slice p1 l1.length k1, i64 0, i64 0])])
 refine ck (l := (rg 2 7)) (r := []) (e' := [(0, str sv), (1, str tv), (2, bl z), (6, bl false), (7, .slice p1 l1.length k1), (9, i64 0)]) hA [] c0 ?_
 clear hA fr; intro fr hA
 refine end_ops ?_
 refine then_normal ?_
 refine sR (l := (rg 0 9)) ?_
 refine ck (l := [0]) (r := (rg 1 8)) (e' := [(0, str sv), (1, str tv), (2, bl z), (6, bl false), (7, .slice p1 l1.length k1), (9, i64 0), (37, str tv)]) hA [] c0 ?_
 clear hA fr; intro fr hA
 refine wpOps_cons' (mK (f := 10) (args := [str tv]) (d := (some 38)) (v := .tuple #[.slice none 0 0, i64 ((a : Nat) : Int), i64 b]) hA hO Try.func10 (parse_err (sv := tv) _ (by omega) hy) ?_)
 clear hA hO fr; intro fr w3 hA hO
 replace hA := hA.sb (e' := [(0, str sv), (1, str tv), (2, bl z), (6, bl false), (7, .slice p1 l1.length k1), (9, i64 0), (38, .tuple #[.slice none 0 0, i64 ((a : Nat) : Int), i64 b])])
 refine ck (l := (rg 2 7)) (r := []) (e' := [(0, str sv), (1, str tv), (2, bl z), (6, bl false), (7, .slice p1 l1.length k1), (9, i64 0), (10, .slice none 0 0), (12, i64 b)]) hA [] c0 ?_
 clear hA fr; intro fr hA
 refine end_ops ?_
 refine then_normal ?_
 refine wp_seq ?_
 refine sR (l := (rg 0 19)) ?_
 refine ck (l := (rg 0 7)) (r := (rg 7 12)) (e' := [(0, str sv), (1, str tv), (2, bl z), (6, bl false), (7, .slice p1 l1.length k1), (10, .slice none 0 0), (46, bl (b != 0)), (47, bl (b != 0)), (48, bl (b != 0))]) hA [] c0 ?_
 clear hA fr; intro fr hA
 rw [(lineP_er hy : (b != 0) = (true))] at hA
 refine ck (l := (rg 7 12)) (r := []) (e' := [(0, str sv), (1, str tv), (2, bl z), (6, bl false), (7, .slice p1 l1.length k1), (10, .slice none 0 0), (60, bl true)]) hA [] c0 ?_
 clear hA fr; intro fr hA
 refine end_ops ?_
 refine then_normal ?_
 refine cT hA ?_
 refine sC (e' := [(6, bl true)]) 1 hA [] c0 ?_
 clear hA fr; intro fr hA
 refine wp_ret ?_
 refine then_ret ?_
 refine cR (cs := [none]) (us := [bl true]) hA [] trivial ?_
 have hF := hO.only; clear hA hO
 exact ⟨rfl, hF⟩

theorem law_joined_ok (sv tv : ByteArray) (z : Bool) (w : World) {x y : List JobL} (hx : lineP false sv = .ok x) (hy : lineP false tv = .ok y) :
    Calls Try.prog 7 #[str sv, str tv, bl z] w fun e w' => e = .returned (.bool true) ∧ Only none' w w' := by
 refine c_enter (args := [str sv, str tv, bl z]) (m := 116) (n := 119) Try.func7 rfl (by kernel_rfl) (by kernel_rfl) fun fr hA => ?_
 have hO := Ow.nil Try.prog none' w
 have hz1 : (⟨#[59]⟩ : ByteArray).size = 1 := rfl
 have hz2 : (⟨#[38]⟩ : ByteArray).size = 1 := rfl
 obtain ⟨s1, hs1⟩ : ∃ s1, s1 = sv ++ (⟨#[59]⟩ : ByteArray) ++ tv := ⟨_, rfl⟩
 obtain ⟨s2, hs2⟩ : ∃ s2, s2 = sv ++ (⟨#[38]⟩ : ByteArray) ++ tv := ⟨_, rfl⟩
 have hl1 : s1.size = sv.size + 1 + tv.size := by rw [hs1, ByteArray.size_append, ByteArray.size_append, hz1]
 have hl2 : s2.size = sv.size + 1 + tv.size := by rw [hs2, ByteArray.size_append, ByteArray.size_append, hz2]
 refine sC (e' := [(0, str sv), (1, str tv), (2, bl z), (6, bl false)]) 1 hA [] c0 ?_
 clear hA fr; intro fr hA
 refine wp_seq ?_
 refine sR (l := [0, 1]) ?_
 refine wpOps_cons' (mK (f := 9) (args := []) (d := (some 20)) (v := bl true) hA hO Try.func9 (awake_any _) ?_)
 clear hA hO fr; intro fr w1 hA hO
 replace hA := hA.sb (e' := [(0, str sv), (1, str tv), (2, bl z), (6, bl false), (20, bl true)])
 refine ck (l := [1]) (r := []) (e' := [(0, str sv), (1, str tv), (2, bl z), (6, bl false), (21, bl false)]) hA [] c0 ?_
 clear hA fr; intro fr hA
 refine end_ops ?_
 refine then_normal ?_
 refine cF hA ?_
 refine wp_skip ?_
 refine then_normal ?_
 refine wp_seq ?_
 refine sR (l := (rg 0 8)) ?_
 refine ck (l := [0, 1, 2, 3]) (r := [4, 5, 6, 7]) (e' := [(0, str sv), (1, str tv), (2, bl z), (6, bl false), (24, bl (decide (((sv.size : Nat) : Int) > 300))), (25, bl (decide (((sv.size : Nat) : Int) > 300)))]) hA [] c0 ?_
 clear hA fr; intro fr hA
 rcases Bool.eq_false_or_eq_true (decide (((sv.size : Nat) : Int) > 300)) with h1 | h1
 · rw [h1] at hA
   have h1p := of_decide_eq_true h1
   refine ck (l := [4, 5, 6, 7]) (r := []) (e' := [(0, str sv), (1, str tv), (2, bl z), (6, bl false), (29, bl true)]) hA [] c0 ?_
   clear hA fr; intro fr hA
   refine end_ops ?_
   refine then_normal ?_
   refine cT hA ?_
   refine sC (e' := [(6, bl true)]) 1 hA [] c0 ?_
   clear hA fr; intro fr hA
   refine wp_ret ?_
   refine then_ret ?_
   refine cR (cs := [none]) (us := [bl true]) hA [] trivial ?_
   have hF := hO.only; clear hA hO
   exact ⟨rfl, hF⟩
 rw [h1] at hA
 have h1p := of_decide_eq_false h1
 refine ck (l := [4, 5, 6, 7]) (r := []) (e' := [(0, str sv), (1, str tv), (2, bl z), (6, bl false), (29, bl (decide (((tv.size : Nat) : Int) > 300)))]) hA [] c0 ?_
 clear hA fr; intro fr hA
 refine end_ops ?_
 refine then_normal ?_
 rcases Bool.eq_false_or_eq_true (decide (((tv.size : Nat) : Int) > 300)) with h2 | h2
 · rw [h2] at hA
   have h2p := of_decide_eq_true h2
   refine cT hA ?_
   refine sC (e' := [(6, bl true)]) 1 hA [] c0 ?_
   clear hA fr; intro fr hA
   refine wp_ret ?_
   refine then_ret ?_
   refine cR (cs := [none]) (us := [bl true]) hA [] trivial ?_
   have hF := hO.only; clear hA hO
   exact ⟨rfl, hF⟩
 rw [h2] at hA
 have h2p := of_decide_eq_false h2
 refine cF hA ?_
 refine wp_skip ?_
 refine then_normal ?_
 refine sR (l := (rg 0 9)) ?_
 refine ck (l := [0]) (r := (rg 1 8)) (e' := [(0, str sv), (1, str tv), (2, bl z), (6, bl false), (31, str sv)]) hA [] c0 ?_
 clear hA fr; intro fr hA
 refine wpOps_cons' (mC (f := 10) (args := [str sv]) (d := (some 32)) hA Try.func10 ((parse_ok (sv := sv) _ (by omega) hx).mono ?_))
 rintro en w2 ⟨p1, k1, l1, T1, T2, hj1, rfl, hT1, hT2, hW⟩
 refine ⟨_, rfl, ?_⟩
 clear hA fr; intro fr hA
 replace hO : Ow Try.prog none' w _ ([] ++ []) := hO.to (List.append_nil _).symm
 replace hO := Ow.join hO hW; clear hW
 replace hO : Ow Try.prog none' w _ ([] ++ (T1 ++ (T2 ++ ([])))) := hO.to (by first | rfl | (simp only [TP, apd]))
 have hsml1 : smL 1000000 (l1.map JV.d) := by rw [hj1]; exact valid_small (lineP_valid hx)
 have hlnl1 : l1.length ≤ 1000000 := by have := hsml1.1; simpa using this
 replace hA := hA.sb (e' := [(0, str sv), (1, str tv), (2, bl z), (6, bl false), (32, .tuple #[.slice p1 l1.length k1, i64 0, i64 0])])
 refine ck (l := (rg 2 7)) (r := []) (e' := [(0, str sv), (1, str tv), (2, bl z), (6, bl false), (7, .slice p1 l1.length k1), (9, i64 0)]) hA [] c0 ?_
 clear hA fr; intro fr hA
 refine end_ops ?_
 refine then_normal ?_
 refine sR (l := (rg 0 9)) ?_
 refine ck (l := [0]) (r := (rg 1 8)) (e' := [(0, str sv), (1, str tv), (2, bl z), (6, bl false), (7, .slice p1 l1.length k1), (9, i64 0), (37, str tv)]) hA [] c0 ?_
 clear hA fr; intro fr hA
 refine wpOps_cons' (mC (f := 10) (args := [str tv]) (d := (some 38)) hA Try.func10 ((parse_ok (sv := tv) _ (by omega) hy).mono ?_))
 rintro en w3 ⟨p2, k2, l2, T3, T4, hj2, rfl, hT3, hT4, hW⟩
 refine ⟨_, rfl, ?_⟩
 clear hA fr; intro fr hA
 replace hO := Ow.join hO hW; clear hW
 replace hO : Ow Try.prog none' w _ ([] ++ (T1 ++ (T2 ++ (T3 ++ (T4 ++ ([])))))) := hO.to (by first | rfl | (simp only [TP, apd]))
 have hsml2 : smL 1000000 (l2.map JV.d) := by rw [hj2]; exact valid_small (lineP_valid hy)
 have hlnl2 : l2.length ≤ 1000000 := by have := hsml2.1; simpa using this
 replace hA := hA.sb (e' := [(0, str sv), (1, str tv), (2, bl z), (6, bl false), (7, .slice p1 l1.length k1), (9, i64 0), (38, .tuple #[.slice p2 l2.length k2, i64 0, i64 0])])
 refine ck (l := (rg 2 7)) (r := []) (e' := [(0, str sv), (1, str tv), (2, bl z), (6, bl false), (7, .slice p1 l1.length k1), (9, i64 0), (10, .slice p2 l2.length k2), (12, i64 0)]) hA [] c0 ?_
 clear hA fr; intro fr hA
 refine end_ops ?_
 refine then_normal ?_
 refine wp_seq ?_
 refine sR (l := (rg 0 19)) ?_
 refine ck (l := (rg 0 12)) (r := (rg 12 7)) (e' := [(0, str sv), (1, str tv), (2, bl z), (6, bl false), (7, .slice p1 l1.length k1), (10, .slice p2 l2.length k2), (51, bl (((l1.length : Nat) : Int) == 0)), (52, bl (((l1.length : Nat) : Int) == 0)), (53, bl (((l1.length : Nat) : Int) == 0))]) hA [] c0 ?_
 clear hA fr; intro fr hA
 rcases Bool.eq_false_or_eq_true (((l1.length : Nat) : Int) == 0) with h3 | h3
 · rw [h3] at hA
   have h3p := eq_of_beq h3
   refine ck (l := (rg 12 7)) (r := []) (e' := [(0, str sv), (1, str tv), (2, bl z), (6, bl false), (7, .slice p1 l1.length k1), (10, .slice p2 l2.length k2), (60, bl true)]) hA [] c0 ?_
   clear hA fr; intro fr hA
   refine end_ops ?_
   refine then_normal ?_
   refine cT hA ?_
   refine sC (e' := [(6, bl true)]) 1 hA [] c0 ?_
   clear hA fr; intro fr hA
   refine wp_ret ?_
   refine then_ret ?_
   refine cR (cs := [none]) (us := [bl true]) hA [] trivial ?_
   have hF := hO.only; clear hA hO
   exact ⟨rfl, hF⟩
 rw [h3] at hA
 have h3p := ne_of_beq_false h3
 refine ck (l := (rg 12 7)) (r := []) (e' := [(0, str sv), (1, str tv), (2, bl z), (6, bl false), (7, .slice p1 l1.length k1), (10, .slice p2 l2.length k2), (60, bl (decide ((((l1.length : Nat) : Int) + ((l2.length : Nat) : Int)) > 8)))]) hA [bl true] (cc ((inK_i64 (by omega) (by omega)) : inK .i64 (((l1.length : Nat) : Int) + ((l2.length : Nat) : Int))) c0) ?_
 clear hA fr; intro fr hA
 refine end_ops ?_
 refine then_normal ?_
 rcases Bool.eq_false_or_eq_true (decide ((((l1.length : Nat) : Int) + ((l2.length : Nat) : Int)) > 8)) with h4 | h4
 · rw [h4] at hA
   have h4p := of_decide_eq_true h4
   refine cT hA ?_
   refine sC (e' := [(6, bl true)]) 1 hA [] c0 ?_
   clear hA fr; intro fr hA
   refine wp_ret ?_
   refine then_ret ?_
   refine cR (cs := [none]) (us := [bl true]) hA [] trivial ?_
   have hF := hO.only; clear hA hO
   exact ⟨rfl, hF⟩
 rw [h4] at hA
 have h4p := of_decide_eq_false h4
 refine cF hA ?_
 refine wp_skip ?_
 refine then_normal ?_
 refine sC (e' := [(0, str sv), (1, str tv), (2, bl z), (6, bl false), (7, .slice p1 l1.length k1), (10, .slice p2 l2.length k2), (13, u8 32)]) 1 hA [] c0 ?_
 clear hA fr; intro fr hA
 refine wp_seq ?_
 refine sC (e' := [(0, str sv), (1, str tv), (2, bl z), (6, bl false), (7, .slice p1 l1.length k1), (10, .slice p2 l2.length k2), (13, u8 32), (14, i64 0)]) 1 hA [] c0 ?_
 clear hA fr; intro fr hA
 refine wp_block ?_
 refine c_loop (fun mm fr W => ∃ (i : Nat), mm = sv.size - i ∧ Holds 119 [] fr [(0, str sv), (1, str tv), (2, bl z), (6, bl false), (7, .slice p1 l1.length k1), (10, .slice p2 l2.length k2), (13, u8 (lastP sv i)), (14, i64 ((i : Nat) : Int))] ∧ Ow Try.prog none' w W ([] ++ (T1 ++ (T2 ++ (T3 ++ (T4 ++ ([])))))) ∧ i ≤ sv.size ∧ True) ?_ ?_
 · exact ⟨_, 0, rfl, (hA.sub (e' := [(0, str sv), (1, str tv), (2, bl z), (6, bl false), (7, .slice p1 l1.length k1), (10, .slice p2 l2.length k2), (13, u8 32), (14, i64 0)]) [0, 1, 2, 6, 7, 10, 13, 14] (by kernel_rfl)).cast (by kernel_rfl), (hO : Ow Try.prog none' w _ ([] ++ (T1 ++ (T2 ++ (T3 ++ (T4 ++ ([]))))))), (by omega), trivial⟩
 rintro _ fr w4 ⟨i, rfl, hA, hO, hi, -⟩
 refine wp_seq ?_
 refine sC (e' := [(0, str sv), (1, str tv), (2, bl z), (6, bl false), (7, .slice p1 l1.length k1), (10, .slice p2 l2.length k2), (13, u8 (lastP sv i)), (14, i64 ((i : Nat) : Int)), (64, bl (decide (((i : Nat) : Int) < ((sv.size : Nat) : Int))))]) 4 hA [] c0 ?_
 clear hA fr; intro fr hA
 rcases Bool.eq_false_or_eq_true (decide (((i : Nat) : Int) < ((sv.size : Nat) : Int))) with h5 | h5
 · rw [h5] at hA
   have h5p := of_decide_eq_true h5
   refine cT hA ?_
   refine wp_skip ?_
   refine then_normal ?_
   refine wp_seq ?_
   refine wp_block ?_
   refine sR (l := (rg 0 10)) ?_
   refine ck (l := (rg 0 5)) (r := (rg 5 5)) (e' := [(0, str sv), (1, str tv), (2, bl z), (6, bl false), (7, .slice p1 l1.length k1), (10, .slice p2 l2.length k2), (13, u8 (lastP sv i)), (14, i64 ((i : Nat) : Int)), (70, bl ((sb sv i) != 32)), (71, bl ((sb sv i) != 32))]) hA [] (cc (⟨by omega, by omega⟩ : (0 : Int) ≤ ((i : Nat) : Int) ∧ ((i : Nat) : Int) < ((sv.size : Nat) : Int)) c0) ?_
   clear hA fr; intro fr hA
   rcases Bool.eq_false_or_eq_true ((sb sv i) != 32) with h6 | h6
   · rw [h6] at hA
     have h6p := ne_of_bne h6
     refine ck (l := (rg 5 5)) (r := []) (e' := [(0, str sv), (1, str tv), (2, bl z), (6, bl false), (7, .slice p1 l1.length k1), (10, .slice p2 l2.length k2), (13, u8 (lastP sv i)), (14, i64 ((i : Nat) : Int)), (76, bl ((sb sv i) != 9))]) hA [] (cc (⟨by omega, by omega⟩ : (0 : Int) ≤ ((i : Nat) : Int) ∧ ((i : Nat) : Int) < ((sv.size : Nat) : Int)) c0) ?_
     clear hA fr; intro fr hA
     refine end_ops ?_
     refine then_normal ?_
     rcases Bool.eq_false_or_eq_true ((sb sv i) != 9) with h7 | h7
     · rw [h7] at hA
       have h7p := ne_of_bne h7
       refine cT hA ?_
       refine rC (e' := [(0, str sv), (1, str tv), (2, bl z), (6, bl false), (7, .slice p1 l1.length k1), (10, .slice p2 l2.length k2), (13, u8 (sb sv i)), (14, i64 ((i : Nat) : Int))]) 4 hA [] (cc (⟨by omega, by omega⟩ : (0 : Int) ≤ ((i : Nat) : Int) ∧ ((i : Nat) : Int) < ((sv.size : Nat) : Int)) c0) ?_
       clear hA fr; intro fr hA
       refine inBlock_normal ?_
       refine then_normal ?_
       refine rC (e' := [(0, str sv), (1, str tv), (2, bl z), (6, bl false), (7, .slice p1 l1.length k1), (10, .slice p2 l2.length k2), (13, u8 (sb sv i)), (14, i64 (((i : Nat) : Int) + 1))]) 3 hA [bl true] (cc ((inK_i64 (by omega) (by omega)) : inK .i64 (((i : Nat) : Int) + 1)) c0) ?_
       clear hA fr; intro fr hA
       refine then_normal ?_
       exact ⟨_, by omega, i + 1, rfl, (hA.sub (e' := [(0, str sv), (1, str tv), (2, bl z), (6, bl false), (7, .slice p1 l1.length k1), (10, .slice p2 l2.length k2), (13, u8 (sb sv i)), (14, i64 (((i : Nat) : Int) + 1))]) [0, 1, 2, 6, 7, 10, 13, 14] (by kernel_rfl)).cast (by (rw [lastP_new (by omega)]) <;> kernel_rfl), (hO : Ow Try.prog none' w _ ([] ++ (T1 ++ (T2 ++ (T3 ++ (T4 ++ ([]))))))), (by omega), trivial⟩
     rw [h7] at hA
     have h7p := eq_of_bne_false h7
     refine cF hA ?_
     refine wp_skip ?_
     refine inBlock_normal ?_
     refine then_normal ?_
     refine rC (e' := [(0, str sv), (1, str tv), (2, bl z), (6, bl false), (7, .slice p1 l1.length k1), (10, .slice p2 l2.length k2), (13, u8 (lastP sv i)), (14, i64 (((i : Nat) : Int) + 1))]) 3 hA [bl true] (cc ((inK_i64 (by omega) (by omega)) : inK .i64 (((i : Nat) : Int) + 1)) c0) ?_
     clear hA fr; intro fr hA
     refine then_normal ?_
     exact ⟨_, by omega, i + 1, rfl, (hA.sub (e' := [(0, str sv), (1, str tv), (2, bl z), (6, bl false), (7, .slice p1 l1.length k1), (10, .slice p2 l2.length k2), (13, u8 (lastP sv i)), (14, i64 (((i : Nat) : Int) + 1))]) [0, 1, 2, 6, 7, 10, 13, 14] (by kernel_rfl)).cast (by (rw [lastP_keep (by omega)]) <;> kernel_rfl), (hO : Ow Try.prog none' w _ ([] ++ (T1 ++ (T2 ++ (T3 ++ (T4 ++ ([]))))))), (by omega), trivial⟩
   rw [h6] at hA
   have h6p := eq_of_bne_false h6
   refine ck (l := (rg 5 5)) (r := []) (e' := [(0, str sv), (1, str tv), (2, bl z), (6, bl false), (7, .slice p1 l1.length k1), (10, .slice p2 l2.length k2), (13, u8 (lastP sv i)), (14, i64 ((i : Nat) : Int)), (76, bl false)]) hA [] c0 ?_
   clear hA fr; intro fr hA
   refine end_ops ?_
   refine then_normal ?_
   refine cF hA ?_
   refine wp_skip ?_
   refine inBlock_normal ?_
   refine then_normal ?_
   refine rC (e' := [(0, str sv), (1, str tv), (2, bl z), (6, bl false), (7, .slice p1 l1.length k1), (10, .slice p2 l2.length k2), (13, u8 (lastP sv i)), (14, i64 (((i : Nat) : Int) + 1))]) 3 hA [bl true] (cc ((inK_i64 (by omega) (by omega)) : inK .i64 (((i : Nat) : Int) + 1)) c0) ?_
   clear hA fr; intro fr hA
   refine then_normal ?_
   exact ⟨_, by omega, i + 1, rfl, (hA.sub (e' := [(0, str sv), (1, str tv), (2, bl z), (6, bl false), (7, .slice p1 l1.length k1), (10, .slice p2 l2.length k2), (13, u8 (lastP sv i)), (14, i64 (((i : Nat) : Int) + 1))]) [0, 1, 2, 6, 7, 10, 13, 14] (by kernel_rfl)).cast (by (rw [lastP_keep (by omega)]) <;> kernel_rfl), (hO : Ow Try.prog none' w _ ([] ++ (T1 ++ (T2 ++ (T3 ++ (T4 ++ ([]))))))), (by omega), trivial⟩
 rw [h5] at hA
 have h5p := of_decide_eq_false h5
 refine cF hA ?_
 refine wp_exit ?_
 refine then_exit ?_
 refine then_exit ?_
 refine inBlock_exit ?_
 refine then_normal ?_
 refine wp_seq ?_
 refine sR (l := (rg 0 6)) ?_
 refine ck (l := [0, 1, 2]) (r := [3, 4, 5]) (e' := [(0, str sv), (1, str tv), (2, bl z), (6, bl false), (7, .slice p1 l1.length k1), (10, .slice p2 l2.length k2), (13, u8 (lastP sv i)), (81, bl ((lastP sv i) == 59)), (82, bl ((lastP sv i) == 59))]) hA [] c0 ?_
 clear hA fr; intro fr hA
 rcases Bool.eq_false_or_eq_true ((lastP sv i) == 59) with h8 | h8
 · rw [h8] at hA
   have h8p := eq_of_beq h8
   refine ck (l := [3, 4, 5]) (r := []) (e' := [(0, str sv), (1, str tv), (2, bl z), (6, bl false), (7, .slice p1 l1.length k1), (10, .slice p2 l2.length k2), (85, bl true)]) hA [] c0 ?_
   clear hA fr; intro fr hA
   refine end_ops ?_
   refine then_normal ?_
   refine cT hA ?_
   refine sC (e' := [(6, bl true)]) 1 hA [] c0 ?_
   clear hA fr; intro fr hA
   refine wp_ret ?_
   refine then_ret ?_
   refine cR (cs := [none]) (us := [bl true]) hA [] trivial ?_
   have hF := hO.only; clear hA hO
   exact ⟨rfl, hF⟩
 rw [h8] at hA
 have h8p := ne_of_beq_false h8
 refine ck (l := [3, 4, 5]) (r := []) (e' := [(0, str sv), (1, str tv), (2, bl z), (6, bl false), (7, .slice p1 l1.length k1), (10, .slice p2 l2.length k2), (85, bl ((lastP sv i) == 38))]) hA [] c0 ?_
 clear hA fr; intro fr hA
 refine end_ops ?_
 refine then_normal ?_
 rcases Bool.eq_false_or_eq_true ((lastP sv i) == 38) with h9 | h9
 · rw [h9] at hA
   have h9p := eq_of_beq h9
   refine cT hA ?_
   refine sC (e' := [(6, bl true)]) 1 hA [] c0 ?_
   clear hA fr; intro fr hA
   refine wp_ret ?_
   refine then_ret ?_
   refine cR (cs := [none]) (us := [bl true]) hA [] trivial ?_
   have hF := hO.only; clear hA hO
   exact ⟨rfl, hF⟩
 rw [h9] at hA
 have h9p := ne_of_beq_false h9
 refine cF hA ?_
 refine wp_skip ?_
 refine then_normal ?_
 refine sC (e' := [(0, str sv), (1, str tv), (2, bl z), (6, bl false), (7, .slice p1 l1.length k1), (10, .slice p2 l2.length k2), (15, str (⟨#[59]⟩))]) 1 hA [] c0 ?_
 clear hA fr; intro fr hA
 refine wp_seq ?_
 refine sC (e' := [(0, str sv), (1, str tv), (2, bl z), (6, bl false), (7, .slice p1 l1.length k1), (10, .slice p2 l2.length k2), (15, str (⟨#[59]⟩)), (86, bl z)]) 1 hA [] c0 ?_
 clear hA fr; intro fr hA
 rcases Bool.eq_false_or_eq_true (z) with h10 | h10
 · rw [h10] at hA
   refine cT hA ?_
   refine rC (e' := [(0, str sv), (1, str tv), (2, bl true), (6, bl false), (7, .slice p1 l1.length k1), (10, .slice p2 l2.length k2), (15, str (⟨#[38]⟩))]) 1 hA [] c0 ?_
   clear hA fr; intro fr hA
   refine then_normal ?_
   refine sR (l := (rg 0 13)) ?_
   refine ck (l := (rg 0 5)) (r := (rg 5 8)) (e' := [(2, bl true), (6, bl false), (7, .slice p1 l1.length k1), (10, .slice p2 l2.length k2), (92, str ((sv ++ (⟨#[38]⟩ : ByteArray)) ++ tv))]) hA [] (cc (by simp only [ByteArray.size_append, hz1, hz2]; omega : sv.size + (⟨#[38]⟩ : ByteArray).size ≤ 9223372036854775807) (cc (by simp only [ByteArray.size_append, hz1, hz2]; omega : (sv ++ (⟨#[38]⟩ : ByteArray)).size + tv.size ≤ 9223372036854775807) c0)) ?_
   clear hA fr; intro fr hA
   rw [show ((sv ++ (⟨#[38]⟩ : ByteArray)) ++ tv) = s2 from hs2.symm] at hA
   obtain ⟨u, j, hxu, hzz⟩ := joined (.inr ⟨rfl, rfl⟩) hs2 hx hy hj1 hj2 (by assumption) (by omega) (show i = sv.size by omega) (by assumption) (by assumption)
   refine wpOps_cons' (mC (f := 10) (args := [str s2]) (d := (some 93)) hA Try.func10 ((parse_ok (sv := s2) _ (by omega) hzz).mono ?_))
   rintro en w5 ⟨p3, k3, l3, T5, T6, hj3, rfl, hT5, hT6, hW⟩
   refine ⟨_, rfl, ?_⟩
   clear hA fr; intro fr hA
   replace hO := Ow.join hO hW; clear hW
   replace hO : Ow Try.prog none' w _ ([] ++ (T1 ++ (T2 ++ (T3 ++ (T4 ++ (T5 ++ (T6 ++ ([])))))))) := hO.to (by first | rfl | (simp only [TP, apd]))
   have hsml3 : smL 1000000 (l3.map JV.d) := by rw [hj3]; exact valid_small (lineP_valid hzz)
   have hlnl3 : l3.length ≤ 1000000 := by have := hsml3.1; simpa using this
   replace hA := hA.sb (e' := [(2, bl true), (6, bl false), (7, .slice p1 l1.length k1), (10, .slice p2 l2.length k2), (93, .tuple #[.slice p3 l3.length k3, i64 0, i64 0])])
   refine ck (l := (rg 6 7)) (r := []) (e' := [(2, bl true), (6, bl false), (7, .slice p1 l1.length k1), (10, .slice p2 l2.length k2), (16, .slice p3 l3.length k3), (18, i64 0)]) hA [] c0 ?_
   clear hA fr; intro fr hA
   refine end_ops ?_
   refine then_normal ?_
   refine sR (l := [0, 1, 2, 3, 4, 5, 6, 7]) ?_
   refine wpOps_cons' (mN (l := []) (t := 45) (v := fun b => .slice (some ⟨b, 0, none⟩) 0 0) (d := 97) hA hO ?_)
   clear hA hO fr; intro fr w6 b1 hA hO
   replace hA := hA.sb (e' := [(2, bl true), (6, bl false), (7, .slice p1 l1.length k1), (10, .slice p2 l2.length k2), (16, .slice p3 l3.length k3), (18, i64 0), (97, .slice (some ⟨b1, 0, none⟩) 0 0)])
   refine ck (l := [1]) (r := (rg 2 6)) (e' := [(2, bl true), (6, bl false), (7, .slice p1 l1.length k1), (10, .slice p2 l2.length k2), (16, .slice p3 l3.length k3), (18, i64 0), (97, .slice (some ⟨b1, 0, none⟩) 0 0), (98, .slice p1 l1.length k1)]) hA [] c0 ?_
   clear hA fr; intro fr hA
   refine wpOps_cons' (mC (f := 13) (args := [.slice p1 l1.length k1]) (d := (some 99)) hA Try.func13 ((Theirs_any p1 k1 l1 _ (VL_own (A := ([(b1, 45, [])] ++ ([]))) (B := T3 ++ (T4 ++ (T5 ++ (T6 ++ ([]))))) hT1 hT2 (hO.to (by first | rfl | (simp only [TP, apd])))) hsml1).mono ?_))
   rintro en w7 ⟨p4, k4, r1, T7, T8, rfl, hT7, hT8, hsim1, hW⟩
   refine ⟨_, rfl, ?_⟩
   clear hA fr; intro fr hA
   replace hO := Ow.join hO hW; clear hW
   replace hO : Ow Try.prog none' w _ ([(b1, 45, [])] ++ (T1 ++ (T2 ++ (T3 ++ (T4 ++ (T5 ++ (T6 ++ (T7 ++ (T8 ++ ([])))))))))) := hO.to (by first | rfl | (simp only [TP, apd]))
   have hler1 : r1.length = l1.length := by have := congrArg List.length hsim1; simpa using this
   replace hA := hA.sb (e' := [(2, bl true), (6, bl false), (7, .slice p1 l1.length k1), (10, .slice p2 l2.length k2), (16, .slice p3 l3.length k3), (18, i64 0), (97, .slice (some ⟨b1, 0, none⟩) 0 0), (99, .slice p4 r1.length k4)])
   have hT9 : One fJ 45 2 (some ⟨b1, 0, none⟩) 0 ([] : List JV) [(b1, 45, [])] := One.ofBlk (r := []) (by kernel_rfl) (by first | decide | simp) (by decide) (by kernel_rfl)
   replace hO := Ow.move (A := []) (B := []) (C := T1 ++ (T2 ++ (T3 ++ (T4 ++ (T5 ++ (T6 ++ (T7 ++ (T8 ++ ([]))))))))) (x := (b1, 45, [])) hO
   replace hO : Ow Try.prog none' w w7 ([] ++ ([(b1, 45, [])] ++ (T1 ++ (T2 ++ (T3 ++ (T4 ++ (T5 ++ (T6 ++ (T7 ++ (T8 ++ ([]))))))))))) := hO.to (by first | rfl | (simp only [TP, apd]))
   replace hO : Ow Try.prog none' w w7 ([] ++ ([(b1, 45, [])] ++ (T1 ++ (T2 ++ (T3 ++ (T4 ++ (T5 ++ (T6 ++ (T7 ++ (T8 ++ ([]))))))))))) := hO
   refine wpOps_cons' (mA (f := fJ) (el := 45) (sz := 2) (bytes := 32) (p := some ⟨b1, 0, none⟩) (c := 0) (l := ([] : List JV)) (l' := r1) (T := [(b1, 45, [])]) (t := 27) (tx := 27) (ty := 27) (x := .slice p4 r1.length k4) (d := 100) [] (T1 ++ (T2 ++ (T3 ++ (T4 ++ (T5 ++ (T6 ++ (T7 ++ (T8 ++ ([]))))))))) encJ hA hO hT9 (Vw.src (e' := 45) encJ (hT7.vw (A := ([] ++ ([(b1, 45, [])] ++ (T1 ++ (T2 ++ (T3 ++ (T4 ++ (T5 ++ (T6 ++ ([])))))))))) (B := T8 ++ ([])) (hO.to (by first | rfl | (simp only [TP, apd])) : Ow Try.prog none' w _ (([] ++ ([(b1, 45, [])] ++ (T1 ++ (T2 ++ (T3 ++ (T4 ++ (T5 ++ (T6 ++ ([]))))))))) ++ (T7 ++ (T8 ++ ([]))))).m) (by kernel_rfl)) (by first | omega | (simp only [List.length_append, List.length_cons, List.length_nil]; omega)) (by unfold maxLen; first | omega | (simp only [List.length_append, List.length_cons, List.length_nil]; omega)) ?_)
   clear hA hO fr; intro fr w8 p5 c1 T10 hA hO hT10
   rw [show (([] : List JV) ++ r1) = r1 from List.nil_append _] at hA hT10
   replace hA := hA.sb (e' := [(2, bl true), (6, bl false), (7, .slice p1 l1.length k1), (10, .slice p2 l2.length k2), (16, .slice p3 l3.length k3), (18, i64 0), (100, .slice p5 r1.length c1)])
   refine ck (l := [4]) (r := [5, 6, 7]) (e' := [(2, bl true), (6, bl false), (7, .slice p1 l1.length k1), (16, .slice p3 l3.length k3), (18, i64 0), (100, .slice p5 r1.length c1), (101, .slice p2 l2.length k2)]) hA [] c0 ?_
   clear hA fr; intro fr hA
   refine wpOps_cons' (mC (f := 13) (args := [.slice p2 l2.length k2]) (d := (some 102)) hA Try.func13 ((Theirs_any p2 k2 l2 _ (VL_own (A := ([] ++ (T10 ++ (T1 ++ (T2 ++ ([])))))) (B := T5 ++ (T6 ++ (T7 ++ (T8 ++ ([]))))) hT3 hT4 (hO.to (by first | rfl | (simp only [TP, apd])))) hsml2).mono ?_))
   rintro en w9 ⟨p6, k5, r2, T11, T12, rfl, hT11, hT12, hsim2, hW⟩
   refine ⟨_, rfl, ?_⟩
   clear hA fr; intro fr hA
   replace hO := Ow.join hO hW; clear hW
   replace hO : Ow Try.prog none' w _ ([] ++ (T10 ++ (T1 ++ (T2 ++ (T3 ++ (T4 ++ (T5 ++ (T6 ++ (T7 ++ (T8 ++ (T11 ++ (T12 ++ ([]))))))))))))) := hO.to (by first | rfl | (simp only [TP, apd]))
   have hler2 : r2.length = l2.length := by have := congrArg List.length hsim2; simpa using this
   replace hA := hA.sb (e' := [(2, bl true), (6, bl false), (7, .slice p1 l1.length k1), (16, .slice p3 l3.length k3), (18, i64 0), (100, .slice p5 r1.length c1), (102, .slice p6 r2.length k5)])
   replace hO : Ow Try.prog none' w w9 ([] ++ (T10 ++ (T1 ++ (T2 ++ (T3 ++ (T4 ++ (T5 ++ (T6 ++ (T7 ++ (T8 ++ (T11 ++ (T12 ++ ([]))))))))))))) := hO
   refine wpOps_cons' (mA (f := fJ) (el := 45) (sz := 2) (bytes := 32) (p := p5) (c := c1) (l := r1) (l' := r2) (T := T10) (t := 27) (tx := 27) (ty := 27) (x := .slice p6 r2.length k5) (d := 103) [] (T1 ++ (T2 ++ (T3 ++ (T4 ++ (T5 ++ (T6 ++ (T7 ++ (T8 ++ (T11 ++ (T12 ++ ([]))))))))))) encJ hA hO hT10 (Vw.src (e' := 45) encJ (hT11.vw (A := ([] ++ (T10 ++ (T1 ++ (T2 ++ (T3 ++ (T4 ++ (T5 ++ (T6 ++ (T7 ++ (T8 ++ ([])))))))))))) (B := T12 ++ ([])) (hO.to (by first | rfl | (simp only [TP, apd])) : Ow Try.prog none' w _ (([] ++ (T10 ++ (T1 ++ (T2 ++ (T3 ++ (T4 ++ (T5 ++ (T6 ++ (T7 ++ (T8 ++ ([]))))))))))) ++ (T11 ++ (T12 ++ ([]))))).m) (by kernel_rfl)) (by first | omega | (simp only [List.length_append, List.length_cons, List.length_nil]; omega)) (by unfold maxLen; first | omega | (simp only [List.length_append, List.length_cons, List.length_nil]; omega)) ?_)
   clear hA hO fr; intro fr w10 p7 c2 T13 hA hO hT13
   replace hA := hA.sb (e' := [(2, bl true), (6, bl false), (7, .slice p1 l1.length k1), (16, .slice p3 l3.length k3), (18, i64 0), (103, .slice p7 ((r1 ++ r2).length) c2)])
   refine ck (l := [7]) (r := []) (e' := [(2, bl true), (6, bl false), (7, .slice p1 l1.length k1), (16, .slice p3 l3.length k3), (18, i64 0), (19, .slice p7 ((r1 ++ r2).length) c2)]) hA [] c0 ?_
   clear hA fr; intro fr hA
   refine end_ops ?_
   refine then_normal ?_
   obtain ⟨ad1, rfl⟩ := One.addr hT13 (by simp only [List.length_append]; omega)
   have hla_ : (r1 ++ r2).length = r1.length + r2.length := List.length_append
   refine sR (l := (rg 0 8)) ?_
   refine ck (l := (rg 0 7)) (r := [7]) (e' := [(6, bl false), (16, .slice p3 l3.length k3), (18, i64 0), (19, .slice (some ad1) ((r1 ++ r2).length) c2), (108, bl true), (110, .pointer (some ((ad1.add (((((l1.length : Nat) : Int) - 1).toNat) * 2)).add 1)))]) hA [bl true] (cc ((inK_i64 (by omega) (by omega)) : inK .i64 (((l1.length : Nat) : Int) - 1)) (cc (⟨by omega, by omega⟩ : (0 : Int) ≤ ((l1.length : Nat) : Int) - 1 ∧ ((l1.length : Nat) : Int) - 1 < (((r1 ++ r2).length : Nat) : Int)) c0)) ?_
   clear hA fr; intro fr hA
   obtain ⟨xj, hxj⟩ : ∃ xj, (r1 ++ r2)[((((l1.length : Nat) : Int) - 1).toNat)]? = some xj := ⟨_, List.getElem?_eq_getElem (by simp only [List.length_append]; omega)⟩
   refine wpOps_cons' (mSP (A := []) (B := (T1 ++ (T2 ++ (T3 ++ (T4 ++ (T5 ++ (T6 ++ (T7 ++ (T8 ++ (T11 ++ (T12 ++ ([])))))))))))) (ad := ad1) (i := ((((l1.length : Nat) : Int) - 1).toNat)) (b := true) hA hO hT13 hxj ?_)
   clear hO; intro w11 T14 hO hT14
   obtain ⟨lw1, hlw⟩ : ∃ lw, lw = (r1 ++ r2).set ((((l1.length : Nat) : Int) - 1).toNat) ⟨xj.p, xj.c, xj.cmds, true⟩ := ⟨_, rfl⟩
   rw [← hlw] at hT14
   rw [show (r1 ++ r2).length = lw1.length from by rw [hlw, List.length_set]] at hA
   have hcat := cat_eq hlw (((sim_d hsim1).trans hj1).trans hxu) ((sim_d hsim2).trans hj2) hxj (by omega)
   replace hA := hA.sb (e' := [(6, bl false), (16, .slice p3 l3.length k3), (18, i64 0), (19, .slice (some ad1) lw1.length c2)])
   refine end_ops ?_
   refine then_normal ?_
   refine sR (l := (rg 0 9)) ?_
   refine ck (l := [0, 1, 2, 3]) (r := (rg 4 5)) (e' := [(6, bl false), (19, .slice (some ad1) lw1.length c2), (113, bl true), (114, .slice p3 l3.length k3)]) hA [] c0 ?_
   clear hA fr; intro fr hA
   refine wpOps_cons' (mC (f := 13) (args := [.slice p3 l3.length k3]) (d := (some 115)) hA Try.func13 ((Theirs_any p3 k3 l3 _ (VL_own (A := ([] ++ (T14 ++ (T1 ++ (T2 ++ (T3 ++ (T4 ++ ([])))))))) (B := T7 ++ (T8 ++ (T11 ++ (T12 ++ ([]))))) hT5 hT6 (hO.to (by first | rfl | (simp only [TP, apd])))) hsml3).mono ?_))
   rintro en w12 ⟨p8, k6, r3, T15, T16, rfl, hT15, hT16, hsim3, hW⟩
   refine ⟨_, rfl, ?_⟩
   clear hA fr; intro fr hA
   replace hO := Ow.join hO hW; clear hW
   replace hO : Ow Try.prog none' w _ ([] ++ (T14 ++ (T1 ++ (T2 ++ (T3 ++ (T4 ++ (T5 ++ (T6 ++ (T7 ++ (T8 ++ (T11 ++ (T12 ++ (T15 ++ (T16 ++ ([]))))))))))))))) := hO.to (by first | rfl | (simp only [TP, apd]))
   have hler3 : r3.length = l3.length := by have := congrArg List.length hsim3; simpa using this
   replace hA := hA.sb (e' := [(6, bl false), (19, .slice (some ad1) lw1.length c2), (113, bl true), (115, .slice p8 r3.length k6)])
   refine ck (l := [5]) (r := [6, 7, 8]) (e' := [(6, bl false), (113, bl true), (115, .slice p8 r3.length k6), (116, .slice (some ad1) lw1.length c2)]) hA [] c0 ?_
   clear hA fr; intro fr hA
   refine wpOps_cons' (mK (f := 12) (args := [.slice p8 r3.length k6, .slice (some ad1) lw1.length c2]) (d := (some 117)) (v := bl true) hA hO Try.func12 (rs (REqual_any p8 (some ad1) k6 c2 r3 lw1 _ (VL_copy (A := ([] ++ (T14 ++ (T1 ++ (T2 ++ (T3 ++ (T4 ++ (T5 ++ (T6 ++ (T7 ++ (T8 ++ (T11 ++ (T12 ++ ([])))))))))))))) (B := []) hT15 hT16 hsim3 (VL_own (A := ([] ++ (T14 ++ (T1 ++ (T2 ++ (T3 ++ (T4 ++ ([])))))))) (B := T7 ++ (T8 ++ (T11 ++ (T12 ++ (T15 ++ (T16 ++ ([]))))))) hT5 hT6 (hO.to (by first | rfl | (simp only [TP, apd])))) (hO.to (by first | rfl | (simp only [TP, apd])))) (VL_cat (A := []) (B := T1 ++ (T2 ++ (T3 ++ (T4 ++ (T5 ++ (T6 ++ (T7 ++ (T8 ++ (T11 ++ (T12 ++ (T15 ++ (T16 ++ ([]))))))))))))) hT14 hlw hxj (fun x_ hx_ => (List.mem_append.1 hx_).elim ((VL_copy (A := ([] ++ (T14 ++ (T1 ++ (T2 ++ (T3 ++ (T4 ++ (T5 ++ (T6 ++ ([])))))))))) (B := T11 ++ (T12 ++ (T15 ++ (T16 ++ ([]))))) hT7 hT8 hsim1 (VL_own (A := ([] ++ (T14 ++ ([])))) (B := T3 ++ (T4 ++ (T5 ++ (T6 ++ (T7 ++ (T8 ++ (T11 ++ (T12 ++ (T15 ++ (T16 ++ ([]))))))))))) hT1 hT2 (hO.to (by first | rfl | (simp only [TP, apd])))) (hO.to (by first | rfl | (simp only [TP, apd])))).2 x_) ((VL_copy (A := ([] ++ (T14 ++ (T1 ++ (T2 ++ (T3 ++ (T4 ++ (T5 ++ (T6 ++ (T7 ++ (T8 ++ ([])))))))))))) (B := T15 ++ (T16 ++ ([]))) hT11 hT12 hsim2 (VL_own (A := ([] ++ (T14 ++ (T1 ++ (T2 ++ ([])))))) (B := T5 ++ (T6 ++ (T7 ++ (T8 ++ (T11 ++ (T12 ++ (T15 ++ (T16 ++ ([]))))))))) hT3 hT4 (hO.to (by first | rfl | (simp only [TP, apd])))) (hO.to (by first | rfl | (simp only [TP, apd])))).2 x_)) hO) (sim_sm hsim3 hsml3)) (congrArg Value.bool (eqL_of (((sim_d hsim3).trans hj3).trans ((rfl).trans (hcat).symm))))) ?_)
   clear hA hO fr; intro fr w13 hA hO
   replace hA := hA.sb (e' := [(6, bl false), (113, bl true), (117, bl true)])
   refine ck (l := [7, 8]) (r := []) (e' := [(6, bl true)]) hA [] c0 ?_
   clear hA fr; intro fr hA
   refine end_ops ?_
   refine then_normal ?_
   refine wp_ret ?_
   refine cR (cs := [none]) (us := [bl true]) hA [] trivial ?_
   have hF := hO.only; clear hA hO
   exact ⟨rfl, hF⟩
 rw [h10] at hA
 refine cF hA ?_
 refine wp_skip ?_
 refine then_normal ?_
 refine sR (l := (rg 0 13)) ?_
 refine ck (l := (rg 0 5)) (r := (rg 5 8)) (e' := [(2, bl false), (6, bl false), (7, .slice p1 l1.length k1), (10, .slice p2 l2.length k2), (92, str ((sv ++ (⟨#[59]⟩ : ByteArray)) ++ tv))]) hA [] (cc (by simp only [ByteArray.size_append, hz1, hz2]; omega : sv.size + (⟨#[59]⟩ : ByteArray).size ≤ 9223372036854775807) (cc (by simp only [ByteArray.size_append, hz1, hz2]; omega : (sv ++ (⟨#[59]⟩ : ByteArray)).size + tv.size ≤ 9223372036854775807) c0)) ?_
 clear hA fr; intro fr hA
 rw [show ((sv ++ (⟨#[59]⟩ : ByteArray)) ++ tv) = s1 from hs1.symm] at hA
 obtain ⟨u, j, hxu, hzz⟩ := joined (.inl ⟨rfl, rfl⟩) hs1 hx hy hj1 hj2 (by assumption) (by omega) (show i = sv.size by omega) (by assumption) (by assumption)
 refine wpOps_cons' (mC (f := 10) (args := [str s1]) (d := (some 93)) hA Try.func10 ((parse_ok (sv := s1) _ (by omega) hzz).mono ?_))
 rintro en w14 ⟨p9, k7, l4, T17, T18, hj4, rfl, hT17, hT18, hW⟩
 refine ⟨_, rfl, ?_⟩
 clear hA fr; intro fr hA
 replace hO := Ow.join hO hW; clear hW
 replace hO : Ow Try.prog none' w _ ([] ++ (T1 ++ (T2 ++ (T3 ++ (T4 ++ (T17 ++ (T18 ++ ([])))))))) := hO.to (by first | rfl | (simp only [TP, apd]))
 have hsml4 : smL 1000000 (l4.map JV.d) := by rw [hj4]; exact valid_small (lineP_valid hzz)
 have hlnl4 : l4.length ≤ 1000000 := by have := hsml4.1; simpa using this
 replace hA := hA.sb (e' := [(2, bl false), (6, bl false), (7, .slice p1 l1.length k1), (10, .slice p2 l2.length k2), (93, .tuple #[.slice p9 l4.length k7, i64 0, i64 0])])
 refine ck (l := (rg 6 7)) (r := []) (e' := [(2, bl false), (6, bl false), (7, .slice p1 l1.length k1), (10, .slice p2 l2.length k2), (16, .slice p9 l4.length k7), (18, i64 0)]) hA [] c0 ?_
 clear hA fr; intro fr hA
 refine end_ops ?_
 refine then_normal ?_
 refine sR (l := [0, 1, 2, 3, 4, 5, 6, 7]) ?_
 refine wpOps_cons' (mN (l := []) (t := 45) (v := fun b => .slice (some ⟨b, 0, none⟩) 0 0) (d := 97) hA hO ?_)
 clear hA hO fr; intro fr w15 b2 hA hO
 replace hA := hA.sb (e' := [(2, bl false), (6, bl false), (7, .slice p1 l1.length k1), (10, .slice p2 l2.length k2), (16, .slice p9 l4.length k7), (18, i64 0), (97, .slice (some ⟨b2, 0, none⟩) 0 0)])
 refine ck (l := [1]) (r := (rg 2 6)) (e' := [(2, bl false), (6, bl false), (7, .slice p1 l1.length k1), (10, .slice p2 l2.length k2), (16, .slice p9 l4.length k7), (18, i64 0), (97, .slice (some ⟨b2, 0, none⟩) 0 0), (98, .slice p1 l1.length k1)]) hA [] c0 ?_
 clear hA fr; intro fr hA
 refine wpOps_cons' (mC (f := 13) (args := [.slice p1 l1.length k1]) (d := (some 99)) hA Try.func13 ((Theirs_any p1 k1 l1 _ (VL_own (A := ([(b2, 45, [])] ++ ([]))) (B := T3 ++ (T4 ++ (T17 ++ (T18 ++ ([]))))) hT1 hT2 (hO.to (by first | rfl | (simp only [TP, apd])))) hsml1).mono ?_))
 rintro en w16 ⟨p10, k8, r4, T19, T20, rfl, hT19, hT20, hsim4, hW⟩
 refine ⟨_, rfl, ?_⟩
 clear hA fr; intro fr hA
 replace hO := Ow.join hO hW; clear hW
 replace hO : Ow Try.prog none' w _ ([(b2, 45, [])] ++ (T1 ++ (T2 ++ (T3 ++ (T4 ++ (T17 ++ (T18 ++ (T19 ++ (T20 ++ ([])))))))))) := hO.to (by first | rfl | (simp only [TP, apd]))
 have hler4 : r4.length = l1.length := by have := congrArg List.length hsim4; simpa using this
 replace hA := hA.sb (e' := [(2, bl false), (6, bl false), (7, .slice p1 l1.length k1), (10, .slice p2 l2.length k2), (16, .slice p9 l4.length k7), (18, i64 0), (97, .slice (some ⟨b2, 0, none⟩) 0 0), (99, .slice p10 r4.length k8)])
 have hT21 : One fJ 45 2 (some ⟨b2, 0, none⟩) 0 ([] : List JV) [(b2, 45, [])] := One.ofBlk (r := []) (by kernel_rfl) (by first | decide | simp) (by decide) (by kernel_rfl)
 replace hO := Ow.move (A := []) (B := []) (C := T1 ++ (T2 ++ (T3 ++ (T4 ++ (T17 ++ (T18 ++ (T19 ++ (T20 ++ ([]))))))))) (x := (b2, 45, [])) hO
 replace hO : Ow Try.prog none' w w16 ([] ++ ([(b2, 45, [])] ++ (T1 ++ (T2 ++ (T3 ++ (T4 ++ (T17 ++ (T18 ++ (T19 ++ (T20 ++ ([]))))))))))) := hO.to (by first | rfl | (simp only [TP, apd]))
 replace hO : Ow Try.prog none' w w16 ([] ++ ([(b2, 45, [])] ++ (T1 ++ (T2 ++ (T3 ++ (T4 ++ (T17 ++ (T18 ++ (T19 ++ (T20 ++ ([]))))))))))) := hO
 refine wpOps_cons' (mA (f := fJ) (el := 45) (sz := 2) (bytes := 32) (p := some ⟨b2, 0, none⟩) (c := 0) (l := ([] : List JV)) (l' := r4) (T := [(b2, 45, [])]) (t := 27) (tx := 27) (ty := 27) (x := .slice p10 r4.length k8) (d := 100) [] (T1 ++ (T2 ++ (T3 ++ (T4 ++ (T17 ++ (T18 ++ (T19 ++ (T20 ++ ([]))))))))) encJ hA hO hT21 (Vw.src (e' := 45) encJ (hT19.vw (A := ([] ++ ([(b2, 45, [])] ++ (T1 ++ (T2 ++ (T3 ++ (T4 ++ (T17 ++ (T18 ++ ([])))))))))) (B := T20 ++ ([])) (hO.to (by first | rfl | (simp only [TP, apd])) : Ow Try.prog none' w _ (([] ++ ([(b2, 45, [])] ++ (T1 ++ (T2 ++ (T3 ++ (T4 ++ (T17 ++ (T18 ++ ([]))))))))) ++ (T19 ++ (T20 ++ ([]))))).m) (by kernel_rfl)) (by first | omega | (simp only [List.length_append, List.length_cons, List.length_nil]; omega)) (by unfold maxLen; first | omega | (simp only [List.length_append, List.length_cons, List.length_nil]; omega)) ?_)
 clear hA hO fr; intro fr w17 p11 c3 T22 hA hO hT22
 rw [show (([] : List JV) ++ r4) = r4 from List.nil_append _] at hA hT22
 replace hA := hA.sb (e' := [(2, bl false), (6, bl false), (7, .slice p1 l1.length k1), (10, .slice p2 l2.length k2), (16, .slice p9 l4.length k7), (18, i64 0), (100, .slice p11 r4.length c3)])
 refine ck (l := [4]) (r := [5, 6, 7]) (e' := [(2, bl false), (6, bl false), (7, .slice p1 l1.length k1), (16, .slice p9 l4.length k7), (18, i64 0), (100, .slice p11 r4.length c3), (101, .slice p2 l2.length k2)]) hA [] c0 ?_
 clear hA fr; intro fr hA
 refine wpOps_cons' (mC (f := 13) (args := [.slice p2 l2.length k2]) (d := (some 102)) hA Try.func13 ((Theirs_any p2 k2 l2 _ (VL_own (A := ([] ++ (T22 ++ (T1 ++ (T2 ++ ([])))))) (B := T17 ++ (T18 ++ (T19 ++ (T20 ++ ([]))))) hT3 hT4 (hO.to (by first | rfl | (simp only [TP, apd])))) hsml2).mono ?_))
 rintro en w18 ⟨p12, k9, r5, T23, T24, rfl, hT23, hT24, hsim5, hW⟩
 refine ⟨_, rfl, ?_⟩
 clear hA fr; intro fr hA
 replace hO := Ow.join hO hW; clear hW
 replace hO : Ow Try.prog none' w _ ([] ++ (T22 ++ (T1 ++ (T2 ++ (T3 ++ (T4 ++ (T17 ++ (T18 ++ (T19 ++ (T20 ++ (T23 ++ (T24 ++ ([]))))))))))))) := hO.to (by first | rfl | (simp only [TP, apd]))
 have hler5 : r5.length = l2.length := by have := congrArg List.length hsim5; simpa using this
 replace hA := hA.sb (e' := [(2, bl false), (6, bl false), (7, .slice p1 l1.length k1), (16, .slice p9 l4.length k7), (18, i64 0), (100, .slice p11 r4.length c3), (102, .slice p12 r5.length k9)])
 replace hO : Ow Try.prog none' w w18 ([] ++ (T22 ++ (T1 ++ (T2 ++ (T3 ++ (T4 ++ (T17 ++ (T18 ++ (T19 ++ (T20 ++ (T23 ++ (T24 ++ ([]))))))))))))) := hO
 refine wpOps_cons' (mA (f := fJ) (el := 45) (sz := 2) (bytes := 32) (p := p11) (c := c3) (l := r4) (l' := r5) (T := T22) (t := 27) (tx := 27) (ty := 27) (x := .slice p12 r5.length k9) (d := 103) [] (T1 ++ (T2 ++ (T3 ++ (T4 ++ (T17 ++ (T18 ++ (T19 ++ (T20 ++ (T23 ++ (T24 ++ ([]))))))))))) encJ hA hO hT22 (Vw.src (e' := 45) encJ (hT23.vw (A := ([] ++ (T22 ++ (T1 ++ (T2 ++ (T3 ++ (T4 ++ (T17 ++ (T18 ++ (T19 ++ (T20 ++ ([])))))))))))) (B := T24 ++ ([])) (hO.to (by first | rfl | (simp only [TP, apd])) : Ow Try.prog none' w _ (([] ++ (T22 ++ (T1 ++ (T2 ++ (T3 ++ (T4 ++ (T17 ++ (T18 ++ (T19 ++ (T20 ++ ([]))))))))))) ++ (T23 ++ (T24 ++ ([]))))).m) (by kernel_rfl)) (by first | omega | (simp only [List.length_append, List.length_cons, List.length_nil]; omega)) (by unfold maxLen; first | omega | (simp only [List.length_append, List.length_cons, List.length_nil]; omega)) ?_)
 clear hA hO fr; intro fr w19 p13 c4 T25 hA hO hT25
 replace hA := hA.sb (e' := [(2, bl false), (6, bl false), (7, .slice p1 l1.length k1), (16, .slice p9 l4.length k7), (18, i64 0), (103, .slice p13 ((r4 ++ r5).length) c4)])
 refine ck (l := [7]) (r := []) (e' := [(2, bl false), (6, bl false), (7, .slice p1 l1.length k1), (16, .slice p9 l4.length k7), (18, i64 0), (19, .slice p13 ((r4 ++ r5).length) c4)]) hA [] c0 ?_
 clear hA fr; intro fr hA
 refine end_ops ?_
 refine then_normal ?_
 obtain ⟨ad2, rfl⟩ := One.addr hT25 (by simp only [List.length_append]; omega)
 have hla_ : (r4 ++ r5).length = r4.length + r5.length := List.length_append
 refine sR (l := (rg 0 8)) ?_
 refine ck (l := (rg 0 7)) (r := [7]) (e' := [(6, bl false), (16, .slice p9 l4.length k7), (18, i64 0), (19, .slice (some ad2) ((r4 ++ r5).length) c4), (108, bl false), (110, .pointer (some ((ad2.add (((((l1.length : Nat) : Int) - 1).toNat) * 2)).add 1)))]) hA [bl true] (cc ((inK_i64 (by omega) (by omega)) : inK .i64 (((l1.length : Nat) : Int) - 1)) (cc (⟨by omega, by omega⟩ : (0 : Int) ≤ ((l1.length : Nat) : Int) - 1 ∧ ((l1.length : Nat) : Int) - 1 < (((r4 ++ r5).length : Nat) : Int)) c0)) ?_
 clear hA fr; intro fr hA
 obtain ⟨xj, hxj⟩ : ∃ xj, (r4 ++ r5)[((((l1.length : Nat) : Int) - 1).toNat)]? = some xj := ⟨_, List.getElem?_eq_getElem (by simp only [List.length_append]; omega)⟩
 refine wpOps_cons' (mSP (A := []) (B := (T1 ++ (T2 ++ (T3 ++ (T4 ++ (T17 ++ (T18 ++ (T19 ++ (T20 ++ (T23 ++ (T24 ++ ([])))))))))))) (ad := ad2) (i := ((((l1.length : Nat) : Int) - 1).toNat)) (b := false) hA hO hT25 hxj ?_)
 clear hO; intro w20 T26 hO hT26
 obtain ⟨lw2, hlw⟩ : ∃ lw, lw = (r4 ++ r5).set ((((l1.length : Nat) : Int) - 1).toNat) ⟨xj.p, xj.c, xj.cmds, false⟩ := ⟨_, rfl⟩
 rw [← hlw] at hT26
 rw [show (r4 ++ r5).length = lw2.length from by rw [hlw, List.length_set]] at hA
 have hcat := cat_eq hlw (((sim_d hsim4).trans hj1).trans hxu) ((sim_d hsim5).trans hj2) hxj (by omega)
 replace hA := hA.sb (e' := [(6, bl false), (16, .slice p9 l4.length k7), (18, i64 0), (19, .slice (some ad2) lw2.length c4)])
 refine end_ops ?_
 refine then_normal ?_
 refine sR (l := (rg 0 9)) ?_
 refine ck (l := [0, 1, 2, 3]) (r := (rg 4 5)) (e' := [(6, bl false), (19, .slice (some ad2) lw2.length c4), (113, bl true), (114, .slice p9 l4.length k7)]) hA [] c0 ?_
 clear hA fr; intro fr hA
 refine wpOps_cons' (mC (f := 13) (args := [.slice p9 l4.length k7]) (d := (some 115)) hA Try.func13 ((Theirs_any p9 k7 l4 _ (VL_own (A := ([] ++ (T26 ++ (T1 ++ (T2 ++ (T3 ++ (T4 ++ ([])))))))) (B := T19 ++ (T20 ++ (T23 ++ (T24 ++ ([]))))) hT17 hT18 (hO.to (by first | rfl | (simp only [TP, apd])))) hsml4).mono ?_))
 rintro en w21 ⟨p14, k10, r6, T27, T28, rfl, hT27, hT28, hsim6, hW⟩
 refine ⟨_, rfl, ?_⟩
 clear hA fr; intro fr hA
 replace hO := Ow.join hO hW; clear hW
 replace hO : Ow Try.prog none' w _ ([] ++ (T26 ++ (T1 ++ (T2 ++ (T3 ++ (T4 ++ (T17 ++ (T18 ++ (T19 ++ (T20 ++ (T23 ++ (T24 ++ (T27 ++ (T28 ++ ([]))))))))))))))) := hO.to (by first | rfl | (simp only [TP, apd]))
 have hler6 : r6.length = l4.length := by have := congrArg List.length hsim6; simpa using this
 replace hA := hA.sb (e' := [(6, bl false), (19, .slice (some ad2) lw2.length c4), (113, bl true), (115, .slice p14 r6.length k10)])
 refine ck (l := [5]) (r := [6, 7, 8]) (e' := [(6, bl false), (113, bl true), (115, .slice p14 r6.length k10), (116, .slice (some ad2) lw2.length c4)]) hA [] c0 ?_
 clear hA fr; intro fr hA
 refine wpOps_cons' (mK (f := 12) (args := [.slice p14 r6.length k10, .slice (some ad2) lw2.length c4]) (d := (some 117)) (v := bl true) hA hO Try.func12 (rs (REqual_any p14 (some ad2) k10 c4 r6 lw2 _ (VL_copy (A := ([] ++ (T26 ++ (T1 ++ (T2 ++ (T3 ++ (T4 ++ (T17 ++ (T18 ++ (T19 ++ (T20 ++ (T23 ++ (T24 ++ ([])))))))))))))) (B := []) hT27 hT28 hsim6 (VL_own (A := ([] ++ (T26 ++ (T1 ++ (T2 ++ (T3 ++ (T4 ++ ([])))))))) (B := T19 ++ (T20 ++ (T23 ++ (T24 ++ (T27 ++ (T28 ++ ([]))))))) hT17 hT18 (hO.to (by first | rfl | (simp only [TP, apd])))) (hO.to (by first | rfl | (simp only [TP, apd])))) (VL_cat (A := []) (B := T1 ++ (T2 ++ (T3 ++ (T4 ++ (T17 ++ (T18 ++ (T19 ++ (T20 ++ (T23 ++ (T24 ++ (T27 ++ (T28 ++ ([]))))))))))))) hT26 hlw hxj (fun x_ hx_ => (List.mem_append.1 hx_).elim ((VL_copy (A := ([] ++ (T26 ++ (T1 ++ (T2 ++ (T3 ++ (T4 ++ (T17 ++ (T18 ++ ([])))))))))) (B := T23 ++ (T24 ++ (T27 ++ (T28 ++ ([]))))) hT19 hT20 hsim4 (VL_own (A := ([] ++ (T26 ++ ([])))) (B := T3 ++ (T4 ++ (T17 ++ (T18 ++ (T19 ++ (T20 ++ (T23 ++ (T24 ++ (T27 ++ (T28 ++ ([]))))))))))) hT1 hT2 (hO.to (by first | rfl | (simp only [TP, apd])))) (hO.to (by first | rfl | (simp only [TP, apd])))).2 x_) ((VL_copy (A := ([] ++ (T26 ++ (T1 ++ (T2 ++ (T3 ++ (T4 ++ (T17 ++ (T18 ++ (T19 ++ (T20 ++ ([])))))))))))) (B := T27 ++ (T28 ++ ([]))) hT23 hT24 hsim5 (VL_own (A := ([] ++ (T26 ++ (T1 ++ (T2 ++ ([])))))) (B := T17 ++ (T18 ++ (T19 ++ (T20 ++ (T23 ++ (T24 ++ (T27 ++ (T28 ++ ([]))))))))) hT3 hT4 (hO.to (by first | rfl | (simp only [TP, apd])))) (hO.to (by first | rfl | (simp only [TP, apd])))).2 x_)) hO) (sim_sm hsim6 hsml4)) (congrArg Value.bool (eqL_of (((sim_d hsim6).trans hj4).trans ((rfl).trans (hcat).symm))))) ?_)
 clear hA hO fr; intro fr w22 hA hO
 replace hA := hA.sb (e' := [(6, bl false), (113, bl true), (117, bl true)])
 refine ck (l := [7, 8]) (r := []) (e' := [(6, bl true)]) hA [] c0 ?_
 clear hA fr; intro fr hA
 refine end_ops ?_
 refine then_normal ?_
 refine wp_ret ?_
 refine cR (cs := [none]) (us := [bl true]) hA [] trivial ?_
 have hF := hO.only; clear hA hO
 exact ⟨rfl, hF⟩

theorem law_joined (sv tv : ByteArray) (z : Bool) (w : World) : Calls Try.prog 7 #[str sv, str tv, bl z] w fun e w' => e = .returned (.bool true) ∧ Only none' w w' := by
  cases hx : lineP false sv with
  | error q => obtain ⟨a, b⟩ := q; exact law_joined_ea sv tv z w hx
  | ok x =>
    cases hy : lineP false tv with
    | error q => obtain ⟨a, b⟩ := q; exact law_joined_eb sv tv z w hx hy
    | ok y => exact law_joined_ok sv tv z w hx hy

end Go.Proofs.Ytfhcpegemapbkaa
