/- The layer command: the law CommandPrint. -/
import Derived.Test.YtfhcpegemapbkaaLawlib
import Derived.Test.YtfhcpegemapbkaaCmdSeq
set_option linter.unusedVariables false
set_option linter.unusedSimpArgs false
set_option maxRecDepth 10000
namespace Go.Proofs.Ytfhcpegemapbkaa
open Go Go.Shelf Go.RowKit Go.Proofs Go.Proofs.Sx

theorem print_size {l : List JV} (h : validL (l.map JV.d) = true) : (bA (prL (l.map JV.d))).size ≤ 1000000 := by
 have h1 := (validL_facts h).1
 have h2 := prP_len h l.length (Nat.le_refl _)
 rw [bA_size]
 unfold prL
 rw [List.length_map]; omega
theorem lineP_nil : lineP false ⟨#[]⟩ = .ok ([] : List JobL) := by kernel_rfl

theorem law_print_bad (p : Option Addr) (c : Nat) (l : List JV) (w : World) (hvl_ : VL w (.slice p l.length c) l) (hsl : smL 1000000000000000000 (l.map JV.d)) (hvl : validL (l.map JV.d) = false) :
    Calls Try.prog 4 #[.slice p l.length c] w fun e w' => e = .returned (.bool true) ∧ Only none' w w' := by
 refine c_enter (args := [.slice p l.length c]) (m := 59) (n := 60) Try.func4 rfl (by kernel_rfl) (by kernel_rfl) fun fr hA => ?_
 have hO := Ow.nil Try.prog none' w
 have hsz : (⟨#[]⟩ : ByteArray).size = 0 := rfl
 refine sC (e' := [(0, .slice p l.length c), (2, bl false)]) 1 hA [] c0 ?_
 clear hA fr; intro fr hA
 refine wp_seq ?_
 refine sR (l := [0, 1]) ?_
 refine wpOps_cons' (mK (f := 9) (args := []) (d := (some 10)) (v := bl true) hA hO Try.func9 (awake_any _) ?_)
 clear hA hO fr; intro fr w1 hA hO
 replace hA := hA.sb (e' := [(0, .slice p l.length c), (2, bl false), (10, bl true)])
 refine ck (l := [1]) (r := []) (e' := [(0, .slice p l.length c), (2, bl false), (11, bl false)]) hA [] c0 ?_
 clear hA fr; intro fr hA
 refine end_ops ?_
 refine then_normal ?_
 refine cF hA ?_
 refine wp_skip ?_
 refine then_normal ?_
 refine wp_seq ?_
 refine sR (l := [0, 1, 2]) ?_
 refine ck (l := [0]) (r := [1, 2]) (e' := [(0, .slice p l.length c), (2, bl false), (12, .slice p l.length c)]) hA [] c0 ?_
 clear hA fr; intro fr hA
 refine wpOps_cons' (mK (f := 15) (args := [.slice p l.length c]) (d := (some 13)) (v := bl (fewL (l.map JV.d))) hA hO Try.func15 (Few_any p c l _ (hvl_.keep hO.only) hsl) ?_)
 clear hA hO fr; intro fr w2 hA hO
 replace hA := hA.sb (e' := [(0, .slice p l.length c), (2, bl false), (13, bl (fewL (l.map JV.d)))])
 refine ck (l := [2]) (r := []) (e' := [(0, .slice p l.length c), (2, bl false), (14, bl (!(fewL (l.map JV.d))))]) hA [] c0 ?_
 clear hA fr; intro fr hA
 refine end_ops ?_
 refine then_normal ?_
 rcases Bool.eq_false_or_eq_true (fewL (l.map JV.d)) with h1 | h1
 · rw [h1] at hA
   refine cF hA ?_
   refine wp_skip ?_
   refine then_normal ?_
   refine sR (l := (rg 0 8)) ?_
   refine ck (l := [0]) (r := (rg 1 7)) (e' := [(0, .slice p l.length c), (2, bl false), (16, .slice p l.length c)]) hA [] c0 ?_
   clear hA fr; intro fr hA
   refine wpOps_cons' (mC (f := 17) (args := [.slice p l.length c]) (d := (some 17)) hA Try.func17 ((Own_any p c l _ (hvl_.keep hO.only) (fewL_small h1)).mono ?_))
   rintro en w3 ⟨p1, k1, r1, T1, T2, rfl, hT1, hT2, hsim1, hW⟩
   refine ⟨_, rfl, ?_⟩
   clear hA fr; intro fr hA
   replace hO : Ow Try.prog none' w _ ([] ++ []) := hO.to (List.append_nil _).symm
   replace hO := Ow.join hO hW; clear hW
   replace hO : Ow Try.prog none' w _ ([] ++ (T1 ++ (T2 ++ ([])))) := hO.to (by first | rfl | (simp only [TP, apd]))
   replace hA := hA.sb (e' := [(0, .slice p l.length c), (2, bl false), (17, .slice p1 r1.length k1)])
   refine wpOps_cons' (mK (f := 16) (args := [.slice p1 r1.length k1]) (d := (some 18)) (v := .tuple #[str (⟨#[]⟩), i64 1]) hA hO Try.func16 (rs (Print_bad p1 k1 r1 _ (VL_copy (A := ([] ++ ([]))) (B := []) hT1 hT2 hsim1 (hvl_.keep hO.only) (hO.to (by first | rfl | (simp only [TP, apd])))) (sim_sm hsim1 (fewL_small h1)) ((congrArg validL ((sim_d hsim1).trans rfl : r1.map JV.d = (l.map JV.d))).trans hvl)) rfl) ?_)
   clear hA hO fr; intro fr w4 hA hO
   replace hA := hA.sb (e' := [(0, .slice p l.length c), (2, bl false), (18, .tuple #[str (⟨#[]⟩), i64 1])])
   refine ck (l := (rg 3 5)) (r := []) (e' := [(0, .slice p l.length c), (2, bl false), (3, str (⟨#[]⟩)), (4, i64 1)]) hA [] c0 ?_
   clear hA fr; intro fr hA
   refine end_ops ?_
   refine then_normal ?_
   refine sR (l := (rg 0 7)) ?_
   refine ck (l := [0]) (r := (rg 1 6)) (e' := [(0, .slice p l.length c), (2, bl false), (3, str (⟨#[]⟩)), (4, i64 1), (22, .slice p l.length c)]) hA [] c0 ?_
   clear hA fr; intro fr hA
   refine wpOps_cons' (mK (f := 18) (args := [.slice p l.length c]) (d := (some 23)) (v := .tuple #[str (⟨#[]⟩), i64 1]) hA hO Try.func18 (rs (RPrint_bad p c l _ (hvl_.keep hO.only) (fewL_small h1) ((congrArg validL (rfl : l.map JV.d = (l.map JV.d))).trans hvl)) rfl) ?_)
   clear hA hO fr; intro fr w5 hA hO
   replace hA := hA.sb (e' := [(0, .slice p l.length c), (2, bl false), (3, str (⟨#[]⟩)), (4, i64 1), (23, .tuple #[str (⟨#[]⟩), i64 1])])
   refine ck (l := (rg 2 5)) (r := []) (e' := [(0, .slice p l.length c), (2, bl false), (3, str (⟨#[]⟩)), (4, i64 1), (5, str (⟨#[]⟩)), (6, i64 1)]) hA [] c0 ?_
   clear hA fr; intro fr hA
   refine end_ops ?_
   refine then_normal ?_
   refine wp_seq ?_
   refine sR (l := (rg 0 16)) ?_
   refine ck (l := (rg 0 10)) (r := (rg 10 6)) (e' := [(0, .slice p l.length c), (2, bl false), (3, str (⟨#[]⟩)), (4, i64 1), (34, bl false), (35, .slice p l.length c)]) hA [] c0 ?_
   clear hA fr; intro fr hA
   refine wpOps_cons' (mC (f := 17) (args := [.slice p l.length c]) (d := (some 36)) hA Try.func17 ((Own_any p c l _ (hvl_.keep hO.only) (fewL_small h1)).mono ?_))
   rintro en w6 ⟨p2, k2, r2, T3, T4, rfl, hT3, hT4, hsim2, hW⟩
   refine ⟨_, rfl, ?_⟩
   clear hA fr; intro fr hA
   replace hO := Ow.join hO hW; clear hW
   replace hO : Ow Try.prog none' w _ ([] ++ (T1 ++ (T2 ++ (T3 ++ (T4 ++ ([])))))) := hO.to (by first | rfl | (simp only [TP, apd]))
   replace hA := hA.sb (e' := [(0, .slice p l.length c), (2, bl false), (3, str (⟨#[]⟩)), (4, i64 1), (34, bl false), (36, .slice p2 r2.length k2)])
   refine wpOps_cons' (mK (f := 14) (args := [.slice p2 r2.length k2]) (d := (some 37)) (v := bl false) hA hO Try.func14 (rs (Valid_any p2 k2 r2 _ (VL_copy (A := ([] ++ (T1 ++ (T2 ++ ([]))))) (B := []) hT3 hT4 hsim2 (hvl_.keep hO.only) (hO.to (by first | rfl | (simp only [TP, apd])))) (sim_sm hsim2 (fewL_small h1))) (congrArg Value.bool (by rw [show r2.map JV.d = (l.map JV.d) from (sim_d hsim2).trans rfl]; exact hvl))) ?_)
   clear hA hO fr; intro fr w7 hA hO
   replace hA := hA.sb (e' := [(0, .slice p l.length c), (2, bl false), (3, str (⟨#[]⟩)), (4, i64 1), (34, bl false), (37, bl false)])
   refine ck (l := [12]) (r := [13, 14, 15]) (e' := [(0, .slice p l.length c), (2, bl false), (3, str (⟨#[]⟩)), (4, i64 1), (34, bl false), (37, bl false), (38, .slice p l.length c)]) hA [] c0 ?_
   clear hA fr; intro fr hA
   refine wpOps_cons' (mK (f := 19) (args := [.slice p l.length c]) (d := (some 39)) (v := bl false) hA hO Try.func19 (rs (RValid_any p c l _ (hvl_.keep hO.only) (fewL_small h1)) (congrArg Value.bool (by rw [show l.map JV.d = (l.map JV.d) from rfl]; exact hvl))) ?_)
   clear hA hO fr; intro fr w8 hA hO
   replace hA := hA.sb (e' := [(0, .slice p l.length c), (2, bl false), (3, str (⟨#[]⟩)), (4, i64 1), (34, bl false), (37, bl false), (39, bl false)])
   refine ck (l := [14, 15]) (r := []) (e' := [(0, .slice p l.length c), (2, bl false), (3, str (⟨#[]⟩)), (4, i64 1), (41, bl false)]) hA [] c0 ?_
   clear hA fr; intro fr hA
   refine end_ops ?_
   refine then_normal ?_
   refine cF hA ?_
   refine wp_skip ?_
   refine then_normal ?_
   refine sR (l := (rg 0 9)) ?_
   refine ck (l := [0]) (r := (rg 1 8)) (e' := [(0, .slice p l.length c), (2, bl false), (4, i64 1), (43, str (⟨#[]⟩))]) hA [] c0 ?_
   clear hA fr; intro fr hA
   refine wpOps_cons' (mC (f := 10) (args := [str (⟨#[]⟩)]) (d := (some 44)) hA Try.func10 ((parse_ok (sv := (⟨#[]⟩ : ByteArray)) _ (by omega) lineP_nil).mono ?_))
   rintro en w9 ⟨p3, k3, l1, T5, T6, hj1, rfl, hT5, hT6, hW⟩
   refine ⟨_, rfl, ?_⟩
   clear hA fr; intro fr hA
   replace hO := Ow.join hO hW; clear hW
   replace hO : Ow Try.prog none' w _ ([] ++ (T1 ++ (T2 ++ (T3 ++ (T4 ++ (T5 ++ (T6 ++ ([])))))))) := hO.to (by first | rfl | (simp only [TP, apd]))
   have hsml1 : smL 1000000 (l1.map JV.d) := by rw [hj1]; exact valid_small (lineP_valid lineP_nil)
   replace hA := hA.sb (e' := [(0, .slice p l.length c), (2, bl false), (4, i64 1), (44, .tuple #[.slice p3 l1.length k3, i64 0, i64 0])])
   refine ck (l := (rg 2 7)) (r := []) (e' := [(0, .slice p l.length c), (2, bl false), (4, i64 1), (7, .slice p3 l1.length k3), (9, i64 0)]) hA [] c0 ?_
   clear hA fr; intro fr hA
   refine end_ops ?_
   refine then_normal ?_
   refine sC (e' := [(2, bl true)]) 13 hA [] c0 ?_
   clear hA fr; intro fr hA
   refine wp_ret ?_
   refine cR (cs := [none]) (us := [bl true]) hA [] trivial ?_
   have hF := hO.only; clear hA hO
   exact ⟨rfl, hF⟩
 rw [h1] at hA
 refine cT hA ?_
 refine sC (e' := [(2, bl true)]) 1 hA [] c0 ?_
 clear hA fr; intro fr hA
 refine wp_ret ?_
 refine then_ret ?_
 refine cR (cs := [none]) (us := [bl true]) hA [] trivial ?_
 have hF := hO.only; clear hA hO
 exact ⟨rfl, hF⟩

theorem law_print_ok (p : Option Addr) (c : Nat) (l : List JV) (w : World) (hvl_ : VL w (.slice p l.length c) l) (hsl : smL 1000000000000000000 (l.map JV.d)) (hvl : validL (l.map JV.d) = true) :
    Calls Try.prog 4 #[.slice p l.length c] w fun e w' => e = .returned (.bool true) ∧ Only none' w w' := by
 refine c_enter (args := [.slice p l.length c]) (m := 59) (n := 60) Try.func4 rfl (by kernel_rfl) (by kernel_rfl) fun fr hA => ?_
 have hO := Ow.nil Try.prog none' w
 have hsz := print_size hvl
 refine sC (e' := [(0, .slice p l.length c), (2, bl false)]) 1 hA [] c0 ?_
 clear hA fr; intro fr hA
 refine wp_seq ?_
 refine sR (l := [0, 1]) ?_
 refine wpOps_cons' (mK (f := 9) (args := []) (d := (some 10)) (v := bl true) hA hO Try.func9 (awake_any _) ?_)
 clear hA hO fr; intro fr w1 hA hO
 replace hA := hA.sb (e' := [(0, .slice p l.length c), (2, bl false), (10, bl true)])
 refine ck (l := [1]) (r := []) (e' := [(0, .slice p l.length c), (2, bl false), (11, bl false)]) hA [] c0 ?_
 clear hA fr; intro fr hA
 refine end_ops ?_
 refine then_normal ?_
 refine cF hA ?_
 refine wp_skip ?_
 refine then_normal ?_
 refine wp_seq ?_
 refine sR (l := [0, 1, 2]) ?_
 refine ck (l := [0]) (r := [1, 2]) (e' := [(0, .slice p l.length c), (2, bl false), (12, .slice p l.length c)]) hA [] c0 ?_
 clear hA fr; intro fr hA
 refine wpOps_cons' (mK (f := 15) (args := [.slice p l.length c]) (d := (some 13)) (v := bl (fewL (l.map JV.d))) hA hO Try.func15 (Few_any p c l _ (hvl_.keep hO.only) hsl) ?_)
 clear hA hO fr; intro fr w2 hA hO
 replace hA := hA.sb (e' := [(0, .slice p l.length c), (2, bl false), (13, bl (fewL (l.map JV.d)))])
 refine ck (l := [2]) (r := []) (e' := [(0, .slice p l.length c), (2, bl false), (14, bl (!(fewL (l.map JV.d))))]) hA [] c0 ?_
 clear hA fr; intro fr hA
 refine end_ops ?_
 refine then_normal ?_
 rcases Bool.eq_false_or_eq_true (fewL (l.map JV.d)) with h1 | h1
 · rw [h1] at hA
   refine cF hA ?_
   refine wp_skip ?_
   refine then_normal ?_
   refine sR (l := (rg 0 8)) ?_
   refine ck (l := [0]) (r := (rg 1 7)) (e' := [(0, .slice p l.length c), (2, bl false), (16, .slice p l.length c)]) hA [] c0 ?_
   clear hA fr; intro fr hA
   refine wpOps_cons' (mC (f := 17) (args := [.slice p l.length c]) (d := (some 17)) hA Try.func17 ((Own_any p c l _ (hvl_.keep hO.only) (fewL_small h1)).mono ?_))
   rintro en w3 ⟨p1, k1, r1, T1, T2, rfl, hT1, hT2, hsim1, hW⟩
   refine ⟨_, rfl, ?_⟩
   clear hA fr; intro fr hA
   replace hO : Ow Try.prog none' w _ ([] ++ []) := hO.to (List.append_nil _).symm
   replace hO := Ow.join hO hW; clear hW
   replace hO : Ow Try.prog none' w _ ([] ++ (T1 ++ (T2 ++ ([])))) := hO.to (by first | rfl | (simp only [TP, apd]))
   replace hA := hA.sb (e' := [(0, .slice p l.length c), (2, bl false), (17, .slice p1 r1.length k1)])
   refine wpOps_cons' (mK (f := 16) (args := [.slice p1 r1.length k1]) (d := (some 18)) (v := .tuple #[str (bA (prL (l.map JV.d))), i64 0]) hA hO Try.func16 (rs (Print_ok p1 k1 r1 _ (VL_copy (A := ([] ++ ([]))) (B := []) hT1 hT2 hsim1 (hvl_.keep hO.only) (hO.to (by first | rfl | (simp only [TP, apd])))) (sim_sm hsim1 (fewL_small h1)) ((congrArg validL ((sim_d hsim1).trans rfl : r1.map JV.d = (l.map JV.d))).trans hvl)) (congrArg (fun z => Value.tuple #[str (bA (prL z)), i64 0]) ((sim_d hsim1).trans rfl : r1.map JV.d = l.map JV.d))) ?_)
   clear hA hO fr; intro fr w4 hA hO
   replace hA := hA.sb (e' := [(0, .slice p l.length c), (2, bl false), (18, .tuple #[str (bA (prL (l.map JV.d))), i64 0])])
   refine ck (l := (rg 3 5)) (r := []) (e' := [(0, .slice p l.length c), (2, bl false), (3, str (bA (prL (l.map JV.d)))), (4, i64 0)]) hA [] c0 ?_
   clear hA fr; intro fr hA
   refine end_ops ?_
   refine then_normal ?_
   refine sR (l := (rg 0 7)) ?_
   refine ck (l := [0]) (r := (rg 1 6)) (e' := [(0, .slice p l.length c), (2, bl false), (3, str (bA (prL (l.map JV.d)))), (4, i64 0), (22, .slice p l.length c)]) hA [] c0 ?_
   clear hA fr; intro fr hA
   refine wpOps_cons' (mK (f := 18) (args := [.slice p l.length c]) (d := (some 23)) (v := .tuple #[str (bA (prL (l.map JV.d))), i64 0]) hA hO Try.func18 (rs (RPrint_ok p c l _ (hvl_.keep hO.only) (fewL_small h1) ((congrArg validL (rfl : l.map JV.d = (l.map JV.d))).trans hvl)) (congrArg (fun z => Value.tuple #[str (bA (prL z)), i64 0]) (rfl : l.map JV.d = l.map JV.d))) ?_)
   clear hA hO fr; intro fr w5 hA hO
   replace hA := hA.sb (e' := [(0, .slice p l.length c), (2, bl false), (3, str (bA (prL (l.map JV.d)))), (4, i64 0), (23, .tuple #[str (bA (prL (l.map JV.d))), i64 0])])
   refine ck (l := (rg 2 5)) (r := []) (e' := [(0, .slice p l.length c), (2, bl false), (3, str (bA (prL (l.map JV.d)))), (4, i64 0), (5, str (bA (prL (l.map JV.d)))), (6, i64 0)]) hA [] c0 ?_
   clear hA fr; intro fr hA
   refine end_ops ?_
   refine then_normal ?_
   refine wp_seq ?_
   refine sR (l := (rg 0 16)) ?_
   refine ck (l := [0, 1, 2, 3]) (r := (rg 4 12)) (e' := [(0, .slice p l.length c), (2, bl false), (3, str (bA (prL (l.map JV.d)))), (4, i64 0), (6, i64 0), (28, bl (!((bA (prL (l.map JV.d))).toList == (bA (prL (l.map JV.d))).toList))), (29, bl (!((bA (prL (l.map JV.d))).toList == (bA (prL (l.map JV.d))).toList)))]) hA [] c0 ?_
   clear hA fr; intro fr hA
   rw [(beq_self_eq_true _ : ((bA (prL (l.map JV.d))).toList == (bA (prL (l.map JV.d))).toList) = (true))] at hA
   refine ck (l := (rg 4 6)) (r := (rg 10 6)) (e' := [(0, .slice p l.length c), (2, bl false), (3, str (bA (prL (l.map JV.d)))), (4, i64 0), (34, bl false), (35, .slice p l.length c)]) hA [] c0 ?_
   clear hA fr; intro fr hA
   refine wpOps_cons' (mC (f := 17) (args := [.slice p l.length c]) (d := (some 36)) hA Try.func17 ((Own_any p c l _ (hvl_.keep hO.only) (fewL_small h1)).mono ?_))
   rintro en w6 ⟨p2, k2, r2, T3, T4, rfl, hT3, hT4, hsim2, hW⟩
   refine ⟨_, rfl, ?_⟩
   clear hA fr; intro fr hA
   replace hO := Ow.join hO hW; clear hW
   replace hO : Ow Try.prog none' w _ ([] ++ (T1 ++ (T2 ++ (T3 ++ (T4 ++ ([])))))) := hO.to (by first | rfl | (simp only [TP, apd]))
   replace hA := hA.sb (e' := [(0, .slice p l.length c), (2, bl false), (3, str (bA (prL (l.map JV.d)))), (4, i64 0), (34, bl false), (36, .slice p2 r2.length k2)])
   refine wpOps_cons' (mK (f := 14) (args := [.slice p2 r2.length k2]) (d := (some 37)) (v := bl true) hA hO Try.func14 (rs (Valid_any p2 k2 r2 _ (VL_copy (A := ([] ++ (T1 ++ (T2 ++ ([]))))) (B := []) hT3 hT4 hsim2 (hvl_.keep hO.only) (hO.to (by first | rfl | (simp only [TP, apd])))) (sim_sm hsim2 (fewL_small h1))) (congrArg Value.bool (by rw [show r2.map JV.d = (l.map JV.d) from (sim_d hsim2).trans rfl]; exact hvl))) ?_)
   clear hA hO fr; intro fr w7 hA hO
   replace hA := hA.sb (e' := [(0, .slice p l.length c), (2, bl false), (3, str (bA (prL (l.map JV.d)))), (4, i64 0), (34, bl false), (37, bl true)])
   refine ck (l := [12]) (r := [13, 14, 15]) (e' := [(0, .slice p l.length c), (2, bl false), (3, str (bA (prL (l.map JV.d)))), (4, i64 0), (34, bl false), (37, bl true), (38, .slice p l.length c)]) hA [] c0 ?_
   clear hA fr; intro fr hA
   refine wpOps_cons' (mK (f := 19) (args := [.slice p l.length c]) (d := (some 39)) (v := bl true) hA hO Try.func19 (rs (RValid_any p c l _ (hvl_.keep hO.only) (fewL_small h1)) (congrArg Value.bool (by rw [show l.map JV.d = (l.map JV.d) from rfl]; exact hvl))) ?_)
   clear hA hO fr; intro fr w8 hA hO
   replace hA := hA.sb (e' := [(0, .slice p l.length c), (2, bl false), (3, str (bA (prL (l.map JV.d)))), (4, i64 0), (34, bl false), (37, bl true), (39, bl true)])
   refine ck (l := [14, 15]) (r := []) (e' := [(0, .slice p l.length c), (2, bl false), (3, str (bA (prL (l.map JV.d)))), (4, i64 0), (41, bl false)]) hA [] c0 ?_
   clear hA fr; intro fr hA
   refine end_ops ?_
   refine then_normal ?_
   refine cF hA ?_
   refine wp_skip ?_
   refine then_normal ?_
   refine sR (l := (rg 0 9)) ?_
   refine ck (l := [0]) (r := (rg 1 8)) (e' := [(0, .slice p l.length c), (2, bl false), (4, i64 0), (43, str (bA (prL (l.map JV.d))))]) hA [] c0 ?_
   clear hA fr; intro fr hA
   refine wpOps_cons' (mC (f := 10) (args := [str (bA (prL (l.map JV.d)))]) (d := (some 44)) hA Try.func10 ((parse_ok (sv := (bA (prL (l.map JV.d)))) _ (by omega) (lineP_print hvl)).mono ?_))
   rintro en w9 ⟨p3, k3, l1, T5, T6, hj1, rfl, hT5, hT6, hW⟩
   refine ⟨_, rfl, ?_⟩
   clear hA fr; intro fr hA
   replace hO := Ow.join hO hW; clear hW
   replace hO : Ow Try.prog none' w _ ([] ++ (T1 ++ (T2 ++ (T3 ++ (T4 ++ (T5 ++ (T6 ++ ([])))))))) := hO.to (by first | rfl | (simp only [TP, apd]))
   have hsml1 : smL 1000000 (l1.map JV.d) := by rw [hj1]; exact valid_small (lineP_valid (lineP_print hvl))
   replace hA := hA.sb (e' := [(0, .slice p l.length c), (2, bl false), (4, i64 0), (44, .tuple #[.slice p3 l1.length k3, i64 0, i64 0])])
   refine ck (l := (rg 2 7)) (r := []) (e' := [(0, .slice p l.length c), (2, bl false), (4, i64 0), (7, .slice p3 l1.length k3), (9, i64 0)]) hA [] c0 ?_
   clear hA fr; intro fr hA
   refine end_ops ?_
   refine then_normal ?_
   refine sR (l := (rg 0 13)) ?_
   refine ck (l := (rg 0 7)) (r := (rg 7 6)) (e' := [(0, .slice p l.length c), (2, bl false), (50, bl false), (53, bl true), (54, .slice p3 l1.length k3)]) hA [] c0 ?_
   clear hA fr; intro fr hA
   refine wpOps_cons' (mC (f := 13) (args := [.slice p3 l1.length k3]) (d := (some 55)) hA Try.func13 ((Theirs_any p3 k3 l1 _ (VL_own (A := ([] ++ (T1 ++ (T2 ++ (T3 ++ (T4 ++ ([]))))))) (B := []) hT5 hT6 (hO.to (by first | rfl | (simp only [TP, apd])))) hsml1).mono ?_))
   rintro en w10 ⟨p4, k4, r3, T7, T8, rfl, hT7, hT8, hsim3, hW⟩
   refine ⟨_, rfl, ?_⟩
   clear hA fr; intro fr hA
   replace hO := Ow.join hO hW; clear hW
   replace hO : Ow Try.prog none' w _ ([] ++ (T1 ++ (T2 ++ (T3 ++ (T4 ++ (T5 ++ (T6 ++ (T7 ++ (T8 ++ ([])))))))))) := hO.to (by first | rfl | (simp only [TP, apd]))
   replace hA := hA.sb (e' := [(0, .slice p l.length c), (2, bl false), (50, bl false), (53, bl true), (55, .slice p4 r3.length k4)])
   refine ck (l := [8]) (r := [9, 10, 11, 12]) (e' := [(2, bl false), (50, bl false), (53, bl true), (55, .slice p4 r3.length k4), (56, .slice p l.length c)]) hA [] c0 ?_
   clear hA fr; intro fr hA
   refine wpOps_cons' (mK (f := 12) (args := [.slice p4 r3.length k4, .slice p l.length c]) (d := (some 57)) (v := bl true) hA hO Try.func12 (rs (REqual_any p4 p k4 c r3 l _ (VL_copy (A := ([] ++ (T1 ++ (T2 ++ (T3 ++ (T4 ++ (T5 ++ (T6 ++ ([]))))))))) (B := []) hT7 hT8 hsim3 (VL_own (A := ([] ++ (T1 ++ (T2 ++ (T3 ++ (T4 ++ ([]))))))) (B := T7 ++ (T8 ++ ([]))) hT5 hT6 (hO.to (by first | rfl | (simp only [TP, apd])))) (hO.to (by first | rfl | (simp only [TP, apd])))) (hvl_.keep hO.only) (sim_sm hsim3 hsml1)) (congrArg Value.bool (eqL_of (((sim_d hsim3).trans hj1).trans ((rfl).trans (rfl).symm))))) ?_)
   clear hA hO fr; intro fr w11 hA hO
   replace hA := hA.sb (e' := [(2, bl false), (50, bl false), (53, bl true), (57, bl true)])
   refine ck (l := [10, 11, 12]) (r := []) (e' := [(2, bl true)]) hA [] c0 ?_
   clear hA fr; intro fr hA
   refine end_ops ?_
   refine then_normal ?_
   refine wp_ret ?_
   refine cR (cs := [none]) (us := [bl true]) hA [] trivial ?_
   have hF := hO.only; clear hA hO
   exact ⟨rfl, hF⟩
 rw [h1] at hA
 refine cT hA ?_
 refine sC (e' := [(2, bl true)]) 1 hA [] c0 ?_
 clear hA fr; intro fr hA
 refine wp_ret ?_
 refine then_ret ?_
 refine cR (cs := [none]) (us := [bl true]) hA [] trivial ?_
 have hF := hO.only; clear hA hO
 exact ⟨rfl, hF⟩

theorem law_print (p : Option Addr) (c : Nat) (l : List JV) (w : World) (hvl_ : VL w (.slice p l.length c) l) (hsl : smL 1000000000000000000 (l.map JV.d)) : Calls Try.prog 4 #[.slice p l.length c] w fun e w' => e = .returned (.bool true) ∧ Only none' w w' := by
 cases hl : validL (l.map JV.d) with
 | false => exact law_print_bad p c l w hvl_ hsl hl
 | true => exact law_print_ok p c l w hvl_ hsl hl

end Go.Proofs.Ytfhcpegemapbkaa
