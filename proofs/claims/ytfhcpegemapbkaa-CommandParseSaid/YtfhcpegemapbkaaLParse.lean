/- The layer command: the law CommandParse. -/
import Derived.Test.YtfhcpegemapbkaaLawlib
set_option linter.unusedVariables false
set_option linter.unusedSimpArgs false
set_option maxRecDepth 10000
namespace Go.Proofs.Ytfhcpegemapbkaa
open Go Go.Shelf Go.RowKit Go.Proofs Go.Proofs.Sx

theorem law_parse_err (sv : ByteArray) (w : World) {a : Nat} {b : Int} (hl : lineP false sv = .error (a, b)) :
    Calls Try.prog 3 #[str sv] w fun e w' => e = .returned (.bool true) ∧ Only none' w w' := by
 refine c_enter (args := [str sv]) (m := 47) (n := 48) Try.func3 rfl (by kernel_rfl) (by kernel_rfl) fun fr hA => ?_
 have hO := Ow.nil Try.prog none' w
 refine sC (e' := [(0, str sv), (2, bl false)]) 1 hA [] c0 ?_
 clear hA fr; intro fr hA
 refine wp_seq ?_
 refine sR (l := [0, 1]) ?_
 refine wpOps_cons' (mK (f := 9) (args := []) (d := (some 9)) (v := bl true) hA hO Try.func9 (awake_any _) ?_)
 clear hA hO fr; intro fr w1 hA hO
 replace hA := hA.sb (e' := [(0, str sv), (2, bl false), (9, bl true)])
 refine ck (l := [1]) (r := []) (e' := [(0, str sv), (2, bl false), (10, bl false)]) hA [] c0 ?_
 clear hA fr; intro fr hA
 refine end_ops ?_
 refine then_normal ?_
 refine cF hA ?_
 refine wp_skip ?_
 refine then_normal ?_
 refine wp_seq ?_
 refine sC (e' := [(0, str sv), (2, bl false), (13, bl (decide (((sv.size : Nat) : Int) > 1000)))]) 3 hA [] c0 ?_
 clear hA fr; intro fr hA
 rcases Bool.eq_false_or_eq_true (decide (((sv.size : Nat) : Int) > 1000)) with h1 | h1
 · rw [h1] at hA
   have h1p := of_decide_eq_true h1
   refine cT hA ?_
   refine sC (e' := [(2, bl true)]) 1 hA [] c0 ?_
   clear hA fr; intro fr hA
   refine wp_ret ?_
   refine then_ret ?_
   refine cR (cs := [none]) (us := [bl true]) hA [] trivial ?_
   have hF := hO.only; clear hA hO
   exact ⟨rfl, hF⟩
 rw [h1] at hA
 have h1p := of_decide_eq_false h1
 refine cF hA ?_
 refine wp_skip ?_
 refine then_normal ?_
 refine sR (l := (rg 0 9)) ?_
 refine ck (l := [0]) (r := (rg 1 8)) (e' := [(0, str sv), (2, bl false), (15, str sv)]) hA [] c0 ?_
 clear hA fr; intro fr hA
 refine wpOps_cons' (mK (f := 10) (args := [str sv]) (d := (some 16)) (v := .tuple #[.slice none 0 0, i64 ((a : Nat) : Int), i64 b]) hA hO Try.func10 (parse_err (sv := sv) _ (by omega) hl) ?_)
 clear hA hO fr; intro fr w2 hA hO
 replace hA := hA.sb (e' := [(0, str sv), (2, bl false), (16, .tuple #[.slice none 0 0, i64 ((a : Nat) : Int), i64 b])])
 refine ck (l := (rg 2 7)) (r := []) (e' := [(0, str sv), (2, bl false), (3, .slice none 0 0), (4, i64 ((a : Nat) : Int)), (5, i64 b)]) hA [] c0 ?_
 clear hA fr; intro fr hA
 refine end_ops ?_
 refine then_normal ?_
 refine sR (l := (rg 0 9)) ?_
 refine ck (l := [0]) (r := (rg 1 8)) (e' := [(2, bl false), (3, .slice none 0 0), (4, i64 ((a : Nat) : Int)), (5, i64 b), (21, str sv)]) hA [] c0 ?_
 clear hA fr; intro fr hA
 refine wpOps_cons' (mK (f := 11) (args := [str sv]) (d := (some 22)) (v := .tuple #[.slice none 0 0, i64 ((a : Nat) : Int), i64 b]) hA hO Try.func11 (rparse_err (sv := sv) _ (by omega) hl) ?_)
 clear hA hO fr; intro fr w3 hA hO
 replace hA := hA.sb (e' := [(2, bl false), (3, .slice none 0 0), (4, i64 ((a : Nat) : Int)), (5, i64 b), (22, .tuple #[.slice none 0 0, i64 ((a : Nat) : Int), i64 b])])
 refine ck (l := (rg 2 7)) (r := []) (e' := [(2, bl false), (3, .slice none 0 0), (4, i64 ((a : Nat) : Int)), (5, i64 b), (6, .slice none 0 0), (7, i64 ((a : Nat) : Int)), (8, i64 b)]) hA [] c0 ?_
 clear hA fr; intro fr hA
 refine end_ops ?_
 refine then_normal ?_
 refine sR (l := (rg 0 23)) ?_
 refine ck (l := [0, 1, 2, 3]) (r := (rg 4 19)) (e' := [(2, bl false), (3, .slice none 0 0), (4, i64 ((a : Nat) : Int)), (5, i64 b), (6, .slice none 0 0), (7, i64 ((a : Nat) : Int)), (28, bl (b == b)), (29, bl (b == b))]) hA [] c0 ?_
 clear hA fr; intro fr hA
 rw [(beq_self_eq_true _ : (b == b) = (true))] at hA
 refine ck (l := (rg 4 5)) (r := (rg 9 14)) (e' := [(2, bl false), (3, .slice none 0 0), (5, i64 b), (6, .slice none 0 0), (32, bl (((a : Nat) : Int) == ((a : Nat) : Int))), (33, bl (((a : Nat) : Int) == ((a : Nat) : Int))), (34, bl (((a : Nat) : Int) == ((a : Nat) : Int)))]) hA [] c0 ?_
 clear hA fr; intro fr hA
 rw [(beq_self_eq_true _ : (((a : Nat) : Int) == ((a : Nat) : Int)) = (true))] at hA
 refine ck (l := [9]) (r := (rg 10 13)) (e' := [(2, bl false), (3, .slice none 0 0), (5, i64 b), (6, .slice none 0 0), (34, bl true), (35, .slice none 0 0)]) hA [] c0 ?_
 clear hA fr; intro fr hA
 refine wpOps_cons' (mC (f := 13) (args := [.slice none 0 0]) (d := (some 36)) hA Try.func13 ((Theirs_any none 0 ([] : List JV) _ (VL_nil _) sm_nil).mono ?_))
 rintro en w4 ⟨p1, k1, r1, T1, T2, rfl, hT1, hT2, hsim1, hW⟩
 refine ⟨_, rfl, ?_⟩
 clear hA fr; intro fr hA
 replace hO : Ow Try.prog none' w _ ([] ++ []) := hO.to (List.append_nil _).symm
 replace hO := Ow.join hO hW; clear hW
 replace hO : Ow Try.prog none' w _ ([] ++ (T1 ++ (T2 ++ ([])))) := hO.to (by first | rfl | (simp only [TP, apd]))
 replace hA := hA.sb (e' := [(2, bl false), (3, .slice none 0 0), (5, i64 b), (6, .slice none 0 0), (34, bl true), (36, .slice p1 r1.length k1)])
 refine ck (l := [11]) (r := (rg 12 11)) (e' := [(2, bl false), (3, .slice none 0 0), (5, i64 b), (34, bl true), (36, .slice p1 r1.length k1), (37, .slice none 0 0)]) hA [] c0 ?_
 clear hA fr; intro fr hA
 refine wpOps_cons' (mK (f := 12) (args := [.slice p1 r1.length k1, .slice none 0 0]) (d := (some 38)) (v := bl true) hA hO Try.func12 (rs (REqual_any p1 none k1 0 r1 ([] : List JV) _ (VL_copy (A := ([] ++ ([]))) (B := []) hT1 hT2 hsim1 (VL_nil _) (hO.to (by first | rfl | (simp only [TP, apd])) : Ow Try.prog none' w _ (([] ++ ([])) ++ (T1 ++ (T2 ++ ([])))))) (VL_nil _) (sim_sm hsim1 sm_nil)) (congrArg Value.bool (eqL_of (((sim_d hsim1).trans rfl).trans ((rfl).trans (rfl).symm))))) ?_)
 clear hA hO fr; intro fr w5 hA hO
 replace hA := hA.sb (e' := [(2, bl false), (3, .slice none 0 0), (5, i64 b), (34, bl true), (38, bl true)])
 refine ck (l := (rg 13 5)) (r := (rg 18 5)) (e' := [(2, bl false), (3, .slice none 0 0), (40, bl true), (42, bl (b != 0)), (43, bl (b != 0))]) hA [] c0 ?_
 clear hA fr; intro fr hA
 rcases Bool.eq_false_or_eq_true (b != 0) with h2 | h2
 · rw [h2] at hA
   have h2p := ne_of_bne h2
   refine ck (l := (rg 18 5)) (r := []) (e' := [(2, bl true)]) hA [] c0 ?_
   clear hA fr; intro fr hA
   refine end_ops ?_
   refine then_normal ?_
   refine wp_ret ?_
   refine cR (cs := [none]) (us := [bl true]) hA [] trivial ?_
   have hF := hO.only; clear hA hO
   exact ⟨rfl, hF⟩
 rw [h2] at hA
 have h2p := eq_of_bne_false h2
 refine ck (l := [18]) (r := [19, 20, 21, 22]) (e' := [(2, bl false), (40, bl true), (43, bl false), (44, .slice none 0 0)]) hA [] c0 ?_
 clear hA fr; intro fr hA
 refine wpOps_cons' (mK (f := 14) (args := [.slice none 0 0]) (d := (some 45)) (v := bl true) hA hO Try.func14 (rs (Valid_any none 0 ([] : List JV) _ (VL_nil _) sm_nil) (congrArg Value.bool (by rw [show ([] : List JV).map JV.d = [] from rfl]; exact rfl))) ?_)
 clear hA hO fr; intro fr w6 hA hO
 replace hA := hA.sb (e' := [(2, bl false), (40, bl true), (43, bl false), (45, bl true)])
 refine ck (l := [20, 21, 22]) (r := []) (e' := [(2, bl true)]) hA [] c0 ?_
 clear hA fr; intro fr hA
 refine end_ops ?_
 refine then_normal ?_
 refine wp_ret ?_
 refine cR (cs := [none]) (us := [bl true]) hA [] trivial ?_
 have hF := hO.only; clear hA hO
 exact ⟨rfl, hF⟩

theorem law_parse_ok (sv : ByteArray) (w : World) {js : List JobL} (hl : lineP false sv = .ok js) :
    Calls Try.prog 3 #[str sv] w fun e w' => e = .returned (.bool true) ∧ Only none' w w' := by
 refine c_enter (args := [str sv]) (m := 47) (n := 48) Try.func3 rfl (by kernel_rfl) (by kernel_rfl) fun fr hA => ?_
 have hO := Ow.nil Try.prog none' w
 refine sC (e' := [(0, str sv), (2, bl false)]) 1 hA [] c0 ?_
 clear hA fr; intro fr hA
 refine wp_seq ?_
 refine sR (l := [0, 1]) ?_
 refine wpOps_cons' (mK (f := 9) (args := []) (d := (some 9)) (v := bl true) hA hO Try.func9 (awake_any _) ?_)
 clear hA hO fr; intro fr w1 hA hO
 replace hA := hA.sb (e' := [(0, str sv), (2, bl false), (9, bl true)])
 refine ck (l := [1]) (r := []) (e' := [(0, str sv), (2, bl false), (10, bl false)]) hA [] c0 ?_
 clear hA fr; intro fr hA
 refine end_ops ?_
 refine then_normal ?_
 refine cF hA ?_
 refine wp_skip ?_
 refine then_normal ?_
 refine wp_seq ?_
 refine sC (e' := [(0, str sv), (2, bl false), (13, bl (decide (((sv.size : Nat) : Int) > 1000)))]) 3 hA [] c0 ?_
 clear hA fr; intro fr hA
 rcases Bool.eq_false_or_eq_true (decide (((sv.size : Nat) : Int) > 1000)) with h1 | h1
 · rw [h1] at hA
   have h1p := of_decide_eq_true h1
   refine cT hA ?_
   refine sC (e' := [(2, bl true)]) 1 hA [] c0 ?_
   clear hA fr; intro fr hA
   refine wp_ret ?_
   refine then_ret ?_
   refine cR (cs := [none]) (us := [bl true]) hA [] trivial ?_
   have hF := hO.only; clear hA hO
   exact ⟨rfl, hF⟩
 rw [h1] at hA
 have h1p := of_decide_eq_false h1
 refine cF hA ?_
 refine wp_skip ?_
 refine then_normal ?_
 refine sR (l := (rg 0 9)) ?_
 refine ck (l := [0]) (r := (rg 1 8)) (e' := [(0, str sv), (2, bl false), (15, str sv)]) hA [] c0 ?_
 clear hA fr; intro fr hA
 refine wpOps_cons' (mC (f := 10) (args := [str sv]) (d := (some 16)) hA Try.func10 ((parse_ok (sv := sv) _ (by omega) hl).mono ?_))
 rintro en w2 ⟨p1, k1, l1, T1, T2, hj1, rfl, hT1, hT2, hW⟩
 refine ⟨_, rfl, ?_⟩
 clear hA fr; intro fr hA
 replace hO : Ow Try.prog none' w _ ([] ++ []) := hO.to (List.append_nil _).symm
 replace hO := Ow.join hO hW; clear hW
 replace hO : Ow Try.prog none' w _ ([] ++ (T1 ++ (T2 ++ ([])))) := hO.to (by first | rfl | (simp only [TP, apd]))
 have hsml1 : smL 1000000 (l1.map JV.d) := by rw [hj1]; exact valid_small (lineP_valid hl)
 replace hA := hA.sb (e' := [(0, str sv), (2, bl false), (16, .tuple #[.slice p1 l1.length k1, i64 0, i64 0])])
 refine ck (l := (rg 2 7)) (r := []) (e' := [(0, str sv), (2, bl false), (3, .slice p1 l1.length k1), (4, i64 0), (5, i64 0)]) hA [] c0 ?_
 clear hA fr; intro fr hA
 refine end_ops ?_
 refine then_normal ?_
 refine sR (l := (rg 0 9)) ?_
 refine ck (l := [0]) (r := (rg 1 8)) (e' := [(2, bl false), (3, .slice p1 l1.length k1), (4, i64 0), (5, i64 0), (21, str sv)]) hA [] c0 ?_
 clear hA fr; intro fr hA
 refine wpOps_cons' (mC (f := 11) (args := [str sv]) (d := (some 22)) hA Try.func11 ((rparse_ok (sv := sv) _ (by omega) hl).mono ?_))
 rintro en w3 ⟨p2, k2, l2, T3, T4, hj2, rfl, hT3, hT4, hW⟩
 refine ⟨_, rfl, ?_⟩
 clear hA fr; intro fr hA
 replace hO := Ow.join hO hW; clear hW
 replace hO : Ow Try.prog none' w _ ([] ++ (T1 ++ (T2 ++ (T3 ++ (T4 ++ ([])))))) := hO.to (by first | rfl | (simp only [TP, apd]))
 have hsml2 : smL 1000000 (l2.map JV.d) := by rw [hj2]; exact valid_small (lineP_valid hl)
 replace hA := hA.sb (e' := [(2, bl false), (3, .slice p1 l1.length k1), (4, i64 0), (5, i64 0), (22, .tuple #[.slice p2 l2.length k2, i64 0, i64 0])])
 refine ck (l := (rg 2 7)) (r := []) (e' := [(2, bl false), (3, .slice p1 l1.length k1), (4, i64 0), (5, i64 0), (6, .slice p2 l2.length k2), (7, i64 0), (8, i64 0)]) hA [] c0 ?_
 clear hA fr; intro fr hA
 refine end_ops ?_
 refine then_normal ?_
 refine sR (l := (rg 0 23)) ?_
 refine ck (l := (rg 0 10)) (r := (rg 10 13)) (e' := [(2, bl false), (3, .slice p1 l1.length k1), (5, i64 0), (6, .slice p2 l2.length k2), (34, bl true), (35, .slice p1 l1.length k1)]) hA [] c0 ?_
 clear hA fr; intro fr hA
 refine wpOps_cons' (mC (f := 13) (args := [.slice p1 l1.length k1]) (d := (some 36)) hA Try.func13 ((Theirs_any p1 k1 l1 _ (VL_own (A := ([] ++ ([]))) (B := T3 ++ (T4 ++ ([]))) hT1 hT2 (hO.to (by first | rfl | (simp only [TP, apd])) : Ow Try.prog none' w _ (([] ++ ([])) ++ (T1 ++ (T2 ++ (T3 ++ (T4 ++ ([])))))))) hsml1).mono ?_))
 rintro en w4 ⟨p3, k3, r1, T5, T6, rfl, hT5, hT6, hsim1, hW⟩
 refine ⟨_, rfl, ?_⟩
 clear hA fr; intro fr hA
 replace hO := Ow.join hO hW; clear hW
 replace hO : Ow Try.prog none' w _ ([] ++ (T1 ++ (T2 ++ (T3 ++ (T4 ++ (T5 ++ (T6 ++ ([])))))))) := hO.to (by first | rfl | (simp only [TP, apd]))
 replace hA := hA.sb (e' := [(2, bl false), (3, .slice p1 l1.length k1), (5, i64 0), (6, .slice p2 l2.length k2), (34, bl true), (36, .slice p3 r1.length k3)])
 refine ck (l := [11]) (r := (rg 12 11)) (e' := [(2, bl false), (3, .slice p1 l1.length k1), (5, i64 0), (34, bl true), (36, .slice p3 r1.length k3), (37, .slice p2 l2.length k2)]) hA [] c0 ?_
 clear hA fr; intro fr hA
 refine wpOps_cons' (mK (f := 12) (args := [.slice p3 r1.length k3, .slice p2 l2.length k2]) (d := (some 38)) (v := bl true) hA hO Try.func12 (rs (REqual_any p3 p2 k3 k2 r1 l2 _ (VL_copy (A := ([] ++ (T1 ++ (T2 ++ (T3 ++ (T4 ++ ([]))))))) (B := []) hT5 hT6 hsim1 (VL_own (A := ([] ++ ([]))) (B := T3 ++ (T4 ++ (T5 ++ (T6 ++ ([]))))) hT1 hT2 (hO.to (by first | rfl | (simp only [TP, apd])) : Ow Try.prog none' w _ (([] ++ ([])) ++ (T1 ++ (T2 ++ (T3 ++ (T4 ++ (T5 ++ (T6 ++ ([])))))))))) (hO.to (by first | rfl | (simp only [TP, apd])) : Ow Try.prog none' w _ (([] ++ (T1 ++ (T2 ++ (T3 ++ (T4 ++ ([])))))) ++ (T5 ++ (T6 ++ ([])))))) (VL_own (A := ([] ++ (T1 ++ (T2 ++ ([]))))) (B := T5 ++ (T6 ++ ([]))) hT3 hT4 (hO.to (by first | rfl | (simp only [TP, apd])) : Ow Try.prog none' w _ (([] ++ (T1 ++ (T2 ++ ([])))) ++ (T3 ++ (T4 ++ (T5 ++ (T6 ++ ([])))))))) (sim_sm hsim1 hsml1)) (congrArg Value.bool (eqL_of (((sim_d hsim1).trans hj1).trans ((rfl).trans (hj2).symm))))) ?_)
 clear hA hO fr; intro fr w5 hA hO
 replace hA := hA.sb (e' := [(2, bl false), (3, .slice p1 l1.length k1), (5, i64 0), (34, bl true), (38, bl true)])
 refine ck (l := (rg 13 6)) (r := [19, 20, 21, 22]) (e' := [(2, bl false), (40, bl true), (43, bl false), (44, .slice p1 l1.length k1)]) hA [] c0 ?_
 clear hA fr; intro fr hA
 refine wpOps_cons' (mK (f := 14) (args := [.slice p1 l1.length k1]) (d := (some 45)) (v := bl true) hA hO Try.func14 (rs (Valid_any p1 k1 l1 _ (VL_own (A := ([] ++ ([]))) (B := T3 ++ (T4 ++ (T5 ++ (T6 ++ ([]))))) hT1 hT2 (hO.to (by first | rfl | (simp only [TP, apd])) : Ow Try.prog none' w _ (([] ++ ([])) ++ (T1 ++ (T2 ++ (T3 ++ (T4 ++ (T5 ++ (T6 ++ ([])))))))))) hsml1) (congrArg Value.bool (by rw [show l1.map JV.d = js from hj1]; exact lineP_valid hl))) ?_)
 clear hA hO fr; intro fr w6 hA hO
 replace hA := hA.sb (e' := [(2, bl false), (40, bl true), (43, bl false), (45, bl true)])
 refine ck (l := [20, 21, 22]) (r := []) (e' := [(2, bl true)]) hA [] c0 ?_
 clear hA fr; intro fr hA
 refine end_ops ?_
 refine then_normal ?_
 refine wp_ret ?_
 refine cR (cs := [none]) (us := [bl true]) hA [] trivial ?_
 have hF := hO.only; clear hA hO
 exact ⟨rfl, hF⟩

theorem law_parse (sv : ByteArray) (w : World) : Calls Try.prog 3 #[str sv] w fun e w' => e = .returned (.bool true) ∧ Only none' w w' := by
 cases hl : lineP false sv with
 | error q => obtain ⟨a, b⟩ := q; exact law_parse_err sv w hl
 | ok js => exact law_parse_ok sv w hl

end Go.Proofs.Ytfhcpegemapbkaa
