/- The layer command: the law CommandEqual. -/
import Derived.Test.YtfhcpegemapbkaaLawlib
set_option linter.unusedVariables false
set_option linter.unusedSimpArgs false
set_option maxRecDepth 10000
namespace Go.Proofs.Ytfhcpegemapbkaa
open Go Go.Shelf Go.RowKit Go.Proofs Go.Proofs.Sx

theorem law_equal (p q : Option Addr) (c e_ : Nat) (a b : List JV) (sv : ByteArray) (w : World) (hva : VL w (.slice p a.length c) a) (hvb : VL w (.slice q b.length e_) b) (hsa : smL 1000000000000000000 (a.map JV.d)) (hsb : smL 1000000000000000000 (b.map JV.d)) :
    Calls Try.prog 5 #[.slice p a.length c, .slice q b.length e_, str sv] w fun e w' => e = .returned (.bool true) ∧ Only none' w w' := by
 refine c_enter (args := [.slice p a.length c, .slice q b.length e_, str sv]) (m := 42) (n := 45) Try.func5 rfl (by kernel_rfl) (by kernel_rfl) fun fr hA => ?_
 have hO := Ow.nil Try.prog none' w
 refine sC (e' := [(0, .slice p a.length c), (1, .slice q b.length e_), (2, str sv), (6, bl false)]) 1 hA [] c0 ?_
 clear hA fr; intro fr hA
 refine wp_seq ?_
 refine sR (l := [0, 1]) ?_
 refine wpOps_cons' (mK (f := 9) (args := []) (d := (some 7)) (v := bl true) hA hO Try.func9 (awake_any _) ?_)
 clear hA hO fr; intro fr w1 hA hO
 replace hA := hA.sb (e' := [(0, .slice p a.length c), (1, .slice q b.length e_), (2, str sv), (6, bl false), (7, bl true)])
 refine ck (l := [1]) (r := []) (e' := [(0, .slice p a.length c), (1, .slice q b.length e_), (2, str sv), (6, bl false), (8, bl false)]) hA [] c0 ?_
 clear hA fr; intro fr hA
 refine end_ops ?_
 refine then_normal ?_
 refine cF hA ?_
 refine wp_skip ?_
 refine then_normal ?_
 refine wp_seq ?_
 refine sR (l := (rg 0 13)) ?_
 refine ck (l := [0]) (r := (rg 1 12)) (e' := [(0, .slice p a.length c), (1, .slice q b.length e_), (2, str sv), (6, bl false), (9, .slice p a.length c)]) hA [] c0 ?_
 clear hA fr; intro fr hA
 refine wpOps_cons' (mK (f := 15) (args := [.slice p a.length c]) (d := (some 10)) (v := bl (fewL (a.map JV.d))) hA hO Try.func15 (Few_any p c a _ (hva.keep hO.only) hsa) ?_)
 clear hA hO fr; intro fr w2 hA hO
 replace hA := hA.sb (e' := [(0, .slice p a.length c), (1, .slice q b.length e_), (2, str sv), (6, bl false), (10, bl (fewL (a.map JV.d)))])
 refine ck (l := [2, 3]) (r := (rg 4 9)) (e' := [(0, .slice p a.length c), (1, .slice q b.length e_), (2, str sv), (6, bl false), (11, bl (!(fewL (a.map JV.d)))), (12, bl (!(fewL (a.map JV.d))))]) hA [] c0 ?_
 clear hA fr; intro fr hA
 rcases Bool.eq_false_or_eq_true (fewL (a.map JV.d)) with h1 | h1
 · rw [h1] at hA
   refine ck (l := [4]) (r := (rg 5 8)) (e' := [(0, .slice p a.length c), (1, .slice q b.length e_), (2, str sv), (6, bl false), (12, bl false), (13, .slice q b.length e_)]) hA [] c0 ?_
   clear hA fr; intro fr hA
   refine wpOps_cons' (mK (f := 15) (args := [.slice q b.length e_]) (d := (some 14)) (v := bl (fewL (b.map JV.d))) hA hO Try.func15 (Few_any q e_ b _ (hvb.keep hO.only) hsb) ?_)
   clear hA hO fr; intro fr w3 hA hO
   replace hA := hA.sb (e' := [(0, .slice p a.length c), (1, .slice q b.length e_), (2, str sv), (6, bl false), (12, bl false), (14, bl (fewL (b.map JV.d)))])
   refine ck (l := [6, 7, 8]) (r := [9, 10, 11, 12]) (e' := [(0, .slice p a.length c), (1, .slice q b.length e_), (2, str sv), (6, bl false), (15, bl (!(fewL (b.map JV.d)))), (16, bl (!(fewL (b.map JV.d)))), (17, bl (!(fewL (b.map JV.d))))]) hA [] c0 ?_
   clear hA fr; intro fr hA
   rcases Bool.eq_false_or_eq_true (fewL (b.map JV.d)) with h2 | h2
   · rw [h2] at hA
     refine ck (l := [9, 10, 11, 12]) (r := []) (e' := [(0, .slice p a.length c), (1, .slice q b.length e_), (2, str sv), (6, bl false), (21, bl (decide (((sv.size : Nat) : Int) > 300)))]) hA [] c0 ?_
     clear hA fr; intro fr hA
     refine end_ops ?_
     refine then_normal ?_
     rcases Bool.eq_false_or_eq_true (decide (((sv.size : Nat) : Int) > 300)) with h3 | h3
     · rw [h3] at hA
       have h3p := of_decide_eq_true h3
       refine cT hA ?_
       refine sC (e' := [(6, bl true)]) 1 hA [] c0 ?_
       clear hA fr; intro fr hA
       refine wp_ret ?_
       refine then_ret ?_
       refine cR (cs := [none]) (us := [bl true]) hA [] trivial ?_
       have hF := hO.only; clear hA hO
       exact ⟨rfl, hF⟩
     rw [h3] at hA
     have h3p := of_decide_eq_false h3
     refine cF hA ?_
     refine wp_skip ?_
     refine then_normal ?_
     refine sR (l := (rg 0 24)) ?_
     refine ck (l := [0]) (r := (rg 1 23)) (e' := [(0, .slice p a.length c), (1, .slice q b.length e_), (2, str sv), (6, bl false), (22, .slice p a.length c)]) hA [] c0 ?_
     clear hA fr; intro fr hA
     refine wpOps_cons' (mC (f := 17) (args := [.slice p a.length c]) (d := (some 23)) hA Try.func17 ((Own_any p c a _ (hva.keep hO.only) (fewL_small h1)).mono ?_))
     rintro en w4 ⟨p1, k1, r1, T1, T2, rfl, hT1, hT2, hsim1, hW⟩
     refine ⟨_, rfl, ?_⟩
     clear hA fr; intro fr hA
     replace hO : Ow Try.prog none' w _ ([] ++ []) := hO.to (List.append_nil _).symm
     replace hO := Ow.join hO hW; clear hW
     replace hO : Ow Try.prog none' w _ ([] ++ (T1 ++ (T2 ++ ([])))) := hO.to (by first | rfl | (simp only [TP, apd]))
     replace hA := hA.sb (e' := [(0, .slice p a.length c), (1, .slice q b.length e_), (2, str sv), (6, bl false), (23, .slice p1 r1.length k1)])
     refine ck (l := [2]) (r := (rg 3 21)) (e' := [(0, .slice p a.length c), (1, .slice q b.length e_), (2, str sv), (6, bl false), (23, .slice p1 r1.length k1), (24, .slice q b.length e_)]) hA [] c0 ?_
     clear hA fr; intro fr hA
     refine wpOps_cons' (mC (f := 17) (args := [.slice q b.length e_]) (d := (some 25)) hA Try.func17 ((Own_any q e_ b _ (hvb.keep hO.only) (fewL_small h2)).mono ?_))
     rintro en w5 ⟨p2, k2, r2, T3, T4, rfl, hT3, hT4, hsim2, hW⟩
     refine ⟨_, rfl, ?_⟩
     clear hA fr; intro fr hA
     replace hO := Ow.join hO hW; clear hW
     replace hO : Ow Try.prog none' w _ ([] ++ (T1 ++ (T2 ++ (T3 ++ (T4 ++ ([])))))) := hO.to (by first | rfl | (simp only [TP, apd]))
     replace hA := hA.sb (e' := [(0, .slice p a.length c), (1, .slice q b.length e_), (2, str sv), (6, bl false), (23, .slice p1 r1.length k1), (25, .slice p2 r2.length k2)])
     refine wpOps_cons' (mK (f := 20) (args := [.slice p1 r1.length k1, .slice p2 r2.length k2]) (d := (some 26)) (v := bl (eqL (a.map JV.d) (b.map JV.d))) hA hO Try.func20 (rs (Equal_any p1 p2 k1 k2 r1 r2 _ (VL_copy (A := ([] ++ ([]))) (B := T3 ++ (T4 ++ ([]))) hT1 hT2 hsim1 (hva.keep hO.only) (hO.to (by first | rfl | (simp only [TP, apd])) : Ow Try.prog none' w _ (([] ++ ([])) ++ (T1 ++ (T2 ++ (T3 ++ (T4 ++ ([])))))))) (VL_copy (A := ([] ++ (T1 ++ (T2 ++ ([]))))) (B := []) hT3 hT4 hsim2 (hvb.keep hO.only) (hO.to (by first | rfl | (simp only [TP, apd])) : Ow Try.prog none' w _ (([] ++ (T1 ++ (T2 ++ ([])))) ++ (T3 ++ (T4 ++ ([])))))) (sim_sm hsim1 (fewL_small h1))) (congrArg Value.bool (by rw [show r1.map JV.d = (a.map JV.d) from (sim_d hsim1).trans rfl, show r2.map JV.d = (b.map JV.d) from (sim_d hsim2).trans rfl]))) ?_)
     clear hA hO fr; intro fr w6 hA hO
     replace hA := hA.sb (e' := [(0, .slice p a.length c), (1, .slice q b.length e_), (2, str sv), (6, bl false), (26, bl (eqL (a.map JV.d) (b.map JV.d)))])
     refine ck (l := [5, 6]) (r := (rg 7 17)) (e' := [(0, .slice p a.length c), (2, str sv), (6, bl false), (26, bl (eqL (a.map JV.d) (b.map JV.d))), (27, .slice p a.length c), (28, .slice q b.length e_)]) hA [] c0 ?_
     clear hA fr; intro fr hA
     refine wpOps_cons' (mK (f := 12) (args := [.slice p a.length c, .slice q b.length e_]) (d := (some 29)) (v := bl (eqL (a.map JV.d) (b.map JV.d))) hA hO Try.func12 (rs (REqual_any p q c e_ a b _ (hva.keep hO.only) (hvb.keep hO.only) (fewL_small h1)) (congrArg Value.bool (by rw [show a.map JV.d = (a.map JV.d) from rfl, show b.map JV.d = (b.map JV.d) from rfl]))) ?_)
     clear hA hO fr; intro fr w7 hA hO
     replace hA := hA.sb (e' := [(0, .slice p a.length c), (2, str sv), (6, bl false), (26, bl (eqL (a.map JV.d) (b.map JV.d))), (29, bl (eqL (a.map JV.d) (b.map JV.d)))])
     refine ck (l := [8, 9]) (r := (rg 10 14)) (e' := [(0, .slice p a.length c), (2, str sv), (6, bl false), (30, bl ((eqL (a.map JV.d) (b.map JV.d)) == (eqL (a.map JV.d) (b.map JV.d)))), (31, bl ((eqL (a.map JV.d) (b.map JV.d)) == (eqL (a.map JV.d) (b.map JV.d))))]) hA [] c0 ?_
     clear hA fr; intro fr hA
     rw [(beq_self_eq_true _ : ((eqL (a.map JV.d) (b.map JV.d)) == (eqL (a.map JV.d) (b.map JV.d))) = (true))] at hA
     refine ck (l := [10]) (r := (rg 11 13)) (e' := [(0, .slice p a.length c), (2, str sv), (6, bl false), (31, bl true), (32, .slice p a.length c)]) hA [] c0 ?_
     clear hA fr; intro fr hA
     refine wpOps_cons' (mC (f := 17) (args := [.slice p a.length c]) (d := (some 33)) hA Try.func17 ((Own_any p c a _ (hva.keep hO.only) (fewL_small h1)).mono ?_))
     rintro en w8 ⟨p3, k3, r3, T5, T6, rfl, hT5, hT6, hsim3, hW⟩
     refine ⟨_, rfl, ?_⟩
     clear hA fr; intro fr hA
     replace hO := Ow.join hO hW; clear hW
     replace hO : Ow Try.prog none' w _ ([] ++ (T1 ++ (T2 ++ (T3 ++ (T4 ++ (T5 ++ (T6 ++ ([])))))))) := hO.to (by first | rfl | (simp only [TP, apd]))
     replace hA := hA.sb (e' := [(0, .slice p a.length c), (2, str sv), (6, bl false), (31, bl true), (33, .slice p3 r3.length k3)])
     refine ck (l := [12]) (r := (rg 13 11)) (e' := [(2, str sv), (6, bl false), (31, bl true), (33, .slice p3 r3.length k3), (34, .slice p a.length c)]) hA [] c0 ?_
     clear hA fr; intro fr hA
     refine wpOps_cons' (mC (f := 17) (args := [.slice p a.length c]) (d := (some 35)) hA Try.func17 ((Own_any p c a _ (hva.keep hO.only) (fewL_small h1)).mono ?_))
     rintro en w9 ⟨p4, k4, r4, T7, T8, rfl, hT7, hT8, hsim4, hW⟩
     refine ⟨_, rfl, ?_⟩
     clear hA fr; intro fr hA
     replace hO := Ow.join hO hW; clear hW
     replace hO : Ow Try.prog none' w _ ([] ++ (T1 ++ (T2 ++ (T3 ++ (T4 ++ (T5 ++ (T6 ++ (T7 ++ (T8 ++ ([])))))))))) := hO.to (by first | rfl | (simp only [TP, apd]))
     replace hA := hA.sb (e' := [(2, str sv), (6, bl false), (31, bl true), (33, .slice p3 r3.length k3), (35, .slice p4 r4.length k4)])
     refine wpOps_cons' (mK (f := 20) (args := [.slice p3 r3.length k3, .slice p4 r4.length k4]) (d := (some 36)) (v := bl true) hA hO Try.func20 (rs (Equal_any p3 p4 k3 k4 r3 r4 _ (VL_copy (A := ([] ++ (T1 ++ (T2 ++ (T3 ++ (T4 ++ ([]))))))) (B := T7 ++ (T8 ++ ([]))) hT5 hT6 hsim3 (hva.keep hO.only) (hO.to (by first | rfl | (simp only [TP, apd])) : Ow Try.prog none' w _ (([] ++ (T1 ++ (T2 ++ (T3 ++ (T4 ++ ([])))))) ++ (T5 ++ (T6 ++ (T7 ++ (T8 ++ ([])))))))) (VL_copy (A := ([] ++ (T1 ++ (T2 ++ (T3 ++ (T4 ++ (T5 ++ (T6 ++ ([]))))))))) (B := []) hT7 hT8 hsim4 (hva.keep hO.only) (hO.to (by first | rfl | (simp only [TP, apd])) : Ow Try.prog none' w _ (([] ++ (T1 ++ (T2 ++ (T3 ++ (T4 ++ (T5 ++ (T6 ++ ([])))))))) ++ (T7 ++ (T8 ++ ([])))))) (sim_sm hsim3 (fewL_small h1))) (congrArg Value.bool (eqL_of (((sim_d hsim3).trans rfl).trans ((rfl).trans ((sim_d hsim4).trans rfl).symm))))) ?_)
     clear hA hO fr; intro fr w10 hA hO
     replace hA := hA.sb (e' := [(2, str sv), (6, bl false), (31, bl true), (36, bl true)])
     refine ck (l := [15, 16, 17]) (r := (rg 18 6)) (e' := [(2, str sv), (6, bl false), (38, bl true), (39, str sv)]) hA [] c0 ?_
     clear hA fr; intro fr hA
     refine wpOps_cons' (mK (f := 21) (args := [str sv]) (d := (some 40)) (v := bl (isWordB sv)) hA hO Try.func21 (isword_any sv _ (by omega)) ?_)
     clear hA hO fr; intro fr w11 hA hO
     replace hA := hA.sb (e' := [(2, str sv), (6, bl false), (38, bl true), (40, bl (isWordB sv))])
     refine ck (l := [19]) (r := [20, 21, 22, 23]) (e' := [(6, bl false), (38, bl true), (40, bl (isWordB sv)), (41, str sv)]) hA [] c0 ?_
     clear hA fr; intro fr hA
     refine wpOps_cons' (mK (f := 22) (args := [str sv]) (d := (some 42)) (v := bl (isWordB sv)) hA hO Try.func22 (risword_any sv _ (by omega)) ?_)
     clear hA hO fr; intro fr w12 hA hO
     replace hA := hA.sb (e' := [(6, bl false), (38, bl true), (40, bl (isWordB sv)), (42, bl (isWordB sv))])
     refine ck (l := [21, 22, 23]) (r := []) (e' := [(6, bl ((isWordB sv) == (isWordB sv)))]) hA [] c0 ?_
     clear hA fr; intro fr hA
     rw [(beq_self_eq_true _ : ((isWordB sv) == (isWordB sv)) = (true))] at hA
     refine end_ops ?_
     refine then_normal ?_
     refine wp_ret ?_
     refine cR (cs := [none]) (us := [bl true]) hA [] trivial ?_
     have hF := hO.only; clear hA hO
     exact ⟨rfl, hF⟩
   rw [h2] at hA
   refine ck (l := [9, 10, 11, 12]) (r := []) (e' := [(0, .slice p a.length c), (1, .slice q b.length e_), (2, str sv), (6, bl false), (21, bl true)]) hA [] c0 ?_
   clear hA fr; intro fr hA
   refine end_ops ?_
   refine then_normal ?_
   refine cT hA ?_
   refine sC (e' := [(6, bl true)]) 1 hA [] c0 ?_
   clear hA fr; intro fr hA
   refine wp_ret ?_
   refine then_ret ?_
   refine cR (cs := [none]) (us := [bl true]) hA [] trivial ?_
   have hF := hO.only; clear hA hO
   exact ⟨rfl, hF⟩
 rw [h1] at hA
 refine ck (l := (rg 4 9)) (r := []) (e' := [(0, .slice p a.length c), (1, .slice q b.length e_), (2, str sv), (6, bl false), (21, bl true)]) hA [] c0 ?_
 clear hA fr; intro fr hA
 refine end_ops ?_
 refine then_normal ?_
 refine cT hA ?_
 refine sC (e' := [(6, bl true)]) 1 hA [] c0 ?_
 clear hA fr; intro fr hA
 refine wp_ret ?_
 refine then_ret ?_
 refine cR (cs := [none]) (us := [bl true]) hA [] trivial ?_
 have hF := hO.only; clear hA hO
 exact ⟨rfl, hF⟩

end Go.Proofs.Ytfhcpegemapbkaa
