/- The layer command: the parser: line. -/
import Derived.Test.YtfhcpegemapbkaaParse
set_option linter.unusedVariables false
set_option linter.unusedSimpArgs false
set_option maxRecDepth 10000
namespace Go.Proofs.Ytfhcpegemapbkaa
open Go Go.Shelf Go.RowKit Go.Proofs Go.Proofs.Sx

theorem line_any (pb : Nat) (sv : ByteArray) (w : World) (hs : sv.size ≤ 1000000) (h0 : Ow Try.prog (inT (TP pb sv 0)) w w (TP pb sv 0)) :
    Calls Try.prog 24 #[pt pb] w fun e w' => (∃ a b, lineP false sv = .error (a, b) ∧ e = .panicked (pnc a b) ∧ Only (inT (TP pb sv 0)) w w') ∨ ∃ m p k l T0 T1, lineP false sv = .ok (l.map JV.d) ∧ e = .returned (.slice p l.length k) ∧ One fJ 53 2 p k l T0 ∧ InJ 54 9 l T1 ∧ Ow Try.prog (inT (TP pb sv 0)) w w' (TP pb sv m ++ (T0 ++ T1)) ∧ l.length ≤ 1000000 := by
 refine c_enter (args := [pt pb]) (m := 62) (n := 63) Try.func24 rfl (by kernel_rfl) (by kernel_rfl) fun fr hA => ?_
 have hO : Ow Try.prog (inT (TP pb sv 0)) w w [(pb, 60, [str sv, i64 0, .slice none 0 0])] := h0
 refine sC (e' := [(0, pt pb), (2, .slice none 0 0)]) 1 hA [] c0 ?_
 clear hA fr; intro fr hA
 refine sR (l := [0, 1]) ?_
 refine ck (l := [0]) (r := [1]) (e' := [(0, pt pb), (2, .slice none 0 0), (6, pt pb)]) hA [] c0 ?_
 clear hA fr; intro fr hA
 refine wpOps_cons' (mC (f := 42) (args := [pt pb]) (d := (some 7)) hA Try.func42 ((skip_any pb sv 0 _ (by omega) (by omega) (Ow.self (A := []) (T := TP pb sv 0) (B := ([] ++ ([]))) (hO.to (by first | rfl | (simp only [TP, apd]))))).mono ?_))
 rintro en w1 ⟨rfl, hW⟩
 refine ⟨_, rfl, ?_⟩
 clear hA fr; intro fr hA
 replace hO := Ow.pass (A := []) (T := TP pb sv 0) (B := ([] ++ ([]))) (hO.to (by first | rfl | (simp only [TP, apd]))) hW; clear hW
 replace hO : Ow Try.prog (inT (TP pb sv 0)) w w1 [(pb, 60, [str sv, i64 ((sk sv 0 : Nat) : Int), .slice none 0 0])] := hO.to (by first | rfl | (simp only [TP, apd]))
 replace hA := hA.sb (e' := [(0, pt pb), (2, .slice none 0 0)])
 refine end_ops ?_
 refine then_normal ?_
 refine sC (e' := [(0, pt pb), (2, .slice none 0 0), (3, .slice none 0 0)]) 1 hA [] c0 ?_
 clear hA fr; intro fr hA
 refine wp_seq ?_
 refine wp_block ?_
 have hT1 := One.nil fJ 53 2
 replace hO : Ow Try.prog (inT (TP pb sv 0)) w w1 ([(pb, 60, [str sv, i64 ((sk sv 0 : Nat) : Int), .slice none 0 0])] ++ ([] ++ ([]))) := hO.to (by first | rfl | (simp only [TP, apd]))
 have hC0 : InJ 54 9 [] [] := rfl
 replace hO : Ow Try.prog (inT (TP pb sv 0)) w w1 ([(pb, 60, [str sv, i64 ((sk sv 0 : Nat) : Int), .slice none 0 0])] ++ ([] ++ ([] ++ ([])))) := hO.to (by first | rfl | (simp only [TP, apd]))
 refine c_loop (fun mm fr W => ∃ (l : List JV) (m f : Nat) (pL1 : Option Addr) (cL1 : Nat) (TL1 : OwL) (TL2 : OwL), mm = sv.size - m ∧ Holds 63 [] fr [(0, pt pb), (2, .slice none 0 0), (3, .slice pL1 l.length cL1)] ∧ Ow Try.prog (inT (TP pb sv 0)) w W ([(pb, 60, [str sv, i64 ((m : Nat) : Int), .slice none 0 0])] ++ (TL1 ++ (TL2 ++ ([])))) ∧ One fJ 53 2 pL1 cL1 l TL1 ∧ InJ 54 9 l TL2 ∧ m ≤ sv.size ∧ sv.size - m < f ∧ lineF false sv f (l.map JV.d) m = lineP false sv ∧ l.length ≤ m ∧ True) ?_ ?_
 · exact ⟨_, ([] : List JV), sk sv 0, sv.size + 1, none, 0, [], [], rfl, (hA.sub (e' := [(0, pt pb), (2, .slice none 0 0), (3, .slice none 0 0)]) [0, 2, 3] (by kernel_rfl)).cast (by kernel_rfl), (hO : Ow Try.prog (inT (TP pb sv 0)) w _ ([(pb, 60, [str sv, i64 ((sk sv 0 : Nat) : Int), .slice none 0 0])] ++ ([] ++ ([] ++ ([]))))), hT1, hC0, (sk_le (Nat.zero_le _)), (by omega), rfl, (Nat.zero_le _), trivial⟩
 rintro _ fr w2 ⟨l, m, f, pL1, cL1, TL1, TL2, rfl, hA, hO, hTL1, hTL2, hm, hf, hR, hcl, -⟩
 have hnx := nx_le hm
 have hml : (l.map JV.d).length = l.length := List.length_map _
 have hke := kd_end hm
 refine wp_seq ?_
 refine wp_seq ?_
 have hS : Ow Try.prog (inT (TP pb sv 0)) w _ [(pb, 60, [str sv, i64 ((m : Nat) : Int), .slice none 0 0])] := hO.sub [0]
 refine rP [(0, true), (1, true), (2, true), (3, true), (4, true), (5, true), (6, true), (7, true), (8, true), (9, true)] hS ?_
 intro w3 ho; replace hO := hO.st ho; clear ho
 refine ckS (l := (rg 0 10)) (r := []) (e' := [(0, pt pb), (2, .slice none 0 0), (3, .slice pL1 l.length cL1), (17, bl (decide (((m : Nat) : Int) < ((sv.size : Nat) : Int))))]) hA [i64 ((m : Nat) : Int), str sv] (cc (hS.s1 0 1 3 (i64 ((m : Nat) : Int))) (cc (hS.s1 0 0 9 (str sv)) c0)) ?_
 clear hA fr; intro fr hA
 refine end_plan ?_
 refine then_normal ?_
 rcases Bool.eq_false_or_eq_true (decide (((m : Nat) : Int) < ((sv.size : Nat) : Int))) with h1 | h1
 · rw [h1] at hA
   have h1p := of_decide_eq_true h1
   obtain ⟨f, rfl⟩ : ∃ j, f = j + 1 := ⟨f - 1, by omega⟩
   have hgtx := nx_gt (s := sv) (n := m)
   have hkd := tl_kd sv m
   refine cT hA ?_
   refine wp_skip ?_
   refine then_normal ?_
   refine wp_block ?_
   refine wp_seq ?_
   refine sR (l := (rg 0 8)) ?_
   refine ck (l := [0, 1, 2, 3]) (r := [4, 5, 6, 7]) (e' := [(0, pt pb), (2, .slice none 0 0), (3, .slice pL1 l.length cL1), (20, bl (((l.length : Nat) : Int) == 8)), (21, bl (((l.length : Nat) : Int) == 8))]) hA [] c0 ?_
   clear hA fr; intro fr hA
   rcases Bool.eq_false_or_eq_true (((l.length : Nat) : Int) == 8) with h2 | h2
   · rw [h2] at hA
     have h2p := eq_of_beq h2
     refine ck (l := [4]) (r := [5, 6, 7]) (e' := [(0, pt pb), (2, .slice none 0 0), (3, .slice pL1 l.length cL1), (21, bl true), (22, pt pb)]) hA [] c0 ?_
     clear hA fr; intro fr hA
     refine wpOps_cons' (mK (f := 44) (args := [pt pb]) (d := (some 23)) (v := str (tk sv m)) hA hO Try.func44 (next_any pb sv m _ (by omega) (by omega) (hO.b 0)) ?_)
     clear hA hO fr; intro fr w4 hA hO
     replace hA := hA.sb (e' := [(0, pt pb), (2, .slice none 0 0), (3, .slice pL1 l.length cL1), (21, bl true), (23, str (tk sv m))])
     refine wpOps_cons' (mK (f := 43) (args := [str (tk sv m)]) (d := (some 24)) (v := bl (begK (kd sv m))) hA hO Try.func43 (begins_any sv m _) ?_)
     clear hA hO fr; intro fr w5 hA hO
     replace hA := hA.sb (e' := [(0, pt pb), (2, .slice none 0 0), (3, .slice pL1 l.length cL1), (21, bl true), (24, bl (begK (kd sv m)))])
     refine ck (l := [7]) (r := []) (e' := [(0, pt pb), (2, .slice none 0 0), (3, .slice pL1 l.length cL1), (25, bl (begK (kd sv m)))]) hA [] c0 ?_
     clear hA fr; intro fr hA
     refine end_ops ?_
     refine then_normal ?_
     rcases Bool.eq_false_or_eq_true (begK (kd sv m)) with h3 | h3
     · rw [h3] at hA
       have h3p := begK_yes h3
       refine cT hA ?_
       refine rR (l := [0, 1]) ?_
       refine ck (l := [0]) (r := [1]) (e' := [(0, pt pb), (2, .slice none 0 0), (3, .slice pL1 l.length cL1), (26, pt pb)]) hA [] c0 ?_
       clear hA fr; intro fr hA
       refine wpOps_cons' (mP (f := 45) (args := [pt pb, i64 6]) (d := (some 27)) hA Try.func45 ((fail_any pb sv m _ (by omega) (by omega) 6 (hO.b 0)).mono ?_))
       rintro en w6 ⟨rfl, hW⟩
       refine .inr ⟨_, rfl, ?_⟩
       show _ ∧ _
       exact ⟨hA.dfr, Or.inl ⟨_, _, (by rw [← hR]; exact lineF_lim (by omega) (by rw [List.length_map]; omega) (by assumption)), rfl, Ow.pan0 hO hW⟩⟩
     rw [h3] at hA
     have h3p := begK_no h3
     refine cF hA ?_
     refine wp_skip ?_
     refine then_normal ?_
     refine sR (l := [0, 1, 2, 3]) ?_
     refine ck (l := [0]) (r := [1, 2, 3]) (e' := [(0, pt pb), (2, .slice none 0 0), (3, .slice pL1 l.length cL1), (28, pt pb)]) hA [] c0 ?_
     clear hA fr; intro fr hA
     refine wpOps_cons' (mP (f := 46) (args := [pt pb]) (d := (some 29)) hA Try.func46 ((job_any pb sv m _ (by omega) (by omega) (Ow.self (A := []) (T := TP pb sv m) (B := ([] ++ (TL1 ++ (TL2 ++ ([]))))) (hO.to (by first | rfl | (simp only [TP, apd]))))).mono ?_))
     rintro en w7 (⟨ea, ee, hr, rfl, hW⟩ | ⟨v1, m1, hr, p1, k1, lc1, T2, T3, rfl, hT2, hT3, hv_, hW, hc1a, hc1b⟩)
     · refine .inr ⟨_, rfl, ?_⟩
       show _ ∧ _
       exact ⟨hA.dfr, Or.inl ⟨_, _, (by rw [← hR]; exact lineF_jobE (by omega) (by rintro ⟨q1, q2⟩; rw [List.length_map] at q1; first | omega | simp_all) hr), rfl, Ow.pan (A := []) (T := TP pb sv m) (B := ([] ++ (TL1 ++ (TL2 ++ ([]))))) (hO.to (by first | rfl | (simp only [TP, apd])) : Ow Try.prog (inT (TP pb sv 0)) w _ ([] ++ (TP pb sv m ++ (([] ++ (TL1 ++ (TL2 ++ ([])))))))) hW⟩⟩
     refine .inl ⟨_, rfl, ?_⟩
     clear hA fr; intro fr hA
     subst hv_
     replace hO := Ow.pass2 (A := []) (T := TP pb sv m) (B := ([] ++ (TL1 ++ (TL2 ++ ([]))))) (T' := TP pb sv m1) (T2 := T2 ++ T3) (hO.to (by first | rfl | (simp only [TP, apd]))) hW; clear hW
     replace hO : Ow Try.prog (inT (TP pb sv 0)) w w7 ([(pb, 60, [str sv, i64 ((m1 : Nat) : Int), .slice none 0 0])] ++ (TL1 ++ (TL2 ++ (T2 ++ (T3 ++ ([])))))) := hO.to (by first | rfl | (simp only [TP, apd]))
     have hnx2 := nx_le (s := sv) (n := m1) (by omega)
     have hgt2 := nx_gt (s := sv) (n := m1)
     have hkd2 := tl_kd sv m1
     have hke2 := kd_end (s := sv) (n := m1) (by omega)
     replace hA := hA.sb (e' := [(0, pt pb), (2, .slice none 0 0), (3, .slice pL1 l.length cL1), (29, .agg #[.slice p1 lc1.length k1, bl false])])
     refine wpOps_cons' (mN (l := [.slice none 0 0, bl false]) (t := 53) (v := pt) (d := 4) hA hO ?_)
     clear hA hO fr; intro fr w8 b1 hA hO
     replace hA := hA.sb (e' := [(0, pt pb), (2, .slice none 0 0), (3, .slice pL1 l.length cL1), (4, pt b1), (29, .agg #[.slice p1 lc1.length k1, bl false])])
     refine wpOps_cons' (mS (off := 0) (vc := [.slice p1 lc1.length k1, bl false]) 0 hA hO ?_)
     clear hO; intro w9 hO
     replace hA := hA.sb (e' := [(0, pt pb), (2, .slice none 0 0), (3, .slice pL1 l.length cL1), (4, pt b1)])
     refine end_ops ?_
     refine then_normal ?_
     refine sR (l := [0, 1, 2]) ?_
     refine ck (l := [0]) (r := [1, 2]) (e' := [(0, pt pb), (2, .slice none 0 0), (3, .slice pL1 l.length cL1), (4, pt b1), (30, pt pb)]) hA [] c0 ?_
     clear hA fr; intro fr hA
     refine wpOps_cons' (mK (f := 44) (args := [pt pb]) (d := (some 31)) (v := str (tk sv m1)) hA hO Try.func44 (next_any pb sv m1 _ (by omega) (by omega) (hO.b 1)) ?_)
     clear hA hO fr; intro fr w10 hA hO
     replace hA := hA.sb (e' := [(0, pt pb), (2, .slice none 0 0), (3, .slice pL1 l.length cL1), (4, pt b1), (31, str (tk sv m1))])
     refine ck (l := [2]) (r := []) (e' := [(0, pt pb), (2, .slice none 0 0), (3, .slice pL1 l.length cL1), (4, pt b1), (5, str (tk sv m1))]) hA [] c0 ?_
     clear hA fr; intro fr hA
     refine end_ops ?_
     refine then_normal ?_
     refine sR (l := [0, 1, 2, 3]) ?_
     refine ck (l := [0, 1, 2]) (r := [3]) (e' := [(0, pt pb), (2, .slice none 0 0), (3, .slice pL1 l.length cL1), (4, pt b1), (5, str (tk sv m1)), (33, bl ((tk sv m1).toList == (⟨#[38]⟩ : ByteArray).toList)), (34, pf b1 1)]) hA [] c0 ?_
     clear hA fr; intro fr hA
     replace hA := hA.bool (f := fun z_ => [(0, pt pb), (2, .slice none 0 0), (3, .slice pL1 l.length cL1), (4, pt b1), (5, str (tk sv m1)), (33, .bool z_), (34, pf b1 1)]) (tk_amp sv m1 : ((tk sv m1).toList == (⟨#[38]⟩ : ByteArray).toList) = (decide (kd sv m1 = 6)))
     refine wpOps_cons' (mS (off := 1) (vc := [bl (decide (kd sv m1 = 6))]) 0 hA hO ?_)
     clear hO; intro w11 hO
     replace hA := hA.sb (e' := [(0, pt pb), (2, .slice none 0 0), (3, .slice pL1 l.length cL1), (4, pt b1), (5, str (tk sv m1))])
     refine end_ops ?_
     refine then_normal ?_
     refine sR (l := (rg 0 5)) ?_
     refine ck (l := [0, 1]) (r := [2, 3, 4]) (e' := [(0, pt pb), (2, .slice none 0 0), (3, .slice pL1 l.length cL1), (5, str (tk sv m1)), (35, .slice pL1 l.length cL1), (36, .agg #[.slice p1 lc1.length k1, bl (decide (kd sv m1 = 6))])]) hA [.agg #[.slice p1 lc1.length k1, bl (decide (kd sv m1 = 6))]] (cc (hO.ln 0 0 53 [.slice p1 lc1.length k1, bl (decide (kd sv m1 = 6))]) c0) ?_
     clear hA fr; intro fr hA
     refine wpOps_cons' (mN (l := [.slice p1 lc1.length k1, bl (decide (kd sv m1 = 6))]) (t := 53) (v := fun b => .slice (some ⟨b, 0, none⟩) 1 1) (d := 37) hA hO ?_)
     clear hA hO fr; intro fr w12 b2 hA hO
     replace hA := hA.sb (e' := [(0, pt pb), (2, .slice none 0 0), (3, .slice pL1 l.length cL1), (5, str (tk sv m1)), (35, .slice pL1 l.length cL1), (37, .slice (some ⟨b2, 0, none⟩) 1 1)])
     replace hO : Ow Try.prog (inT (TP pb sv 0)) w w12 ([(b2, 53, [.slice p1 lc1.length k1, bl (decide (kd sv m1 = 6))]), (b1, 53, [.slice p1 lc1.length k1, bl (decide (kd sv m1 = 6))]), (pb, 60, [str sv, i64 ((m1 : Nat) : Int), .slice none 0 0])] ++ (TL1 ++ (TL2 ++ (T2 ++ (T3 ++ ([])))))) := hO
     refine wpOps_cons' (mA (f := fJ) (el := 53) (sz := 2) (bytes := 32) (p := pL1) (c := cL1) (l := l) (l' := ([⟨p1, k1, lc1, decide (kd sv m1 = 6)⟩] : List JV)) (T := TL1) (t := 23) (tx := 23) (ty := 23) (x := .slice (some ⟨b2, 0, none⟩) 1 1) (d := 38) [(b2, 53, [.slice p1 lc1.length k1, bl (decide (kd sv m1 = 6))]), (b1, 53, [.slice p1 lc1.length k1, bl (decide (kd sv m1 = 6))]), (pb, 60, [str sv, i64 ((m1 : Nat) : Int), .slice none 0 0])] (TL2 ++ (T2 ++ (T3 ++ ([])))) encJ hA hO hTL1 (Vw.src (e' := 53) encJ ((hO.b 0).vw (off := 0) (xs := ([⟨p1, k1, lc1, decide (kd sv m1 = 6)⟩] : List JV)) (by kernel_rfl)) (by kernel_rfl)) (by first | omega | (simp only [List.length_append, List.length_cons, List.length_nil]; omega)) (by unfold maxLen; first | omega | (simp only [List.length_append, List.length_cons, List.length_nil]; omega)) ?_)
     clear hA hO fr; intro fr w13 p2 c1 T4 hA hO hT4
     replace hA := hA.sb (e' := [(0, pt pb), (2, .slice none 0 0), (3, .slice pL1 l.length cL1), (5, str (tk sv m1)), (38, .slice p2 ((l ++ ([⟨p1, k1, lc1, decide (kd sv m1 = 6)⟩] : List JV)).length) c1)])
     refine ck (l := [4]) (r := []) (e' := [(0, pt pb), (2, .slice none 0 0), (3, .slice p2 ((l ++ ([⟨p1, k1, lc1, decide (kd sv m1 = 6)⟩] : List JV)).length) c1), (5, str (tk sv m1))]) hA [] c0 ?_
     clear hA fr; intro fr hA
     refine end_ops ?_
     refine then_normal ?_
     refine wp_block ?_
     refine wp_seq ?_
     have hS : Ow Try.prog (inT (TP pb sv 0)) w _ [(b2, 53, [.slice p1 lc1.length k1, bl (decide (kd sv m1 = 6))]), (b1, 53, [.slice p1 lc1.length k1, bl (decide (kd sv m1 = 6))]), (pb, 60, [str sv, i64 ((m1 : Nat) : Int), .slice none 0 0])] := hO.sub [0, 1, 2]
     refine rP [(0, true), (1, true), (2, true), (3, true), (4, true), (5, true), (6, true), (7, true), (8, true), (9, true), (10, true)] hS ?_
     intro w14 ho; replace hO := hO.st ho; clear ho
     refine ckS (l := (rg 0 11)) (r := []) (e' := [(0, pt pb), (2, .slice none 0 0), (3, .slice p2 ((l ++ ([⟨p1, k1, lc1, decide (kd sv m1 = 6)⟩] : List JV)).length) c1), (5, str (tk sv m1)), (41, bl (((m1 : Nat) : Int) == ((sv.size : Nat) : Int)))]) hA [i64 ((m1 : Nat) : Int), str sv] (cc (hS.s1 2 1 3 (i64 ((m1 : Nat) : Int))) (cc (hS.s1 2 0 9 (str sv)) c0)) ?_
     clear hA fr; intro fr hA
     refine end_plan ?_
     refine then_normal ?_
     rcases Bool.eq_false_or_eq_true (((m1 : Nat) : Int) == ((sv.size : Nat) : Int)) with h4 | h4
     · rw [h4] at hA
       have h4p := eq_of_beq h4
       refine cT hA ?_
       refine wp_skip ?_
       refine inBlock_normal ?_
       refine inBlock_normal ?_
       refine then_normal ?_
       replace hO : Ow Try.prog (inT (TP pb sv 0)) w w14 ([(b2, 53, [.slice p1 lc1.length k1, bl (decide (kd sv m1 = 6))]), (b1, 53, [.slice p1 lc1.length k1, bl (decide (kd sv m1 = 6))]), (pb, 60, [str sv, i64 ((m1 : Nat) : Int), .slice none 0 0])] ++ (T4 ++ (TL2 ++ (T2 ++ (T3 ++ ([])))))) := hO
       have hC1 : InJ 54 9 (l ++ ([⟨p1, k1, lc1, decide (kd sv m1 = 6)⟩] : List JV)) (TL2 ++ (T2 ++ T3)) := InJ.snoc (x := ⟨p1, k1, lc1, decide (kd sv m1 = 6)⟩) hT2 hT3 hTL2
       replace hO : Ow Try.prog (inT (TP pb sv 0)) w w14 ([(b2, 53, [.slice p1 lc1.length k1, bl (decide (kd sv m1 = 6))]), (b1, 53, [.slice p1 lc1.length k1, bl (decide (kd sv m1 = 6))]), (pb, 60, [str sv, i64 ((m1 : Nat) : Int), .slice none 0 0])] ++ (T4 ++ ((TL2 ++ (T2 ++ T3)) ++ ([])))) := hO.to (by first | rfl | (simp only [TP, apd]))
       exact ⟨_, by omega, l ++ ([⟨p1, k1, lc1, decide (kd sv m1 = 6)⟩] : List JV), m1, f, p2, c1, T4, (TL2 ++ (T2 ++ T3)), rfl, (hA.sub (e' := [(0, pt pb), (2, .slice none 0 0), (3, .slice p2 ((l ++ ([⟨p1, k1, lc1, decide (kd sv m1 = 6)⟩] : List JV)).length) c1)]) [0, 2, 3] (by kernel_rfl)).cast (by kernel_rfl), (Ow.subP (A := [(b2, 53, [.slice p1 lc1.length k1, bl (decide (kd sv m1 = 6))]), (b1, 53, [.slice p1 lc1.length k1, bl (decide (kd sv m1 = 6))]), (pb, 60, [str sv, i64 ((m1 : Nat) : Int), .slice none 0 0])]) (A' := [(pb, 60, [str sv, i64 ((m1 : Nat) : Int), .slice none 0 0])]) (B := T4 ++ ((TL2 ++ (T2 ++ T3)) ++ ([]))) hO (.cons _ (.cons _ (.cons_cons _ .slnil)))), hT4, hC1, (by omega), (by omega), (by rw [← hR, List.map_append, lineF_last (by omega) (by rintro ⟨q1, q2⟩; rw [List.length_map] at q1; first | omega | simp_all) hr (by omega)]; exact lineF_done (by omega)), (by simp only [List.length_append, List.length_cons, List.length_nil]; omega), trivial⟩
     rw [h4] at hA
     have h4p := ne_of_beq_false h4
     refine cF hA ?_
     refine sR (l := (rg 0 7)) ?_
     refine ck (l := [0, 1, 2]) (r := [3, 4, 5, 6]) (e' := [(0, pt pb), (2, .slice none 0 0), (3, .slice p2 ((l ++ ([⟨p1, k1, lc1, decide (kd sv m1 = 6)⟩] : List JV)).length) c1), (5, str (tk sv m1)), (54, bl ((tk sv m1).toList == (⟨#[59]⟩ : ByteArray).toList)), (55, bl ((tk sv m1).toList == (⟨#[59]⟩ : ByteArray).toList))]) hA [] c0 ?_
     clear hA fr; intro fr hA
     replace hA := hA.bool (f := fun z_ => [(0, pt pb), (2, .slice none 0 0), (3, .slice p2 ((l ++ ([⟨p1, k1, lc1, decide (kd sv m1 = 6)⟩] : List JV)).length) c1), (5, str (tk sv m1)), (54, .bool z_), (55, .bool z_)]) (tk_semi sv m1 : ((tk sv m1).toList == (⟨#[59]⟩ : ByteArray).toList) = (decide (kd sv m1 = 5)))
     rcases Bool.eq_false_or_eq_true (decide (kd sv m1 = 5)) with h5 | h5
     · rw [h5] at hA
       have h5p := of_decide_eq_true h5
       refine ck (l := [3, 4, 5, 6]) (r := []) (e' := [(0, pt pb), (2, .slice none 0 0), (3, .slice p2 ((l ++ ([⟨p1, k1, lc1, decide (kd sv m1 = 6)⟩] : List JV)).length) c1), (5, str (tk sv m1)), (52, bl true)]) hA [] c0 ?_
       clear hA fr; intro fr hA
       refine end_ops ?_
       refine then_normal ?_
       refine cT hA ?_
       refine rR (l := [0, 1, 2]) ?_
       refine ck (l := [0, 1]) (r := [2]) (e' := [(0, pt pb), (2, .slice none 0 0), (3, .slice p2 ((l ++ ([⟨p1, k1, lc1, decide (kd sv m1 = 6)⟩] : List JV)).length) c1), (59, pt pb), (60, str (tk sv m1))]) hA [] c0 ?_
       clear hA fr; intro fr hA
       refine wpOps_cons' (mC (f := 47) (args := [pt pb, str (tk sv m1)]) (d := (some 61)) hA Try.func47 ((takek_any pb sv m1 _ (by omega) (by omega) (Ow.self (A := [(b2, 53, [.slice p1 lc1.length k1, bl (decide (kd sv m1 = 6))]), (b1, 53, [.slice p1 lc1.length k1, bl (decide (kd sv m1 = 6))])]) (T := TP pb sv m1) (B := ([] ++ (T4 ++ (TL2 ++ (T2 ++ (T3 ++ ([]))))))) (hO.to (by first | rfl | (simp only [TP, apd]))))).mono ?_))
       rintro en w15 ⟨rfl, hW⟩
       refine ⟨_, rfl, ?_⟩
       clear hA fr; intro fr hA
       replace hO := Ow.pass (A := [(b2, 53, [.slice p1 lc1.length k1, bl (decide (kd sv m1 = 6))]), (b1, 53, [.slice p1 lc1.length k1, bl (decide (kd sv m1 = 6))])]) (T := TP pb sv m1) (B := ([] ++ (T4 ++ (TL2 ++ (T2 ++ (T3 ++ ([]))))))) (hO.to (by first | rfl | (simp only [TP, apd]))) hW; clear hW
       replace hO : Ow Try.prog (inT (TP pb sv 0)) w w15 ([(b2, 53, [.slice p1 lc1.length k1, bl (decide (kd sv m1 = 6))]), (b1, 53, [.slice p1 lc1.length k1, bl (decide (kd sv m1 = 6))]), (pb, 60, [str sv, i64 ((nx sv m1 : Nat) : Int), .slice none 0 0])] ++ (T4 ++ (TL2 ++ (T2 ++ (T3 ++ ([])))))) := hO.to (by first | rfl | (simp only [TP, apd]))
       replace hA := hA.sb (e' := [(0, pt pb), (2, .slice none 0 0), (3, .slice p2 ((l ++ ([⟨p1, k1, lc1, decide (kd sv m1 = 6)⟩] : List JV)).length) c1)])
       refine end_ops ?_
       refine inBlock_normal ?_
       refine inBlock_normal ?_
       refine then_normal ?_
       replace hO : Ow Try.prog (inT (TP pb sv 0)) w w15 ([(b2, 53, [.slice p1 lc1.length k1, bl (decide (kd sv m1 = 6))]), (b1, 53, [.slice p1 lc1.length k1, bl (decide (kd sv m1 = 6))]), (pb, 60, [str sv, i64 ((nx sv m1 : Nat) : Int), .slice none 0 0])] ++ (T4 ++ (TL2 ++ (T2 ++ (T3 ++ ([])))))) := hO
       have hC1 : InJ 54 9 (l ++ ([⟨p1, k1, lc1, decide (kd sv m1 = 6)⟩] : List JV)) (TL2 ++ (T2 ++ T3)) := InJ.snoc (x := ⟨p1, k1, lc1, decide (kd sv m1 = 6)⟩) hT2 hT3 hTL2
       replace hO : Ow Try.prog (inT (TP pb sv 0)) w w15 ([(b2, 53, [.slice p1 lc1.length k1, bl (decide (kd sv m1 = 6))]), (b1, 53, [.slice p1 lc1.length k1, bl (decide (kd sv m1 = 6))]), (pb, 60, [str sv, i64 ((nx sv m1 : Nat) : Int), .slice none 0 0])] ++ (T4 ++ ((TL2 ++ (T2 ++ T3)) ++ ([])))) := hO.to (by first | rfl | (simp only [TP, apd]))
       exact ⟨_, by omega, l ++ ([⟨p1, k1, lc1, decide (kd sv m1 = 6)⟩] : List JV), nx sv m1, f, p2, c1, T4, (TL2 ++ (T2 ++ T3)), rfl, (hA.sub (e' := [(0, pt pb), (2, .slice none 0 0), (3, .slice p2 ((l ++ ([⟨p1, k1, lc1, decide (kd sv m1 = 6)⟩] : List JV)).length) c1)]) [0, 2, 3] (by kernel_rfl)).cast (by kernel_rfl), (Ow.subP (A := [(b2, 53, [.slice p1 lc1.length k1, bl (decide (kd sv m1 = 6))]), (b1, 53, [.slice p1 lc1.length k1, bl (decide (kd sv m1 = 6))]), (pb, 60, [str sv, i64 ((nx sv m1 : Nat) : Int), .slice none 0 0])]) (A' := [(pb, 60, [str sv, i64 ((nx sv m1 : Nat) : Int), .slice none 0 0])]) (B := T4 ++ ((TL2 ++ (T2 ++ T3)) ++ ([]))) hO (.cons _ (.cons _ (.cons_cons _ .slnil)))), hT4, hC1, (by omega), (by omega), (by rw [← hR, List.map_append]; exact (lineF_more (by omega) (by rintro ⟨q1, q2⟩; rw [List.length_map] at q1; first | omega | simp_all) hr (by omega)).symm), (by simp only [List.length_append, List.length_cons, List.length_nil]; omega), trivial⟩
     rw [h5] at hA
     have h5p := of_decide_eq_false h5
     refine ck (l := [3, 4, 5, 6]) (r := []) (e' := [(0, pt pb), (2, .slice none 0 0), (3, .slice p2 ((l ++ ([⟨p1, k1, lc1, decide (kd sv m1 = 6)⟩] : List JV)).length) c1), (5, str (tk sv m1)), (52, bl ((tk sv m1).toList == (⟨#[38]⟩ : ByteArray).toList))]) hA [] c0 ?_
     clear hA fr; intro fr hA
     replace hA := hA.bool (f := fun z_ => [(0, pt pb), (2, .slice none 0 0), (3, .slice p2 ((l ++ ([⟨p1, k1, lc1, decide (kd sv m1 = 6)⟩] : List JV)).length) c1), (5, str (tk sv m1)), (52, .bool z_)]) (tk_amp sv m1 : ((tk sv m1).toList == (⟨#[38]⟩ : ByteArray).toList) = (decide (kd sv m1 = 6)))
     refine end_ops ?_
     refine then_normal ?_
     rcases Bool.eq_false_or_eq_true (decide (kd sv m1 = 6)) with h6 | h6
     · replace hA := hA.bool (f := fun z_ => [(0, pt pb), (2, .slice none 0 0), (3, .slice p2 ((l ++ ([⟨p1, k1, lc1, decide (kd sv m1 = 6)⟩] : List JV)).length) c1), (5, str (tk sv m1)), (52, .bool z_)]) h6
       have h6p := of_decide_eq_true h6
       refine cT hA ?_
       refine rR (l := [0, 1, 2]) ?_
       refine ck (l := [0, 1]) (r := [2]) (e' := [(0, pt pb), (2, .slice none 0 0), (3, .slice p2 ((l ++ ([⟨p1, k1, lc1, decide (kd sv m1 = 6)⟩] : List JV)).length) c1), (59, pt pb), (60, str (tk sv m1))]) hA [] c0 ?_
       clear hA fr; intro fr hA
       refine wpOps_cons' (mC (f := 47) (args := [pt pb, str (tk sv m1)]) (d := (some 61)) hA Try.func47 ((takek_any pb sv m1 _ (by omega) (by omega) (Ow.self (A := [(b2, 53, [.slice p1 lc1.length k1, bl (decide (kd sv m1 = 6))]), (b1, 53, [.slice p1 lc1.length k1, bl (decide (kd sv m1 = 6))])]) (T := TP pb sv m1) (B := ([] ++ (T4 ++ (TL2 ++ (T2 ++ (T3 ++ ([]))))))) (hO.to (by first | rfl | (simp only [TP, apd]))))).mono ?_))
       rintro en w16 ⟨rfl, hW⟩
       refine ⟨_, rfl, ?_⟩
       clear hA fr; intro fr hA
       replace hO := Ow.pass (A := [(b2, 53, [.slice p1 lc1.length k1, bl (decide (kd sv m1 = 6))]), (b1, 53, [.slice p1 lc1.length k1, bl (decide (kd sv m1 = 6))])]) (T := TP pb sv m1) (B := ([] ++ (T4 ++ (TL2 ++ (T2 ++ (T3 ++ ([]))))))) (hO.to (by first | rfl | (simp only [TP, apd]))) hW; clear hW
       replace hO : Ow Try.prog (inT (TP pb sv 0)) w w16 ([(b2, 53, [.slice p1 lc1.length k1, bl (decide (kd sv m1 = 6))]), (b1, 53, [.slice p1 lc1.length k1, bl (decide (kd sv m1 = 6))]), (pb, 60, [str sv, i64 ((nx sv m1 : Nat) : Int), .slice none 0 0])] ++ (T4 ++ (TL2 ++ (T2 ++ (T3 ++ ([])))))) := hO.to (by first | rfl | (simp only [TP, apd]))
       replace hA := hA.sb (e' := [(0, pt pb), (2, .slice none 0 0), (3, .slice p2 ((l ++ ([⟨p1, k1, lc1, decide (kd sv m1 = 6)⟩] : List JV)).length) c1)])
       refine end_ops ?_
       refine inBlock_normal ?_
       refine inBlock_normal ?_
       refine then_normal ?_
       replace hO : Ow Try.prog (inT (TP pb sv 0)) w w16 ([(b2, 53, [.slice p1 lc1.length k1, bl (decide (kd sv m1 = 6))]), (b1, 53, [.slice p1 lc1.length k1, bl (decide (kd sv m1 = 6))]), (pb, 60, [str sv, i64 ((nx sv m1 : Nat) : Int), .slice none 0 0])] ++ (T4 ++ (TL2 ++ (T2 ++ (T3 ++ ([])))))) := hO
       have hC1 : InJ 54 9 (l ++ ([⟨p1, k1, lc1, decide (kd sv m1 = 6)⟩] : List JV)) (TL2 ++ (T2 ++ T3)) := InJ.snoc (x := ⟨p1, k1, lc1, decide (kd sv m1 = 6)⟩) hT2 hT3 hTL2
       replace hO : Ow Try.prog (inT (TP pb sv 0)) w w16 ([(b2, 53, [.slice p1 lc1.length k1, bl (decide (kd sv m1 = 6))]), (b1, 53, [.slice p1 lc1.length k1, bl (decide (kd sv m1 = 6))]), (pb, 60, [str sv, i64 ((nx sv m1 : Nat) : Int), .slice none 0 0])] ++ (T4 ++ ((TL2 ++ (T2 ++ T3)) ++ ([])))) := hO.to (by first | rfl | (simp only [TP, apd]))
       exact ⟨_, by omega, l ++ ([⟨p1, k1, lc1, decide (kd sv m1 = 6)⟩] : List JV), nx sv m1, f, p2, c1, T4, (TL2 ++ (T2 ++ T3)), rfl, (hA.sub (e' := [(0, pt pb), (2, .slice none 0 0), (3, .slice p2 ((l ++ ([⟨p1, k1, lc1, decide (kd sv m1 = 6)⟩] : List JV)).length) c1)]) [0, 2, 3] (by kernel_rfl)).cast (by kernel_rfl), (Ow.subP (A := [(b2, 53, [.slice p1 lc1.length k1, bl (decide (kd sv m1 = 6))]), (b1, 53, [.slice p1 lc1.length k1, bl (decide (kd sv m1 = 6))]), (pb, 60, [str sv, i64 ((nx sv m1 : Nat) : Int), .slice none 0 0])]) (A' := [(pb, 60, [str sv, i64 ((nx sv m1 : Nat) : Int), .slice none 0 0])]) (B := T4 ++ ((TL2 ++ (T2 ++ T3)) ++ ([]))) hO (.cons _ (.cons _ (.cons_cons _ .slnil)))), hT4, hC1, (by omega), (by omega), (by rw [← hR, List.map_append]; exact (lineF_more (by omega) (by rintro ⟨q1, q2⟩; rw [List.length_map] at q1; first | omega | simp_all) hr (by omega)).symm), (by simp only [List.length_append, List.length_cons, List.length_nil]; omega), trivial⟩
     replace hA := hA.bool (f := fun z_ => [(0, pt pb), (2, .slice none 0 0), (3, .slice p2 ((l ++ ([⟨p1, k1, lc1, decide (kd sv m1 = 6)⟩] : List JV)).length) c1), (5, str (tk sv m1)), (52, .bool z_)]) h6
     have h6p := of_decide_eq_false h6
     refine cF hA ?_
     refine rR (l := [0, 1]) ?_
     refine ck (l := [0]) (r := [1]) (e' := [(0, pt pb), (2, .slice none 0 0), (3, .slice p2 ((l ++ ([⟨p1, k1, lc1, decide (kd sv m1 = 6)⟩] : List JV)).length) c1), (39, pt pb)]) hA [] c0 ?_
     clear hA fr; intro fr hA
     refine wpOps_cons' (mP (f := 45) (args := [pt pb, i64 3]) (d := (some 40)) hA Try.func45 ((fail_any pb sv m1 _ (by omega) (by omega) 3 (hO.b 2)).mono ?_))
     rintro en w17 ⟨rfl, hW⟩
     refine .inr ⟨_, rfl, ?_⟩
     show _ ∧ _
     exact ⟨hA.dfr, Or.inl ⟨_, _, (by rw [← hR]; exact lineF_bad (by omega) (by rintro ⟨q1, q2⟩; rw [List.length_map] at q1; first | omega | simp_all) hr (by omega)), rfl, Ow.pan0 hO hW⟩⟩
   rw [h2] at hA
   have h2p := ne_of_beq_false h2
   refine ck (l := [4, 5, 6, 7]) (r := []) (e' := [(0, pt pb), (2, .slice none 0 0), (3, .slice pL1 l.length cL1), (25, bl false)]) hA [] c0 ?_
   clear hA fr; intro fr hA
   refine end_ops ?_
   refine then_normal ?_
   refine cF hA ?_
   refine wp_skip ?_
   refine then_normal ?_
   refine sR (l := [0, 1, 2, 3]) ?_
   refine ck (l := [0]) (r := [1, 2, 3]) (e' := [(0, pt pb), (2, .slice none 0 0), (3, .slice pL1 l.length cL1), (28, pt pb)]) hA [] c0 ?_
   clear hA fr; intro fr hA
   refine wpOps_cons' (mP (f := 46) (args := [pt pb]) (d := (some 29)) hA Try.func46 ((job_any pb sv m _ (by omega) (by omega) (Ow.self (A := []) (T := TP pb sv m) (B := ([] ++ (TL1 ++ (TL2 ++ ([]))))) (hO.to (by first | rfl | (simp only [TP, apd]))))).mono ?_))
   rintro en w18 (⟨ea, ee, hr, rfl, hW⟩ | ⟨v2, m2, hr, p3, k2, lc2, T5, T6, rfl, hT5, hT6, hv_, hW, hc2a, hc2b⟩)
   · refine .inr ⟨_, rfl, ?_⟩
     show _ ∧ _
     exact ⟨hA.dfr, Or.inl ⟨_, _, (by rw [← hR]; exact lineF_jobE (by omega) (by rintro ⟨q1, q2⟩; rw [List.length_map] at q1; first | omega | simp_all) hr), rfl, Ow.pan (A := []) (T := TP pb sv m) (B := ([] ++ (TL1 ++ (TL2 ++ ([]))))) (hO.to (by first | rfl | (simp only [TP, apd])) : Ow Try.prog (inT (TP pb sv 0)) w _ ([] ++ (TP pb sv m ++ (([] ++ (TL1 ++ (TL2 ++ ([])))))))) hW⟩⟩
   refine .inl ⟨_, rfl, ?_⟩
   clear hA fr; intro fr hA
   subst hv_
   replace hO := Ow.pass2 (A := []) (T := TP pb sv m) (B := ([] ++ (TL1 ++ (TL2 ++ ([]))))) (T' := TP pb sv m2) (T2 := T5 ++ T6) (hO.to (by first | rfl | (simp only [TP, apd]))) hW; clear hW
   replace hO : Ow Try.prog (inT (TP pb sv 0)) w w18 ([(pb, 60, [str sv, i64 ((m2 : Nat) : Int), .slice none 0 0])] ++ (TL1 ++ (TL2 ++ (T5 ++ (T6 ++ ([])))))) := hO.to (by first | rfl | (simp only [TP, apd]))
   have hnx2 := nx_le (s := sv) (n := m2) (by omega)
   have hgt2 := nx_gt (s := sv) (n := m2)
   have hkd2 := tl_kd sv m2
   have hke2 := kd_end (s := sv) (n := m2) (by omega)
   replace hA := hA.sb (e' := [(0, pt pb), (2, .slice none 0 0), (3, .slice pL1 l.length cL1), (29, .agg #[.slice p3 lc2.length k2, bl false])])
   refine wpOps_cons' (mN (l := [.slice none 0 0, bl false]) (t := 53) (v := pt) (d := 4) hA hO ?_)
   clear hA hO fr; intro fr w19 b3 hA hO
   replace hA := hA.sb (e' := [(0, pt pb), (2, .slice none 0 0), (3, .slice pL1 l.length cL1), (4, pt b3), (29, .agg #[.slice p3 lc2.length k2, bl false])])
   refine wpOps_cons' (mS (off := 0) (vc := [.slice p3 lc2.length k2, bl false]) 0 hA hO ?_)
   clear hO; intro w20 hO
   replace hA := hA.sb (e' := [(0, pt pb), (2, .slice none 0 0), (3, .slice pL1 l.length cL1), (4, pt b3)])
   refine end_ops ?_
   refine then_normal ?_
   refine sR (l := [0, 1, 2]) ?_
   refine ck (l := [0]) (r := [1, 2]) (e' := [(0, pt pb), (2, .slice none 0 0), (3, .slice pL1 l.length cL1), (4, pt b3), (30, pt pb)]) hA [] c0 ?_
   clear hA fr; intro fr hA
   refine wpOps_cons' (mK (f := 44) (args := [pt pb]) (d := (some 31)) (v := str (tk sv m2)) hA hO Try.func44 (next_any pb sv m2 _ (by omega) (by omega) (hO.b 1)) ?_)
   clear hA hO fr; intro fr w21 hA hO
   replace hA := hA.sb (e' := [(0, pt pb), (2, .slice none 0 0), (3, .slice pL1 l.length cL1), (4, pt b3), (31, str (tk sv m2))])
   refine ck (l := [2]) (r := []) (e' := [(0, pt pb), (2, .slice none 0 0), (3, .slice pL1 l.length cL1), (4, pt b3), (5, str (tk sv m2))]) hA [] c0 ?_
   clear hA fr; intro fr hA
   refine end_ops ?_
   refine then_normal ?_
   refine sR (l := [0, 1, 2, 3]) ?_
   refine ck (l := [0, 1, 2]) (r := [3]) (e' := [(0, pt pb), (2, .slice none 0 0), (3, .slice pL1 l.length cL1), (4, pt b3), (5, str (tk sv m2)), (33, bl ((tk sv m2).toList == (⟨#[38]⟩ : ByteArray).toList)), (34, pf b3 1)]) hA [] c0 ?_
   clear hA fr; intro fr hA
   replace hA := hA.bool (f := fun z_ => [(0, pt pb), (2, .slice none 0 0), (3, .slice pL1 l.length cL1), (4, pt b3), (5, str (tk sv m2)), (33, .bool z_), (34, pf b3 1)]) (tk_amp sv m2 : ((tk sv m2).toList == (⟨#[38]⟩ : ByteArray).toList) = (decide (kd sv m2 = 6)))
   refine wpOps_cons' (mS (off := 1) (vc := [bl (decide (kd sv m2 = 6))]) 0 hA hO ?_)
   clear hO; intro w22 hO
   replace hA := hA.sb (e' := [(0, pt pb), (2, .slice none 0 0), (3, .slice pL1 l.length cL1), (4, pt b3), (5, str (tk sv m2))])
   refine end_ops ?_
   refine then_normal ?_
   refine sR (l := (rg 0 5)) ?_
   refine ck (l := [0, 1]) (r := [2, 3, 4]) (e' := [(0, pt pb), (2, .slice none 0 0), (3, .slice pL1 l.length cL1), (5, str (tk sv m2)), (35, .slice pL1 l.length cL1), (36, .agg #[.slice p3 lc2.length k2, bl (decide (kd sv m2 = 6))])]) hA [.agg #[.slice p3 lc2.length k2, bl (decide (kd sv m2 = 6))]] (cc (hO.ln 0 0 53 [.slice p3 lc2.length k2, bl (decide (kd sv m2 = 6))]) c0) ?_
   clear hA fr; intro fr hA
   refine wpOps_cons' (mN (l := [.slice p3 lc2.length k2, bl (decide (kd sv m2 = 6))]) (t := 53) (v := fun b => .slice (some ⟨b, 0, none⟩) 1 1) (d := 37) hA hO ?_)
   clear hA hO fr; intro fr w23 b4 hA hO
   replace hA := hA.sb (e' := [(0, pt pb), (2, .slice none 0 0), (3, .slice pL1 l.length cL1), (5, str (tk sv m2)), (35, .slice pL1 l.length cL1), (37, .slice (some ⟨b4, 0, none⟩) 1 1)])
   replace hO : Ow Try.prog (inT (TP pb sv 0)) w w23 ([(b4, 53, [.slice p3 lc2.length k2, bl (decide (kd sv m2 = 6))]), (b3, 53, [.slice p3 lc2.length k2, bl (decide (kd sv m2 = 6))]), (pb, 60, [str sv, i64 ((m2 : Nat) : Int), .slice none 0 0])] ++ (TL1 ++ (TL2 ++ (T5 ++ (T6 ++ ([])))))) := hO
   refine wpOps_cons' (mA (f := fJ) (el := 53) (sz := 2) (bytes := 32) (p := pL1) (c := cL1) (l := l) (l' := ([⟨p3, k2, lc2, decide (kd sv m2 = 6)⟩] : List JV)) (T := TL1) (t := 23) (tx := 23) (ty := 23) (x := .slice (some ⟨b4, 0, none⟩) 1 1) (d := 38) [(b4, 53, [.slice p3 lc2.length k2, bl (decide (kd sv m2 = 6))]), (b3, 53, [.slice p3 lc2.length k2, bl (decide (kd sv m2 = 6))]), (pb, 60, [str sv, i64 ((m2 : Nat) : Int), .slice none 0 0])] (TL2 ++ (T5 ++ (T6 ++ ([])))) encJ hA hO hTL1 (Vw.src (e' := 53) encJ ((hO.b 0).vw (off := 0) (xs := ([⟨p3, k2, lc2, decide (kd sv m2 = 6)⟩] : List JV)) (by kernel_rfl)) (by kernel_rfl)) (by first | omega | (simp only [List.length_append, List.length_cons, List.length_nil]; omega)) (by unfold maxLen; first | omega | (simp only [List.length_append, List.length_cons, List.length_nil]; omega)) ?_)
   clear hA hO fr; intro fr w24 p4 c2 T7 hA hO hT7
   replace hA := hA.sb (e' := [(0, pt pb), (2, .slice none 0 0), (3, .slice pL1 l.length cL1), (5, str (tk sv m2)), (38, .slice p4 ((l ++ ([⟨p3, k2, lc2, decide (kd sv m2 = 6)⟩] : List JV)).length) c2)])
   refine ck (l := [4]) (r := []) (e' := [(0, pt pb), (2, .slice none 0 0), (3, .slice p4 ((l ++ ([⟨p3, k2, lc2, decide (kd sv m2 = 6)⟩] : List JV)).length) c2), (5, str (tk sv m2))]) hA [] c0 ?_
   clear hA fr; intro fr hA
   refine end_ops ?_
   refine then_normal ?_
   refine wp_block ?_
   refine wp_seq ?_
   have hS : Ow Try.prog (inT (TP pb sv 0)) w _ [(b4, 53, [.slice p3 lc2.length k2, bl (decide (kd sv m2 = 6))]), (b3, 53, [.slice p3 lc2.length k2, bl (decide (kd sv m2 = 6))]), (pb, 60, [str sv, i64 ((m2 : Nat) : Int), .slice none 0 0])] := hO.sub [0, 1, 2]
   refine rP [(0, true), (1, true), (2, true), (3, true), (4, true), (5, true), (6, true), (7, true), (8, true), (9, true), (10, true)] hS ?_
   intro w25 ho; replace hO := hO.st ho; clear ho
   refine ckS (l := (rg 0 11)) (r := []) (e' := [(0, pt pb), (2, .slice none 0 0), (3, .slice p4 ((l ++ ([⟨p3, k2, lc2, decide (kd sv m2 = 6)⟩] : List JV)).length) c2), (5, str (tk sv m2)), (41, bl (((m2 : Nat) : Int) == ((sv.size : Nat) : Int)))]) hA [i64 ((m2 : Nat) : Int), str sv] (cc (hS.s1 2 1 3 (i64 ((m2 : Nat) : Int))) (cc (hS.s1 2 0 9 (str sv)) c0)) ?_
   clear hA fr; intro fr hA
   refine end_plan ?_
   refine then_normal ?_
   rcases Bool.eq_false_or_eq_true (((m2 : Nat) : Int) == ((sv.size : Nat) : Int)) with h7 | h7
   · rw [h7] at hA
     have h7p := eq_of_beq h7
     refine cT hA ?_
     refine wp_skip ?_
     refine inBlock_normal ?_
     refine inBlock_normal ?_
     refine then_normal ?_
     replace hO : Ow Try.prog (inT (TP pb sv 0)) w w25 ([(b4, 53, [.slice p3 lc2.length k2, bl (decide (kd sv m2 = 6))]), (b3, 53, [.slice p3 lc2.length k2, bl (decide (kd sv m2 = 6))]), (pb, 60, [str sv, i64 ((m2 : Nat) : Int), .slice none 0 0])] ++ (T7 ++ (TL2 ++ (T5 ++ (T6 ++ ([])))))) := hO
     have hC1 : InJ 54 9 (l ++ ([⟨p3, k2, lc2, decide (kd sv m2 = 6)⟩] : List JV)) (TL2 ++ (T5 ++ T6)) := InJ.snoc (x := ⟨p3, k2, lc2, decide (kd sv m2 = 6)⟩) hT5 hT6 hTL2
     replace hO : Ow Try.prog (inT (TP pb sv 0)) w w25 ([(b4, 53, [.slice p3 lc2.length k2, bl (decide (kd sv m2 = 6))]), (b3, 53, [.slice p3 lc2.length k2, bl (decide (kd sv m2 = 6))]), (pb, 60, [str sv, i64 ((m2 : Nat) : Int), .slice none 0 0])] ++ (T7 ++ ((TL2 ++ (T5 ++ T6)) ++ ([])))) := hO.to (by first | rfl | (simp only [TP, apd]))
     exact ⟨_, by omega, l ++ ([⟨p3, k2, lc2, decide (kd sv m2 = 6)⟩] : List JV), m2, f, p4, c2, T7, (TL2 ++ (T5 ++ T6)), rfl, (hA.sub (e' := [(0, pt pb), (2, .slice none 0 0), (3, .slice p4 ((l ++ ([⟨p3, k2, lc2, decide (kd sv m2 = 6)⟩] : List JV)).length) c2)]) [0, 2, 3] (by kernel_rfl)).cast (by kernel_rfl), (Ow.subP (A := [(b4, 53, [.slice p3 lc2.length k2, bl (decide (kd sv m2 = 6))]), (b3, 53, [.slice p3 lc2.length k2, bl (decide (kd sv m2 = 6))]), (pb, 60, [str sv, i64 ((m2 : Nat) : Int), .slice none 0 0])]) (A' := [(pb, 60, [str sv, i64 ((m2 : Nat) : Int), .slice none 0 0])]) (B := T7 ++ ((TL2 ++ (T5 ++ T6)) ++ ([]))) hO (.cons _ (.cons _ (.cons_cons _ .slnil)))), hT7, hC1, (by omega), (by omega), (by rw [← hR, List.map_append, lineF_last (by omega) (by rintro ⟨q1, q2⟩; rw [List.length_map] at q1; first | omega | simp_all) hr (by omega)]; exact lineF_done (by omega)), (by simp only [List.length_append, List.length_cons, List.length_nil]; omega), trivial⟩
   rw [h7] at hA
   have h7p := ne_of_beq_false h7
   refine cF hA ?_
   refine sR (l := (rg 0 7)) ?_
   refine ck (l := [0, 1, 2]) (r := [3, 4, 5, 6]) (e' := [(0, pt pb), (2, .slice none 0 0), (3, .slice p4 ((l ++ ([⟨p3, k2, lc2, decide (kd sv m2 = 6)⟩] : List JV)).length) c2), (5, str (tk sv m2)), (54, bl ((tk sv m2).toList == (⟨#[59]⟩ : ByteArray).toList)), (55, bl ((tk sv m2).toList == (⟨#[59]⟩ : ByteArray).toList))]) hA [] c0 ?_
   clear hA fr; intro fr hA
   replace hA := hA.bool (f := fun z_ => [(0, pt pb), (2, .slice none 0 0), (3, .slice p4 ((l ++ ([⟨p3, k2, lc2, decide (kd sv m2 = 6)⟩] : List JV)).length) c2), (5, str (tk sv m2)), (54, .bool z_), (55, .bool z_)]) (tk_semi sv m2 : ((tk sv m2).toList == (⟨#[59]⟩ : ByteArray).toList) = (decide (kd sv m2 = 5)))
   rcases Bool.eq_false_or_eq_true (decide (kd sv m2 = 5)) with h8 | h8
   · rw [h8] at hA
     have h8p := of_decide_eq_true h8
     refine ck (l := [3, 4, 5, 6]) (r := []) (e' := [(0, pt pb), (2, .slice none 0 0), (3, .slice p4 ((l ++ ([⟨p3, k2, lc2, decide (kd sv m2 = 6)⟩] : List JV)).length) c2), (5, str (tk sv m2)), (52, bl true)]) hA [] c0 ?_
     clear hA fr; intro fr hA
     refine end_ops ?_
     refine then_normal ?_
     refine cT hA ?_
     refine rR (l := [0, 1, 2]) ?_
     refine ck (l := [0, 1]) (r := [2]) (e' := [(0, pt pb), (2, .slice none 0 0), (3, .slice p4 ((l ++ ([⟨p3, k2, lc2, decide (kd sv m2 = 6)⟩] : List JV)).length) c2), (59, pt pb), (60, str (tk sv m2))]) hA [] c0 ?_
     clear hA fr; intro fr hA
     refine wpOps_cons' (mC (f := 47) (args := [pt pb, str (tk sv m2)]) (d := (some 61)) hA Try.func47 ((takek_any pb sv m2 _ (by omega) (by omega) (Ow.self (A := [(b4, 53, [.slice p3 lc2.length k2, bl (decide (kd sv m2 = 6))]), (b3, 53, [.slice p3 lc2.length k2, bl (decide (kd sv m2 = 6))])]) (T := TP pb sv m2) (B := ([] ++ (T7 ++ (TL2 ++ (T5 ++ (T6 ++ ([]))))))) (hO.to (by first | rfl | (simp only [TP, apd]))))).mono ?_))
     rintro en w26 ⟨rfl, hW⟩
     refine ⟨_, rfl, ?_⟩
     clear hA fr; intro fr hA
     replace hO := Ow.pass (A := [(b4, 53, [.slice p3 lc2.length k2, bl (decide (kd sv m2 = 6))]), (b3, 53, [.slice p3 lc2.length k2, bl (decide (kd sv m2 = 6))])]) (T := TP pb sv m2) (B := ([] ++ (T7 ++ (TL2 ++ (T5 ++ (T6 ++ ([]))))))) (hO.to (by first | rfl | (simp only [TP, apd]))) hW; clear hW
     replace hO : Ow Try.prog (inT (TP pb sv 0)) w w26 ([(b4, 53, [.slice p3 lc2.length k2, bl (decide (kd sv m2 = 6))]), (b3, 53, [.slice p3 lc2.length k2, bl (decide (kd sv m2 = 6))]), (pb, 60, [str sv, i64 ((nx sv m2 : Nat) : Int), .slice none 0 0])] ++ (T7 ++ (TL2 ++ (T5 ++ (T6 ++ ([])))))) := hO.to (by first | rfl | (simp only [TP, apd]))
     replace hA := hA.sb (e' := [(0, pt pb), (2, .slice none 0 0), (3, .slice p4 ((l ++ ([⟨p3, k2, lc2, decide (kd sv m2 = 6)⟩] : List JV)).length) c2)])
     refine end_ops ?_
     refine inBlock_normal ?_
     refine inBlock_normal ?_
     refine then_normal ?_
     replace hO : Ow Try.prog (inT (TP pb sv 0)) w w26 ([(b4, 53, [.slice p3 lc2.length k2, bl (decide (kd sv m2 = 6))]), (b3, 53, [.slice p3 lc2.length k2, bl (decide (kd sv m2 = 6))]), (pb, 60, [str sv, i64 ((nx sv m2 : Nat) : Int), .slice none 0 0])] ++ (T7 ++ (TL2 ++ (T5 ++ (T6 ++ ([])))))) := hO
     have hC1 : InJ 54 9 (l ++ ([⟨p3, k2, lc2, decide (kd sv m2 = 6)⟩] : List JV)) (TL2 ++ (T5 ++ T6)) := InJ.snoc (x := ⟨p3, k2, lc2, decide (kd sv m2 = 6)⟩) hT5 hT6 hTL2
     replace hO : Ow Try.prog (inT (TP pb sv 0)) w w26 ([(b4, 53, [.slice p3 lc2.length k2, bl (decide (kd sv m2 = 6))]), (b3, 53, [.slice p3 lc2.length k2, bl (decide (kd sv m2 = 6))]), (pb, 60, [str sv, i64 ((nx sv m2 : Nat) : Int), .slice none 0 0])] ++ (T7 ++ ((TL2 ++ (T5 ++ T6)) ++ ([])))) := hO.to (by first | rfl | (simp only [TP, apd]))
     exact ⟨_, by omega, l ++ ([⟨p3, k2, lc2, decide (kd sv m2 = 6)⟩] : List JV), nx sv m2, f, p4, c2, T7, (TL2 ++ (T5 ++ T6)), rfl, (hA.sub (e' := [(0, pt pb), (2, .slice none 0 0), (3, .slice p4 ((l ++ ([⟨p3, k2, lc2, decide (kd sv m2 = 6)⟩] : List JV)).length) c2)]) [0, 2, 3] (by kernel_rfl)).cast (by kernel_rfl), (Ow.subP (A := [(b4, 53, [.slice p3 lc2.length k2, bl (decide (kd sv m2 = 6))]), (b3, 53, [.slice p3 lc2.length k2, bl (decide (kd sv m2 = 6))]), (pb, 60, [str sv, i64 ((nx sv m2 : Nat) : Int), .slice none 0 0])]) (A' := [(pb, 60, [str sv, i64 ((nx sv m2 : Nat) : Int), .slice none 0 0])]) (B := T7 ++ ((TL2 ++ (T5 ++ T6)) ++ ([]))) hO (.cons _ (.cons _ (.cons_cons _ .slnil)))), hT7, hC1, (by omega), (by omega), (by rw [← hR, List.map_append]; exact (lineF_more (by omega) (by rintro ⟨q1, q2⟩; rw [List.length_map] at q1; first | omega | simp_all) hr (by omega)).symm), (by simp only [List.length_append, List.length_cons, List.length_nil]; omega), trivial⟩
   rw [h8] at hA
   have h8p := of_decide_eq_false h8
   refine ck (l := [3, 4, 5, 6]) (r := []) (e' := [(0, pt pb), (2, .slice none 0 0), (3, .slice p4 ((l ++ ([⟨p3, k2, lc2, decide (kd sv m2 = 6)⟩] : List JV)).length) c2), (5, str (tk sv m2)), (52, bl ((tk sv m2).toList == (⟨#[38]⟩ : ByteArray).toList))]) hA [] c0 ?_
   clear hA fr; intro fr hA
   replace hA := hA.bool (f := fun z_ => [(0, pt pb), (2, .slice none 0 0), (3, .slice p4 ((l ++ ([⟨p3, k2, lc2, decide (kd sv m2 = 6)⟩] : List JV)).length) c2), (5, str (tk sv m2)), (52, .bool z_)]) (tk_amp sv m2 : ((tk sv m2).toList == (⟨#[38]⟩ : ByteArray).toList) = (decide (kd sv m2 = 6)))
   refine end_ops ?_
   refine then_normal ?_
   rcases Bool.eq_false_or_eq_true (decide (kd sv m2 = 6)) with h9 | h9
   · replace hA := hA.bool (f := fun z_ => [(0, pt pb), (2, .slice none 0 0), (3, .slice p4 ((l ++ ([⟨p3, k2, lc2, decide (kd sv m2 = 6)⟩] : List JV)).length) c2), (5, str (tk sv m2)), (52, .bool z_)]) h9
     have h9p := of_decide_eq_true h9
     refine cT hA ?_
     refine rR (l := [0, 1, 2]) ?_
     refine ck (l := [0, 1]) (r := [2]) (e' := [(0, pt pb), (2, .slice none 0 0), (3, .slice p4 ((l ++ ([⟨p3, k2, lc2, decide (kd sv m2 = 6)⟩] : List JV)).length) c2), (59, pt pb), (60, str (tk sv m2))]) hA [] c0 ?_
     clear hA fr; intro fr hA
     refine wpOps_cons' (mC (f := 47) (args := [pt pb, str (tk sv m2)]) (d := (some 61)) hA Try.func47 ((takek_any pb sv m2 _ (by omega) (by omega) (Ow.self (A := [(b4, 53, [.slice p3 lc2.length k2, bl (decide (kd sv m2 = 6))]), (b3, 53, [.slice p3 lc2.length k2, bl (decide (kd sv m2 = 6))])]) (T := TP pb sv m2) (B := ([] ++ (T7 ++ (TL2 ++ (T5 ++ (T6 ++ ([]))))))) (hO.to (by first | rfl | (simp only [TP, apd]))))).mono ?_))
     rintro en w27 ⟨rfl, hW⟩
     refine ⟨_, rfl, ?_⟩
     clear hA fr; intro fr hA
     replace hO := Ow.pass (A := [(b4, 53, [.slice p3 lc2.length k2, bl (decide (kd sv m2 = 6))]), (b3, 53, [.slice p3 lc2.length k2, bl (decide (kd sv m2 = 6))])]) (T := TP pb sv m2) (B := ([] ++ (T7 ++ (TL2 ++ (T5 ++ (T6 ++ ([]))))))) (hO.to (by first | rfl | (simp only [TP, apd]))) hW; clear hW
     replace hO : Ow Try.prog (inT (TP pb sv 0)) w w27 ([(b4, 53, [.slice p3 lc2.length k2, bl (decide (kd sv m2 = 6))]), (b3, 53, [.slice p3 lc2.length k2, bl (decide (kd sv m2 = 6))]), (pb, 60, [str sv, i64 ((nx sv m2 : Nat) : Int), .slice none 0 0])] ++ (T7 ++ (TL2 ++ (T5 ++ (T6 ++ ([])))))) := hO.to (by first | rfl | (simp only [TP, apd]))
     replace hA := hA.sb (e' := [(0, pt pb), (2, .slice none 0 0), (3, .slice p4 ((l ++ ([⟨p3, k2, lc2, decide (kd sv m2 = 6)⟩] : List JV)).length) c2)])
     refine end_ops ?_
     refine inBlock_normal ?_
     refine inBlock_normal ?_
     refine then_normal ?_
     replace hO : Ow Try.prog (inT (TP pb sv 0)) w w27 ([(b4, 53, [.slice p3 lc2.length k2, bl (decide (kd sv m2 = 6))]), (b3, 53, [.slice p3 lc2.length k2, bl (decide (kd sv m2 = 6))]), (pb, 60, [str sv, i64 ((nx sv m2 : Nat) : Int), .slice none 0 0])] ++ (T7 ++ (TL2 ++ (T5 ++ (T6 ++ ([])))))) := hO
     have hC1 : InJ 54 9 (l ++ ([⟨p3, k2, lc2, decide (kd sv m2 = 6)⟩] : List JV)) (TL2 ++ (T5 ++ T6)) := InJ.snoc (x := ⟨p3, k2, lc2, decide (kd sv m2 = 6)⟩) hT5 hT6 hTL2
     replace hO : Ow Try.prog (inT (TP pb sv 0)) w w27 ([(b4, 53, [.slice p3 lc2.length k2, bl (decide (kd sv m2 = 6))]), (b3, 53, [.slice p3 lc2.length k2, bl (decide (kd sv m2 = 6))]), (pb, 60, [str sv, i64 ((nx sv m2 : Nat) : Int), .slice none 0 0])] ++ (T7 ++ ((TL2 ++ (T5 ++ T6)) ++ ([])))) := hO.to (by first | rfl | (simp only [TP, apd]))
     exact ⟨_, by omega, l ++ ([⟨p3, k2, lc2, decide (kd sv m2 = 6)⟩] : List JV), nx sv m2, f, p4, c2, T7, (TL2 ++ (T5 ++ T6)), rfl, (hA.sub (e' := [(0, pt pb), (2, .slice none 0 0), (3, .slice p4 ((l ++ ([⟨p3, k2, lc2, decide (kd sv m2 = 6)⟩] : List JV)).length) c2)]) [0, 2, 3] (by kernel_rfl)).cast (by kernel_rfl), (Ow.subP (A := [(b4, 53, [.slice p3 lc2.length k2, bl (decide (kd sv m2 = 6))]), (b3, 53, [.slice p3 lc2.length k2, bl (decide (kd sv m2 = 6))]), (pb, 60, [str sv, i64 ((nx sv m2 : Nat) : Int), .slice none 0 0])]) (A' := [(pb, 60, [str sv, i64 ((nx sv m2 : Nat) : Int), .slice none 0 0])]) (B := T7 ++ ((TL2 ++ (T5 ++ T6)) ++ ([]))) hO (.cons _ (.cons _ (.cons_cons _ .slnil)))), hT7, hC1, (by omega), (by omega), (by rw [← hR, List.map_append]; exact (lineF_more (by omega) (by rintro ⟨q1, q2⟩; rw [List.length_map] at q1; first | omega | simp_all) hr (by omega)).symm), (by simp only [List.length_append, List.length_cons, List.length_nil]; omega), trivial⟩
   replace hA := hA.bool (f := fun z_ => [(0, pt pb), (2, .slice none 0 0), (3, .slice p4 ((l ++ ([⟨p3, k2, lc2, decide (kd sv m2 = 6)⟩] : List JV)).length) c2), (5, str (tk sv m2)), (52, .bool z_)]) h9
   have h9p := of_decide_eq_false h9
   refine cF hA ?_
   refine rR (l := [0, 1]) ?_
   refine ck (l := [0]) (r := [1]) (e' := [(0, pt pb), (2, .slice none 0 0), (3, .slice p4 ((l ++ ([⟨p3, k2, lc2, decide (kd sv m2 = 6)⟩] : List JV)).length) c2), (39, pt pb)]) hA [] c0 ?_
   clear hA fr; intro fr hA
   refine wpOps_cons' (mP (f := 45) (args := [pt pb, i64 3]) (d := (some 40)) hA Try.func45 ((fail_any pb sv m2 _ (by omega) (by omega) 3 (hO.b 2)).mono ?_))
   rintro en w28 ⟨rfl, hW⟩
   refine .inr ⟨_, rfl, ?_⟩
   show _ ∧ _
   exact ⟨hA.dfr, Or.inl ⟨_, _, (by rw [← hR]; exact lineF_bad (by omega) (by rintro ⟨q1, q2⟩; rw [List.length_map] at q1; first | omega | simp_all) hr (by omega)), rfl, Ow.pan0 hO hW⟩⟩
 rw [h1] at hA
 have h1p := of_decide_eq_false h1
 refine cF hA ?_
 refine wp_exit ?_
 refine then_exit ?_
 refine then_exit ?_
 refine inBlock_exit ?_
 refine then_normal ?_
 refine sC (e' := [(2, .slice pL1 l.length cL1)]) 2 hA [] c0 ?_
 clear hA fr; intro fr hA
 refine wp_ret ?_
 refine cR (cs := [none]) (us := [.slice pL1 l.length cL1]) hA [] trivial ?_
 exact Or.inr ⟨m, _, _, l, _, _, by rw [← hR]; exact lineF_done (by omega), rfl, hTL1, hTL2, ((hO : Ow Try.prog (inT (TP pb sv 0)) w _ ([(pb, 60, [str sv, i64 ((m : Nat) : Int), .slice none 0 0])] ++ (TL1 ++ (TL2 ++ ([])))))).to (by simp only [List.append_nil]), by omega⟩

theorem clos_yes (be ba bl_ : Nat) (e0 a0 : Int) (s0 : Value) (h1s : s0.oneCell' = true) (n : Nat) (er : Int) (w : World) (h0 : Ow Try.prog (inT [(be, 24, [i64 e0]), (ba, 3, [i64 a0]), (bl_, 23, [s0])]) w w [(be, 24, [i64 e0]), (ba, 3, [i64 a0]), (bl_, 23, [s0])]) :
    CallsD Try.prog 23 #[pt bl_, pt ba, pt be] (.panicking (pnc n er)) w fun e u' w' => e = .returned (.tuple #[]) ∧ settle u' = .returning ∧ Ow Try.prog (inT [(be, 24, [i64 e0]), (ba, 3, [i64 a0]), (bl_, 23, [s0])]) w w' [(be, 24, [i64 er]), (ba, 3, [i64 ((n : Nat) : Int)]), (bl_, 23, [.slice none 0 0])] := by
 refine callsD_of_wpS Try.func23 rfl fun c₀ cs hu => ?_
 have hA : Holds 21 [] { tmps := #[pt bl_, pt ba, pt be] ++ Array.replicate (Try.f23.ntmps - 3) undef, defers := [] } [(0, pt bl_), (1, pt ba), (2, pt be)] := (Holds.begin [pt bl_, pt ba, pt be] 18)
 have hO := h0
 refine wpS_seq ?_
 refine rec_region (v := .iface 56 (.agg #[i64 ((n : Nat) : Int), i64 er])) hA rfl rfl rfl rfl rfl rfl rfl rfl (by decide) (by decide) (by rw [recoverD_yes hu]) fun fr hA => ?_
 replace hA := hA.sb (e' := [(0, pt bl_), (1, pt ba), (2, pt be), (3, .iface 56 (.agg #[i64 ((n : Nat) : Int), i64 er]))])
 refine sC (e' := [(0, pt bl_), (1, pt ba), (2, pt be), (3, .iface 56 (.agg #[i64 ((n : Nat) : Int), i64 er])), (8, bl true)]) 2 hA [] c0 ?_
 clear hA fr; intro fr hA
 refine cT hA ?_
 refine sR (l := (rg 0 8)) ?_
 refine ck (l := (rg 0 5)) (r := [5, 6, 7]) (e' := [(0, pt bl_), (1, pt ba), (2, pt be), (3, .iface 56 (.agg #[i64 ((n : Nat) : Int), i64 er])), (12, .agg #[i64 ((n : Nat) : Int), i64 er]), (13, bl true)]) hA [] c0 ?_
 clear hA fr; intro fr hA
 refine wpOps_cons' (mN (l := [i64 0, i64 0]) (t := 56) (v := pt) (d := 4) hA hO ?_)
 clear hA hO fr; intro fr w1 b1 hA hO
 replace hA := hA.sb (e' := [(0, pt bl_), (1, pt ba), (2, pt be), (3, .iface 56 (.agg #[i64 ((n : Nat) : Int), i64 er])), (4, pt b1), (12, .agg #[i64 ((n : Nat) : Int), i64 er]), (13, bl true)])
 refine wpOps_cons' (mS (off := 0) (vc := [i64 ((n : Nat) : Int), i64 er]) 0 hA hO ?_)
 clear hO; intro w2 hO
 replace hA := hA.sb (e' := [(0, pt bl_), (1, pt ba), (2, pt be), (3, .iface 56 (.agg #[i64 ((n : Nat) : Int), i64 er])), (4, pt b1), (13, bl true)])
 refine ck (l := [7]) (r := []) (e' := [(0, pt bl_), (1, pt ba), (2, pt be), (3, .iface 56 (.agg #[i64 ((n : Nat) : Int), i64 er])), (4, pt b1), (5, bl true)]) hA [] c0 ?_
 clear hA fr; intro fr hA
 refine end_ops ?_
 refine then_normal ?_
 refine wp_seq ?_
 refine sC (e' := [(0, pt bl_), (1, pt ba), (2, pt be), (3, .iface 56 (.agg #[i64 ((n : Nat) : Int), i64 er])), (4, pt b1), (15, bl false)]) 2 hA [] c0 ?_
 clear hA fr; intro fr hA
 refine cF hA ?_
 refine wp_skip ?_
 refine then_normal ?_
 have hS : Ow Try.prog (inT [(be, 24, [i64 e0]), (ba, 3, [i64 a0]), (bl_, 23, [s0])]) w _ [(b1, 56, [i64 ((n : Nat) : Int), i64 er])] := hO.sub [0]
 refine rP [(0, true), (1, true), (2, true), (3, true), (4, false), (5, false), (6, false)] hS ?_
 intro w3 ho; replace hO := hO.st ho; clear ho
 refine ckS (l := [0, 1, 2, 3]) (r := [(4, false), (5, false), (6, false)]) (e' := [(0, pt bl_), (1, pt ba), (2, pt be), (18, i64 ((n : Nat) : Int)), (20, i64 er)]) hA [i64 ((n : Nat) : Int), i64 er] (cc (hS.s1 0 0 3 (i64 ((n : Nat) : Int))) (cc (hS.s1 0 1 24 (i64 er)) c0)) ?_
 clear hA fr; intro fr hA
 refine plan_mem (mS (off := 0) (vc := [.slice none 0 0]) 3 hA hO ?_)
 clear hO; intro w4 hO
 refine ⟨(hO.sub [0]), ?_⟩
 replace hA := hA.sb (e' := [(1, pt ba), (2, pt be), (18, i64 ((n : Nat) : Int)), (20, i64 er)])
 refine plan_mem (mS (off := 0) (vc := [i64 ((n : Nat) : Int)]) 2 hA hO ?_)
 clear hO; intro w5 hO
 refine ⟨(hO.sub [0]), ?_⟩
 replace hA := hA.sb (e' := [(2, pt be), (20, i64 er)])
 refine plan_mem (mS (off := 0) (vc := [i64 er]) 1 hA hO ?_)
 clear hO; intro w6 hO
 refine ⟨(hO.sub [0]), ?_⟩
 replace hA := hA.sb (e' := [])
 refine end_plan ?_
 exact ⟨hA.dfr, _, rfl, _, res_run hA [] (cs := []) (us := []) trivial rfl, rfl, rfl, (hO.sub [1, 2, 3])⟩

theorem clos_no (be ba bl_ : Nat) (w : World) : CallsD Try.prog 23 #[pt bl_, pt ba, pt be] .returning w fun e u' w' => e = .returned (.tuple #[]) ∧ settle u' = .returning ∧ w' = w := by
 refine callsD_of_wpS Try.func23 rfl fun c₀ cs hu => ?_
 have hA : Holds 21 [] { tmps := #[pt bl_, pt ba, pt be] ++ Array.replicate (Try.f23.ntmps - 3) undef, defers := [] } [(0, pt bl_), (1, pt ba), (2, pt be)] := (Holds.begin [pt bl_, pt ba, pt be] 18)
 refine wpS_seq ?_
 refine rec_region (v := .nilIface) (cs' := c₀ :: cs) hA rfl rfl rfl rfl rfl rfl rfl rfl (by decide) (by decide) (by rw [recoverD_no hu]) fun fr hA => ?_
 replace hA := hA.sb (e' := [(0, pt bl_), (1, pt ba), (2, pt be), (3, .nilIface)])
 refine sC (e' := [(8, bl false)]) 2 hA [] c0 ?_
 clear hA fr; intro fr hA
 refine cF hA ?_
 refine wp_skip ?_
 exact ⟨hA.dfr, c₀.mode, rfl, _, res_run hA [] (cs := []) (us := []) trivial rfl, rfl, by rw [hu]; rfl, rfl⟩

/-- The blocks that were not handed on, behind a panic. -/
theorem Ow.pan3 {P : Program} {X : Nat → Prop} {w₀ w w' : World} {A T B : OwL} (h : Ow P X w₀ w (A ++ (T ++ B))) (k : Only (inT T) w w') : Ow P X w₀ w' (A ++ B) := by
  have hd : ∀ x ∈ A ++ B, ¬ inT T x.1 := fun x hx ⟨y, hy, e⟩ => by
    have hne := h.m.ne
    rw [List.pairwise_append, List.pairwise_append] at hne
    rcases List.mem_append.1 hx with hx | hx
    · exact hne.2.2 x hx y (List.mem_append_left _ hy) e.symm
    · exact hne.2.1.2.2 y hy x hx e
  have h2 := (Ow.drop h).m
  refine (⟨Ow.pan h k, fun x hx => (h2.blk x hx).keep k (hd x hx), h2.ne, h2.new⟩ : OwM _ _ _ _).o

theorem parse_any (sv : ByteArray) (w : World) (hs : sv.size ≤ 1000000) :
    Calls Try.prog 10 #[str sv] w fun e w' => (∃ a b, lineP false sv = .error (a, b) ∧ e = .returned (.tuple #[.slice none 0 0, i64 ((a : Nat) : Int), i64 b]) ∧ Only none' w w') ∨ ∃ p k l T0 T1, lineP false sv = .ok (l.map JV.d) ∧ e = .returned (.tuple #[.slice p l.length k, i64 0, i64 0]) ∧ One fJ 53 2 p k l T0 ∧ InJ 54 9 l T1 ∧ Ow Try.prog none' w w' (T0 ++ T1) ∧ l.length ≤ 1000000 := by
 refine c_enterD (args := [str sv]) (m := 9) (n := 10) Try.func10 rfl (by kernel_rfl) (by kernel_rfl) fun fr hA => ?_
 have hO := Ow.nil Try.prog none' w
 refine sR (l := [0, 1, 2]) ?_
 refine wpOps_cons' (mN (l := [.slice none 0 0]) (t := 23) (v := pt) (d := 2) hA hO ?_)
 clear hA hO fr; intro fr w1 b1 hA hO
 replace hA := hA.sb (e' := [(0, str sv), (2, pt b1)])
 refine wpOps_cons' (mN (l := [i64 0]) (t := 3) (v := pt) (d := 3) hA hO ?_)
 clear hA hO fr; intro fr w2 b2 hA hO
 replace hA := hA.sb (e' := [(0, str sv), (2, pt b1), (3, pt b2)])
 refine wpOps_cons' (mN (l := [i64 0]) (t := 24) (v := pt) (d := 4) hA hO ?_)
 clear hA hO fr; intro fr w3 b3 hA hO
 replace hA := hA.sb (e' := [(0, str sv), (2, pt b1), (3, pt b2), (4, pt b3)])
 refine end_ops ?_
 refine then_normal ?_
 refine sR (l := [0, 1]) ?_
 refine ck (l := [0]) (r := [1]) (e' := [(0, str sv), (2, pt b1), (3, pt b2), (4, pt b3), (5, .func (.func 23) #[] #[pt b1, pt b2, pt b3])]) hA [] c0 ?_
 clear hA fr; intro fr hA
 refine wpOps_cons' (mD (f := 23) (cap := #[pt b1, pt b2, pt b3]) hA ?_)
 clear hA fr; intro fr hA
 replace hA := hA.sb (e' := [(0, str sv), (2, pt b1), (3, pt b2), (4, pt b3)])
 refine end_ops ?_
 refine then_normal ?_
 refine sR (l := (rg 0 7)) ?_
 refine ck (l := [0, 1]) (r := (rg 2 5)) (e' := [(2, pt b1), (3, pt b2), (4, pt b3), (7, .agg #[str sv, i64 0, .slice none 0 0])]) hA [] c0 ?_
 clear hA fr; intro fr hA
 refine wpOps_cons' (mN (l := [str sv, i64 0, .slice none 0 0]) (t := 60) (v := pt) (d := 8) hA hO ?_)
 clear hA hO fr; intro fr w4 b4 hA hO
 replace hA := hA.sb (e' := [(2, pt b1), (3, pt b2), (4, pt b3), (8, pt b4)])
 refine wpOps_cons' (mP (f := 24) (args := [pt b4]) (d := (some 9)) hA Try.func24 ((line_any b4 sv _ hs (Ow.self (A := []) (T := TP b4 sv 0) (B := ([(b3, 24, [i64 0]), (b2, 3, [i64 0]), (b1, 23, [.slice none 0 0])] ++ ([]))) (hO.to (by first | rfl | (simp only [TP, apd]))))).mono ?_))
 rintro en w5 (⟨ea, ee, hr, rfl, hW⟩ | ⟨m_, p_, k_, l_, T0, T1, hr, rfl, hT0, hT1, hW, hll⟩)
 · refine .inr ⟨_, rfl, ?_⟩
   have hO2 := Ow.pan3 (A := []) (T := TP b4 sv 0) (B := ([(b3, 24, [i64 0]), (b2, 3, [i64 0]), (b1, 23, [.slice none 0 0])] ++ ([]))) (hO.to (by first | rfl | (simp only [TP, apd])) : Ow Try.prog none' w _ ([] ++ (TP b4 sv 0 ++ (([(b3, 24, [i64 0]), (b2, 3, [i64 0]), (b1, 23, [.slice none 0 0])] ++ ([])))))) hW
   replace hO2 : Ow Try.prog none' w w5 (([] : OwL) ++ ([(b3, 24, [i64 0]), (b2, 3, [i64 0]), (b1, 23, [.slice none 0 0])] ++ ([] : OwL))) := hO2
   refine ret_deferred (u := .panicking (pnc ea ee)) (S := fun w' => Ow Try.prog (inT [(b3, 24, [i64 0]), (b2, 3, [i64 0]), (b1, 23, [.slice none 0 0])]) w5 w' [(b3, 24, [i64 ee]), (b2, 3, [i64 ((ea : Nat) : Int)]), (b1, 23, [.slice none 0 0])]) hA (fun h => by cases h) Try.func23 (clos_yes b3 b2 b1 0 0 (.slice none 0 0) rfl ea ee w5 (Ow.self hO2)) fun w9 hS => ?_
   have hO3 := Ow.pass hO2 hS
   exact ⟨[.slice none 0 0, i64 ((ea : Nat) : Int), i64 ee], [some (⟨b1, 0, none⟩, 23), some (⟨b2, 0, none⟩, 3), some (⟨b3, 0, none⟩, 24)], [.slice none 0 0, i64 ((ea : Nat) : Int), i64 ee], ⟨hS.l1 2 0 23 _, hS.l1 1 0 3 _, hS.l1 0 0 24 _, trivial⟩, by kernel_rfl, Or.inl ⟨_, _, hr, rfl, hO3.only⟩⟩
 refine .inl ⟨_, rfl, ?_⟩
 clear hA fr; intro fr hA
 replace hO := Ow.pass2 (A := []) (T := TP b4 sv 0) (B := ([(b3, 24, [i64 0]), (b2, 3, [i64 0]), (b1, 23, [.slice none 0 0])] ++ ([]))) (T' := TP b4 sv m_) (T2 := T0 ++ T1) (hO.to (by first | rfl | (simp only [TP, apd]))) hW; clear hW
 replace hO : Ow Try.prog none' w w5 ([(b4, 60, [str sv, i64 ((m_ : Nat) : Int), .slice none 0 0]), (b3, 24, [i64 0]), (b2, 3, [i64 0]), (b1, 23, [.slice none 0 0])] ++ (T0 ++ (T1 ++ ([])))) := hO.to (by first | rfl | (simp only [TP, apd]))
 replace hA := hA.sb (e' := [(2, pt b1), (3, pt b2), (4, pt b3), (9, .slice p_ l_.length k_)])
 refine wpOps_cons' (mS (off := 0) (vc := [.slice p_ l_.length k_]) 3 hA hO ?_)
 clear hO; intro w6 hO
 replace hA := hA.sb (e' := [(2, pt b1), (3, pt b2), (4, pt b3)])
 refine wpOps_cons' (mS (off := 0) (vc := [i64 0]) 2 hA hO ?_)
 clear hO; intro w7 hO
 refine wpOps_cons' (mS (off := 0) (vc := [i64 0]) 1 hA hO ?_)
 clear hO; intro w8 hO
 refine end_ops ?_
 refine then_normal ?_
 refine wp_ret ?_
 refine ret_deferred (u := .returning) (S := fun w' => w' = w8) hA (fun h => by cases h) Try.func23 (clos_no b3 b2 b1 _) fun w9 hS => ?_
 subst hS
 exact ⟨[.slice p_ l_.length k_, i64 0, i64 0], [some (⟨b1, 0, none⟩, 23), some (⟨b2, 0, none⟩, 3), some (⟨b3, 0, none⟩, 24)], [.slice p_ l_.length k_, i64 0, i64 0], ⟨hO.l1 3 0 23 _, hO.l1 2 0 3 _, hO.l1 1 0 24 _, trivial⟩, by kernel_rfl, Or.inr ⟨_, _, l_, _, _, hr, rfl, hT0, hT1, ((Ow.subP (A := [(b4, 60, [str sv, i64 ((m_ : Nat) : Int), .slice none 0 0]), (b3, 24, [i64 0]), (b2, 3, [i64 0]), (b1, 23, [.slice p_ l_.length k_])]) (A' := []) (B := T0 ++ (T1 ++ ([]))) hO (.cons _ (.cons _ (.cons _ (.cons _ .slnil)))))).to (by simp only [List.nil_append, List.append_nil]), hll⟩⟩

end Go.Proofs.Ytfhcpegemapbkaa
