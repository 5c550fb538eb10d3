/- The layer command: the law CommandBlanks. -/
import Derived.Test.YtfhcpegemapbkaaLawgen
set_option linter.unusedVariables false
set_option linter.unusedSimpArgs false
set_option maxRecDepth 10000
namespace Go.Proofs.Ytfhcpegemapbkaa
open Go Go.Shelf Go.RowKit Go.Proofs Go.Proofs.Sx

theorem ext_small {s : ByteArray} (a b : Nat) (h : s.size ≤ 1000000) : (s.extract a b).size ≤ 1000000 := by rw [ByteArray.size_extract]; omega
theorem mod_nat (a : Int) (n : Nat) : ∃ k : Nat, a % (((n : Nat) : Int) + 1) = ((k : Nat) : Int) ∧ k ≤ n := by
 have h1 := Int.emod_nonneg a (b := ((n : Nat) : Int) + 1) (by omega)
 have h2 := Int.emod_lt_of_pos a (b := ((n : Nat) : Int) + 1) (by omega)
 exact ⟨(a % (((n : Nat) : Int) + 1)).toNat, by omega, by omega⟩
/-- The place lies inside a token. -/
def insP (s : ByteArray) (k : Nat) : Bool := decide (0 < k ∧ k < s.size) && ((isWordB (s.extract (((k : Nat) : Int) - 1).toNat k) && isWordB (s.extract k (((k : Nat) : Int) + 1).toNat)) || (sb s (((k : Nat) : Int) - 1).toNat == 62 && sb s k == 62))
section
variable {s : ByteArray} {k : Nat}
theorem insP_lo (h : ¬ (0 < k ∧ k < s.size)) : insP s k = false := by unfold insP; rw [decide_eq_false h, Bool.false_and]
theorem insP_in (h : 0 < k) (h' : k < s.size) : insP s k = ((isWordB (s.extract (((k : Nat) : Int) - 1).toNat k) && isWordB (s.extract k (((k : Nat) : Int) + 1).toNat)) || (sb s (((k : Nat) : Int) - 1).toNat == 62 && sb s k == 62)) := by unfold insP; rw [decide_eq_true ⟨h, h'⟩, Bool.true_and]
theorem isw_one {u : ByteArray} (h : u.size = 1) : isWordB u = partI (sb u 0) := by
 unfold isWordB
 rw [h]
 simp only [okW, Bool.true_and]
 rw [decide_eq_true (by omega), Bool.and_true]
theorem ins_part (i : Nat) (h : i < s.size) (a b : Nat) (ha : a = i) (hb : b = i + 1) : isWordB (s.extract a b) = partI (sb s i) := by
 subst ha; subst hb
 rw [isw_one (by rw [ByteArray.size_extract]; omega), sb_ext (by omega), Nat.add_zero]
theorem hB_drop (p : UInt8 → Bool) (h : k < s.size) : ∃ c : UInt8, sb s k = (c.toNat : Int) ∧ hB p (s.data.toList.drop k) = p c := by
 obtain ⟨c, hc, hs⟩ := drop_at h
 exact ⟨c, hs, by rw [hc]; rfl⟩
theorem last_take (h : 0 < k) (h' : k ≤ s.size) : ∃ c : UInt8, sb s (k - 1) = (c.toNat : Int) ∧ (s.data.toList.take k).getLast? = some c := by
 have hl := size_list s
 refine ⟨s.data.toList[k - 1]'(by omega), ?_, ?_⟩
 · unfold sb
   rw [List.getD_eq_getElem?_getD, List.getElem?_eq_getElem (by omega)]; rfl
 rw [List.getLast?_eq_getElem?, List.length_take, Nat.min_eq_left (by omega), List.getElem?_take, if_pos (by omega), List.getElem?_eq_getElem (by omega)]
theorem meet_ins (hk : k ≤ s.size) (h : insP s k = false) : meet (s.data.toList.take k) (s.data.toList.drop k) = true := by
  by_cases h0 : 0 < k ∧ k < s.size
  · rw [insP_in h0.1 h0.2, ins_part (k - 1) (by omega) _ _ (by omega) (by omega), ins_part k h0.2 _ _ rfl (by omega), show (((k : Nat) : Int) - 1).toNat = k - 1 by omega] at h
    obtain ⟨c, hc, hl⟩ := last_take h0.1 hk
    obtain ⟨d, hd, e1⟩ := hB_drop pB h0.2
    obtain ⟨d', hd', e2⟩ := hB_drop (· == 62) h0.2
    have : d = d' := UInt8.toNat_inj.1 (by omega)
    subst this
    unfold meet
    rw [hl]
    simp only
    rw [e1, e2]
    unfold pB
    rw [← hc, ← hd]
    have q : ∀ x : UInt8, (x == 62) = ((x.toNat : Int) == 62) := fun x => by
      rw [Bool.eq_iff_iff, beq_iff_eq, beq_iff_eq]
      exact ⟨fun e => by rw [e]; rfl, fun e => UInt8.toNat_inj.1 (by show x.toNat = 62; omega)⟩
    rw [q c, q d, ← hc, ← hd, h]; rfl
  · by_cases h1 : k = 0
    · subst h1; rfl
    · refine meet_no ?_ ?_ <;> rw [List.drop_eq_nil_of_le (by rw [size_list]; omega)] <;> rfl
theorem blanks_same {s2 : ByteArray} {g : ByteArray} (hk : k ≤ s.size) (hg : g = ⟨#[32]⟩ ∨ g = ⟨#[9]⟩) (h2 : s2 = s.extract 0 k ++ g ++ s.extract k s.size) (h : insP s k = false) : errE (lineP false s) = errE (lineP false s2) ∧ okL (lineP false s) = okL (lineP false s2) := by
  refine eL_same (lineP_cong ?_)
  have e1 : (s.extract 0 k).data.toList = s.data.toList.take k := by rw [ext_bytes]; simp
  have e2 : (s.extract k s.size).data.toList = s.data.toList.drop k := by rw [ext_bytes, List.take_of_length_le (by rw [List.length_drop, size_list]; omega)]
  have e3 : s2.data.toList = s.data.toList.take k ++ (g.data.toList ++ s.data.toList.drop k) := by
    rw [h2, ByteArray.data_append, ByteArray.data_append, Array.toList_append, Array.toList_append, e1, e2, List.append_assoc]
  have hm := meet_ins hk h
  rw [e3]
  rcases hg with rfl | rfl
  · have := lex_gap (g := 32) (.inl rfl) hm
    rw [List.take_append_drop] at this
    exact this.symm
  · have := lex_gap (g := 9) (.inr rfl) hm
    rw [List.take_append_drop] at this
    exact this.symm
end

theorem law_blanks (sv : ByteArray) (a_ : Int) (z : Bool) (w : World) (ha0 : 0 ≤ a_) (ha1 : a_ ≤ 65535) :
    Calls Try.prog 6 #[str sv, .int .u16 a_, bl z] w fun e w' => e = .returned (.bool true) ∧ Only none' w w' := by
 refine c_enter (args := [str sv, .int .u16 a_, bl z]) (m := 95) (n := 98) Try.func6 rfl (by kernel_rfl) (by kernel_rfl) fun fr hA => ?_
 have hO := Ow.nil Try.prog none' w
 obtain ⟨k, hk_, hks⟩ := mod_nat a_ sv.size
 have hz1 : (⟨#[32]⟩ : ByteArray).size = 1 := rfl
 have hz2 : (⟨#[9]⟩ : ByteArray).size = 1 := rfl
 obtain ⟨s1, hs1⟩ : ∃ s1, s1 = sv.extract 0 k ++ (⟨#[32]⟩ : ByteArray) ++ sv.extract k sv.size := ⟨_, rfl⟩
 obtain ⟨s2, hs2⟩ : ∃ s2, s2 = sv.extract 0 k ++ (⟨#[9]⟩ : ByteArray) ++ sv.extract k sv.size := ⟨_, rfl⟩
 refine sC (e' := [(0, str sv), (1, .int .u16 a_), (2, bl z), (6, bl false)]) 1 hA [] c0 ?_
 clear hA fr; intro fr hA
 refine wp_seq ?_
 refine sR (l := [0, 1]) ?_
 refine wpOps_cons' (mK (f := 9) (args := []) (d := (some 16)) (v := bl true) hA hO Try.func9 (awake_any _) ?_)
 clear hA hO fr; intro fr w1 hA hO
 replace hA := hA.sb (e' := [(0, str sv), (1, .int .u16 a_), (2, bl z), (6, bl false), (16, bl true)])
 refine ck (l := [1]) (r := []) (e' := [(0, str sv), (1, .int .u16 a_), (2, bl z), (6, bl false), (17, bl false)]) hA [] c0 ?_
 clear hA fr; intro fr hA
 refine end_ops ?_
 refine then_normal ?_
 refine cF hA ?_
 refine wp_skip ?_
 refine then_normal ?_
 refine wp_seq ?_
 refine sC (e' := [(0, str sv), (1, .int .u16 a_), (2, bl z), (6, bl false), (20, bl (decide (((sv.size : Nat) : Int) > 500)))]) 3 hA [] c0 ?_
 clear hA fr; intro fr hA
 rcases Bool.eq_false_or_eq_true (decide (((sv.size : Nat) : Int) > 500)) with h1 | h1
 · rw [h1] at hA
   have h1p := of_decide_eq_true h1
   refine cT hA ?_
   refine sC (e' := [(6, bl true)]) 1 hA [] c0 ?_
   clear hA fr; intro fr hA
   refine wp_ret ?_
   refine then_ret ?_
   refine cR (cs := [none]) (us := [bl true]) hA [] trivial ?_
   have hF := hO.only; clear hA hO
   exact ⟨rfl, hF⟩
 rw [h1] at hA
 have h1p := of_decide_eq_false h1
 refine cF hA ?_
 refine wp_skip ?_
 refine then_normal ?_
 refine sC (e' := [(0, str sv), (2, bl z), (6, bl false), (7, i64 (a_ % (((sv.size : Nat) : Int) + 1)))]) 7 hA [bl true, bl true, bl true] (cc ((inK_i64 (by omega) (by omega)) : inK .i64 a_) (cc ((inK_i64 (by omega) (by omega)) : inK .i64 (((sv.size : Nat) : Int) + 1)) (cc (⟨by omega, by omega, inK_i64 (by omega) (by omega)⟩ : (0 : Int) ≤ a_ ∧ (0 : Int) < ((sv.size : Nat) : Int) + 1 ∧ inK .i64 a_) c0))) ?_
 clear hA fr; intro fr hA
 replace hA := hA.int (f := fun z_ => [(0, str sv), (2, bl z), (6, bl false), (7, .int .i64 z_)]) (hk_ : a_ % (((sv.size : Nat) : Int) + 1) = ((k : Nat) : Int))
 refine sJ (fun fr W => Holds 98 [] fr [(0, str sv), (2, bl z), (6, bl false), (7, i64 ((k : Nat) : Int)), (8, bl (insP sv k))] ∧ Ow Try.prog none' w W [] ∧ True) ?_ ?_
 · rintro fr w2 ⟨hA, hO, -⟩
   refine sC (e' := [(0, str sv), (2, bl z), (6, bl false), (7, i64 ((k : Nat) : Int)), (8, bl (insP sv k)), (9, str (⟨#[32]⟩))]) 1 hA [] c0 ?_
   clear hA fr; intro fr hA
   refine wp_seq ?_
   refine sC (e' := [(0, str sv), (6, bl false), (7, i64 ((k : Nat) : Int)), (8, bl (insP sv k)), (9, str (⟨#[32]⟩)), (64, bl z)]) 1 hA [] c0 ?_
   clear hA fr; intro fr hA
   rcases Bool.eq_false_or_eq_true (z) with h2 | h2
   · rw [h2] at hA
     refine cT hA ?_
     refine rC (e' := [(0, str sv), (6, bl false), (7, i64 ((k : Nat) : Int)), (8, bl (insP sv k)), (9, str (⟨#[9]⟩))]) 1 hA [] c0 ?_
     clear hA fr; intro fr hA
     refine then_normal ?_
     refine sR (l := (rg 0 9)) ?_
     refine ck (l := [0]) (r := (rg 1 8)) (e' := [(0, str sv), (6, bl false), (7, i64 ((k : Nat) : Int)), (8, bl (insP sv k)), (9, str (⟨#[9]⟩)), (66, str sv)]) hA [] c0 ?_
     clear hA fr; intro fr hA
     refine wpOps_cons' (mC (f := 10) (args := [str sv]) (d := (some 67)) hA Try.func10 ((parse_gen (sv := sv) _ (by first | omega | (simp only [hs1, hs2, ByteArray.size_append, ByteArray.size_extract, hz1, hz2]; omega))).mono ?_))
     rintro en w3 ⟨p1, k1, l1, T1, T2, a1, hj1, rfl, hT1, hT2, hW⟩
     refine ⟨_, rfl, ?_⟩
     clear hA fr; intro fr hA
     replace hO : Ow Try.prog none' w _ ([] ++ []) := hO.to (List.append_nil _).symm
     replace hO := Ow.join hO hW; clear hW
     replace hO : Ow Try.prog none' w _ ([] ++ (T1 ++ (T2 ++ ([])))) := hO.to (by first | rfl | (simp only [TP, apd]))
     have hsml1 : smL 1000000 (l1.map JV.d) := by rw [hj1]; exact okL_small _
     replace hA := hA.sb (e' := [(0, str sv), (6, bl false), (7, i64 ((k : Nat) : Int)), (8, bl (insP sv k)), (9, str (⟨#[9]⟩)), (67, .tuple #[.slice p1 l1.length k1, i64 ((a1 : Nat) : Int), i64 (errE (lineP false sv))])])
     refine ck (l := (rg 2 7)) (r := []) (e' := [(0, str sv), (6, bl false), (7, i64 ((k : Nat) : Int)), (8, bl (insP sv k)), (9, str (⟨#[9]⟩)), (10, .slice p1 l1.length k1), (12, i64 (errE (lineP false sv)))]) hA [] c0 ?_
     clear hA fr; intro fr hA
     refine end_ops ?_
     refine then_normal ?_
     refine wp_seq ?_
     have hS : Ow Try.prog none' w _ [] := hO.sub []
     refine rP [(0, true), (1, true), (2, true), (3, true), (4, true), (5, true), (6, true), (7, true), (8, true), (9, false), (10, true), (11, true), (12, true), (13, true), (14, true), (15, true), (16, true)] hS ?_
     intro w4 ho; replace hO := hO.st ho; clear ho
     refine ckS (l := (rg 0 9)) (r := [(9, false), (10, true), (11, true), (12, true), (13, true), (14, true), (15, true), (16, true)]) (e' := [(6, bl false), (8, bl (insP sv k)), (10, .slice p1 l1.length k1), (12, i64 (errE (lineP false sv))), (80, str (((sv.extract 0 k) ++ (⟨#[9]⟩ : ByteArray)) ++ (sv.extract k sv.size)))]) hA [] (cc (⟨by omega, by omega, by omega⟩ : (0 : Int) ≤ 0 ∧ (0 : Int) ≤ ((k : Nat) : Int) ∧ (((k : Nat) : Int) : Int) ≤ ((sv.size : Nat) : Int)) (cc (by simp only [ByteArray.size_append, ByteArray.size_extract, hz1, hz2]; omega : (sv.extract 0 k).size + (⟨#[9]⟩ : ByteArray).size ≤ 9223372036854775807) (cc (⟨by omega, by omega, by omega⟩ : (0 : Int) ≤ ((k : Nat) : Int) ∧ (((k : Nat) : Int) : Int) ≤ ((sv.size : Nat) : Int) ∧ (((sv.size : Nat) : Int) : Int) ≤ ((sv.size : Nat) : Int)) (cc (by simp only [ByteArray.size_append, ByteArray.size_extract, hz1, hz2]; omega : ((sv.extract 0 k) ++ (⟨#[9]⟩ : ByteArray)).size + (sv.extract k sv.size).size ≤ 9223372036854775807) c0)))) ?_
     clear hA fr; intro fr hA
     rw [show (((sv.extract 0 k) ++ (⟨#[9]⟩ : ByteArray)) ++ (sv.extract k sv.size)) = s2 from hs2.symm] at hA
     refine plan_mem (mC (f := 10) (args := [str s2]) (d := (some 81)) hA Try.func10 ((parse_gen (sv := s2) _ (by first | omega | (simp only [hs1, hs2, ByteArray.size_append, ByteArray.size_extract, hz1, hz2]; omega))).mono ?_))
     rintro en w5 ⟨p2, k2, l2, T3, T4, a2, hj2, rfl, hT3, hT4, hW⟩
     refine ⟨_, rfl, ?_⟩
     clear hA fr; intro fr hA
     replace hO := Ow.join hO hW; clear hW
     replace hO : Ow Try.prog none' w _ ([] ++ (T1 ++ (T2 ++ (T3 ++ (T4 ++ ([])))))) := hO.to (by first | rfl | (simp only [TP, apd]))
     have hsml2 : smL 1000000 (l2.map JV.d) := by rw [hj2]; exact okL_small _
     refine ⟨(hO.sub []), ?_⟩
     replace hA := hA.sb (e' := [(6, bl false), (8, bl (insP sv k)), (10, .slice p1 l1.length k1), (12, i64 (errE (lineP false sv))), (81, .tuple #[.slice p2 l2.length k2, i64 ((a2 : Nat) : Int), i64 (errE (lineP false s2))])])
     refine ckS (l := (rg 10 7)) (r := []) (e' := [(6, bl false), (8, bl (insP sv k)), (10, .slice p1 l1.length k1), (12, i64 (errE (lineP false sv))), (13, .slice p2 l2.length k2), (15, i64 (errE (lineP false s2)))]) hA [] c0 ?_
     clear hA fr; intro fr hA
     refine end_plan ?_
     refine then_normal ?_
     refine sR (l := (rg 0 14)) ?_
     refine ck (l := [0, 1]) (r := (rg 2 12)) (e' := [(6, bl false), (8, bl (insP sv k)), (10, .slice p1 l1.length k1), (12, i64 (errE (lineP false sv))), (13, .slice p2 l2.length k2), (15, i64 (errE (lineP false s2))), (85, bl (insP sv k)), (86, bl (insP sv k))]) hA [] c0 ?_
     clear hA fr; intro fr hA
     rcases Bool.eq_false_or_eq_true (insP sv k) with h3 | h3
     · rw [h3] at hA
       refine ck (l := (rg 2 12)) (r := []) (e' := [(6, bl true)]) hA [] c0 ?_
       clear hA fr; intro fr hA
       refine end_ops ?_
       refine then_normal ?_
       refine wp_ret ?_
       refine cR (cs := [none]) (us := [bl true]) hA [] trivial ?_
       have hF := hO.only; clear hA hO
       exact ⟨rfl, hF⟩
     rw [h3] at hA
     have hes2 := blanks_same hks (.inr rfl) hs2 h3
     refine ck (l := [2, 3, 4, 5]) (r := (rg 6 8)) (e' := [(6, bl false), (10, .slice p1 l1.length k1), (13, .slice p2 l2.length k2), (86, bl false), (89, bl ((errE (lineP false sv)) == (errE (lineP false s2)))), (90, bl ((errE (lineP false sv)) == (errE (lineP false s2))))]) hA [] c0 ?_
     clear hA fr; intro fr hA
     rw [(beq_iff_eq.2 hes2.1 : ((errE (lineP false sv)) == (errE (lineP false s2))) = (true))] at hA
     refine ck (l := [6]) (r := (rg 7 7)) (e' := [(6, bl false), (13, .slice p2 l2.length k2), (86, bl false), (90, bl true), (91, .slice p1 l1.length k1)]) hA [] c0 ?_
     clear hA fr; intro fr hA
     refine wpOps_cons' (mC (f := 13) (args := [.slice p1 l1.length k1]) (d := (some 92)) hA Try.func13 ((Theirs_any p1 k1 l1 _ (VL_own (A := ([] ++ ([]))) (B := T3 ++ (T4 ++ ([]))) hT1 hT2 (hO.to (by first | rfl | (simp only [TP, apd])))) hsml1).mono ?_))
     rintro en w6 ⟨p3, k3, r1, T5, T6, rfl, hT5, hT6, hsim1, hW⟩
     refine ⟨_, rfl, ?_⟩
     clear hA fr; intro fr hA
     replace hO := Ow.join hO hW; clear hW
     replace hO : Ow Try.prog none' w _ ([] ++ (T1 ++ (T2 ++ (T3 ++ (T4 ++ (T5 ++ (T6 ++ ([])))))))) := hO.to (by first | rfl | (simp only [TP, apd]))
     replace hA := hA.sb (e' := [(6, bl false), (13, .slice p2 l2.length k2), (86, bl false), (90, bl true), (92, .slice p3 r1.length k3)])
     refine ck (l := [8]) (r := (rg 9 5)) (e' := [(6, bl false), (86, bl false), (90, bl true), (92, .slice p3 r1.length k3), (93, .slice p2 l2.length k2)]) hA [] c0 ?_
     clear hA fr; intro fr hA
     refine wpOps_cons' (mC (f := 13) (args := [.slice p2 l2.length k2]) (d := (some 94)) hA Try.func13 ((Theirs_any p2 k2 l2 _ (VL_own (A := ([] ++ (T1 ++ (T2 ++ ([]))))) (B := T5 ++ (T6 ++ ([]))) hT3 hT4 (hO.to (by first | rfl | (simp only [TP, apd])))) hsml2).mono ?_))
     rintro en w7 ⟨p4, k4, r2, T7, T8, rfl, hT7, hT8, hsim2, hW⟩
     refine ⟨_, rfl, ?_⟩
     clear hA fr; intro fr hA
     replace hO := Ow.join hO hW; clear hW
     replace hO : Ow Try.prog none' w _ ([] ++ (T1 ++ (T2 ++ (T3 ++ (T4 ++ (T5 ++ (T6 ++ (T7 ++ (T8 ++ ([])))))))))) := hO.to (by first | rfl | (simp only [TP, apd]))
     replace hA := hA.sb (e' := [(6, bl false), (86, bl false), (90, bl true), (92, .slice p3 r1.length k3), (94, .slice p4 r2.length k4)])
     refine wpOps_cons' (mK (f := 12) (args := [.slice p3 r1.length k3, .slice p4 r2.length k4]) (d := (some 95)) (v := bl true) hA hO Try.func12 (rs (REqual_any p3 p4 k3 k4 r1 r2 _ (VL_copy (A := ([] ++ (T1 ++ (T2 ++ (T3 ++ (T4 ++ ([]))))))) (B := T7 ++ (T8 ++ ([]))) hT5 hT6 hsim1 (VL_own (A := ([] ++ ([]))) (B := T3 ++ (T4 ++ (T5 ++ (T6 ++ (T7 ++ (T8 ++ ([]))))))) hT1 hT2 (hO.to (by first | rfl | (simp only [TP, apd])))) (hO.to (by first | rfl | (simp only [TP, apd])))) (VL_copy (A := ([] ++ (T1 ++ (T2 ++ (T3 ++ (T4 ++ (T5 ++ (T6 ++ ([]))))))))) (B := []) hT7 hT8 hsim2 (VL_own (A := ([] ++ (T1 ++ (T2 ++ ([]))))) (B := T5 ++ (T6 ++ (T7 ++ (T8 ++ ([]))))) hT3 hT4 (hO.to (by first | rfl | (simp only [TP, apd])))) (hO.to (by first | rfl | (simp only [TP, apd])))) (sim_sm hsim1 hsml1)) (congrArg Value.bool (eqL_of (((sim_d hsim1).trans hj1).trans ((hes2.2).trans ((sim_d hsim2).trans hj2).symm))))) ?_)
     clear hA hO fr; intro fr w8 hA hO
     replace hA := hA.sb (e' := [(6, bl false), (86, bl false), (90, bl true), (95, bl true)])
     refine ck (l := [11, 12, 13]) (r := []) (e' := [(6, bl true)]) hA [] c0 ?_
     clear hA fr; intro fr hA
     refine end_ops ?_
     refine then_normal ?_
     refine wp_ret ?_
     refine cR (cs := [none]) (us := [bl true]) hA [] trivial ?_
     have hF := hO.only; clear hA hO
     exact ⟨rfl, hF⟩
   rw [h2] at hA
   refine cF hA ?_
   refine wp_skip ?_
   refine then_normal ?_
   refine sR (l := (rg 0 9)) ?_
   refine ck (l := [0]) (r := (rg 1 8)) (e' := [(0, str sv), (6, bl false), (7, i64 ((k : Nat) : Int)), (8, bl (insP sv k)), (9, str (⟨#[32]⟩)), (66, str sv)]) hA [] c0 ?_
   clear hA fr; intro fr hA
   refine wpOps_cons' (mC (f := 10) (args := [str sv]) (d := (some 67)) hA Try.func10 ((parse_gen (sv := sv) _ (by first | omega | (simp only [hs1, hs2, ByteArray.size_append, ByteArray.size_extract, hz1, hz2]; omega))).mono ?_))
   rintro en w9 ⟨p5, k5, l3, T9, T10, a3, hj3, rfl, hT9, hT10, hW⟩
   refine ⟨_, rfl, ?_⟩
   clear hA fr; intro fr hA
   replace hO : Ow Try.prog none' w _ ([] ++ []) := hO.to (List.append_nil _).symm
   replace hO := Ow.join hO hW; clear hW
   replace hO : Ow Try.prog none' w _ ([] ++ (T9 ++ (T10 ++ ([])))) := hO.to (by first | rfl | (simp only [TP, apd]))
   have hsml3 : smL 1000000 (l3.map JV.d) := by rw [hj3]; exact okL_small _
   replace hA := hA.sb (e' := [(0, str sv), (6, bl false), (7, i64 ((k : Nat) : Int)), (8, bl (insP sv k)), (9, str (⟨#[32]⟩)), (67, .tuple #[.slice p5 l3.length k5, i64 ((a3 : Nat) : Int), i64 (errE (lineP false sv))])])
   refine ck (l := (rg 2 7)) (r := []) (e' := [(0, str sv), (6, bl false), (7, i64 ((k : Nat) : Int)), (8, bl (insP sv k)), (9, str (⟨#[32]⟩)), (10, .slice p5 l3.length k5), (12, i64 (errE (lineP false sv)))]) hA [] c0 ?_
   clear hA fr; intro fr hA
   refine end_ops ?_
   refine then_normal ?_
   refine wp_seq ?_
   have hS : Ow Try.prog none' w _ [] := hO.sub []
   refine rP [(0, true), (1, true), (2, true), (3, true), (4, true), (5, true), (6, true), (7, true), (8, true), (9, false), (10, true), (11, true), (12, true), (13, true), (14, true), (15, true), (16, true)] hS ?_
   intro w10 ho; replace hO := hO.st ho; clear ho
   refine ckS (l := (rg 0 9)) (r := [(9, false), (10, true), (11, true), (12, true), (13, true), (14, true), (15, true), (16, true)]) (e' := [(6, bl false), (8, bl (insP sv k)), (10, .slice p5 l3.length k5), (12, i64 (errE (lineP false sv))), (80, str (((sv.extract 0 k) ++ (⟨#[32]⟩ : ByteArray)) ++ (sv.extract k sv.size)))]) hA [] (cc (⟨by omega, by omega, by omega⟩ : (0 : Int) ≤ 0 ∧ (0 : Int) ≤ ((k : Nat) : Int) ∧ (((k : Nat) : Int) : Int) ≤ ((sv.size : Nat) : Int)) (cc (by simp only [ByteArray.size_append, ByteArray.size_extract, hz1, hz2]; omega : (sv.extract 0 k).size + (⟨#[32]⟩ : ByteArray).size ≤ 9223372036854775807) (cc (⟨by omega, by omega, by omega⟩ : (0 : Int) ≤ ((k : Nat) : Int) ∧ (((k : Nat) : Int) : Int) ≤ ((sv.size : Nat) : Int) ∧ (((sv.size : Nat) : Int) : Int) ≤ ((sv.size : Nat) : Int)) (cc (by simp only [ByteArray.size_append, ByteArray.size_extract, hz1, hz2]; omega : ((sv.extract 0 k) ++ (⟨#[32]⟩ : ByteArray)).size + (sv.extract k sv.size).size ≤ 9223372036854775807) c0)))) ?_
   clear hA fr; intro fr hA
   rw [show (((sv.extract 0 k) ++ (⟨#[32]⟩ : ByteArray)) ++ (sv.extract k sv.size)) = s1 from hs1.symm] at hA
   refine plan_mem (mC (f := 10) (args := [str s1]) (d := (some 81)) hA Try.func10 ((parse_gen (sv := s1) _ (by first | omega | (simp only [hs1, hs2, ByteArray.size_append, ByteArray.size_extract, hz1, hz2]; omega))).mono ?_))
   rintro en w11 ⟨p6, k6, l4, T11, T12, a4, hj4, rfl, hT11, hT12, hW⟩
   refine ⟨_, rfl, ?_⟩
   clear hA fr; intro fr hA
   replace hO := Ow.join hO hW; clear hW
   replace hO : Ow Try.prog none' w _ ([] ++ (T9 ++ (T10 ++ (T11 ++ (T12 ++ ([])))))) := hO.to (by first | rfl | (simp only [TP, apd]))
   have hsml4 : smL 1000000 (l4.map JV.d) := by rw [hj4]; exact okL_small _
   refine ⟨(hO.sub []), ?_⟩
   replace hA := hA.sb (e' := [(6, bl false), (8, bl (insP sv k)), (10, .slice p5 l3.length k5), (12, i64 (errE (lineP false sv))), (81, .tuple #[.slice p6 l4.length k6, i64 ((a4 : Nat) : Int), i64 (errE (lineP false s1))])])
   refine ckS (l := (rg 10 7)) (r := []) (e' := [(6, bl false), (8, bl (insP sv k)), (10, .slice p5 l3.length k5), (12, i64 (errE (lineP false sv))), (13, .slice p6 l4.length k6), (15, i64 (errE (lineP false s1)))]) hA [] c0 ?_
   clear hA fr; intro fr hA
   refine end_plan ?_
   refine then_normal ?_
   refine sR (l := (rg 0 14)) ?_
   refine ck (l := [0, 1]) (r := (rg 2 12)) (e' := [(6, bl false), (8, bl (insP sv k)), (10, .slice p5 l3.length k5), (12, i64 (errE (lineP false sv))), (13, .slice p6 l4.length k6), (15, i64 (errE (lineP false s1))), (85, bl (insP sv k)), (86, bl (insP sv k))]) hA [] c0 ?_
   clear hA fr; intro fr hA
   rcases Bool.eq_false_or_eq_true (insP sv k) with h4 | h4
   · rw [h4] at hA
     refine ck (l := (rg 2 12)) (r := []) (e' := [(6, bl true)]) hA [] c0 ?_
     clear hA fr; intro fr hA
     refine end_ops ?_
     refine then_normal ?_
     refine wp_ret ?_
     refine cR (cs := [none]) (us := [bl true]) hA [] trivial ?_
     have hF := hO.only; clear hA hO
     exact ⟨rfl, hF⟩
   rw [h4] at hA
   have hes1 := blanks_same hks (.inl rfl) hs1 h4
   refine ck (l := [2, 3, 4, 5]) (r := (rg 6 8)) (e' := [(6, bl false), (10, .slice p5 l3.length k5), (13, .slice p6 l4.length k6), (86, bl false), (89, bl ((errE (lineP false sv)) == (errE (lineP false s1)))), (90, bl ((errE (lineP false sv)) == (errE (lineP false s1))))]) hA [] c0 ?_
   clear hA fr; intro fr hA
   rw [(beq_iff_eq.2 hes1.1 : ((errE (lineP false sv)) == (errE (lineP false s1))) = (true))] at hA
   refine ck (l := [6]) (r := (rg 7 7)) (e' := [(6, bl false), (13, .slice p6 l4.length k6), (86, bl false), (90, bl true), (91, .slice p5 l3.length k5)]) hA [] c0 ?_
   clear hA fr; intro fr hA
   refine wpOps_cons' (mC (f := 13) (args := [.slice p5 l3.length k5]) (d := (some 92)) hA Try.func13 ((Theirs_any p5 k5 l3 _ (VL_own (A := ([] ++ ([]))) (B := T11 ++ (T12 ++ ([]))) hT9 hT10 (hO.to (by first | rfl | (simp only [TP, apd])))) hsml3).mono ?_))
   rintro en w12 ⟨p7, k7, r3, T13, T14, rfl, hT13, hT14, hsim3, hW⟩
   refine ⟨_, rfl, ?_⟩
   clear hA fr; intro fr hA
   replace hO := Ow.join hO hW; clear hW
   replace hO : Ow Try.prog none' w _ ([] ++ (T9 ++ (T10 ++ (T11 ++ (T12 ++ (T13 ++ (T14 ++ ([])))))))) := hO.to (by first | rfl | (simp only [TP, apd]))
   replace hA := hA.sb (e' := [(6, bl false), (13, .slice p6 l4.length k6), (86, bl false), (90, bl true), (92, .slice p7 r3.length k7)])
   refine ck (l := [8]) (r := (rg 9 5)) (e' := [(6, bl false), (86, bl false), (90, bl true), (92, .slice p7 r3.length k7), (93, .slice p6 l4.length k6)]) hA [] c0 ?_
   clear hA fr; intro fr hA
   refine wpOps_cons' (mC (f := 13) (args := [.slice p6 l4.length k6]) (d := (some 94)) hA Try.func13 ((Theirs_any p6 k6 l4 _ (VL_own (A := ([] ++ (T9 ++ (T10 ++ ([]))))) (B := T13 ++ (T14 ++ ([]))) hT11 hT12 (hO.to (by first | rfl | (simp only [TP, apd])))) hsml4).mono ?_))
   rintro en w13 ⟨p8, k8, r4, T15, T16, rfl, hT15, hT16, hsim4, hW⟩
   refine ⟨_, rfl, ?_⟩
   clear hA fr; intro fr hA
   replace hO := Ow.join hO hW; clear hW
   replace hO : Ow Try.prog none' w _ ([] ++ (T9 ++ (T10 ++ (T11 ++ (T12 ++ (T13 ++ (T14 ++ (T15 ++ (T16 ++ ([])))))))))) := hO.to (by first | rfl | (simp only [TP, apd]))
   replace hA := hA.sb (e' := [(6, bl false), (86, bl false), (90, bl true), (92, .slice p7 r3.length k7), (94, .slice p8 r4.length k8)])
   refine wpOps_cons' (mK (f := 12) (args := [.slice p7 r3.length k7, .slice p8 r4.length k8]) (d := (some 95)) (v := bl true) hA hO Try.func12 (rs (REqual_any p7 p8 k7 k8 r3 r4 _ (VL_copy (A := ([] ++ (T9 ++ (T10 ++ (T11 ++ (T12 ++ ([]))))))) (B := T15 ++ (T16 ++ ([]))) hT13 hT14 hsim3 (VL_own (A := ([] ++ ([]))) (B := T11 ++ (T12 ++ (T13 ++ (T14 ++ (T15 ++ (T16 ++ ([]))))))) hT9 hT10 (hO.to (by first | rfl | (simp only [TP, apd])))) (hO.to (by first | rfl | (simp only [TP, apd])))) (VL_copy (A := ([] ++ (T9 ++ (T10 ++ (T11 ++ (T12 ++ (T13 ++ (T14 ++ ([]))))))))) (B := []) hT15 hT16 hsim4 (VL_own (A := ([] ++ (T9 ++ (T10 ++ ([]))))) (B := T13 ++ (T14 ++ (T15 ++ (T16 ++ ([]))))) hT11 hT12 (hO.to (by first | rfl | (simp only [TP, apd])))) (hO.to (by first | rfl | (simp only [TP, apd])))) (sim_sm hsim3 hsml3)) (congrArg Value.bool (eqL_of (((sim_d hsim3).trans hj3).trans ((hes1.2).trans ((sim_d hsim4).trans hj4).symm))))) ?_)
   clear hA hO fr; intro fr w14 hA hO
   replace hA := hA.sb (e' := [(6, bl false), (86, bl false), (90, bl true), (95, bl true)])
   refine ck (l := [11, 12, 13]) (r := []) (e' := [(6, bl true)]) hA [] c0 ?_
   clear hA fr; intro fr hA
   refine end_ops ?_
   refine then_normal ?_
   refine wp_ret ?_
   refine cR (cs := [none]) (us := [bl true]) hA [] trivial ?_
   have hF := hO.only; clear hA hO
   exact ⟨rfl, hF⟩
 refine rR (l := (rg 0 38)) ?_
 refine ck (l := [0, 1, 2]) (r := (rg 3 35)) (e' := [(0, str sv), (2, bl z), (6, bl false), (7, i64 ((k : Nat) : Int)), (28, bl (decide (((k : Nat) : Int) > 0))), (29, bl (decide (((k : Nat) : Int) > 0)))]) hA [] c0 ?_
 clear hA fr; intro fr hA
 rcases Bool.eq_false_or_eq_true (decide (((k : Nat) : Int) > 0)) with h5 | h5
 · rw [h5] at hA
   have h5p := of_decide_eq_true h5
   refine ck (l := (rg 3 6)) (r := (rg 9 29)) (e' := [(0, str sv), (2, bl z), (6, bl false), (7, i64 ((k : Nat) : Int)), (33, bl (decide (((k : Nat) : Int) < ((sv.size : Nat) : Int)))), (34, bl (decide (((k : Nat) : Int) < ((sv.size : Nat) : Int)))), (35, bl (decide (((k : Nat) : Int) < ((sv.size : Nat) : Int))))]) hA [] c0 ?_
   clear hA fr; intro fr hA
   rcases Bool.eq_false_or_eq_true (decide (((k : Nat) : Int) < ((sv.size : Nat) : Int))) with h6 | h6
   · rw [h6] at hA
     have h6p := of_decide_eq_true h6
     refine ck (l := (rg 9 5)) (r := (rg 14 24)) (e' := [(0, str sv), (2, bl z), (6, bl false), (7, i64 ((k : Nat) : Int)), (35, bl true), (40, str (sv.extract ((((k : Nat) : Int) - 1).toNat) k))]) hA [bl true] (cc ((inK_i64 (by omega) (by omega)) : inK .i64 (((k : Nat) : Int) - 1)) (cc (⟨by omega, by omega, by omega⟩ : (0 : Int) ≤ ((k : Nat) : Int) - 1 ∧ (((k : Nat) : Int) - 1 : Int) ≤ ((k : Nat) : Int) ∧ (((k : Nat) : Int) : Int) ≤ ((sv.size : Nat) : Int)) c0)) ?_
     clear hA fr; intro fr hA
     refine wpOps_cons' (mK (f := 22) (args := [str (sv.extract ((((k : Nat) : Int) - 1).toNat) k)]) (d := (some 41)) (v := bl (isWordB (sv.extract ((((k : Nat) : Int) - 1).toNat) k))) hA hO Try.func22 (risword_any (sv.extract ((((k : Nat) : Int) - 1).toNat) k) _ (ext_small _ _ (by omega))) ?_)
     clear hA hO fr; intro fr w15 hA hO
     replace hA := hA.sb (e' := [(0, str sv), (2, bl z), (6, bl false), (7, i64 ((k : Nat) : Int)), (35, bl true), (41, bl (isWordB (sv.extract ((((k : Nat) : Int) - 1).toNat) k)))])
     refine ck (l := [15]) (r := (rg 16 22)) (e' := [(0, str sv), (2, bl z), (6, bl false), (7, i64 ((k : Nat) : Int)), (35, bl true), (41, bl (isWordB (sv.extract ((((k : Nat) : Int) - 1).toNat) k))), (42, bl (isWordB (sv.extract ((((k : Nat) : Int) - 1).toNat) k)))]) hA [] c0 ?_
     clear hA fr; intro fr hA
     rcases Bool.eq_false_or_eq_true (isWordB (sv.extract ((((k : Nat) : Int) - 1).toNat) k)) with h7 | h7
     · rw [h7] at hA
       refine ck (l := (rg 16 5)) (r := (rg 21 17)) (e' := [(0, str sv), (2, bl z), (6, bl false), (7, i64 ((k : Nat) : Int)), (35, bl true), (42, bl true), (47, str (sv.extract k ((((k : Nat) : Int) + 1).toNat)))]) hA [bl true] (cc ((inK_i64 (by omega) (by omega)) : inK .i64 (((k : Nat) : Int) + 1)) (cc (⟨by omega, by omega, by omega⟩ : (0 : Int) ≤ ((k : Nat) : Int) ∧ (((k : Nat) : Int) : Int) ≤ ((k : Nat) : Int) + 1 ∧ (((k : Nat) : Int) + 1 : Int) ≤ ((sv.size : Nat) : Int)) c0)) ?_
       clear hA fr; intro fr hA
       refine wpOps_cons' (mK (f := 22) (args := [str (sv.extract k ((((k : Nat) : Int) + 1).toNat))]) (d := (some 48)) (v := bl (isWordB (sv.extract k ((((k : Nat) : Int) + 1).toNat)))) hA hO Try.func22 (risword_any (sv.extract k ((((k : Nat) : Int) + 1).toNat)) _ (ext_small _ _ (by omega))) ?_)
       clear hA hO fr; intro fr w16 hA hO
       replace hA := hA.sb (e' := [(0, str sv), (2, bl z), (6, bl false), (7, i64 ((k : Nat) : Int)), (35, bl true), (42, bl true), (48, bl (isWordB (sv.extract k ((((k : Nat) : Int) + 1).toNat))))])
       refine ck (l := [22, 23]) (r := (rg 24 14)) (e' := [(0, str sv), (2, bl z), (6, bl false), (7, i64 ((k : Nat) : Int)), (35, bl true), (48, bl (isWordB (sv.extract k ((((k : Nat) : Int) + 1).toNat)))), (49, bl (isWordB (sv.extract k ((((k : Nat) : Int) + 1).toNat)))), (50, bl (isWordB (sv.extract k ((((k : Nat) : Int) + 1).toNat))))]) hA [] c0 ?_
       clear hA fr; intro fr hA
       rcases Bool.eq_false_or_eq_true (isWordB (sv.extract k ((((k : Nat) : Int) + 1).toNat))) with h8 | h8
       · rw [h8] at hA
         refine ck (l := (rg 24 14)) (r := []) (e' := [(0, str sv), (2, bl z), (6, bl false), (7, i64 ((k : Nat) : Int)), (8, bl true)]) hA [] c0 ?_
         clear hA fr; intro fr hA
         refine end_ops ?_
         refine then_normal ?_
         exact ⟨(hA.sub (e' := [(0, str sv), (2, bl z), (6, bl false), (7, i64 ((k : Nat) : Int)), (8, bl true)]) [0, 2, 6, 7, 8] (by kernel_rfl)).cast (by first | rw [insP_lo (by omega)] | (rw [insP_in (by omega) (by omega)]; simp_all)), hO.to, trivial⟩
       rw [h8] at hA
       refine ck (l := (rg 24 6)) (r := (rg 30 8)) (e' := [(0, str sv), (2, bl z), (6, bl false), (7, i64 ((k : Nat) : Int)), (35, bl true), (50, bl false), (55, bl ((sb sv ((((k : Nat) : Int) - 1).toNat)) == 62)), (56, bl ((sb sv ((((k : Nat) : Int) - 1).toNat)) == 62))]) hA [bl true] (cc ((inK_i64 (by omega) (by omega)) : inK .i64 (((k : Nat) : Int) - 1)) (cc (⟨by omega, by omega⟩ : (0 : Int) ≤ ((k : Nat) : Int) - 1 ∧ ((k : Nat) : Int) - 1 < ((sv.size : Nat) : Int)) c0)) ?_
       clear hA fr; intro fr hA
       rcases Bool.eq_false_or_eq_true ((sb sv ((((k : Nat) : Int) - 1).toNat)) == 62) with h9 | h9
       · rw [h9] at hA
         have h9p := eq_of_beq h9
         refine ck (l := (rg 30 8)) (r := []) (e' := [(0, str sv), (2, bl z), (6, bl false), (7, i64 ((k : Nat) : Int)), (8, bl ((sb sv k) == 62))]) hA [] (cc (⟨by omega, by omega⟩ : (0 : Int) ≤ ((k : Nat) : Int) ∧ ((k : Nat) : Int) < ((sv.size : Nat) : Int)) c0) ?_
         clear hA fr; intro fr hA
         refine end_ops ?_
         refine then_normal ?_
         exact ⟨(hA.sub (e' := [(0, str sv), (2, bl z), (6, bl false), (7, i64 ((k : Nat) : Int)), (8, bl ((sb sv k) == 62))]) [0, 2, 6, 7, 8] (by kernel_rfl)).cast (by first | rw [insP_lo (by omega)] | (rw [insP_in (by omega) (by omega)]; simp_all)), hO.to, trivial⟩
       rw [h9] at hA
       have h9p := ne_of_beq_false h9
       refine ck (l := (rg 30 8)) (r := []) (e' := [(0, str sv), (2, bl z), (6, bl false), (7, i64 ((k : Nat) : Int)), (8, bl false)]) hA [] c0 ?_
       clear hA fr; intro fr hA
       refine end_ops ?_
       refine then_normal ?_
       exact ⟨(hA.sub (e' := [(0, str sv), (2, bl z), (6, bl false), (7, i64 ((k : Nat) : Int)), (8, bl false)]) [0, 2, 6, 7, 8] (by kernel_rfl)).cast (by first | rw [insP_lo (by omega)] | (rw [insP_in (by omega) (by omega)]; simp_all)), hO.to, trivial⟩
     rw [h7] at hA
     refine ck (l := (rg 16 14)) (r := (rg 30 8)) (e' := [(0, str sv), (2, bl z), (6, bl false), (7, i64 ((k : Nat) : Int)), (35, bl true), (50, bl false), (55, bl ((sb sv ((((k : Nat) : Int) - 1).toNat)) == 62)), (56, bl ((sb sv ((((k : Nat) : Int) - 1).toNat)) == 62))]) hA [bl true] (cc ((inK_i64 (by omega) (by omega)) : inK .i64 (((k : Nat) : Int) - 1)) (cc (⟨by omega, by omega⟩ : (0 : Int) ≤ ((k : Nat) : Int) - 1 ∧ ((k : Nat) : Int) - 1 < ((sv.size : Nat) : Int)) c0)) ?_
     clear hA fr; intro fr hA
     rcases Bool.eq_false_or_eq_true ((sb sv ((((k : Nat) : Int) - 1).toNat)) == 62) with h10 | h10
     · rw [h10] at hA
       have h10p := eq_of_beq h10
       refine ck (l := (rg 30 8)) (r := []) (e' := [(0, str sv), (2, bl z), (6, bl false), (7, i64 ((k : Nat) : Int)), (8, bl ((sb sv k) == 62))]) hA [] (cc (⟨by omega, by omega⟩ : (0 : Int) ≤ ((k : Nat) : Int) ∧ ((k : Nat) : Int) < ((sv.size : Nat) : Int)) c0) ?_
       clear hA fr; intro fr hA
       refine end_ops ?_
       refine then_normal ?_
       exact ⟨(hA.sub (e' := [(0, str sv), (2, bl z), (6, bl false), (7, i64 ((k : Nat) : Int)), (8, bl ((sb sv k) == 62))]) [0, 2, 6, 7, 8] (by kernel_rfl)).cast (by first | rw [insP_lo (by omega)] | (rw [insP_in (by omega) (by omega)]; simp_all)), hO.to, trivial⟩
     rw [h10] at hA
     have h10p := ne_of_beq_false h10
     refine ck (l := (rg 30 8)) (r := []) (e' := [(0, str sv), (2, bl z), (6, bl false), (7, i64 ((k : Nat) : Int)), (8, bl false)]) hA [] c0 ?_
     clear hA fr; intro fr hA
     refine end_ops ?_
     refine then_normal ?_
     exact ⟨(hA.sub (e' := [(0, str sv), (2, bl z), (6, bl false), (7, i64 ((k : Nat) : Int)), (8, bl false)]) [0, 2, 6, 7, 8] (by kernel_rfl)).cast (by first | rw [insP_lo (by omega)] | (rw [insP_in (by omega) (by omega)]; simp_all)), hO.to, trivial⟩
   rw [h6] at hA
   have h6p := of_decide_eq_false h6
   refine ck (l := (rg 9 29)) (r := []) (e' := [(0, str sv), (2, bl z), (6, bl false), (7, i64 ((k : Nat) : Int)), (8, bl false)]) hA [] c0 ?_
   clear hA fr; intro fr hA
   refine end_ops ?_
   refine then_normal ?_
   exact ⟨(hA.sub (e' := [(0, str sv), (2, bl z), (6, bl false), (7, i64 ((k : Nat) : Int)), (8, bl false)]) [0, 2, 6, 7, 8] (by kernel_rfl)).cast (by first | rw [insP_lo (by omega)] | (rw [insP_in (by omega) (by omega)]; simp_all)), hO.to, trivial⟩
 rw [h5] at hA
 have h5p := of_decide_eq_false h5
 refine ck (l := (rg 3 35)) (r := []) (e' := [(0, str sv), (2, bl z), (6, bl false), (7, i64 ((k : Nat) : Int)), (8, bl false)]) hA [] c0 ?_
 clear hA fr; intro fr hA
 refine end_ops ?_
 refine then_normal ?_
 exact ⟨(hA.sub (e' := [(0, str sv), (2, bl z), (6, bl false), (7, i64 ((k : Nat) : Int)), (8, bl false)]) [0, 2, 6, 7, 8] (by kernel_rfl)).cast (by first | rw [insP_lo (by omega)] | (rw [insP_in (by omega) (by omega)]; simp_all)), hO.to, trivial⟩

end Go.Proofs.Ytfhcpegemapbkaa
