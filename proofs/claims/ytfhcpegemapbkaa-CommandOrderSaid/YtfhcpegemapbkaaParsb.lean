/- The layer command: the parser: take, begins, fail, word, redirect. -/
import Derived.Test.YtfhcpegemapbkaaPars
set_option linter.unusedVariables false
set_option linter.unusedSimpArgs false
set_option maxRecDepth 10000
namespace Go.Proofs.Ytfhcpegemapbkaa
open Go Go.Shelf Go.RowKit Go.Proofs Go.Proofs.Sx

theorem take_any (pb : Nat) (sv : ByteArray) (n : Nat) (w : World) (hn : n ≤ sv.size) (hs : sv.size ≤ 1000000) (t : ByteArray) (ht : n + t.size ≤ sv.size) (h0 : Ow Try.prog (inT (TP pb sv n)) w w (TP pb sv n)) :
    Calls Try.prog 47 #[pt pb, str t] w fun e w' => e = .returned (.tuple #[]) ∧ Ow Try.prog (inT (TP pb sv n)) w w' (TP pb sv (sk sv (n + t.size))) := by
 refine c_enter (args := [pt pb, str t]) (m := 13) (n := 15) Try.func47 rfl (by kernel_rfl) (by kernel_rfl) fun fr hA => ?_
 have hO : Ow Try.prog (inT (TP pb sv n)) w w [(pb, 60, [str sv, i64 ((n : Nat) : Int), .slice none 0 0])] := h0
 refine sR (l := (rg 0 10)) ?_
 refine ck (l := (rg 0 9)) (r := [9]) (e' := [(0, pt pb), (10, i64 (((n : Nat) : Int) + ((t.size : Nat) : Int))), (12, pf pb 1)]) hA [i64 ((n : Nat) : Int), bl true] (cc (hO.l1 0 1 3 (i64 ((n : Nat) : Int))) (cc ((inK_i64 (by omega) (by omega)) : inK .i64 (((n : Nat) : Int) + ((t.size : Nat) : Int))) c0)) ?_
 clear hA fr; intro fr hA
 refine wpOps_cons' (mS (off := 1) (vc := [i64 (((n : Nat) : Int) + ((t.size : Nat) : Int))]) 0 hA hO ?_)
 clear hO; intro w1 hO
 replace hA := hA.sb (e' := [(0, pt pb)])
 refine end_ops ?_
 refine then_normal ?_
 refine rR (l := [0, 1]) ?_
 refine ck (l := [0]) (r := [1]) (e' := [(13, pt pb)]) hA [] c0 ?_
 clear hA fr; intro fr hA
 refine wpOps_cons' (mC (f := 42) (args := [pt pb]) (d := (some 14)) hA Try.func42 ((skip_any pb sv (n + t.size) _ (by omega) (by omega) (Ow.self (A := []) (T := TP pb sv (n + t.size)) (B := ([] ++ ([]))) (hO.to (by first | rfl | (simp only [TP, apd]))))).mono ?_))
 rintro en w2 ⟨rfl, hW⟩
 refine ⟨_, rfl, ?_⟩
 clear hA fr; intro fr hA
 replace hO := Ow.pass (A := []) (T := TP pb sv (n + t.size)) (B := ([] ++ ([]))) (hO.to (by first | rfl | (simp only [TP, apd]))) hW; clear hW
 replace hO : Ow Try.prog (inT (TP pb sv n)) w w2 [(pb, 60, [str sv, i64 ((sk sv (n + t.size) : Nat) : Int), .slice none 0 0])] := hO.to (by first | rfl | (simp only [TP, apd]))
 replace hA := hA.sb (e' := [])
 refine end_ops ?_
 refine c_end ?_
 refine cR (cs := []) (us := []) hA [] trivial ?_
 exact ⟨rfl, hO⟩

theorem part_tk {s : ByteArray} {n : Nat} (h : ¬ (kd s n = 0 ∨ kd s n = 8)) : partI (sb (tk s n) 0) = decide (kd s n = 1) := by
 have h1 := kd_spec s n
 have h2 := tl_kd s n
 rw [sb_tk (by omega), Nat.add_zero]
 rcases h1 with h1 | ⟨h1, _, h3⟩ | ⟨h1, h3, h4⟩
 · omega
 · rw [h3]; exact (decide_eq_true h1).symm
 rw [h3]; exact (decide_eq_false (by omega)).symm
theorem byte_tk {s : ByteArray} {n : Nat} (h : ¬ (kd s n = 0 ∨ kd s n = 8)) (h1 : kd s n ≠ 1) : (sb (tk s n) 0 = 60 ↔ kd s n = 2) ∧ (sb (tk s n) 0 = 62 ↔ kd s n = 3 ∨ kd s n = 4) := by
 have h3 := kd_spec s n
 have h2 := tl_kd s n
 rw [sb_tk (by omega), Nat.add_zero]
 omega

theorem begins_any (sv : ByteArray) (n : Nat) (w : World) :
    Calls Try.prog 43 #[str (tk sv n)] w fun e w' => e = .returned (.bool (begK (kd sv n))) ∧ Only none' w w' := by
 refine c_enter (args := [str (tk sv n)]) (m := 19) (n := 20) Try.func43 rfl (by kernel_rfl) (by kernel_rfl) fun fr hA => ?_
 have hO := Ow.nil Try.prog none' w
 have htl := tl_kd sv n
 have htz := tk_size sv n
 have hsb := sb_b (tk sv n) 0
 have hby := fun (q1 : ¬ (kd sv n = 0 ∨ kd sv n = 8)) (q2 : kd sv n ≠ 1) => byte_tk q1 q2
 refine sC (e' := [(0, str (tk sv n)), (2, bl false)]) 1 hA [] c0 ?_
 clear hA fr; intro fr hA
 refine sR (l := (rg 0 18)) ?_
 refine ck (l := [0, 1, 2]) (r := (rg 3 15)) (e' := [(0, str (tk sv n)), (2, bl false), (4, bl (!((tk sv n).toList == (⟨#[]⟩ : ByteArray).toList))), (5, bl (!((tk sv n).toList == (⟨#[]⟩ : ByteArray).toList)))]) hA [] c0 ?_
 clear hA fr; intro fr hA
 replace hA := hA.bool (f := fun z_ => [(0, str (tk sv n)), (2, bl false), (4, .bool !z_), (5, .bool !z_)]) (tk_none sv n : ((tk sv n).toList == (⟨#[]⟩ : ByteArray).toList) = (decide (kd sv n = 0 ∨ kd sv n = 8)))
 rcases Bool.eq_false_or_eq_true (decide (kd sv n = 0 ∨ kd sv n = 8)) with h1 | h1
 · rw [h1] at hA
   have h1p := of_decide_eq_true h1
   refine ck (l := (rg 3 15)) (r := []) (e' := [(2, bl false)]) hA [] c0 ?_
   clear hA fr; intro fr hA
   refine end_ops ?_
   refine then_normal ?_
   refine wp_ret ?_
   refine cR (cs := [none]) (us := [bl false]) hA [] trivial ?_
   have hF := hO.only; clear hA hO
   refine ⟨congrArg (fun b => Ending.returned (.bool b)) ?_, hF⟩
   unfold begK
   by_cases q1 : kd sv n = 0 ∨ kd sv n = 8
   · first | exact (decide_eq_false (by omega)).symm | (exfalso; omega)
   by_cases q2 : kd sv n = 1
   · first | exact (decide_eq_true (by omega)).symm | (exfalso; omega)
   have q3 := hby q1 q2
   first | exact (decide_eq_true (by omega)).symm | exact (decide_eq_false (by omega)).symm | (rw [Bool.eq_iff_iff]; simp only [beq_iff_eq, decide_eq_true_eq]; omega)
 rw [h1] at hA
 have h1p := of_decide_eq_false h1
 refine ck (l := [3, 4]) (r := (rg 5 13)) (e' := [(0, str (tk sv n)), (2, bl false), (5, bl true), (7, u8 (sb (tk sv n) 0))]) hA [] (cc (⟨by omega, by omega⟩ : (0 : Int) ≤ 0 ∧ 0 < (((tk sv n).size : Nat) : Int)) c0) ?_
 clear hA fr; intro fr hA
 refine wpOps_cons' (mK (f := 40) (args := [u8 (sb (tk sv n) 0)]) (d := (some 8)) (v := bl (partI (sb (tk sv n) 0))) hA hO Try.func40 (part_any (sb (tk sv n) 0) _ (by omega) (by omega)) ?_)
 clear hA hO fr; intro fr w1 hA hO
 replace hA := hA.sb (e' := [(0, str (tk sv n)), (2, bl false), (5, bl true), (8, bl (partI (sb (tk sv n) 0)))])
 refine ck (l := [6]) (r := (rg 7 11)) (e' := [(0, str (tk sv n)), (2, bl false), (5, bl true), (8, bl (partI (sb (tk sv n) 0))), (9, bl (partI (sb (tk sv n) 0)))]) hA [] c0 ?_
 clear hA fr; intro fr hA
 replace hA := hA.bool (f := fun z_ => [(0, str (tk sv n)), (2, bl false), (5, bl true), (8, .bool z_), (9, .bool z_)]) (part_tk (by omega) : (partI (sb (tk sv n) 0)) = (decide (kd sv n = 1)))
 rcases Bool.eq_false_or_eq_true (decide (kd sv n = 1)) with h2 | h2
 · rw [h2] at hA
   have h2p := of_decide_eq_true h2
   refine ck (l := (rg 7 11)) (r := []) (e' := [(2, bl true)]) hA [] c0 ?_
   clear hA fr; intro fr hA
   refine end_ops ?_
   refine then_normal ?_
   refine wp_ret ?_
   refine cR (cs := [none]) (us := [bl true]) hA [] trivial ?_
   have hF := hO.only; clear hA hO
   refine ⟨congrArg (fun b => Ending.returned (.bool b)) ?_, hF⟩
   unfold begK
   by_cases q1 : kd sv n = 0 ∨ kd sv n = 8
   · first | exact (decide_eq_false (by omega)).symm | (exfalso; omega)
   by_cases q2 : kd sv n = 1
   · first | exact (decide_eq_true (by omega)).symm | (exfalso; omega)
   have q3 := hby q1 q2
   first | exact (decide_eq_true (by omega)).symm | exact (decide_eq_false (by omega)).symm | (rw [Bool.eq_iff_iff]; simp only [beq_iff_eq, decide_eq_true_eq]; omega)
 rw [h2] at hA
 have h2p := of_decide_eq_false h2
 refine ck (l := (rg 7 5)) (r := (rg 12 6)) (e' := [(0, str (tk sv n)), (2, bl false), (5, bl true), (12, bl ((sb (tk sv n) 0) == 60)), (13, bl ((sb (tk sv n) 0) == 60)), (14, bl ((sb (tk sv n) 0) == 60))]) hA [] (cc (⟨by omega, by omega⟩ : (0 : Int) ≤ 0 ∧ 0 < (((tk sv n).size : Nat) : Int)) c0) ?_
 clear hA fr; intro fr hA
 rcases Bool.eq_false_or_eq_true ((sb (tk sv n) 0) == 60) with h3 | h3
 · rw [h3] at hA
   have h3p := eq_of_beq h3
   refine ck (l := (rg 12 6)) (r := []) (e' := [(2, bl true)]) hA [] c0 ?_
   clear hA fr; intro fr hA
   refine end_ops ?_
   refine then_normal ?_
   refine wp_ret ?_
   refine cR (cs := [none]) (us := [bl true]) hA [] trivial ?_
   have hF := hO.only; clear hA hO
   refine ⟨congrArg (fun b => Ending.returned (.bool b)) ?_, hF⟩
   unfold begK
   by_cases q1 : kd sv n = 0 ∨ kd sv n = 8
   · first | exact (decide_eq_false (by omega)).symm | (exfalso; omega)
   by_cases q2 : kd sv n = 1
   · first | exact (decide_eq_true (by omega)).symm | (exfalso; omega)
   have q3 := hby q1 q2
   first | exact (decide_eq_true (by omega)).symm | exact (decide_eq_false (by omega)).symm | (rw [Bool.eq_iff_iff]; simp only [beq_iff_eq, decide_eq_true_eq]; omega)
 rw [h3] at hA
 have h3p := ne_of_beq_false h3
 refine ck (l := (rg 12 6)) (r := []) (e' := [(2, bl ((sb (tk sv n) 0) == 62))]) hA [] (cc (⟨by omega, by omega⟩ : (0 : Int) ≤ 0 ∧ 0 < (((tk sv n).size : Nat) : Int)) c0) ?_
 clear hA fr; intro fr hA
 refine end_ops ?_
 refine then_normal ?_
 refine wp_ret ?_
 refine cR (cs := [none]) (us := [bl ((sb (tk sv n) 0) == 62)]) hA [] trivial ?_
 have hF := hO.only; clear hA hO
 refine ⟨congrArg (fun b => Ending.returned (.bool b)) ?_, hF⟩
 unfold begK
 by_cases q1 : kd sv n = 0 ∨ kd sv n = 8
 · first | exact (decide_eq_false (by omega)).symm | (exfalso; omega)
 by_cases q2 : kd sv n = 1
 · first | exact (decide_eq_true (by omega)).symm | (exfalso; omega)
 have q3 := hby q1 q2
 first | exact (decide_eq_true (by omega)).symm | exact (decide_eq_false (by omega)).symm | (rw [Bool.eq_iff_iff]; simp only [beq_iff_eq, decide_eq_true_eq]; omega)

theorem fail_any (pb : Nat) (sv : ByteArray) (n : Nat) (w : World) (hn : n ≤ sv.size) (hs : sv.size ≤ 1000000) (er : Int) (hB : Blk w pb 60 [str sv, i64 ((n : Nat) : Int), .slice none 0 0]) :
    Calls Try.prog 45 #[pt pb, i64 er] w fun e w' => e = .panicked (pnc n er) ∧ Only none' w w' := by
 refine c_enter (args := [pt pb, i64 er]) (m := 9) (n := 11) Try.func45 rfl (by kernel_rfl) (by kernel_rfl) fun fr hA => ?_
 have hO := Ow.nil Try.prog none' w
 refine rR (l := (rg 0 8)) ?_
 refine ck (l := (rg 0 7)) (r := [7]) (e' := [(10, .iface 56 (.agg #[i64 ((n : Nat) : Int), i64 er]))]) hA [i64 ((n : Nat) : Int)] (cc (((hB.keep hO.only (fun h => h)).ld1 (i := 1) (by kernel_rfl) (by kernel_rfl)) : Ld Try.prog w ⟨pb, 1, none⟩ 3 (i64 ((n : Nat) : Int))) c0) ?_
 clear hA fr; intro fr hA
 refine wpOps_cons' (m_panic (t := 56) (v := (.agg #[i64 ((n : Nat) : Int), i64 er])) hA ?_)
 show _ ∧ _
 exact ⟨hA.dfr, rfl, hO.only⟩

/-- What a call of a parser's method comes to. -/
abbrev PP {α : Type} (r : PR α) (T : OwL) (w w' : World) (e : Ending) (ok : α → Nat → Prop) : Prop :=
  (∃ a b, r = .error (a, b) ∧ e = .panicked (pnc a b) ∧ Only (inT T) w w') ∨ ∃ v m, r = .ok (v, m) ∧ ok v m
theorem wordP_ok {s : ByteArray} {n m : Nat} {v : ByteArray} (hn : n ≤ s.size) (h : wordP s n = .ok (v, m)) : v = tk s n ∧ m = nx s n ∧ m ≤ s.size ∧ n < m ∧ kd s n = 1 ∧ v.size ≤ 60 ∧ 1 ≤ v.size := by
 unfold wordP at h
 split at h
 · cases h
 rename_i h1
 split at h
 · cases h
 rename_i h2
 cases h
 have h3 := tk_size s n
 have h4 := tl_kd s n
 exact ⟨rfl, rfl, nx_le hn, nx_gt (by omega), by omega, by omega, by omega⟩

theorem word_any (pb : Nat) (sv : ByteArray) (n : Nat) (w : World) (hn : n ≤ sv.size) (hs : sv.size ≤ 1000000) (h0 : Ow Try.prog (inT (TP pb sv n)) w w (TP pb sv n)) :
    Calls Try.prog 62 #[pt pb] w fun e w' => PP (wordP sv n) (TP pb sv n) w w' e fun v m => e = .returned (str v) ∧ Ow Try.prog (inT (TP pb sv n)) w w' (TP pb sv m) := by
 refine c_enter (args := [pt pb]) (m := 26) (n := 27) Try.func62 rfl (by kernel_rfl) (by kernel_rfl) fun fr hA => ?_
 have hO : Ow Try.prog (inT (TP pb sv n)) w w [(pb, 60, [str sv, i64 ((n : Nat) : Int), .slice none 0 0])] := h0
 have htl := tl_kd sv n
 have htz := tk_size sv n
 have hsb := sb_b (tk sv n) 0
 refine sC (e' := [(0, pt pb), (2, str (⟨#[]⟩))]) 1 hA [] c0 ?_
 clear hA fr; intro fr hA
 refine sR (l := [0, 1, 2]) ?_
 refine ck (l := [0]) (r := [1, 2]) (e' := [(0, pt pb), (2, str (⟨#[]⟩)), (4, pt pb)]) hA [] c0 ?_
 clear hA fr; intro fr hA
 refine wpOps_cons' (mK (f := 44) (args := [pt pb]) (d := (some 5)) (v := str (tk sv n)) hA hO Try.func44 (next_any pb sv n _ (by omega) (by omega) (hO.b 0)) ?_)
 clear hA hO fr; intro fr w1 hA hO
 replace hA := hA.sb (e' := [(0, pt pb), (2, str (⟨#[]⟩)), (5, str (tk sv n))])
 refine ck (l := [2]) (r := []) (e' := [(0, pt pb), (2, str (⟨#[]⟩)), (3, str (tk sv n))]) hA [] c0 ?_
 clear hA fr; intro fr hA
 refine end_ops ?_
 refine then_normal ?_
 refine wp_seq ?_
 refine wp_block ?_
 refine sR (l := (rg 0 9)) ?_
 refine ck (l := [0, 1, 2]) (r := (rg 3 6)) (e' := [(0, pt pb), (2, str (⟨#[]⟩)), (3, str (tk sv n)), (8, bl ((tk sv n).toList == (⟨#[]⟩ : ByteArray).toList)), (9, bl ((tk sv n).toList == (⟨#[]⟩ : ByteArray).toList))]) hA [] c0 ?_
 clear hA fr; intro fr hA
 replace hA := hA.bool (f := fun z_ => [(0, pt pb), (2, str (⟨#[]⟩)), (3, str (tk sv n)), (8, .bool z_), (9, .bool z_)]) (tk_none sv n : ((tk sv n).toList == (⟨#[]⟩ : ByteArray).toList) = (decide (kd sv n = 0 ∨ kd sv n = 8)))
 rcases Bool.eq_false_or_eq_true (decide (kd sv n = 0 ∨ kd sv n = 8)) with h1 | h1
 · rw [h1] at hA
   have h1p := of_decide_eq_true h1
   refine ck (l := (rg 3 6)) (r := []) (e' := [(0, pt pb), (2, str (⟨#[]⟩)), (3, str (tk sv n)), (6, bl true)]) hA [] c0 ?_
   clear hA fr; intro fr hA
   refine end_ops ?_
   refine then_normal ?_
   refine cT hA ?_
   refine rR (l := [0, 1]) ?_
   refine ck (l := [0]) (r := [1]) (e' := [(0, pt pb), (2, str (⟨#[]⟩)), (3, str (tk sv n)), (15, pt pb)]) hA [] c0 ?_
   clear hA fr; intro fr hA
   refine wpOps_cons' (mP (f := 45) (args := [pt pb, i64 3]) (d := (some 16)) hA Try.func45 ((fail_any pb sv n _ (by omega) (by omega) 3 (hO.b 0)).mono ?_))
   rintro en w2 ⟨rfl, hW⟩
   refine .inr ⟨_, rfl, ?_⟩
   show _ ∧ _
   exact ⟨hA.dfr, Or.inl ⟨_, _, (by unfold wordP; rw [if_pos (by omega)]), rfl, Ow.pan0 hO hW⟩⟩
 rw [h1] at hA
 have h1p := of_decide_eq_false h1
 refine ck (l := [3, 4]) (r := [5, 6, 7, 8]) (e' := [(0, pt pb), (2, str (⟨#[]⟩)), (3, str (tk sv n)), (9, bl false), (11, u8 (sb (tk sv n) 0))]) hA [] (cc (⟨by omega, by omega⟩ : (0 : Int) ≤ 0 ∧ 0 < (((tk sv n).size : Nat) : Int)) c0) ?_
 clear hA fr; intro fr hA
 refine wpOps_cons' (mK (f := 40) (args := [u8 (sb (tk sv n) 0)]) (d := (some 12)) (v := bl (partI (sb (tk sv n) 0))) hA hO Try.func40 (part_any (sb (tk sv n) 0) _ (by omega) (by omega)) ?_)
 clear hA hO fr; intro fr w3 hA hO
 replace hA := hA.sb (e' := [(0, pt pb), (2, str (⟨#[]⟩)), (3, str (tk sv n)), (9, bl false), (12, bl (partI (sb (tk sv n) 0)))])
 refine ck (l := [6, 7, 8]) (r := []) (e' := [(0, pt pb), (2, str (⟨#[]⟩)), (3, str (tk sv n)), (6, bl (!(partI (sb (tk sv n) 0))))]) hA [] c0 ?_
 clear hA fr; intro fr hA
 replace hA := hA.bool (f := fun z_ => [(0, pt pb), (2, str (⟨#[]⟩)), (3, str (tk sv n)), (6, .bool !z_)]) (part_tk (by omega) : (partI (sb (tk sv n) 0)) = (decide (kd sv n = 1)))
 refine end_ops ?_
 refine then_normal ?_
 rcases Bool.eq_false_or_eq_true (decide (kd sv n = 1)) with h2 | h2
 · rw [h2] at hA
   have h2p := of_decide_eq_true h2
   refine cF hA ?_
   refine sC (e' := [(0, pt pb), (2, str (⟨#[]⟩)), (3, str (tk sv n)), (17, bl (decide ((((tk sv n).size : Nat) : Int) > 60)))]) 4 hA [] c0 ?_
   clear hA fr; intro fr hA
   rcases Bool.eq_false_or_eq_true (decide ((((tk sv n).size : Nat) : Int) > 60)) with h3 | h3
   · rw [h3] at hA
     have h3p := of_decide_eq_true h3
     refine cT hA ?_
     refine rR (l := [0, 1]) ?_
     refine ck (l := [0]) (r := [1]) (e' := [(0, pt pb), (2, str (⟨#[]⟩)), (3, str (tk sv n)), (21, pt pb)]) hA [] c0 ?_
     clear hA fr; intro fr hA
     refine wpOps_cons' (mP (f := 45) (args := [pt pb, i64 6]) (d := (some 22)) hA Try.func45 ((fail_any pb sv n _ (by omega) (by omega) 6 (hO.b 0)).mono ?_))
     rintro en w4 ⟨rfl, hW⟩
     refine .inr ⟨_, rfl, ?_⟩
     show _ ∧ _
     exact ⟨hA.dfr, Or.inl ⟨_, _, (by unfold wordP; rw [if_neg (by omega), if_pos (by omega)]), rfl, Ow.pan0 hO hW⟩⟩
   rw [h3] at hA
   have h3p := of_decide_eq_false h3
   refine cF hA ?_
   refine wp_skip ?_
   refine inBlock_normal ?_
   refine then_normal ?_
   refine sR (l := [0, 1, 2]) ?_
   refine ck (l := [0, 1]) (r := [2]) (e' := [(2, str (⟨#[]⟩)), (3, str (tk sv n)), (23, pt pb), (24, str (tk sv n))]) hA [] c0 ?_
   clear hA fr; intro fr hA
   refine wpOps_cons' (mC (f := 47) (args := [pt pb, str (tk sv n)]) (d := (some 25)) hA Try.func47 ((take_any pb sv n _ (by omega) (by omega) (tk sv n) (by first | omega | (have := tk_size sv n; have := tl_le sv n; omega)) (Ow.self (A := []) (T := TP pb sv n) (B := ([] ++ ([]))) (hO.to (by first | rfl | (simp only [TP, apd]))))).mono ?_))
   rintro en w5 ⟨rfl, hW⟩
   refine ⟨_, rfl, ?_⟩
   clear hA fr; intro fr hA
   replace hO := Ow.pass (A := []) (T := TP pb sv n) (B := ([] ++ ([]))) (hO.to (by first | rfl | (simp only [TP, apd]))) hW; clear hW
   replace hO : Ow Try.prog (inT (TP pb sv n)) w w5 [(pb, 60, [str sv, i64 ((sk sv (n + (tk sv n).size) : Nat) : Int), .slice none 0 0])] := hO.to (by first | rfl | (simp only [TP, apd]))
   replace hA := hA.sb (e' := [(2, str (⟨#[]⟩)), (3, str (tk sv n))])
   refine end_ops ?_
   refine then_normal ?_
   refine sC (e' := [(2, str (tk sv n))]) 2 hA [] c0 ?_
   clear hA fr; intro fr hA
   refine wp_ret ?_
   refine cR (cs := [none]) (us := [str (tk sv n)]) hA [] trivial ?_
   exact Or.inr ⟨_, _, by unfold wordP; rw [if_neg (by omega), if_neg (by omega)], rfl, by unfold nx; rw [← htz]; exact hO⟩
 rw [h2] at hA
 have h2p := of_decide_eq_false h2
 refine cT hA ?_
 refine rR (l := [0, 1]) ?_
 refine ck (l := [0]) (r := [1]) (e' := [(0, pt pb), (2, str (⟨#[]⟩)), (3, str (tk sv n)), (15, pt pb)]) hA [] c0 ?_
 clear hA fr; intro fr hA
 refine wpOps_cons' (mP (f := 45) (args := [pt pb, i64 3]) (d := (some 16)) hA Try.func45 ((fail_any pb sv n _ (by omega) (by omega) 3 (hO.b 0)).mono ?_))
 rintro en w6 ⟨rfl, hW⟩
 refine .inr ⟨_, rfl, ?_⟩
 show _ ∧ _
 exact ⟨hA.dfr, Or.inl ⟨_, _, (by unfold wordP; rw [if_pos (by omega)]), rfl, Ow.pan0 hO hW⟩⟩

end Go.Proofs.Ytfhcpegemapbkaa
