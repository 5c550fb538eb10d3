/- The layer exe: awake, Few, Equal. -/
import Derived.Test.YtkfnkcpdabdboaaDoorPages
set_option linter.unusedVariables false
set_option linter.unusedSimpArgs false
set_option maxRecDepth 10000
namespace Go.Proofs.YtkfnkcpdabdboaaDoor
open Go Go.RowKit Go.Proofs.Sx

theorem file21 : (fileL [22, 0, 0, 0] [] 200 0).length = 21 := by unfold fileL; rw [sealL_len]; kernel_rfl
theorem awk_valid (ca : Addr) (kc : Nat) (w : World) (hT : Tab w) (hs : SlI w (.slice (some ca) 4 kc) [22, 0, 0, 0]) (hkc : 4 ≤ kc) : Calls Tryd.prog 9 #[.agg #[.slice (some ca) 4 kc, .slice none 0 0, .int .i64 200, .int .i64 0]] w fun e w' => e = .returned (.bool true) ∧ Only none' w w' :=
  rs (valid_any (some ca) none kc 0 [22, 0, 0, 0] [] 200 0 w (by decide) (by decide) hT hs hkc)
theorem awk_make (ca : Addr) (kc : Nat) (w : World) (hT : Tab w) (hs : SlI w (.slice (some ca) 4 kc) [22, 0, 0, 0]) (hkc : 4 ≤ kc) : Calls Tryd.prog 12 #[.agg #[.slice (some ca) 4 kc, .slice none 0 0, .int .i64 200, .int .i64 0]] w fun e w' => ∃ p c, e = .returned (.tuple #[.slice p 21 c, .int .i64 0]) ∧ Only none' w w' :=
  (make_ok (some ca) none kc 0 [22, 0, 0, 0] [] 200 0 w (by decide) (by decide) hT hs hkc (SlI.nil _) (by kernel_rfl) (inK_i64 (by decide) (by decide)) (inK_i64 (by decide) (by decide)) (by rw [file21]; decide)).mono fun e w' ⟨p, c, T, h1, h2, _⟩ => ⟨p, c, by rw [file21] at h1; exact h1, h2.only⟩
theorem awk_size (ca : Addr) (kc : Nat) (w : World) (hT : Tab w) (hs : SlI w (.slice (some ca) 4 kc) [22, 0, 0, 0]) (hkc : 4 ≤ kc) : Calls Tryd.prog 10 #[.agg #[.slice (some ca) 4 kc, .slice none 0 0, .int .i64 200, .int .i64 0]] w fun e w' => e = .returned (.int .i64 3) ∧ Only none' w w' :=
  rs (size_ok (some ca) none kc 0 [22, 0, 0, 0] [] 200 0 w (by decide) (by decide) hT hs hkc (SlI.nil _) (by kernel_rfl) (by decide) (by decide))
theorem awk_at (ca : Addr) (kc : Nat) (w : World) (hT : Tab w) (hs : SlI w (.slice (some ca) 4 kc) [22, 0, 0, 0]) (hkc : 4 ≤ kc) : Calls Tryd.prog 11 #[.agg #[.slice (some ca) 4 kc, .slice none 0 0, .int .i64 200, .int .i64 0]] w fun e w' => e = .returned (.int .i64 128) ∧ Only none' w w' :=
  rs (dataat_ok (some ca) none kc 0 [22, 0, 0, 0] [] 200 0 w (by decide) (by decide) hT hs hkc (SlI.nil _) (by kernel_rfl) (by decide) (by decide))
theorem awk_pages (ca : Addr) (kc : Nat) (w : World) (hT : Tab w) (hs : SlI w (.slice (some ca) 4 kc) [22, 0, 0, 0]) (hkc : 4 ≤ kc) : Calls Tryd.prog 8 #[.agg #[.slice (some ca) 4 kc, .slice none 0 0, .int .i64 200, .int .i64 0]] w fun e w' => ∃ p c, e = .returned (.slice p 3 c) ∧ Only none' w w' :=
  (pages_lt (some ca) none kc 0 [22, 0, 0, 0] [] 200 0 w (by decide) (by decide) hT hs hkc (SlI.nil _) (by kernel_rfl) (by decide) (by decide) 128 384 (by kernel_rfl) (by kernel_rfl) (by decide) (by decide) (by decide) (by decide) (by decide) (by decide)).mono fun e w' ⟨mb, p, c, T, h1, h2, _⟩ => ⟨p, c, by rw [pagesV_len] at h1; exact h1, h2.only⟩

theorem awake_any (w : World) (hT : Tab w) :
    Calls Tryd.prog 6 #[] w fun e w' => e = .returned (.bool true) ∧ Only none' w w' := by
  refine c_enter (args := []) (m := 38) (n := 38) Tryd.func6 rfl (by kernel_rfl) (by kernel_rfl) fun fr hA => ?_
  have hO := Ow.nil Tryd.prog none' w
  refine sC (e' := [(0, bl false)]) 1 hA [] c0 ?_
  clear hA fr; intro fr hA
  refine sR (l := [0, 1, 2, 3]) ?_
  refine wpOps_cons' (mN (l := [u8 22, u8 0, u8 0, u8 0]) (t := 5) (v := fun b => .slice (some ⟨b, 0, none⟩) 4 4) (d := 4) hA hO ?_)
  clear hA hO fr; intro fr w1 b1 hA hO
  refine ck (l := [1]) (r := [2, 3]) (e' := [(0, bl false), (5, .agg #[.slice (some ⟨b1, 0, none⟩) 4 4, .slice none 0 0, i64 200, i64 0])]) hA [] c0 ?_
  clear hA fr; intro fr hA
  refine wpOps_cons' (mN (l := [.slice none 0 0, .slice none 0 0, i64 0, i64 0]) (t := 27) (v := pt) (d := 1) hA hO ?_)
  clear hA hO fr; intro fr w2 b2 hA hO
  refine wpOps_cons' (mS (off := 0) (vc := [.slice (some ⟨b1, 0, none⟩) 4 4, .slice none 0 0, i64 200, i64 0]) 0 hA hO ?_)
  clear hO; intro w3 hO
  replace hA := hA.sb (e' := [(0, bl false), (1, pt b2)])
  refine end_ops ?_
  refine then_normal ?_
  refine sR (l := (rg 0 7)) ?_
  refine ck (l := [0]) (r := (rg 1 6)) (e' := [(0, bl false), (1, pt b2), (7, .agg #[.slice (some ⟨b1, 0, none⟩) 4 4, .slice none 0 0, i64 200, i64 0])]) hA [.agg #[.slice (some ⟨b1, 0, none⟩) 4 4, .slice none 0 0, i64 200, i64 0]] (cc (hO.ln 0 0 27 [.slice (some ⟨b1, 0, none⟩) 4 4, .slice none 0 0, i64 200, i64 0]) c0) ?_
  clear hA fr; intro fr hA
  refine wpOps_cons' (mC (f := 12) (args := [.agg #[.slice (some ⟨b1, 0, none⟩) 4 4, .slice none 0 0, i64 200, i64 0]]) (d := (some 8)) hA Tryd.func12 ((awk_make ⟨b1, 0, none⟩ 4 _ (hT.keep hO.only (fun h => h)) ((hO.b 1).sl (xs := [22, 0, 0, 0]) (U8s.cons (inK_u8 (by decide) (by decide)) (U8s.cons (inK_u8 (by decide) (by decide)) (U8s.cons (inK_u8 (by decide) (by decide)) (U8s.cons (inK_u8 (by decide) (by decide)) U8s.nil)))) rfl (by kernel_rfl)) (by decide)).mono ?_))
  rintro en w4 ⟨p1, c1, rfl, ho⟩
  refine ⟨_, rfl, ?_⟩
  clear hA fr; intro fr hA
  replace hO := hO.st ho; clear ho
  replace hA := hA.sb (e' := [(0, bl false), (1, pt b2), (8, .tuple #[.slice p1 21 c1, i64 0])])
  refine ck (l := (rg 2 5)) (r := []) (e' := [(0, bl false), (1, pt b2), (2, .slice p1 21 c1), (3, i64 0)]) hA [] c0 ?_
  clear hA fr; intro fr hA
  refine end_ops ?_
  refine then_normal ?_
  refine sR (l := (rg 0 28)) ?_
  refine ck (l := (rg 0 9)) (r := (rg 9 19)) (e' := [(0, bl false), (1, pt b2), (18, bl true), (19, .agg #[.slice (some ⟨b1, 0, none⟩) 4 4, .slice none 0 0, i64 200, i64 0])]) hA [.agg #[.slice (some ⟨b1, 0, none⟩) 4 4, .slice none 0 0, i64 200, i64 0]] (cc (hO.ln 0 0 27 [.slice (some ⟨b1, 0, none⟩) 4 4, .slice none 0 0, i64 200, i64 0]) c0) ?_
  clear hA fr; intro fr hA
  refine wpOps_cons' (mK (f := 10) (args := [.agg #[.slice (some ⟨b1, 0, none⟩) 4 4, .slice none 0 0, i64 200, i64 0]]) (d := (some 20)) (v := i64 3) hA hO Tryd.func10 (awk_size ⟨b1, 0, none⟩ 4 _ (hT.keep hO.only (fun h => h)) ((hO.b 1).sl (xs := [22, 0, 0, 0]) (U8s.cons (inK_u8 (by decide) (by decide)) (U8s.cons (inK_u8 (by decide) (by decide)) (U8s.cons (inK_u8 (by decide) (by decide)) (U8s.cons (inK_u8 (by decide) (by decide)) U8s.nil)))) rfl (by kernel_rfl)) (by decide)) ?_)
  clear hA hO fr; intro fr w5 hA hO
  replace hA := hA.sb (e' := [(0, bl false), (1, pt b2), (18, bl true), (20, i64 3)])
  refine ck (l := [10, 11, 12, 13]) (r := (rg 14 14)) (e' := [(0, bl false), (1, pt b2), (23, bl true), (24, .agg #[.slice (some ⟨b1, 0, none⟩) 4 4, .slice none 0 0, i64 200, i64 0])]) hA [.agg #[.slice (some ⟨b1, 0, none⟩) 4 4, .slice none 0 0, i64 200, i64 0]] (cc (hO.ln 0 0 27 [.slice (some ⟨b1, 0, none⟩) 4 4, .slice none 0 0, i64 200, i64 0]) c0) ?_
  clear hA fr; intro fr hA
  refine wpOps_cons' (mC (f := 8) (args := [.agg #[.slice (some ⟨b1, 0, none⟩) 4 4, .slice none 0 0, i64 200, i64 0]]) (d := (some 25)) hA Tryd.func8 ((awk_pages ⟨b1, 0, none⟩ 4 _ (hT.keep hO.only (fun h => h)) ((hO.b 1).sl (xs := [22, 0, 0, 0]) (U8s.cons (inK_u8 (by decide) (by decide)) (U8s.cons (inK_u8 (by decide) (by decide)) (U8s.cons (inK_u8 (by decide) (by decide)) (U8s.cons (inK_u8 (by decide) (by decide)) U8s.nil)))) rfl (by kernel_rfl)) (by decide)).mono ?_))
  rintro en w6 ⟨p2, c2, rfl, ho⟩
  refine ⟨_, rfl, ?_⟩
  clear hA fr; intro fr hA
  replace hO := hO.st ho; clear ho
  replace hA := hA.sb (e' := [(0, bl false), (1, pt b2), (23, bl true), (25, .slice p2 3 c2)])
  refine ck (l := (rg 15 5)) (r := (rg 20 8)) (e' := [(0, bl false), (1, pt b2), (29, bl true), (30, .agg #[.slice (some ⟨b1, 0, none⟩) 4 4, .slice none 0 0, i64 200, i64 0])]) hA [.agg #[.slice (some ⟨b1, 0, none⟩) 4 4, .slice none 0 0, i64 200, i64 0]] (cc (hO.ln 0 0 27 [.slice (some ⟨b1, 0, none⟩) 4 4, .slice none 0 0, i64 200, i64 0]) c0) ?_
  clear hA fr; intro fr hA
  refine wpOps_cons' (mK (f := 11) (args := [.agg #[.slice (some ⟨b1, 0, none⟩) 4 4, .slice none 0 0, i64 200, i64 0]]) (d := (some 31)) (v := i64 128) hA hO Tryd.func11 (awk_at ⟨b1, 0, none⟩ 4 _ (hT.keep hO.only (fun h => h)) ((hO.b 1).sl (xs := [22, 0, 0, 0]) (U8s.cons (inK_u8 (by decide) (by decide)) (U8s.cons (inK_u8 (by decide) (by decide)) (U8s.cons (inK_u8 (by decide) (by decide)) (U8s.cons (inK_u8 (by decide) (by decide)) U8s.nil)))) rfl (by kernel_rfl)) (by decide)) ?_)
  clear hA hO fr; intro fr w7 hA hO
  replace hA := hA.sb (e' := [(0, bl false), (1, pt b2), (29, bl true), (31, i64 128)])
  refine ck (l := [21, 22, 23, 24]) (r := [25, 26, 27]) (e' := [(0, bl false), (34, bl true), (35, .agg #[.slice (some ⟨b1, 0, none⟩) 4 4, .slice none 0 0, i64 200, i64 0])]) hA [.agg #[.slice (some ⟨b1, 0, none⟩) 4 4, .slice none 0 0, i64 200, i64 0]] (cc (hO.ln 0 0 27 [.slice (some ⟨b1, 0, none⟩) 4 4, .slice none 0 0, i64 200, i64 0]) c0) ?_
  clear hA fr; intro fr hA
  refine wpOps_cons' (mK (f := 9) (args := [.agg #[.slice (some ⟨b1, 0, none⟩) 4 4, .slice none 0 0, i64 200, i64 0]]) (d := (some 36)) (v := bl true) hA hO Tryd.func9 (awk_valid ⟨b1, 0, none⟩ 4 _ (hT.keep hO.only (fun h => h)) ((hO.b 1).sl (xs := [22, 0, 0, 0]) (U8s.cons (inK_u8 (by decide) (by decide)) (U8s.cons (inK_u8 (by decide) (by decide)) (U8s.cons (inK_u8 (by decide) (by decide)) (U8s.cons (inK_u8 (by decide) (by decide)) U8s.nil)))) rfl (by kernel_rfl)) (by decide)) ?_)
  clear hA hO fr; intro fr w8 hA hO
  replace hA := hA.sb (e' := [(0, bl false), (34, bl true), (36, bl true)])
  refine ck (l := [26, 27]) (r := []) (e' := [(0, bl true)]) hA [] c0 ?_
  clear hA fr; intro fr hA
  refine end_ops ?_
  refine then_normal ?_
  refine wp_ret ?_
  refine cR (cs := [none]) (us := [bl true]) hA [] trivial ?_
  have hF := hO.only; clear hA hO
  exact ⟨rfl, hF⟩

theorem few_any (cp dp : Option Addr) (kc kd : Nat) (cs ds : List Int) (z et : Int) (w : World) :
    Calls Tryd.prog 7 #[.agg #[.slice cp cs.length kc, .slice dp ds.length kd, i64 z, i64 et]] w fun e w' => e = .returned (.bool (decide (cs.length ≤ 2000 ∧ ds.length ≤ 2000))) ∧ Only none' w w' := by
  refine c_enter (args := [.agg #[.slice cp cs.length kc, .slice dp ds.length kd, i64 z, i64 et]]) (m := 12) (n := 13) Tryd.func7 rfl (by kernel_rfl) (by kernel_rfl) fun fr hA => ?_
  have hO := Ow.nil Tryd.prog none' w
  refine sR (l := [0, 1]) ?_
  refine wpOps_cons' (mN (l := [.slice cp cs.length kc, .slice dp ds.length kd, i64 z, i64 et]) (t := 24) (v := pt) (d := 1) hA hO ?_)
  clear hA hO fr; intro fr w1 b1 hA hO
  replace hA := hA.sb (e' := [(1, pt b1)])
  refine ck (l := [1]) (r := []) (e' := [(1, pt b1), (2, bl false)]) hA [] c0 ?_
  clear hA fr; intro fr hA
  refine end_ops ?_
  refine then_normal ?_
  refine sR (l := (rg 0 11)) ?_
  refine ck (l := (rg 0 5)) (r := (rg 5 6)) (e' := [(1, pt b1), (2, bl false), (6, bl (decide (((cs.length : Nat) : Int) ≤ 2000))), (7, bl (decide (((cs.length : Nat) : Int) ≤ 2000)))]) hA [.slice cp cs.length kc] (cc (hO.l1 0 0 22 (.slice cp cs.length kc)) c0) ?_
  clear hA fr; intro fr hA
  rcases Bool.eq_false_or_eq_true (decide (((cs.length : Nat) : Int) ≤ 2000)) with h1 | h1
  ·
    replace hA := hA.bool (f := fun z_ => [(1, pt b1), (2, bl false), (6, .bool z_), (7, .bool z_)]) h1
    have h1p := of_decide_eq_true h1
    refine ck (l := (rg 5 6)) (r := []) (e' := [(2, bl (decide (((ds.length : Nat) : Int) ≤ 2000)))]) hA [.slice dp ds.length kd] (cc (hO.l1 0 1 22 (.slice dp ds.length kd)) c0) ?_
    clear hA fr; intro fr hA
    refine end_ops ?_
    refine then_normal ?_
    refine wp_ret ?_
    refine cR (cs := [none]) (us := [bl (decide (((ds.length : Nat) : Int) ≤ 2000))]) hA [] trivial ?_
    have hF := hO.only; clear hA hO
    exact ⟨congrArg (fun b => Ending.returned (.bool b)) (by first | exact (decide_eq_true (by omega)).symm | exact (decide_eq_false (by omega)).symm | (rw [Bool.eq_iff_iff]; simp only [decide_eq_true_eq]; omega)), hF⟩
  ·
    replace hA := hA.bool (f := fun z_ => [(1, pt b1), (2, bl false), (6, .bool z_), (7, .bool z_)]) h1
    have h1p := of_decide_eq_false h1
    refine ck (l := (rg 5 6)) (r := []) (e' := [(2, bl false)]) hA [] c0 ?_
    clear hA fr; intro fr hA
    refine end_ops ?_
    refine then_normal ?_
    refine wp_ret ?_
    refine cR (cs := [none]) (us := [bl false]) hA [] trivial ?_
    have hF := hO.only; clear hA hO
    exact ⟨congrArg (fun b => Ending.returned (.bool b)) (by first | exact (decide_eq_true (by omega)).symm | exact (decide_eq_false (by omega)).symm | (rw [Bool.eq_iff_iff]; simp only [decide_eq_true_eq]; omega)), hF⟩

end Go.Proofs.YtkfnkcpdabdboaaDoor
