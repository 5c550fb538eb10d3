/- The layer cpu: walks of Show of both. -/
import Derived.Test.YtkfnkcpdabdboaaDoorRshow
set_option linter.unusedVariables false
set_option linter.unusedSimpArgs false
set_option maxRecDepth 10000
namespace Go.Proofs.YtkfnkcpdabdboaaDoor
open Go Go.RowKit Go.Proofs.Sx

theorem show_both (o a b c v : Int) (hl : legalB o a b c v = true) : ∃ s : ByteArray, (∀ w, Tab w → Pow w → Calls Tryd.prog 36 #[insV o a b c v] w fun e w' => e = .returned (.string s) ∧ Only none' w w') ∧ (∀ w, Calls Tryd.prog 38 #[insV o a b c v] w fun e w' => e = .returned (.string s) ∧ Only none' w w') ∧ s.size ≤ 1000000 := by
  have ho := (legal_spec hl).1
  obtain ⟨k, rfl⟩ := Int.eq_ofNat_of_zero_le (show 0 ≤ o by omega)
  have h1 : 1 ≤ k := by omega
  have h2 : k ≤ 22 := by omega
  rcases form_cases ((k : Nat) : Int) with h | h | h | h | h | h | h
  · exact absurd ho (form_zero h)
  · obtain ⟨_, g1, g2, g3, g4⟩ := (form_flags ((k : Nat) : Int)).1 h
    refine ⟨_, fun w hT hP => show_1 k a b c v (rowNm k) w hT hP h1 h2 hl (nm_len h1 h2) ?_, fun w => rshow_1 k a b c v (rowNm k) w h1 h2 hl h (nm_len h1 h2) (ref_name h1 h2), by have hnm := nm_len h1 h2; obtain ⟨ho_, ha_, hb_, hc_, hv_, hc2_⟩ := legal_spec hl; have la_ := itoaS_len a; have lb_ := itoaS_len b; have lc_ := itoaS_len c; have lv_ := itoaS_len v; rw [ba_size]; simp [joinS, Lib.join, List.intercalate]; try simp at la_; try simp at lb_; try simp at lc_; try simp at lv_; try simp at hnm; omega⟩
    have hr := row_of (t := 63) (P := Tryd.prog) hT (by kernel_rfl) h1 h2
    rw [g1, g2, g3, g4] at hr; exact hr
  · obtain ⟨_, g1, g2, g3, g4⟩ := (form_flags ((k : Nat) : Int)).2.1 h
    refine ⟨_, fun w hT hP => show_2 k a b c v (rowNm k) w hT hP h1 h2 hl (nm_len h1 h2) ?_, fun w => rshow_2 k a b c v (rowNm k) w h1 h2 hl h (nm_len h1 h2) (ref_name h1 h2), by have hnm := nm_len h1 h2; obtain ⟨ho_, ha_, hb_, hc_, hv_, hc2_⟩ := legal_spec hl; have la_ := itoaS_len a; have lb_ := itoaS_len b; have lc_ := itoaS_len c; have lv_ := itoaS_len v; rw [ba_size]; simp [joinS, Lib.join, List.intercalate]; try simp at la_; try simp at lb_; try simp at lc_; try simp at lv_; try simp at hnm; omega⟩
    have hr := row_of (t := 63) (P := Tryd.prog) hT (by kernel_rfl) h1 h2
    rw [g1, g2, g3, g4] at hr; exact hr
  · obtain ⟨_, g1, g2, g3, g4⟩ := (form_flags ((k : Nat) : Int)).2.2.1 h
    refine ⟨_, fun w hT hP => show_3 k a b c v (rowNm k) w hT hP h1 h2 hl (nm_len h1 h2) ?_, fun w => rshow_3 k a b c v (rowNm k) w h1 h2 hl h (nm_len h1 h2) (ref_name h1 h2), by have hnm := nm_len h1 h2; obtain ⟨ho_, ha_, hb_, hc_, hv_, hc2_⟩ := legal_spec hl; have la_ := itoaS_len a; have lb_ := itoaS_len b; have lc_ := itoaS_len c; have lv_ := itoaS_len v; rw [ba_size]; simp [joinS, Lib.join, List.intercalate]; try simp at la_; try simp at lb_; try simp at lc_; try simp at lv_; try simp at hnm; omega⟩
    have hr := row_of (t := 63) (P := Tryd.prog) hT (by kernel_rfl) h1 h2
    rw [g1, g2, g3, g4] at hr; exact hr
  · obtain ⟨_, g1, g2, g3, g4⟩ := (form_flags ((k : Nat) : Int)).2.2.2.1 h
    refine ⟨_, fun w hT hP => show_4 k a b c v (rowNm k) w hT hP h1 h2 hl (nm_len h1 h2) ?_, fun w => rshow_4 k a b c v (rowNm k) w h1 h2 hl h (nm_len h1 h2) (ref_name h1 h2), by have hnm := nm_len h1 h2; obtain ⟨ho_, ha_, hb_, hc_, hv_, hc2_⟩ := legal_spec hl; have la_ := itoaS_len a; have lb_ := itoaS_len b; have lc_ := itoaS_len c; have lv_ := itoaS_len v; rw [ba_size]; simp [joinS, Lib.join, List.intercalate]; try simp at la_; try simp at lb_; try simp at lc_; try simp at lv_; try simp at hnm; omega⟩
    have hr := row_of (t := 63) (P := Tryd.prog) hT (by kernel_rfl) h1 h2
    rw [g1, g2, g3, g4] at hr; exact hr
  · obtain ⟨_, g1, g2, g3, g4⟩ := (form_flags ((k : Nat) : Int)).2.2.2.2.1 h
    refine ⟨_, fun w hT hP => show_5 k a b c v (rowNm k) w hT hP h1 h2 hl (nm_len h1 h2) ?_, fun w => rshow_5 k a b c v (rowNm k) w h1 h2 hl h (nm_len h1 h2) (ref_name h1 h2), by have hnm := nm_len h1 h2; obtain ⟨ho_, ha_, hb_, hc_, hv_, hc2_⟩ := legal_spec hl; have la_ := itoaS_len a; have lb_ := itoaS_len b; have lc_ := itoaS_len c; have lv_ := itoaS_len v; rw [ba_size]; simp [joinS, Lib.join, List.intercalate]; try simp at la_; try simp at lb_; try simp at lc_; try simp at lv_; try simp at hnm; omega⟩
    have hr := row_of (t := 63) (P := Tryd.prog) hT (by kernel_rfl) h1 h2
    rw [g1, g2, g3, g4] at hr; exact hr
  · obtain ⟨_, g1, g2, g3, g4⟩ := (form_flags ((k : Nat) : Int)).2.2.2.2.2 h
    refine ⟨_, fun w hT hP => show_6 k a b c v (rowNm k) w hT hP h1 h2 hl (nm_len h1 h2) ?_, fun w => rshow_6 k a b c v (rowNm k) w h1 h2 hl h (nm_len h1 h2) (ref_name h1 h2), by have hnm := nm_len h1 h2; obtain ⟨ho_, ha_, hb_, hc_, hv_, hc2_⟩ := legal_spec hl; have la_ := itoaS_len a; have lb_ := itoaS_len b; have lc_ := itoaS_len c; have lv_ := itoaS_len v; rw [ba_size]; simp [joinS, Lib.join, List.intercalate]; try simp at la_; try simp at lb_; try simp at lc_; try simp at lv_; try simp at hnm; omega⟩
    have hr := row_of (t := 63) (P := Tryd.prog) hT (by kernel_rfl) h1 h2
    rw [g1, g2, g3, g4] at hr; exact hr

theorem show_bad (o a b c v : Int) (w : World) (hT : Tab w) (hl : legalB o a b c v = false) :
    Calls Tryd.prog 36 #[.agg #[i64 o, i64 a, i64 b, i64 c, i64 v]] w fun e w' => e = .returned (.string ⟨#[63]⟩) ∧ Only none' w w' := by
  refine c_enter (args := [.agg #[i64 o, i64 a, i64 b, i64 c, i64 v]]) (m := 51) (n := 52) Tryd.func36 rfl (by kernel_rfl) (by kernel_rfl) fun fr hA => ?_
  have hO := Ow.nil Tryd.prog none' w
  refine sR (l := [0, 1]) ?_
  refine wpOps_cons' (mN (l := [i64 o, i64 a, i64 b, i64 c, i64 v]) (t := 46) (v := pt) (d := 1) hA hO ?_)
  clear hA hO fr; intro fr w1 b1 hA hO
  replace hA := hA.sb (e' := [(1, pt b1)])
  refine ck (l := [1]) (r := []) (e' := [(1, pt b1), (2, str (⟨#[]⟩))]) hA [] c0 ?_
  clear hA fr; intro fr hA
  refine end_ops ?_
  refine then_normal ?_
  refine wp_seq ?_
  refine sR (l := [0, 1, 2]) ?_
  refine ck (l := [0]) (r := [1, 2]) (e' := [(1, pt b1), (2, str (⟨#[]⟩)), (7, .agg #[i64 o, i64 a, i64 b, i64 c, i64 v])]) hA [.agg #[i64 o, i64 a, i64 b, i64 c, i64 v]] (cc (hO.ln 0 0 46 [i64 o, i64 a, i64 b, i64 c, i64 v]) c0) ?_
  clear hA fr; intro fr hA
  refine wpOps_cons' (mK (f := 39) (args := [.agg #[i64 o, i64 a, i64 b, i64 c, i64 v]]) (d := (some 8)) (v := bl false) hA hO Tryd.func39 (rs (legal_any o a b c v _ (hT.keep hO.only (fun h => h))) (congrArg Value.bool hl)) ?_)
  clear hA hO fr; intro fr w2 hA hO
  replace hA := hA.sb (e' := [(1, pt b1), (2, str (⟨#[]⟩)), (8, bl false)])
  refine ck (l := [2]) (r := []) (e' := [(1, pt b1), (2, str (⟨#[]⟩)), (9, bl true)]) hA [] c0 ?_
  clear hA fr; intro fr hA
  refine end_ops ?_
  refine then_normal ?_
  refine cT hA ?_
  refine sC (e' := [(1, pt b1), (2, str (⟨#[63]⟩))]) 1 hA [] c0 ?_
  clear hA fr; intro fr hA
  refine wp_ret ?_
  refine then_ret ?_
  refine cR (cs := [none]) (us := [str (⟨#[63]⟩)]) hA [] trivial ?_
  have hF := hO.only; clear hA hO
  exact ⟨rfl, hF⟩

theorem rshow_bad (o a b c v : Int) (w : World) (hl : legalB o a b c v = false) :
    Calls Tryd.prog 38 #[.agg #[i64 o, i64 a, i64 b, i64 c, i64 v]] w fun e w' => e = .returned (.string ⟨#[63]⟩) ∧ Only none' w w' := by
  refine c_enter (args := [.agg #[i64 o, i64 a, i64 b, i64 c, i64 v]]) (m := 59) (n := 60) Tryd.func38 rfl (by kernel_rfl) (by kernel_rfl) fun fr hA => ?_
  have hO := Ow.nil Tryd.prog none' w
  refine sR (l := [0, 1]) ?_
  refine wpOps_cons' (mN (l := [i64 o, i64 a, i64 b, i64 c, i64 v]) (t := 56) (v := pt) (d := 1) hA hO ?_)
  clear hA hO fr; intro fr w1 b1 hA hO
  replace hA := hA.sb (e' := [(1, pt b1)])
  refine ck (l := [1]) (r := []) (e' := [(1, pt b1), (2, str (⟨#[]⟩))]) hA [] c0 ?_
  clear hA fr; intro fr hA
  refine end_ops ?_
  refine then_normal ?_
  refine wp_seq ?_
  refine sR (l := [0, 1, 2]) ?_
  refine ck (l := [0]) (r := [1, 2]) (e' := [(1, pt b1), (2, str (⟨#[]⟩)), (6, .agg #[i64 o, i64 a, i64 b, i64 c, i64 v])]) hA [.agg #[i64 o, i64 a, i64 b, i64 c, i64 v]] (cc (hO.ln 0 0 56 [i64 o, i64 a, i64 b, i64 c, i64 v]) c0) ?_
  clear hA fr; intro fr hA
  refine wpOps_cons' (mK (f := 44) (args := [.agg #[i64 o, i64 a, i64 b, i64 c, i64 v]]) (d := (some 7)) (v := bl false) hA hO Tryd.func44 (rs (rlegal_any o a b c v _) (congrArg Value.bool hl)) ?_)
  clear hA hO fr; intro fr w2 hA hO
  replace hA := hA.sb (e' := [(1, pt b1), (2, str (⟨#[]⟩)), (7, bl false)])
  refine ck (l := [2]) (r := []) (e' := [(1, pt b1), (2, str (⟨#[]⟩)), (8, bl true)]) hA [] c0 ?_
  clear hA fr; intro fr hA
  refine end_ops ?_
  refine then_normal ?_
  refine cT hA ?_
  refine sC (e' := [(1, pt b1), (2, str (⟨#[63]⟩))]) 1 hA [] c0 ?_
  clear hA fr; intro fr hA
  refine wp_ret ?_
  refine then_ret ?_
  refine cR (cs := [none]) (us := [str (⟨#[63]⟩)]) hA [] trivial ?_
  have hF := hO.only; clear hA hO
  exact ⟨rfl, hF⟩

end Go.Proofs.YtkfnkcpdabdboaaDoor
