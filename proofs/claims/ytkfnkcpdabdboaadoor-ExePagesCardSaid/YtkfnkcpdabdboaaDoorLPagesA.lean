/- The layer exe: the law ExePages. -/
import Derived.Test.YtkfnkcpdabdboaaDoorAwake
set_option linter.unusedVariables false
set_option linter.unusedSimpArgs false
set_option maxRecDepth 10000
namespace Go.Proofs.YtkfnkcpdabdboaaDoor
open Go Go.RowKit Go.Proofs.Sx

theorem pag_few (cp dp : Option Addr) (kc kd : Nat) (cs ds : List Int) (z et : Int) (w : World) (hT : Tab w) (hs : SlI w (.slice cp cs.length kc) cs) (hs2 : SlI w (.slice dp ds.length kd) ds) (hkc : cs.length ≤ kc) (hf : ¬ (cs.length ≤ 2000 ∧ ds.length ≤ 2000)) :
    Calls Tryd.prog 3 #[.agg #[.slice cp cs.length kc, .slice dp ds.length kd, i64 z, i64 et]] w fun e w' => e = .returned (.bool true) ∧ Only none' w w' := by
  refine c_enter (args := [.agg #[.slice cp cs.length kc, .slice dp ds.length kd, i64 z, i64 et]]) (m := 145) (n := 146) Tryd.func3 rfl (by kernel_rfl) (by kernel_rfl) fun fr hA => ?_
  have hO := Ow.nil Tryd.prog none' w
  refine sR (l := [0, 1]) ?_
  refine wpOps_cons' (mN (l := [.slice cp cs.length kc, .slice dp ds.length kd, i64 z, i64 et]) (t := 24) (v := pt) (d := 1) hA hO ?_)
  clear hA hO fr; intro fr w1 b1 hA hO
  replace hA := hA.sb (e' := [(1, pt b1)])
  refine ck (l := [1]) (r := []) (e' := [(1, pt b1), (2, bl false)]) hA [] c0 ?_
  clear hA fr; intro fr hA
  refine end_ops ?_
  refine then_normal ?_
  refine wp_seq ?_
  refine sR (l := [0, 1]) ?_
  refine wpOps_cons' (mK (f := 6) (args := []) (d := (some 11)) (v := bl true) hA hO Tryd.func6 (awake_any _ (hT.keep hO.only (fun h => h))) ?_)
  clear hA hO fr; intro fr w2 hA hO
  refine ck (l := [1]) (r := []) (e' := [(1, pt b1), (2, bl false), (12, bl false)]) hA [] c0 ?_
  clear hA fr; intro fr hA
  refine end_ops ?_
  refine then_normal ?_
  refine cF hA ?_
  refine wp_skip ?_
  refine then_normal ?_
  refine wp_seq ?_
  refine sR (l := [0, 1, 2]) ?_
  refine ck (l := [0]) (r := [1, 2]) (e' := [(1, pt b1), (2, bl false), (13, .agg #[.slice cp cs.length kc, .slice dp ds.length kd, i64 z, i64 et])]) hA [.agg #[.slice cp cs.length kc, .slice dp ds.length kd, i64 z, i64 et]] (cc (hO.ln 0 0 24 [.slice cp cs.length kc, .slice dp ds.length kd, i64 z, i64 et]) c0) ?_
  clear hA fr; intro fr hA
  refine wpOps_cons' (mK (f := 7) (args := [.agg #[.slice cp cs.length kc, .slice dp ds.length kd, i64 z, i64 et]]) (d := (some 14)) (v := bl (decide (cs.length ≤ 2000 ∧ ds.length ≤ 2000))) hA hO Tryd.func7 (few_any cp dp kc kd cs ds z et _) ?_)
  clear hA hO fr; intro fr w3 hA hO
  replace hA := hA.sb (e' := [(1, pt b1), (2, bl false), (14, bl (decide (cs.length ≤ 2000 ∧ ds.length ≤ 2000)))])
  refine ck (l := [2]) (r := []) (e' := [(1, pt b1), (2, bl false), (15, bl (!(decide (cs.length ≤ 2000 ∧ ds.length ≤ 2000))))]) hA [] c0 ?_
  clear hA fr; intro fr hA
  refine end_ops ?_
  refine then_normal ?_
  replace hA := hA.bool (f := fun z_ => [(1, pt b1), (2, bl false), (15, .bool !z_)]) (decide_eq_false hf : (decide (cs.length ≤ 2000 ∧ ds.length ≤ 2000)) = false)
  refine cT hA ?_
  refine sC (e' := [(1, pt b1), (2, bl true)]) 1 hA [] c0 ?_
  clear hA fr; intro fr hA
  refine wp_ret ?_
  refine then_ret ?_
  refine cR (cs := [none]) (us := [bl true]) hA [] trivial ?_
  have hF := hO.only; clear hA hO
  exact ⟨rfl, hF⟩

theorem pag_bad (cp dp : Option Addr) (kc kd : Nat) (cs ds : List Int) (z et : Int) (w : World) (hT : Tab w) (hs : SlI w (.slice cp cs.length kc) cs) (hs2 : SlI w (.slice dp ds.length kd) ds) (hkc : cs.length ≤ kc) (hc : cs.length ≤ 2000) (hd : ds.length ≤ 2000) (hv : validB cs ((ds.length : Nat) : Int) z et = false) :
    Calls Tryd.prog 3 #[.agg #[.slice cp cs.length kc, .slice dp ds.length kd, i64 z, i64 et]] w fun e w' => e = .returned (.bool true) ∧ Only none' w w' := by
  refine c_enter (args := [.agg #[.slice cp cs.length kc, .slice dp ds.length kd, i64 z, i64 et]]) (m := 145) (n := 146) Tryd.func3 rfl (by kernel_rfl) (by kernel_rfl) fun fr hA => ?_
  have hO := Ow.nil Tryd.prog none' w
  refine sR (l := [0, 1]) ?_
  refine wpOps_cons' (mN (l := [.slice cp cs.length kc, .slice dp ds.length kd, i64 z, i64 et]) (t := 24) (v := pt) (d := 1) hA hO ?_)
  clear hA hO fr; intro fr w1 b1 hA hO
  replace hA := hA.sb (e' := [(1, pt b1)])
  refine ck (l := [1]) (r := []) (e' := [(1, pt b1), (2, bl false)]) hA [] c0 ?_
  clear hA fr; intro fr hA
  refine end_ops ?_
  refine then_normal ?_
  refine wp_seq ?_
  refine sR (l := [0, 1]) ?_
  refine wpOps_cons' (mK (f := 6) (args := []) (d := (some 11)) (v := bl true) hA hO Tryd.func6 (awake_any _ (hT.keep hO.only (fun h => h))) ?_)
  clear hA hO fr; intro fr w2 hA hO
  refine ck (l := [1]) (r := []) (e' := [(1, pt b1), (2, bl false), (12, bl false)]) hA [] c0 ?_
  clear hA fr; intro fr hA
  refine end_ops ?_
  refine then_normal ?_
  refine cF hA ?_
  refine wp_skip ?_
  refine then_normal ?_
  refine wp_seq ?_
  refine sR (l := [0, 1, 2]) ?_
  refine ck (l := [0]) (r := [1, 2]) (e' := [(1, pt b1), (2, bl false), (13, .agg #[.slice cp cs.length kc, .slice dp ds.length kd, i64 z, i64 et])]) hA [.agg #[.slice cp cs.length kc, .slice dp ds.length kd, i64 z, i64 et]] (cc (hO.ln 0 0 24 [.slice cp cs.length kc, .slice dp ds.length kd, i64 z, i64 et]) c0) ?_
  clear hA fr; intro fr hA
  refine wpOps_cons' (mK (f := 7) (args := [.agg #[.slice cp cs.length kc, .slice dp ds.length kd, i64 z, i64 et]]) (d := (some 14)) (v := bl (decide (cs.length ≤ 2000 ∧ ds.length ≤ 2000))) hA hO Tryd.func7 (few_any cp dp kc kd cs ds z et _) ?_)
  clear hA hO fr; intro fr w3 hA hO
  replace hA := hA.sb (e' := [(1, pt b1), (2, bl false), (14, bl (decide (cs.length ≤ 2000 ∧ ds.length ≤ 2000)))])
  refine ck (l := [2]) (r := []) (e' := [(1, pt b1), (2, bl false), (15, bl (!(decide (cs.length ≤ 2000 ∧ ds.length ≤ 2000))))]) hA [] c0 ?_
  clear hA fr; intro fr hA
  refine end_ops ?_
  refine then_normal ?_
  replace hA := hA.bool (f := fun z_ => [(1, pt b1), (2, bl false), (15, .bool !z_)]) (decide_eq_true ⟨hc, hd⟩ : (decide (cs.length ≤ 2000 ∧ ds.length ≤ 2000)) = true)
  refine cF hA ?_
  refine wp_skip ?_
  refine then_normal ?_
  refine sR (l := [0, 1, 2]) ?_
  refine ck (l := [0]) (r := [1, 2]) (e' := [(1, pt b1), (2, bl false), (16, .agg #[.slice cp cs.length kc, .slice dp ds.length kd, i64 z, i64 et])]) hA [.agg #[.slice cp cs.length kc, .slice dp ds.length kd, i64 z, i64 et]] (cc (hO.ln 0 0 24 [.slice cp cs.length kc, .slice dp ds.length kd, i64 z, i64 et]) c0) ?_
  clear hA fr; intro fr hA
  refine wpOps_cons' (mN (l := [.slice none 0 0, .slice none 0 0, i64 0, i64 0]) (t := 27) (v := pt) (d := 3) hA hO ?_)
  clear hA hO fr; intro fr w4 b2 hA hO
  refine wpOps_cons' (mS (off := 0) (vc := [.slice cp cs.length kc, .slice dp ds.length kd, i64 z, i64 et]) 0 hA hO ?_)
  clear hO; intro w5 hO
  replace hA := hA.sb (e' := [(1, pt b1), (2, bl false), (3, pt b2)])
  refine end_ops ?_
  refine then_normal ?_
  refine sR (l := [0, 1, 2]) ?_
  refine ck (l := [0]) (r := [1, 2]) (e' := [(1, pt b1), (2, bl false), (3, pt b2), (17, .agg #[.slice cp cs.length kc, .slice dp ds.length kd, i64 z, i64 et])]) hA [.agg #[.slice cp cs.length kc, .slice dp ds.length kd, i64 z, i64 et]] (cc (hO.ln 0 0 27 [.slice cp cs.length kc, .slice dp ds.length kd, i64 z, i64 et]) c0) ?_
  clear hA fr; intro fr hA
  refine wpOps_cons' (mK (f := 8) (args := [.agg #[.slice cp cs.length kc, .slice dp ds.length kd, i64 z, i64 et]]) (d := (some 18)) (v := .slice none 0 0) hA hO Tryd.func8 (pages_bad cp dp kc kd cs ds z et _ hc hd (hT.keep hO.only (fun h => h)) (hs.keep hO.only) hkc (hs2.keep hO.only) hv) ?_)
  clear hA hO fr; intro fr w6 hA hO
  replace hA := hA.sb (e' := [(1, pt b1), (2, bl false), (3, pt b2), (18, .slice none 0 0)])
  refine ck (l := [2]) (r := []) (e' := [(1, pt b1), (2, bl false), (3, pt b2), (4, .slice none 0 0)]) hA [] c0 ?_
  clear hA fr; intro fr hA
  refine end_ops ?_
  refine then_normal ?_
  refine wp_seq ?_
  refine sR (l := [0, 1, 2]) ?_
  refine ck (l := [0]) (r := [1, 2]) (e' := [(1, pt b1), (2, bl false), (3, pt b2), (4, .slice none 0 0), (19, .agg #[.slice cp cs.length kc, .slice dp ds.length kd, i64 z, i64 et])]) hA [.agg #[.slice cp cs.length kc, .slice dp ds.length kd, i64 z, i64 et]] (cc (hO.ln 0 0 27 [.slice cp cs.length kc, .slice dp ds.length kd, i64 z, i64 et]) c0) ?_
  clear hA fr; intro fr hA
  refine wpOps_cons' (mK (f := 9) (args := [.agg #[.slice cp cs.length kc, .slice dp ds.length kd, i64 z, i64 et]]) (d := (some 20)) (v := bl false) hA hO Tryd.func9 (rs (valid_any cp dp kc kd cs ds z et _ hc hd (hT.keep hO.only (fun h => h)) (hs.keep hO.only) hkc) (congrArg Value.bool hv)) ?_)
  clear hA hO fr; intro fr w7 hA hO
  replace hA := hA.sb (e' := [(1, pt b1), (2, bl false), (3, pt b2), (4, .slice none 0 0), (20, bl false)])
  refine ck (l := [2]) (r := []) (e' := [(1, pt b1), (2, bl false), (3, pt b2), (4, .slice none 0 0), (21, bl true)]) hA [] c0 ?_
  clear hA fr; intro fr hA
  refine end_ops ?_
  refine then_normal ?_
  refine cT hA ?_
  refine sR (l := (rg 0 9)) ?_
  refine ck (l := (rg 0 5)) (r := [5, 6, 7, 8]) (e' := [(1, pt b1), (2, bl false), (3, pt b2), (4, .slice none 0 0), (25, bl true), (26, .agg #[.slice cp cs.length kc, .slice dp ds.length kd, i64 z, i64 et])]) hA [.agg #[.slice cp cs.length kc, .slice dp ds.length kd, i64 z, i64 et]] (cc (hO.ln 0 0 27 [.slice cp cs.length kc, .slice dp ds.length kd, i64 z, i64 et]) c0) ?_
  clear hA fr; intro fr hA
  refine wpOps_cons' (mK (f := 10) (args := [.agg #[.slice cp cs.length kc, .slice dp ds.length kd, i64 z, i64 et]]) (d := (some 27)) (v := i64 0) hA hO Tryd.func10 (size_bad cp dp kc kd cs ds z et _ hc hd (hT.keep hO.only (fun h => h)) (hs.keep hO.only) hkc (hs2.keep hO.only) hv) ?_)
  clear hA hO fr; intro fr w8 hA hO
  replace hA := hA.sb (e' := [(1, pt b1), (2, bl false), (3, pt b2), (4, .slice none 0 0), (25, bl true), (27, i64 0)])
  refine ck (l := [6, 7, 8]) (r := []) (e' := [(1, pt b1), (2, bl true), (3, pt b2), (4, .slice none 0 0)]) hA [] c0 ?_
  clear hA fr; intro fr hA
  refine end_ops ?_
  refine then_normal ?_
  refine wp_ret ?_
  refine then_ret ?_
  refine cR (cs := [none]) (us := [bl true]) hA [] trivial ?_
  have hF := hO.only; clear hA hO
  exact ⟨rfl, hF⟩

theorem pag_lts (ca : Addr) (da : Addr) (kc kd : Nat) (cs ds : List Int) (z et : Int) (w : World) (hT : Tab w) (hs : SlI w (.slice (some ca) cs.length kc) cs) (hs2 : SlI w (.slice (some da) ds.length kd) ds) (hkc : cs.length ≤ kc) (hc : cs.length ≤ 2000) (hd : ds.length ≤ 2000) (hv : validB cs ((ds.length : Nat) : Int) z et = true) (hz0 : 0 ≤ z) (hz1 : z ≤ 3072) (U N : Nat) (hN : endP ((cs.length : Nat) : Int) ((ds.length : Nat) : Int) z = ((N : Nat) : Int)) (hU : upP ((cs.length : Nat) : Int) = ((U : Nat) : Int)) (hUN : U < N) (hN1 : N ≤ 3072) (hcu : cs.length ≤ U) (hud : U + ds.length ≤ N) (hN0 : 0 < N) (hN8 : N % 128 = 0) (hU8 : U % 128 = 0) (hcu2 : U < cs.length + 128) (hz3 : ((U : Nat) : Int) + ((ds.length : Nat) : Int) + z ≤ ((N : Nat) : Int)) (hz4 : ((N : Nat) : Int) < ((U : Nat) : Int) + ((ds.length : Nat) : Int) + z + 128) (hcc : Cel w ca cs) (hdd : Cel w da ds) :
    Calls Tryd.prog 3 #[.agg #[.slice (some ca) cs.length kc, .slice (some da) ds.length kd, i64 z, i64 et]] w fun e w' => e = .returned (.bool true) ∧ Only none' w w' := by
  refine c_enter (args := [.agg #[.slice (some ca) cs.length kc, .slice (some da) ds.length kd, i64 z, i64 et]]) (m := 145) (n := 146) Tryd.func3 rfl (by kernel_rfl) (by kernel_rfl) fun fr hA => ?_
  have hO := Ow.nil Tryd.prog none' w
  have hcu8 := hs.1; have hdu8 := hs2.1
  refine sR (l := [0, 1]) ?_
  refine wpOps_cons' (mN (l := [.slice (some ca) cs.length kc, .slice (some da) ds.length kd, i64 z, i64 et]) (t := 24) (v := pt) (d := 1) hA hO ?_)
  clear hA hO fr; intro fr w1 b1 hA hO
  replace hA := hA.sb (e' := [(1, pt b1)])
  refine ck (l := [1]) (r := []) (e' := [(1, pt b1), (2, bl false)]) hA [] c0 ?_
  clear hA fr; intro fr hA
  refine end_ops ?_
  refine then_normal ?_
  refine wp_seq ?_
  refine sR (l := [0, 1]) ?_
  refine wpOps_cons' (mK (f := 6) (args := []) (d := (some 11)) (v := bl true) hA hO Tryd.func6 (awake_any _ (hT.keep hO.only (fun h => h))) ?_)
  clear hA hO fr; intro fr w2 hA hO
  refine ck (l := [1]) (r := []) (e' := [(1, pt b1), (2, bl false), (12, bl false)]) hA [] c0 ?_
  clear hA fr; intro fr hA
  refine end_ops ?_
  refine then_normal ?_
  refine cF hA ?_
  refine wp_skip ?_
  refine then_normal ?_
  refine wp_seq ?_
  refine sR (l := [0, 1, 2]) ?_
  refine ck (l := [0]) (r := [1, 2]) (e' := [(1, pt b1), (2, bl false), (13, .agg #[.slice (some ca) cs.length kc, .slice (some da) ds.length kd, i64 z, i64 et])]) hA [.agg #[.slice (some ca) cs.length kc, .slice (some da) ds.length kd, i64 z, i64 et]] (cc (hO.ln 0 0 24 [.slice (some ca) cs.length kc, .slice (some da) ds.length kd, i64 z, i64 et]) c0) ?_
  clear hA fr; intro fr hA
  refine wpOps_cons' (mK (f := 7) (args := [.agg #[.slice (some ca) cs.length kc, .slice (some da) ds.length kd, i64 z, i64 et]]) (d := (some 14)) (v := bl (decide (cs.length ≤ 2000 ∧ ds.length ≤ 2000))) hA hO Tryd.func7 (few_any (some ca) (some da) kc kd cs ds z et _) ?_)
  clear hA hO fr; intro fr w3 hA hO
  replace hA := hA.sb (e' := [(1, pt b1), (2, bl false), (14, bl (decide (cs.length ≤ 2000 ∧ ds.length ≤ 2000)))])
  refine ck (l := [2]) (r := []) (e' := [(1, pt b1), (2, bl false), (15, bl (!(decide (cs.length ≤ 2000 ∧ ds.length ≤ 2000))))]) hA [] c0 ?_
  clear hA fr; intro fr hA
  refine end_ops ?_
  refine then_normal ?_
  replace hA := hA.bool (f := fun z_ => [(1, pt b1), (2, bl false), (15, .bool !z_)]) (decide_eq_true ⟨hc, hd⟩ : (decide (cs.length ≤ 2000 ∧ ds.length ≤ 2000)) = true)
  refine cF hA ?_
  refine wp_skip ?_
  refine then_normal ?_
  refine sR (l := [0, 1, 2]) ?_
  refine ck (l := [0]) (r := [1, 2]) (e' := [(1, pt b1), (2, bl false), (16, .agg #[.slice (some ca) cs.length kc, .slice (some da) ds.length kd, i64 z, i64 et])]) hA [.agg #[.slice (some ca) cs.length kc, .slice (some da) ds.length kd, i64 z, i64 et]] (cc (hO.ln 0 0 24 [.slice (some ca) cs.length kc, .slice (some da) ds.length kd, i64 z, i64 et]) c0) ?_
  clear hA fr; intro fr hA
  refine wpOps_cons' (mN (l := [.slice none 0 0, .slice none 0 0, i64 0, i64 0]) (t := 27) (v := pt) (d := 3) hA hO ?_)
  clear hA hO fr; intro fr w4 b2 hA hO
  refine wpOps_cons' (mS (off := 0) (vc := [.slice (some ca) cs.length kc, .slice (some da) ds.length kd, i64 z, i64 et]) 0 hA hO ?_)
  clear hO; intro w5 hO
  replace hA := hA.sb (e' := [(1, pt b1), (2, bl false), (3, pt b2)])
  refine end_ops ?_
  refine then_normal ?_
  refine sR (l := [0, 1, 2]) ?_
  refine ck (l := [0]) (r := [1, 2]) (e' := [(1, pt b1), (2, bl false), (3, pt b2), (17, .agg #[.slice (some ca) cs.length kc, .slice (some da) ds.length kd, i64 z, i64 et])]) hA [.agg #[.slice (some ca) cs.length kc, .slice (some da) ds.length kd, i64 z, i64 et]] (cc (hO.ln 0 0 27 [.slice (some ca) cs.length kc, .slice (some da) ds.length kd, i64 z, i64 et]) c0) ?_
  clear hA fr; intro fr hA
  replace hO : Ow Tryd.prog none' w w5 [(b2, 27, [.slice (some ca) cs.length kc, .slice (some da) ds.length kd, i64 z, i64 et]), (b1, 24, [.slice (some ca) cs.length kc, .slice (some da) ds.length kd, i64 z, i64 et])] := hO
  refine wpOps_cons' (mC (f := 8) (args := [.agg #[.slice (some ca) cs.length kc, .slice (some da) ds.length kd, i64 z, i64 et]]) (d := (some 18)) hA Tryd.func8 (((pages_lt (some ca) (some da) kc kd cs ds z et _ hc hd (hT.keep hO.only (fun h => h)) (hs.keep hO.only) hkc (hs2.keep hO.only) hv hz0 hz1 U N hN hU hUN hN1 hcu hud hN0 hN8)).mono ?_))
  rintro en w6 ⟨m1, p1, c1, T1, hret, hW, hTP⟩; obtain ⟨b3, r1, rfl, rfl, hle_P, hcap_P⟩ := hTP.open (by rw [pagesV_len]; omega); rw [pagesV_len] at hret; subst hret
  refine ⟨_, rfl, ?_⟩
  clear hA fr; intro fr hA
  replace hO := Ow.join hO hW; clear hW
  replace hO : Ow Tryd.prog none' w w6 [(b2, 27, [.slice (some ca) cs.length kc, .slice (some da) ds.length kd, i64 z, i64 et]), (b1, 24, [.slice (some ca) cs.length kc, .slice (some da) ds.length kd, i64 z, i64 et]), (m1, 5, ((memL cs ds U N).flatMap fB)), (b3, 22, ((pagesV m1 (N / 128)).flatMap fS ++ r1))] := hO.to (by simp only [List.append_assoc, List.cons_append, List.nil_append, List.append_nil])
  replace hA := hA.sb (e' := [(1, pt b1), (2, bl false), (3, pt b2), (18, .slice (some ⟨b3, 0, none⟩) (N / 128) c1)])
  refine ck (l := [2]) (r := []) (e' := [(1, pt b1), (2, bl false), (3, pt b2), (4, .slice (some ⟨b3, 0, none⟩) (N / 128) c1)]) hA [] c0 ?_
  clear hA fr; intro fr hA
  refine end_ops ?_
  refine then_normal ?_
  refine wp_seq ?_
  refine sR (l := [0, 1, 2]) ?_
  refine ck (l := [0]) (r := [1, 2]) (e' := [(1, pt b1), (2, bl false), (3, pt b2), (4, .slice (some ⟨b3, 0, none⟩) (N / 128) c1), (19, .agg #[.slice (some ca) cs.length kc, .slice (some da) ds.length kd, i64 z, i64 et])]) hA [.agg #[.slice (some ca) cs.length kc, .slice (some da) ds.length kd, i64 z, i64 et]] (cc (hO.ln 0 0 27 [.slice (some ca) cs.length kc, .slice (some da) ds.length kd, i64 z, i64 et]) c0) ?_
  clear hA fr; intro fr hA
  refine wpOps_cons' (mK (f := 9) (args := [.agg #[.slice (some ca) cs.length kc, .slice (some da) ds.length kd, i64 z, i64 et]]) (d := (some 20)) (v := bl true) hA hO Tryd.func9 (rs (valid_any (some ca) (some da) kc kd cs ds z et _ hc hd (hT.keep hO.only (fun h => h)) (hs.keep hO.only) hkc) (congrArg Value.bool hv)) ?_)
  clear hA hO fr; intro fr w7 hA hO
  replace hA := hA.sb (e' := [(1, pt b1), (2, bl false), (3, pt b2), (4, .slice (some ⟨b3, 0, none⟩) (N / 128) c1), (20, bl true)])
  refine ck (l := [2]) (r := []) (e' := [(1, pt b1), (2, bl false), (3, pt b2), (4, .slice (some ⟨b3, 0, none⟩) (N / 128) c1), (21, bl false)]) hA [] c0 ?_
  clear hA fr; intro fr hA
  refine end_ops ?_
  refine then_normal ?_
  refine cF hA ?_
  refine wp_skip ?_
  refine then_normal ?_
  refine sC (e' := [(1, pt b1), (2, bl false), (3, pt b2), (4, .slice (some ⟨b3, 0, none⟩) (N / 128) c1), (5, .slice none 0 0)]) 1 hA [] c0 ?_
  clear hA fr; intro fr hA
  refine wp_seq ?_
  refine sC (e' := [(1, pt b1), (2, bl false), (3, pt b2), (4, .slice (some ⟨b3, 0, none⟩) (N / 128) c1), (5, .slice none 0 0), (6, i64 0)]) 1 hA [] c0 ?_
  clear hA fr; intro fr hA
  refine wp_block ?_
  have hT2 := One.nil fB 5 1
  replace hO : Ow Tryd.prog none' w w7 ([(b2, 27, [.slice (some ca) cs.length kc, .slice (some da) ds.length kd, i64 z, i64 et]), (b1, 24, [.slice (some ca) cs.length kc, .slice (some da) ds.length kd, i64 z, i64 et]), (m1, 5, ((memL cs ds U N).flatMap fB)), (b3, 22, ((pagesV m1 (N / 128)).flatMap fS ++ r1))] ++ ([] ++ ([]))) := hO.to (by simp only [List.append_assoc, List.cons_append, List.nil_append, List.append_nil])
  refine c_loop (fun mm fr W => ∃ (i : Nat) (pL1 : Option Addr) (cL1 : Nat) (TL1 : OwL), mm = N / 128 - i ∧ Holds 146 [] fr [(1, pt b1), (2, bl false), (3, pt b2), (4, .slice (some ⟨b3, 0, none⟩) (N / 128) c1), (5, .slice pL1 (((memL cs ds U N).take (128 * i)).length) cL1), (6, i64 ((i : Nat) : Int))] ∧ Ow Tryd.prog none' w W ([(b2, 27, [.slice (some ca) cs.length kc, .slice (some da) ds.length kd, i64 z, i64 et]), (b1, 24, [.slice (some ca) cs.length kc, .slice (some da) ds.length kd, i64 z, i64 et]), (m1, 5, ((memL cs ds U N).flatMap fB)), (b3, 22, ((pagesV m1 (N / 128)).flatMap fS ++ r1))] ++ (TL1 ++ ([]))) ∧ One fB 5 1 pL1 cL1 ((memL cs ds U N).take (128 * i)) TL1 ∧ U8s ((memL cs ds U N).take (128 * i)) ∧ i ≤ N / 128 ∧ True) ?_ ?_
  · exact ⟨_, 0, none, 0, [], rfl, (hA.sub (e' := [(1, pt b1), (2, bl false), (3, pt b2), (4, .slice (some ⟨b3, 0, none⟩) (N / 128) c1), (5, .slice none 0 0), (6, i64 0)]) [1, 2, 3, 4, 5, 6] (by kernel_rfl)).cast (by kernel_rfl), (hO : Ow Tryd.prog none' w _ ([(b2, 27, [.slice (some ca) cs.length kc, .slice (some da) ds.length kd, i64 z, i64 et]), (b1, 24, [.slice (some ca) cs.length kc, .slice (some da) ds.length kd, i64 z, i64 et]), (m1, 5, ((memL cs ds U N).flatMap fB)), (b3, 22, ((pagesV m1 (N / 128)).flatMap fS ++ r1))] ++ ([] ++ ([])))), hT2, U8s.nil, (by omega), trivial⟩
  · rintro _ fr w8 ⟨i, pL1, cL1, TL1, rfl, hA, hO, hTL1, huL1, hi, -⟩
    have hal : ((memL cs ds U N).take (128 * i)).length = 128 * i := by rw [List.length_take, memL_len]; omega
    refine wp_seq ?_
    refine sC (e' := [(1, pt b1), (2, bl false), (3, pt b2), (4, .slice (some ⟨b3, 0, none⟩) (N / 128) c1), (5, .slice pL1 (((memL cs ds U N).take (128 * i)).length) cL1), (6, i64 ((i : Nat) : Int)), (30, i64 ((i : Nat) : Int)), (31, .slice (some ⟨b3, 0, none⟩) (N / 128) c1), (32, i64 ((N / 128 : Nat) : Int)), (33, bl (decide (((i : Nat) : Int) < ((N / 128 : Nat) : Int))))]) 4 hA [] c0 ?_
    clear hA fr; intro fr hA
    rcases Bool.eq_false_or_eq_true (decide (((i : Nat) : Int) < ((N / 128 : Nat) : Int))) with h1 | h1
    ·
      replace hA := hA.bool (f := fun z_ => [(1, pt b1), (2, bl false), (3, pt b2), (4, .slice (some ⟨b3, 0, none⟩) (N / 128) c1), (5, .slice pL1 (((memL cs ds U N).take (128 * i)).length) cL1), (6, i64 ((i : Nat) : Int)), (30, i64 ((i : Nat) : Int)), (31, .slice (some ⟨b3, 0, none⟩) (N / 128) c1), (32, i64 ((N / 128 : Nat) : Int)), (33, .bool z_)]) h1
      have h1p := of_decide_eq_true h1
      refine cT hA ?_
      refine wp_skip ?_
      refine then_normal ?_
      refine wp_seq ?_
      refine wp_block ?_
      refine wp_seq ?_
      refine sC (e' := [(1, pt b1), (2, bl false), (3, pt b2), (4, .slice (some ⟨b3, 0, none⟩) (N / 128) c1), (5, .slice pL1 (((memL cs ds U N).take (128 * i)).length) cL1), (6, i64 ((i : Nat) : Int)), (30, i64 ((i : Nat) : Int)), (31, .slice (some ⟨b3, 0, none⟩) (N / 128) c1), (32, i64 ((N / 128 : Nat) : Int)), (33, bl true), (36, .slice (some ⟨b3, 0, none⟩) (N / 128) c1), (37, i64 ((i : Nat) : Int)), (38, .pointer (some ((⟨b3, 0, none⟩ : Addr).add i))), (39, .slice (some ⟨m1, 0 + (128 * i), none⟩) 128 128), (40, i64 128), (41, bl false)]) 6 hA [.slice (some ⟨m1, 0 + (128 * i), none⟩) 128 128] (cc (⟨by omega, by omega⟩ : (0 : Int) ≤ ((i : Nat) : Int) ∧ ((i : Nat) : Int) < ((N / 128 : Nat) : Int)) (cc ((ld_page (hO.b 3) (by omega) (by kernel_rfl)) : Ld Tryd.prog w8 ((⟨b3, 0, none⟩ : Addr).add i) 22 (.slice (some ⟨m1, 0 + (128 * i), none⟩) 128 128)) c0)) ?_
      clear hA fr; intro fr hA
      refine cF hA ?_
      refine wp_skip ?_
      refine then_normal ?_
      refine rR (l := (rg 0 7)) ?_
      refine ck (l := (rg 0 5)) (r := [5, 6]) (e' := [(1, pt b1), (2, bl false), (3, pt b2), (4, .slice (some ⟨b3, 0, none⟩) (N / 128) c1), (5, .slice pL1 (((memL cs ds U N).take (128 * i)).length) cL1), (6, i64 ((i : Nat) : Int)), (30, i64 ((i : Nat) : Int)), (31, .slice (some ⟨b3, 0, none⟩) (N / 128) c1), (32, i64 ((N / 128 : Nat) : Int)), (33, bl true), (36, .slice (some ⟨b3, 0, none⟩) (N / 128) c1), (37, i64 ((i : Nat) : Int)), (38, .pointer (some ((⟨b3, 0, none⟩ : Addr).add i))), (39, .slice (some ⟨m1, 0 + (128 * i), none⟩) 128 128), (40, i64 128), (41, bl false), (42, .slice pL1 (((memL cs ds U N).take (128 * i)).length) cL1), (43, .slice (some ⟨b3, 0, none⟩) (N / 128) c1), (44, i64 ((i : Nat) : Int)), (45, .pointer (some ((⟨b3, 0, none⟩ : Addr).add i))), (46, .slice (some ⟨m1, 0 + (128 * i), none⟩) 128 128)]) hA [.slice (some ⟨m1, 0 + (128 * i), none⟩) 128 128] (cc (⟨by omega, by omega⟩ : (0 : Int) ≤ ((i : Nat) : Int) ∧ ((i : Nat) : Int) < ((N / 128 : Nat) : Int)) (cc ((ld_page (hO.b 3) (by omega) (by kernel_rfl)) : Ld Tryd.prog w8 ((⟨b3, 0, none⟩ : Addr).add i) 22 (.slice (some ⟨m1, 0 + (128 * i), none⟩) 128 128)) c0)) ?_
      clear hA fr; intro fr hA
      replace hO : Ow Tryd.prog none' w w8 ([(b2, 27, [.slice (some ca) cs.length kc, .slice (some da) ds.length kd, i64 z, i64 et]), (b1, 24, [.slice (some ca) cs.length kc, .slice (some da) ds.length kd, i64 z, i64 et]), (m1, 5, ((memL cs ds U N).flatMap fB)), (b3, 22, ((pagesV m1 (N / 128)).flatMap fS ++ r1))] ++ (TL1 ++ ([]))) := hO
      refine wpOps_cons' (mA (f := fB) (el := 5) (sz := 1) (bytes := 1) (p := pL1) (c := cL1) (l := (memL cs ds U N).take (128 * i)) (l' := ((memL cs ds U N).drop (128 * i)).take 128) (T := TL1) (t := 22) (tx := 22) (ty := 22) (x := .slice (some ⟨m1, 0 + (128 * i), none⟩) 128 128) (d := 47) [(b2, 27, [.slice (some ca) cs.length kc, .slice (some da) ds.length kd, i64 z, i64 et]), (b1, 24, [.slice (some ca) cs.length kc, .slice (some da) ds.length kd, i64 z, i64 et]), (m1, 5, ((memL cs ds U N).flatMap fB)), (b3, 22, ((pagesV m1 (N / 128)).flatMap fS ++ r1))] ([]) encB hA hO hTL1 (page_src (e' := 5) (by kernel_rfl) (hO.b 2) (by rw [memL_len]; omega)) (by first | omega | (simp only [List.length_take, List.length_drop, memL_len]; omega)) (by unfold maxLen; first | omega | (simp only [List.length_take, List.length_drop, memL_len]; omega)) ?_)
      clear hA hO fr; intro fr w9 p2 c2 T3 hA hO hT3
      have huT3 : U8s (((memL cs ds U N).take (128 * i)) ++ (((memL cs ds U N).drop (128 * i)).take 128)) := (U8s.app huL1 (U8s.take (U8s.drop (memL_u8 hcu8 hdu8 U N) _) _))
      rw [show (((memL cs ds U N).take (128 * i)) ++ (((memL cs ds U N).drop (128 * i)).take 128)) = (memL cs ds U N).take (128 * (i + 1)) from (take_page _ _)] at hA hT3 huT3
      refine ck (l := [6]) (r := []) (e' := [(1, pt b1), (2, bl false), (3, pt b2), (4, .slice (some ⟨b3, 0, none⟩) (N / 128) c1), (5, .slice p2 (((memL cs ds U N).take (128 * (i + 1))).length) c2), (6, i64 ((i : Nat) : Int)), (30, i64 ((i : Nat) : Int)), (31, .slice (some ⟨b3, 0, none⟩) (N / 128) c1), (32, i64 ((N / 128 : Nat) : Int)), (33, bl true), (36, .slice (some ⟨b3, 0, none⟩) (N / 128) c1), (37, i64 ((i : Nat) : Int)), (38, .pointer (some ((⟨b3, 0, none⟩ : Addr).add i))), (39, .slice (some ⟨m1, 0 + (128 * i), none⟩) 128 128), (40, i64 128), (41, bl false), (42, .slice pL1 (((memL cs ds U N).take (128 * i)).length) cL1), (43, .slice (some ⟨b3, 0, none⟩) (N / 128) c1), (44, i64 ((i : Nat) : Int)), (45, .pointer (some ((⟨b3, 0, none⟩ : Addr).add i))), (46, .slice (some ⟨m1, 0 + (128 * i), none⟩) 128 128), (47, .slice p2 (((memL cs ds U N).take (128 * (i + 1))).length) c2)]) hA [] c0 ?_
      clear hA fr; intro fr hA
      refine end_ops ?_
      refine inBlock_normal ?_
      refine then_normal ?_
      refine rC (e' := [(1, pt b1), (2, bl false), (3, pt b2), (4, .slice (some ⟨b3, 0, none⟩) (N / 128) c1), (5, .slice p2 (((memL cs ds U N).take (128 * (i + 1))).length) c2), (6, i64 (((i : Nat) : Int) + 1)), (30, i64 ((i : Nat) : Int)), (31, .slice (some ⟨b3, 0, none⟩) (N / 128) c1), (32, i64 ((N / 128 : Nat) : Int)), (33, bl true), (34, i64 ((i : Nat) : Int)), (35, i64 (((i : Nat) : Int) + 1)), (36, .slice (some ⟨b3, 0, none⟩) (N / 128) c1), (37, i64 ((i : Nat) : Int)), (38, .pointer (some ((⟨b3, 0, none⟩ : Addr).add i))), (39, .slice (some ⟨m1, 0 + (128 * i), none⟩) 128 128), (40, i64 128), (41, bl false), (42, .slice pL1 (((memL cs ds U N).take (128 * i)).length) cL1), (43, .slice (some ⟨b3, 0, none⟩) (N / 128) c1), (44, i64 ((i : Nat) : Int)), (45, .pointer (some ((⟨b3, 0, none⟩ : Addr).add i))), (46, .slice (some ⟨m1, 0 + (128 * i), none⟩) 128 128), (47, .slice p2 (((memL cs ds U N).take (128 * (i + 1))).length) c2)]) 3 hA [bl true] (cc ((inK_i64 (by omega) (by omega)) : inK .i64 (((i : Nat) : Int) + 1)) c0) ?_
      clear hA fr; intro fr hA
      refine then_normal ?_
      exact ⟨_, by omega, i + 1, p2, c2, T3, rfl, (hA.sub (e' := [(1, pt b1), (2, bl false), (3, pt b2), (4, .slice (some ⟨b3, 0, none⟩) (N / 128) c1), (5, .slice p2 (((memL cs ds U N).take (128 * (i + 1))).length) c2), (6, i64 (((i : Nat) : Int) + 1))]) [1, 2, 3, 4, 5, 6] (by kernel_rfl)).cast (by kernel_rfl), (hO : Ow Tryd.prog none' w _ ([(b2, 27, [.slice (some ca) cs.length kc, .slice (some da) ds.length kd, i64 z, i64 et]), (b1, 24, [.slice (some ca) cs.length kc, .slice (some da) ds.length kd, i64 z, i64 et]), (m1, 5, ((memL cs ds U N).flatMap fB)), (b3, 22, ((pagesV m1 (N / 128)).flatMap fS ++ r1))] ++ (T3 ++ ([])))), hT3, huT3, (by omega), trivial⟩
    ·
      replace hA := hA.bool (f := fun z_ => [(1, pt b1), (2, bl false), (3, pt b2), (4, .slice (some ⟨b3, 0, none⟩) (N / 128) c1), (5, .slice pL1 (((memL cs ds U N).take (128 * i)).length) cL1), (6, i64 ((i : Nat) : Int)), (30, i64 ((i : Nat) : Int)), (31, .slice (some ⟨b3, 0, none⟩) (N / 128) c1), (32, i64 ((N / 128 : Nat) : Int)), (33, .bool z_)]) h1
      have h1p := of_decide_eq_false h1
      refine cF hA ?_
      refine wp_exit ?_
      refine then_exit ?_
      refine then_exit ?_
      refine inBlock_exit ?_
      refine then_normal ?_
      refine sR (l := [0, 1, 2]) ?_
      refine ck (l := [0]) (r := [1, 2]) (e' := [(1, pt b1), (2, bl false), (3, pt b2), (4, .slice (some ⟨b3, 0, none⟩) (N / 128) c1), (5, .slice pL1 (((memL cs ds U N).take (128 * i)).length) cL1), (48, .agg #[.slice (some ca) cs.length kc, .slice (some da) ds.length kd, i64 z, i64 et])]) hA [.agg #[.slice (some ca) cs.length kc, .slice (some da) ds.length kd, i64 z, i64 et]] (cc (hO.ln 0 0 27 [.slice (some ca) cs.length kc, .slice (some da) ds.length kd, i64 z, i64 et]) c0) ?_
      clear hA fr; intro fr hA
      refine wpOps_cons' (mK (f := 11) (args := [.agg #[.slice (some ca) cs.length kc, .slice (some da) ds.length kd, i64 z, i64 et]]) (d := (some 49)) (v := i64 ((U : Nat) : Int)) hA hO Tryd.func11 (rs (dataat_ok (some ca) (some da) kc kd cs ds z et _ hc hd (hT.keep hO.only (fun h => h)) (hs.keep hO.only) hkc (hs2.keep hO.only) hv hz0 hz1) (congrArg (Value.int .i64) hU)) ?_)
      clear hA hO fr; intro fr w10 hA hO
      replace hA := hA.sb (e' := [(1, pt b1), (2, bl false), (3, pt b2), (4, .slice (some ⟨b3, 0, none⟩) (N / 128) c1), (5, .slice pL1 (((memL cs ds U N).take (128 * i)).length) cL1), (49, i64 ((U : Nat) : Int))])
      refine ck (l := [2]) (r := []) (e' := [(1, pt b1), (2, bl false), (3, pt b2), (4, .slice (some ⟨b3, 0, none⟩) (N / 128) c1), (5, .slice pL1 (((memL cs ds U N).take (128 * i)).length) cL1), (7, i64 ((U : Nat) : Int))]) hA [] c0 ?_
      clear hA fr; intro fr hA
      refine end_ops ?_
      refine then_normal ?_
      refine wp_seq ?_
      refine sR (l := (rg 0 57)) ?_
      refine ck (l := [0, 1, 2]) (r := (rg 3 54)) (e' := [(1, pt b1), (2, bl false), (4, .slice (some ⟨b3, 0, none⟩) (N / 128) c1), (5, .slice pL1 (((memL cs ds U N).take (128 * i)).length) cL1), (7, i64 ((U : Nat) : Int)), (51, i64 ((N / 128 : Nat) : Int)), (52, .agg #[.slice (some ca) cs.length kc, .slice (some da) ds.length kd, i64 z, i64 et])]) hA [.agg #[.slice (some ca) cs.length kc, .slice (some da) ds.length kd, i64 z, i64 et]] (cc (hO.ln 0 0 27 [.slice (some ca) cs.length kc, .slice (some da) ds.length kd, i64 z, i64 et]) c0) ?_
      clear hA fr; intro fr hA
      refine wpOps_cons' (mK (f := 10) (args := [.agg #[.slice (some ca) cs.length kc, .slice (some da) ds.length kd, i64 z, i64 et]]) (d := (some 53)) (v := i64 ((N / 128 : Nat) : Int)) hA hO Tryd.func10 (rs (size_ok (some ca) (some da) kc kd cs ds z et _ hc hd (hT.keep hO.only (fun h => h)) (hs.keep hO.only) hkc (hs2.keep hO.only) hv hz0 hz1) (congrArg (Value.int .i64) (show endP ((cs.length : Nat) : Int) ((ds.length : Nat) : Int) z / 128 = ((N / 128 : Nat) : Int) by omega))) ?_)
      clear hA hO fr; intro fr w11 hA hO
      replace hA := hA.sb (e' := [(1, pt b1), (2, bl false), (4, .slice (some ⟨b3, 0, none⟩) (N / 128) c1), (5, .slice pL1 (((memL cs ds U N).take (128 * i)).length) cL1), (7, i64 ((U : Nat) : Int)), (51, i64 ((N / 128 : Nat) : Int)), (53, i64 ((N / 128 : Nat) : Int))])
      refine ck (l := [4, 5]) (r := (rg 6 51)) (e' := [(1, pt b1), (2, bl false), (4, .slice (some ⟨b3, 0, none⟩) (N / 128) c1), (5, .slice pL1 (((memL cs ds U N).take (128 * i)).length) cL1), (7, i64 ((U : Nat) : Int)), (54, bl (((N / 128 : Nat) : Int) != ((N / 128 : Nat) : Int))), (55, bl (((N / 128 : Nat) : Int) != ((N / 128 : Nat) : Int)))]) hA [] c0 ?_
      clear hA fr; intro fr hA
      replace hA := hA.bool (f := fun z_ => [(1, pt b1), (2, bl false), (4, .slice (some ⟨b3, 0, none⟩) (N / 128) c1), (5, .slice pL1 (((memL cs ds U N).take (128 * i)).length) cL1), (7, i64 ((U : Nat) : Int)), (54, .bool z_), (55, .bool z_)]) ((by first | exact decide_eq_false (by omega) | exact bne_eq_false_iff_eq.2 (by omega)) : (((N / 128 : Nat) : Int) != ((N / 128 : Nat) : Int)) = false)
      refine ck (l := (rg 6 5)) (r := (rg 11 46)) (e' := [(1, pt b1), (2, bl false), (5, .slice pL1 (((memL cs ds U N).take (128 * i)).length) cL1), (7, i64 ((U : Nat) : Int)), (58, bl (decide (((N / 128 : Nat) : Int) > 24))), (59, bl (decide (((N / 128 : Nat) : Int) > 24))), (60, bl (decide (((N / 128 : Nat) : Int) > 24)))]) hA [] c0 ?_
      clear hA fr; intro fr hA
      replace hA := hA.bool (f := fun z_ => [(1, pt b1), (2, bl false), (5, .slice pL1 (((memL cs ds U N).take (128 * i)).length) cL1), (7, i64 ((U : Nat) : Int)), (58, .bool z_), (59, .bool z_), (60, .bool z_)]) ((by first | exact decide_eq_false (by omega) | exact bne_eq_false_iff_eq.2 (by omega)) : (decide (((N / 128 : Nat) : Int) > 24)) = false)
      refine ck (l := (rg 11 5)) (r := (rg 16 41)) (e' := [(1, pt b1), (2, bl false), (5, .slice pL1 (((memL cs ds U N).take (128 * i)).length) cL1), (7, i64 ((U : Nat) : Int)), (63, bl ((((U : Nat) : Int) % 128) != 0)), (64, bl ((((U : Nat) : Int) % 128) != 0)), (65, bl ((((U : Nat) : Int) % 128) != 0))]) hA [bl true] (cc (⟨by omega, by omega, inK_i64 (by omega) (by omega)⟩ : (0 : Int) ≤ ((U : Nat) : Int) ∧ (0 : Int) < 128 ∧ inK .i64 ((U : Nat) : Int)) c0) ?_
      clear hA fr; intro fr hA
      replace hA := hA.bool (f := fun z_ => [(1, pt b1), (2, bl false), (5, .slice pL1 (((memL cs ds U N).take (128 * i)).length) cL1), (7, i64 ((U : Nat) : Int)), (63, .bool z_), (64, .bool z_), (65, .bool z_)]) ((by first | exact decide_eq_false (by omega) | exact bne_eq_false_iff_eq.2 (by omega)) : ((((U : Nat) : Int) % 128) != 0) = false)
      refine ck (l := (rg 16 7)) (r := (rg 23 34)) (e' := [(1, pt b1), (2, bl false), (5, .slice pL1 (((memL cs ds U N).take (128 * i)).length) cL1), (7, i64 ((U : Nat) : Int)), (70, bl (decide (((U : Nat) : Int) < ((cs.length : Nat) : Int)))), (71, bl (decide (((U : Nat) : Int) < ((cs.length : Nat) : Int)))), (72, bl (decide (((U : Nat) : Int) < ((cs.length : Nat) : Int))))]) hA [.slice (some ca) cs.length kc] (cc (hO.l1 1 0 22 (.slice (some ca) cs.length kc)) c0) ?_
      clear hA fr; intro fr hA
      replace hA := hA.bool (f := fun z_ => [(1, pt b1), (2, bl false), (5, .slice pL1 (((memL cs ds U N).take (128 * i)).length) cL1), (7, i64 ((U : Nat) : Int)), (70, .bool z_), (71, .bool z_), (72, .bool z_)]) ((by first | exact decide_eq_false (by omega) | exact bne_eq_false_iff_eq.2 (by omega)) : (decide (((U : Nat) : Int) < ((cs.length : Nat) : Int))) = false)
      refine ck (l := (rg 23 8)) (r := (rg 31 26)) (e' := [(1, pt b1), (2, bl false), (5, .slice pL1 (((memL cs ds U N).take (128 * i)).length) cL1), (7, i64 ((U : Nat) : Int)), (78, bl (decide (((U : Nat) : Int) ≥ (((cs.length : Nat) : Int) + 128)))), (79, bl (decide (((U : Nat) : Int) ≥ (((cs.length : Nat) : Int) + 128)))), (80, bl (decide (((U : Nat) : Int) ≥ (((cs.length : Nat) : Int) + 128))))]) hA [.slice (some ca) cs.length kc, bl true] (cc (hO.l1 1 0 22 (.slice (some ca) cs.length kc)) (cc ((inK_i64 (by omega) (by omega)) : inK .i64 (((cs.length : Nat) : Int) + 128)) c0)) ?_
      clear hA fr; intro fr hA
      replace hA := hA.bool (f := fun z_ => [(1, pt b1), (2, bl false), (5, .slice pL1 (((memL cs ds U N).take (128 * i)).length) cL1), (7, i64 ((U : Nat) : Int)), (78, .bool z_), (79, .bool z_), (80, .bool z_)]) ((by first | exact decide_eq_false (by omega) | exact bne_eq_false_iff_eq.2 (by omega)) : (decide (((U : Nat) : Int) ≥ (((cs.length : Nat) : Int) + 128))) = false)
      refine ck (l := (rg 31 13)) (r := (rg 44 13)) (e' := [(1, pt b1), (2, bl false), (5, .slice pL1 (((memL cs ds U N).take (128 * i)).length) cL1), (7, i64 ((U : Nat) : Int)), (91, bl (decide (((((memL cs ds U N).take (128 * i)).length : Nat) : Int) < ((((U : Nat) : Int) + ((ds.length : Nat) : Int)) + z)))), (92, bl (decide (((((memL cs ds U N).take (128 * i)).length : Nat) : Int) < ((((U : Nat) : Int) + ((ds.length : Nat) : Int)) + z)))), (93, bl (decide (((((memL cs ds U N).take (128 * i)).length : Nat) : Int) < ((((U : Nat) : Int) + ((ds.length : Nat) : Int)) + z))))]) hA [.slice (some da) ds.length kd, bl true, i64 z, bl true] (cc (hO.l1 1 1 22 (.slice (some da) ds.length kd)) (cc ((inK_i64 (by omega) (by omega)) : inK .i64 (((U : Nat) : Int) + ((ds.length : Nat) : Int))) (cc (hO.l1 1 2 3 (i64 z)) (cc ((inK_i64 (by omega) (by omega)) : inK .i64 ((((U : Nat) : Int) + ((ds.length : Nat) : Int)) + z)) c0)))) ?_
      clear hA fr; intro fr hA
      replace hA := hA.bool (f := fun z_ => [(1, pt b1), (2, bl false), (5, .slice pL1 (((memL cs ds U N).take (128 * i)).length) cL1), (7, i64 ((U : Nat) : Int)), (91, .bool z_), (92, .bool z_), (93, .bool z_)]) ((by first | exact decide_eq_false (by omega) | exact bne_eq_false_iff_eq.2 (by omega)) : (decide (((((memL cs ds U N).take (128 * i)).length : Nat) : Int) < ((((U : Nat) : Int) + ((ds.length : Nat) : Int)) + z))) = false)
      refine ck (l := (rg 44 13)) (r := []) (e' := [(1, pt b1), (2, bl false), (5, .slice pL1 (((memL cs ds U N).take (128 * i)).length) cL1), (7, i64 ((U : Nat) : Int)), (106, bl (decide (((((memL cs ds U N).take (128 * i)).length : Nat) : Int) ≥ (((((U : Nat) : Int) + ((ds.length : Nat) : Int)) + z) + 128))))]) hA [.slice (some da) ds.length kd, bl true, i64 z, bl true, bl true] (cc (hO.l1 1 1 22 (.slice (some da) ds.length kd)) (cc ((inK_i64 (by omega) (by omega)) : inK .i64 (((U : Nat) : Int) + ((ds.length : Nat) : Int))) (cc (hO.l1 1 2 3 (i64 z)) (cc ((inK_i64 (by omega) (by omega)) : inK .i64 ((((U : Nat) : Int) + ((ds.length : Nat) : Int)) + z)) (cc ((inK_i64 (by omega) (by omega)) : inK .i64 (((((U : Nat) : Int) + ((ds.length : Nat) : Int)) + z) + 128)) c0))))) ?_
      clear hA fr; intro fr hA
      refine end_ops ?_
      refine then_normal ?_
      replace hA := hA.bool (f := fun z_ => [(1, pt b1), (2, bl false), (5, .slice pL1 (((memL cs ds U N).take (128 * i)).length) cL1), (7, i64 ((U : Nat) : Int)), (106, .bool z_)]) ((by first | exact decide_eq_false (by omega) | exact bne_eq_false_iff_eq.2 (by omega)) : (decide (((((memL cs ds U N).take (128 * i)).length : Nat) : Int) ≥ (((((U : Nat) : Int) + ((ds.length : Nat) : Int)) + z) + 128))) = false)
      refine cF hA ?_
      refine wp_skip ?_
      refine then_normal ?_
      refine wp_seq ?_
      refine sC (e' := [(1, pt b1), (2, bl false), (5, .slice pL1 (((memL cs ds U N).take (128 * i)).length) cL1), (7, i64 ((U : Nat) : Int)), (8, i64 0)]) 1 hA [] c0 ?_
      clear hA fr; intro fr hA
      refine wp_block ?_
      obtain rfl : i = N / 128 := by omega
      have hM : (memL cs ds U N).take (128 * (N / 128)) = memL cs ds U N := List.take_of_length_le (by rw [memL_len]; omega)
      rw [hM] at hA hTL1 huL1 hal
      obtain ⟨b4, r2, rfl, rfl, hle_b4, hcap_b4⟩ := hTL1.open (by rw [memL_len]; omega)
      replace hO : Ow Tryd.prog none' w w11 [(b2, 27, [.slice (some ca) cs.length kc, .slice (some da) ds.length kd, i64 z, i64 et]), (b1, 24, [.slice (some ca) cs.length kc, .slice (some da) ds.length kd, i64 z, i64 et]), (m1, 5, ((memL cs ds U N).flatMap fB)), (b3, 22, ((pagesV m1 (N / 128)).flatMap fS ++ r1)), (b4, 5, ((memL cs ds U N).flatMap fB ++ r2))] := hO.to (by simp only [List.append_assoc, List.cons_append, List.nil_append, List.append_nil])
      rw [memL_len] at hA
      refine c_loop (fun mm fr W => ∃ (j : Nat), mm = N - j ∧ Holds 146 [] fr [(1, pt b1), (2, bl false), (5, .slice (some ⟨b4, 0, none⟩) N cL1), (7, i64 ((U : Nat) : Int)), (8, i64 ((j : Nat) : Int))] ∧ Ow Tryd.prog none' w W [(b2, 27, [.slice (some ca) cs.length kc, .slice (some da) ds.length kd, i64 z, i64 et]), (b1, 24, [.slice (some ca) cs.length kc, .slice (some da) ds.length kd, i64 z, i64 et]), (m1, 5, ((memL cs ds U N).flatMap fB)), (b3, 22, ((pagesV m1 (N / 128)).flatMap fS ++ r1)), (b4, 5, ((memL cs ds U N).flatMap fB ++ r2))] ∧ j ≤ N ∧ True) ?_ ?_
      · exact ⟨_, 0, rfl, (hA.sub (e' := [(1, pt b1), (2, bl false), (5, .slice (some ⟨b4, 0, none⟩) N cL1), (7, i64 ((U : Nat) : Int)), (8, i64 0)]) [1, 2, 5, 7, 8] (by kernel_rfl)).cast (by kernel_rfl), hO.to, (by omega), trivial⟩
      · rintro _ fr w12 ⟨j, rfl, hA, hO, hj, -⟩
        refine wp_seq ?_
        refine sC (e' := [(1, pt b1), (2, bl false), (5, .slice (some ⟨b4, 0, none⟩) N cL1), (7, i64 ((U : Nat) : Int)), (8, i64 ((j : Nat) : Int)), (107, i64 ((j : Nat) : Int)), (108, .slice (some ⟨b4, 0, none⟩) N cL1), (109, i64 ((N : Nat) : Int)), (110, bl (decide (((j : Nat) : Int) < ((N : Nat) : Int))))]) 4 hA [] c0 ?_
        clear hA fr; intro fr hA
        rcases Bool.eq_false_or_eq_true (decide (((j : Nat) : Int) < ((N : Nat) : Int))) with h2 | h2
        ·
          replace hA := hA.bool (f := fun z_ => [(1, pt b1), (2, bl false), (5, .slice (some ⟨b4, 0, none⟩) N cL1), (7, i64 ((U : Nat) : Int)), (8, i64 ((j : Nat) : Int)), (107, i64 ((j : Nat) : Int)), (108, .slice (some ⟨b4, 0, none⟩) N cL1), (109, i64 ((N : Nat) : Int)), (110, .bool z_)]) h2
          have h2p := of_decide_eq_true h2
          refine cT hA ?_
          refine wp_skip ?_
          refine then_normal ?_
          refine wp_seq ?_
          refine wp_block ?_
          refine sC (e' := [(1, pt b1), (2, bl false), (5, .slice (some ⟨b4, 0, none⟩) N cL1), (7, i64 ((U : Nat) : Int)), (8, i64 ((j : Nat) : Int)), (9, u8 0), (107, i64 ((j : Nat) : Int)), (108, .slice (some ⟨b4, 0, none⟩) N cL1), (109, i64 ((N : Nat) : Int)), (110, bl true)]) 1 hA [] c0 ?_
          clear hA fr; intro fr hA
          refine wp_seq ?_
          refine sC (e' := [(1, pt b1), (2, bl false), (5, .slice (some ⟨b4, 0, none⟩) N cL1), (7, i64 ((U : Nat) : Int)), (8, i64 ((j : Nat) : Int)), (9, u8 0), (107, i64 ((j : Nat) : Int)), (108, .slice (some ⟨b4, 0, none⟩) N cL1), (109, i64 ((N : Nat) : Int)), (110, bl true), (113, i64 ((j : Nat) : Int)), (114, pt b1), (115, .slice (some ca) cs.length kc), (116, i64 ((cs.length : Nat) : Int)), (117, bl (decide (((j : Nat) : Int) < ((cs.length : Nat) : Int))))]) 5 hA [.slice (some ca) cs.length kc] (cc (hO.l1 1 0 22 (.slice (some ca) cs.length kc)) c0) ?_
          clear hA fr; intro fr hA
          rcases Bool.eq_false_or_eq_true (decide (((j : Nat) : Int) < ((cs.length : Nat) : Int))) with h3 | h3
          ·
            replace hA := hA.bool (f := fun z_ => [(1, pt b1), (2, bl false), (5, .slice (some ⟨b4, 0, none⟩) N cL1), (7, i64 ((U : Nat) : Int)), (8, i64 ((j : Nat) : Int)), (9, u8 0), (107, i64 ((j : Nat) : Int)), (108, .slice (some ⟨b4, 0, none⟩) N cL1), (109, i64 ((N : Nat) : Int)), (110, bl true), (113, i64 ((j : Nat) : Int)), (114, pt b1), (115, .slice (some ca) cs.length kc), (116, i64 ((cs.length : Nat) : Int)), (117, .bool z_)]) h3
            have h3p := of_decide_eq_true h3
            refine cT hA ?_
            refine rC (e' := [(1, pt b1), (2, bl false), (5, .slice (some ⟨b4, 0, none⟩) N cL1), (7, i64 ((U : Nat) : Int)), (8, i64 ((j : Nat) : Int)), (9, u8 (cs.getD j 0)), (107, i64 ((j : Nat) : Int)), (108, .slice (some ⟨b4, 0, none⟩) N cL1), (109, i64 ((N : Nat) : Int)), (110, bl true), (113, i64 ((j : Nat) : Int)), (114, pt b1), (115, .slice (some ca) cs.length kc), (116, i64 ((cs.length : Nat) : Int)), (117, bl true), (118, pt b1), (119, .slice (some ca) cs.length kc), (120, i64 ((j : Nat) : Int)), (121, .pointer (some (ca.add j))), (122, u8 (cs.getD j 0))]) 6 hA [.slice (some ca) cs.length kc, u8 (cs.getD j 0)] (cc (hO.l1 1 0 22 (.slice (some ca) cs.length kc)) (cc (⟨by omega, by omega⟩ : (0 : Int) ≤ ((j : Nat) : Int) ∧ ((j : Nat) : Int) < ((cs.length : Nat) : Int)) (cc ((ld_cell (by kernel_rfl) (hO.only.cell (hcc j (by omega)) (fun h => h))) : Ld Tryd.prog w12 (ca.add j) 5 (u8 (cs.getD j 0))) c0))) ?_
            clear hA fr; intro fr hA
            refine then_normal ?_
            refine wp_seq ?_
            refine sC (e' := [(1, pt b1), (2, bl false), (5, .slice (some ⟨b4, 0, none⟩) N cL1), (7, i64 ((U : Nat) : Int)), (8, i64 ((j : Nat) : Int)), (9, u8 (cs.getD j 0)), (10, i64 (((j : Nat) : Int) - ((U : Nat) : Int))), (107, i64 ((j : Nat) : Int)), (108, .slice (some ⟨b4, 0, none⟩) N cL1), (109, i64 ((N : Nat) : Int)), (110, bl true), (113, i64 ((j : Nat) : Int)), (114, pt b1), (115, .slice (some ca) cs.length kc), (116, i64 ((cs.length : Nat) : Int)), (117, bl true), (118, pt b1), (119, .slice (some ca) cs.length kc), (120, i64 ((j : Nat) : Int)), (121, .pointer (some (ca.add j))), (122, u8 (cs.getD j 0)), (123, i64 ((j : Nat) : Int)), (124, i64 ((U : Nat) : Int)), (125, i64 (((j : Nat) : Int) - ((U : Nat) : Int)))]) 4 hA [bl true] (cc ((inK_i64 (by omega) (by omega)) : inK .i64 (((j : Nat) : Int) - ((U : Nat) : Int))) c0) ?_
            clear hA fr; intro fr hA
            refine sR (l := (rg 0 9)) ?_
            refine ck (l := [0, 1, 2]) (r := (rg 3 6)) (e' := [(1, pt b1), (2, bl false), (5, .slice (some ⟨b4, 0, none⟩) N cL1), (7, i64 ((U : Nat) : Int)), (8, i64 ((j : Nat) : Int)), (9, u8 (cs.getD j 0)), (10, i64 (((j : Nat) : Int) - ((U : Nat) : Int))), (107, i64 ((j : Nat) : Int)), (108, .slice (some ⟨b4, 0, none⟩) N cL1), (109, i64 ((N : Nat) : Int)), (110, bl true), (113, i64 ((j : Nat) : Int)), (114, pt b1), (115, .slice (some ca) cs.length kc), (116, i64 ((cs.length : Nat) : Int)), (117, bl true), (118, pt b1), (119, .slice (some ca) cs.length kc), (120, i64 ((j : Nat) : Int)), (121, .pointer (some (ca.add j))), (122, u8 (cs.getD j 0)), (123, i64 ((j : Nat) : Int)), (124, i64 ((U : Nat) : Int)), (125, i64 (((j : Nat) : Int) - ((U : Nat) : Int))), (126, i64 (((j : Nat) : Int) - ((U : Nat) : Int))), (127, bl (decide ((((j : Nat) : Int) - ((U : Nat) : Int)) ≥ 0))), (128, bl (decide ((((j : Nat) : Int) - ((U : Nat) : Int)) ≥ 0)))]) hA [] c0 ?_
            clear hA fr; intro fr hA
            rcases Bool.eq_false_or_eq_true (decide ((((j : Nat) : Int) - ((U : Nat) : Int)) ≥ 0)) with h4 | h4
            ·
              replace hA := hA.bool (f := fun z_ => [(1, pt b1), (2, bl false), (5, .slice (some ⟨b4, 0, none⟩) N cL1), (7, i64 ((U : Nat) : Int)), (8, i64 ((j : Nat) : Int)), (9, u8 (cs.getD j 0)), (10, i64 (((j : Nat) : Int) - ((U : Nat) : Int))), (107, i64 ((j : Nat) : Int)), (108, .slice (some ⟨b4, 0, none⟩) N cL1), (109, i64 ((N : Nat) : Int)), (110, bl true), (113, i64 ((j : Nat) : Int)), (114, pt b1), (115, .slice (some ca) cs.length kc), (116, i64 ((cs.length : Nat) : Int)), (117, bl true), (118, pt b1), (119, .slice (some ca) cs.length kc), (120, i64 ((j : Nat) : Int)), (121, .pointer (some (ca.add j))), (122, u8 (cs.getD j 0)), (123, i64 ((j : Nat) : Int)), (124, i64 ((U : Nat) : Int)), (125, i64 (((j : Nat) : Int) - ((U : Nat) : Int))), (126, i64 (((j : Nat) : Int) - ((U : Nat) : Int))), (127, .bool z_), (128, .bool z_)]) h4
              have h4p := of_decide_eq_true h4
              refine ck (l := (rg 3 6)) (r := []) (e' := [(1, pt b1), (2, bl false), (5, .slice (some ⟨b4, 0, none⟩) N cL1), (7, i64 ((U : Nat) : Int)), (8, i64 ((j : Nat) : Int)), (9, u8 (cs.getD j 0)), (10, i64 (((j : Nat) : Int) - ((U : Nat) : Int))), (107, i64 ((j : Nat) : Int)), (108, .slice (some ⟨b4, 0, none⟩) N cL1), (109, i64 ((N : Nat) : Int)), (110, bl true), (113, i64 ((j : Nat) : Int)), (114, pt b1), (115, .slice (some ca) cs.length kc), (116, i64 ((cs.length : Nat) : Int)), (117, bl true), (118, pt b1), (119, .slice (some ca) cs.length kc), (120, i64 ((j : Nat) : Int)), (121, .pointer (some (ca.add j))), (122, u8 (cs.getD j 0)), (123, i64 ((j : Nat) : Int)), (124, i64 ((U : Nat) : Int)), (125, i64 (((j : Nat) : Int) - ((U : Nat) : Int))), (126, i64 (((j : Nat) : Int) - ((U : Nat) : Int))), (127, bl true), (128, bl true), (129, i64 (((j : Nat) : Int) - ((U : Nat) : Int))), (130, pf b1 1), (131, .slice (some da) ds.length kd), (132, i64 ((ds.length : Nat) : Int)), (133, bl (decide ((((j : Nat) : Int) - ((U : Nat) : Int)) < ((ds.length : Nat) : Int)))), (134, bl (decide ((((j : Nat) : Int) - ((U : Nat) : Int)) < ((ds.length : Nat) : Int))))]) hA [.slice (some da) ds.length kd] (cc (hO.l1 1 1 22 (.slice (some da) ds.length kd)) c0) ?_
              clear hA fr; intro fr hA
              refine end_ops ?_
              refine then_normal ?_
              rcases Bool.eq_false_or_eq_true (decide ((((j : Nat) : Int) - ((U : Nat) : Int)) < ((ds.length : Nat) : Int))) with h5 | h5
              ·
                replace hA := hA.bool (f := fun z_ => [(1, pt b1), (2, bl false), (5, .slice (some ⟨b4, 0, none⟩) N cL1), (7, i64 ((U : Nat) : Int)), (8, i64 ((j : Nat) : Int)), (9, u8 (cs.getD j 0)), (10, i64 (((j : Nat) : Int) - ((U : Nat) : Int))), (107, i64 ((j : Nat) : Int)), (108, .slice (some ⟨b4, 0, none⟩) N cL1), (109, i64 ((N : Nat) : Int)), (110, bl true), (113, i64 ((j : Nat) : Int)), (114, pt b1), (115, .slice (some ca) cs.length kc), (116, i64 ((cs.length : Nat) : Int)), (117, bl true), (118, pt b1), (119, .slice (some ca) cs.length kc), (120, i64 ((j : Nat) : Int)), (121, .pointer (some (ca.add j))), (122, u8 (cs.getD j 0)), (123, i64 ((j : Nat) : Int)), (124, i64 ((U : Nat) : Int)), (125, i64 (((j : Nat) : Int) - ((U : Nat) : Int))), (126, i64 (((j : Nat) : Int) - ((U : Nat) : Int))), (127, bl true), (128, bl true), (129, i64 (((j : Nat) : Int) - ((U : Nat) : Int))), (130, pf b1 1), (131, .slice (some da) ds.length kd), (132, i64 ((ds.length : Nat) : Int)), (133, .bool z_), (134, .bool z_)]) h5
                have h5p := of_decide_eq_true h5
                refine cT hA ?_
                refine rC (e' := [(1, pt b1), (2, bl false), (5, .slice (some ⟨b4, 0, none⟩) N cL1), (7, i64 ((U : Nat) : Int)), (8, i64 ((j : Nat) : Int)), (9, u8 (ds.getD ((((j : Nat) : Int) - ((U : Nat) : Int)).toNat) 0)), (10, i64 (((j : Nat) : Int) - ((U : Nat) : Int))), (107, i64 ((j : Nat) : Int)), (108, .slice (some ⟨b4, 0, none⟩) N cL1), (109, i64 ((N : Nat) : Int)), (110, bl true), (113, i64 ((j : Nat) : Int)), (114, pt b1), (115, .slice (some ca) cs.length kc), (116, i64 ((cs.length : Nat) : Int)), (117, bl true), (118, pt b1), (119, .slice (some ca) cs.length kc), (120, i64 ((j : Nat) : Int)), (121, .pointer (some (ca.add j))), (122, u8 (cs.getD j 0)), (123, i64 ((j : Nat) : Int)), (124, i64 ((U : Nat) : Int)), (125, i64 (((j : Nat) : Int) - ((U : Nat) : Int))), (126, i64 (((j : Nat) : Int) - ((U : Nat) : Int))), (127, bl true), (128, bl true), (129, i64 (((j : Nat) : Int) - ((U : Nat) : Int))), (130, pf b1 1), (131, .slice (some da) ds.length kd), (132, i64 ((ds.length : Nat) : Int)), (133, bl true), (134, bl true), (135, pf b1 1), (136, .slice (some da) ds.length kd), (137, i64 (((j : Nat) : Int) - ((U : Nat) : Int))), (138, .pointer (some (da.add ((((j : Nat) : Int) - ((U : Nat) : Int)).toNat)))), (139, u8 (ds.getD ((((j : Nat) : Int) - ((U : Nat) : Int)).toNat) 0))]) 6 hA [.slice (some da) ds.length kd, u8 (ds.getD ((((j : Nat) : Int) - ((U : Nat) : Int)).toNat) 0)] (cc (hO.l1 1 1 22 (.slice (some da) ds.length kd)) (cc (⟨by omega, by omega⟩ : (0 : Int) ≤ ((j : Nat) : Int) - ((U : Nat) : Int) ∧ ((j : Nat) : Int) - ((U : Nat) : Int) < ((ds.length : Nat) : Int)) (cc ((ld_cell (by kernel_rfl) (hO.only.cell (hdd ((((j : Nat) : Int) - ((U : Nat) : Int)).toNat) (by omega)) (fun h => h))) : Ld Tryd.prog w12 (da.add ((((j : Nat) : Int) - ((U : Nat) : Int)).toNat)) 5 (u8 (ds.getD ((((j : Nat) : Int) - ((U : Nat) : Int)).toNat) 0))) c0))) ?_
                clear hA fr; intro fr hA
                refine then_normal ?_
                refine sC (e' := [(1, pt b1), (2, bl false), (5, .slice (some ⟨b4, 0, none⟩) N cL1), (7, i64 ((U : Nat) : Int)), (8, i64 ((j : Nat) : Int)), (9, u8 (ds.getD ((((j : Nat) : Int) - ((U : Nat) : Int)).toNat) 0)), (10, i64 (((j : Nat) : Int) - ((U : Nat) : Int))), (107, i64 ((j : Nat) : Int)), (108, .slice (some ⟨b4, 0, none⟩) N cL1), (109, i64 ((N : Nat) : Int)), (110, bl true), (113, i64 ((j : Nat) : Int)), (114, pt b1), (115, .slice (some ca) cs.length kc), (116, i64 ((cs.length : Nat) : Int)), (117, bl true), (118, pt b1), (119, .slice (some ca) cs.length kc), (120, i64 ((j : Nat) : Int)), (121, .pointer (some (ca.add j))), (122, u8 (cs.getD j 0)), (123, i64 ((j : Nat) : Int)), (124, i64 ((U : Nat) : Int)), (125, i64 (((j : Nat) : Int) - ((U : Nat) : Int))), (126, i64 (((j : Nat) : Int) - ((U : Nat) : Int))), (127, bl true), (128, bl true), (129, i64 (((j : Nat) : Int) - ((U : Nat) : Int))), (130, pf b1 1), (131, .slice (some da) ds.length kd), (132, i64 ((ds.length : Nat) : Int)), (133, bl true), (134, bl true), (135, pf b1 1), (136, .slice (some da) ds.length kd), (137, i64 (((j : Nat) : Int) - ((U : Nat) : Int))), (138, .pointer (some (da.add ((((j : Nat) : Int) - ((U : Nat) : Int)).toNat)))), (139, u8 (ds.getD ((((j : Nat) : Int) - ((U : Nat) : Int)).toNat) 0)), (140, .slice (some ⟨b4, 0, none⟩) N cL1), (141, i64 ((j : Nat) : Int)), (142, .pointer (some ((⟨b4, 0, none⟩ : Addr).add j))), (143, u8 ((memL cs ds U N).getD j 0)), (144, u8 (ds.getD ((((j : Nat) : Int) - ((U : Nat) : Int)).toNat) 0)), (145, bl (((memL cs ds U N).getD j 0) != (ds.getD ((((j : Nat) : Int) - ((U : Nat) : Int)).toNat) 0)))]) 6 hA [u8 ((memL cs ds U N).getD j 0)] (cc (⟨by omega, by omega⟩ : (0 : Int) ≤ ((j : Nat) : Int) ∧ ((j : Nat) : Int) < ((N : Nat) : Int)) (cc ((ld_mem (hO.b 4) (by rw [memL_len]; omega) (by kernel_rfl)) : Ld Tryd.prog w12 ((⟨b4, 0, none⟩ : Addr).add j) 5 (u8 ((memL cs ds U N).getD j 0))) c0)) ?_
                clear hA fr; intro fr hA
                replace hA := hA.bool (f := fun z_ => [(1, pt b1), (2, bl false), (5, .slice (some ⟨b4, 0, none⟩) N cL1), (7, i64 ((U : Nat) : Int)), (8, i64 ((j : Nat) : Int)), (9, u8 (ds.getD ((((j : Nat) : Int) - ((U : Nat) : Int)).toNat) 0)), (10, i64 (((j : Nat) : Int) - ((U : Nat) : Int))), (107, i64 ((j : Nat) : Int)), (108, .slice (some ⟨b4, 0, none⟩) N cL1), (109, i64 ((N : Nat) : Int)), (110, bl true), (113, i64 ((j : Nat) : Int)), (114, pt b1), (115, .slice (some ca) cs.length kc), (116, i64 ((cs.length : Nat) : Int)), (117, bl true), (118, pt b1), (119, .slice (some ca) cs.length kc), (120, i64 ((j : Nat) : Int)), (121, .pointer (some (ca.add j))), (122, u8 (cs.getD j 0)), (123, i64 ((j : Nat) : Int)), (124, i64 ((U : Nat) : Int)), (125, i64 (((j : Nat) : Int) - ((U : Nat) : Int))), (126, i64 (((j : Nat) : Int) - ((U : Nat) : Int))), (127, bl true), (128, bl true), (129, i64 (((j : Nat) : Int) - ((U : Nat) : Int))), (130, pf b1 1), (131, .slice (some da) ds.length kd), (132, i64 ((ds.length : Nat) : Int)), (133, bl true), (134, bl true), (135, pf b1 1), (136, .slice (some da) ds.length kd), (137, i64 (((j : Nat) : Int) - ((U : Nat) : Int))), (138, .pointer (some (da.add ((((j : Nat) : Int) - ((U : Nat) : Int)).toNat)))), (139, u8 (ds.getD ((((j : Nat) : Int) - ((U : Nat) : Int)).toNat) 0)), (140, .slice (some ⟨b4, 0, none⟩) N cL1), (141, i64 ((j : Nat) : Int)), (142, .pointer (some ((⟨b4, 0, none⟩ : Addr).add j))), (143, u8 ((memL cs ds U N).getD j 0)), (144, u8 (ds.getD ((((j : Nat) : Int) - ((U : Nat) : Int)).toNat) 0)), (145, .bool z_)]) ((by rw [bne_eq_false_iff_eq]; first | exact memL_code (by omega) (by omega) | exact memL_data (by omega) (by omega) (by omega) (by omega) | exact memL_zero (by omega) (by omega) (by omega)) : (((memL cs ds U N).getD j 0) != (ds.getD ((((j : Nat) : Int) - ((U : Nat) : Int)).toNat) 0)) = false)
                refine cF hA ?_
                refine wp_skip ?_
                refine inBlock_normal ?_
                refine then_normal ?_
                refine rC (e' := [(1, pt b1), (2, bl false), (5, .slice (some ⟨b4, 0, none⟩) N cL1), (7, i64 ((U : Nat) : Int)), (8, i64 (((j : Nat) : Int) + 1)), (9, u8 (ds.getD ((((j : Nat) : Int) - ((U : Nat) : Int)).toNat) 0)), (10, i64 (((j : Nat) : Int) - ((U : Nat) : Int))), (107, i64 ((j : Nat) : Int)), (108, .slice (some ⟨b4, 0, none⟩) N cL1), (109, i64 ((N : Nat) : Int)), (110, bl true), (111, i64 ((j : Nat) : Int)), (112, i64 (((j : Nat) : Int) + 1)), (113, i64 ((j : Nat) : Int)), (114, pt b1), (115, .slice (some ca) cs.length kc), (116, i64 ((cs.length : Nat) : Int)), (117, bl true), (118, pt b1), (119, .slice (some ca) cs.length kc), (120, i64 ((j : Nat) : Int)), (121, .pointer (some (ca.add j))), (122, u8 (cs.getD j 0)), (123, i64 ((j : Nat) : Int)), (124, i64 ((U : Nat) : Int)), (125, i64 (((j : Nat) : Int) - ((U : Nat) : Int))), (126, i64 (((j : Nat) : Int) - ((U : Nat) : Int))), (127, bl true), (128, bl true), (129, i64 (((j : Nat) : Int) - ((U : Nat) : Int))), (130, pf b1 1), (131, .slice (some da) ds.length kd), (132, i64 ((ds.length : Nat) : Int)), (133, bl true), (134, bl true), (135, pf b1 1), (136, .slice (some da) ds.length kd), (137, i64 (((j : Nat) : Int) - ((U : Nat) : Int))), (138, .pointer (some (da.add ((((j : Nat) : Int) - ((U : Nat) : Int)).toNat)))), (139, u8 (ds.getD ((((j : Nat) : Int) - ((U : Nat) : Int)).toNat) 0)), (140, .slice (some ⟨b4, 0, none⟩) N cL1), (141, i64 ((j : Nat) : Int)), (142, .pointer (some ((⟨b4, 0, none⟩ : Addr).add j))), (143, u8 ((memL cs ds U N).getD j 0)), (144, u8 (ds.getD ((((j : Nat) : Int) - ((U : Nat) : Int)).toNat) 0)), (145, bl false)]) 3 hA [bl true] (cc ((inK_i64 (by omega) (by omega)) : inK .i64 (((j : Nat) : Int) + 1)) c0) ?_
                clear hA fr; intro fr hA
                refine then_normal ?_
                exact ⟨_, by omega, j + 1, rfl, (hA.sub (e' := [(1, pt b1), (2, bl false), (5, .slice (some ⟨b4, 0, none⟩) N cL1), (7, i64 ((U : Nat) : Int)), (8, i64 (((j : Nat) : Int) + 1))]) [1, 2, 5, 7, 8] (by kernel_rfl)).cast (by kernel_rfl), hO.to, (by omega), trivial⟩
              ·
                replace hA := hA.bool (f := fun z_ => [(1, pt b1), (2, bl false), (5, .slice (some ⟨b4, 0, none⟩) N cL1), (7, i64 ((U : Nat) : Int)), (8, i64 ((j : Nat) : Int)), (9, u8 (cs.getD j 0)), (10, i64 (((j : Nat) : Int) - ((U : Nat) : Int))), (107, i64 ((j : Nat) : Int)), (108, .slice (some ⟨b4, 0, none⟩) N cL1), (109, i64 ((N : Nat) : Int)), (110, bl true), (113, i64 ((j : Nat) : Int)), (114, pt b1), (115, .slice (some ca) cs.length kc), (116, i64 ((cs.length : Nat) : Int)), (117, bl true), (118, pt b1), (119, .slice (some ca) cs.length kc), (120, i64 ((j : Nat) : Int)), (121, .pointer (some (ca.add j))), (122, u8 (cs.getD j 0)), (123, i64 ((j : Nat) : Int)), (124, i64 ((U : Nat) : Int)), (125, i64 (((j : Nat) : Int) - ((U : Nat) : Int))), (126, i64 (((j : Nat) : Int) - ((U : Nat) : Int))), (127, bl true), (128, bl true), (129, i64 (((j : Nat) : Int) - ((U : Nat) : Int))), (130, pf b1 1), (131, .slice (some da) ds.length kd), (132, i64 ((ds.length : Nat) : Int)), (133, .bool z_), (134, .bool z_)]) h5
                have h5p := of_decide_eq_false h5
                refine cF hA ?_
                refine wp_skip ?_
                refine then_normal ?_
                refine sC (e' := [(1, pt b1), (2, bl false), (5, .slice (some ⟨b4, 0, none⟩) N cL1), (7, i64 ((U : Nat) : Int)), (8, i64 ((j : Nat) : Int)), (9, u8 (cs.getD j 0)), (10, i64 (((j : Nat) : Int) - ((U : Nat) : Int))), (107, i64 ((j : Nat) : Int)), (108, .slice (some ⟨b4, 0, none⟩) N cL1), (109, i64 ((N : Nat) : Int)), (110, bl true), (113, i64 ((j : Nat) : Int)), (114, pt b1), (115, .slice (some ca) cs.length kc), (116, i64 ((cs.length : Nat) : Int)), (117, bl true), (118, pt b1), (119, .slice (some ca) cs.length kc), (120, i64 ((j : Nat) : Int)), (121, .pointer (some (ca.add j))), (122, u8 (cs.getD j 0)), (123, i64 ((j : Nat) : Int)), (124, i64 ((U : Nat) : Int)), (125, i64 (((j : Nat) : Int) - ((U : Nat) : Int))), (126, i64 (((j : Nat) : Int) - ((U : Nat) : Int))), (127, bl true), (128, bl true), (129, i64 (((j : Nat) : Int) - ((U : Nat) : Int))), (130, pf b1 1), (131, .slice (some da) ds.length kd), (132, i64 ((ds.length : Nat) : Int)), (133, bl false), (134, bl false), (140, .slice (some ⟨b4, 0, none⟩) N cL1), (141, i64 ((j : Nat) : Int)), (142, .pointer (some ((⟨b4, 0, none⟩ : Addr).add j))), (143, u8 ((memL cs ds U N).getD j 0)), (144, u8 (cs.getD j 0)), (145, bl (((memL cs ds U N).getD j 0) != (cs.getD j 0)))]) 6 hA [u8 ((memL cs ds U N).getD j 0)] (cc (⟨by omega, by omega⟩ : (0 : Int) ≤ ((j : Nat) : Int) ∧ ((j : Nat) : Int) < ((N : Nat) : Int)) (cc ((ld_mem (hO.b 4) (by rw [memL_len]; omega) (by kernel_rfl)) : Ld Tryd.prog w12 ((⟨b4, 0, none⟩ : Addr).add j) 5 (u8 ((memL cs ds U N).getD j 0))) c0)) ?_
                clear hA fr; intro fr hA
                replace hA := hA.bool (f := fun z_ => [(1, pt b1), (2, bl false), (5, .slice (some ⟨b4, 0, none⟩) N cL1), (7, i64 ((U : Nat) : Int)), (8, i64 ((j : Nat) : Int)), (9, u8 (cs.getD j 0)), (10, i64 (((j : Nat) : Int) - ((U : Nat) : Int))), (107, i64 ((j : Nat) : Int)), (108, .slice (some ⟨b4, 0, none⟩) N cL1), (109, i64 ((N : Nat) : Int)), (110, bl true), (113, i64 ((j : Nat) : Int)), (114, pt b1), (115, .slice (some ca) cs.length kc), (116, i64 ((cs.length : Nat) : Int)), (117, bl true), (118, pt b1), (119, .slice (some ca) cs.length kc), (120, i64 ((j : Nat) : Int)), (121, .pointer (some (ca.add j))), (122, u8 (cs.getD j 0)), (123, i64 ((j : Nat) : Int)), (124, i64 ((U : Nat) : Int)), (125, i64 (((j : Nat) : Int) - ((U : Nat) : Int))), (126, i64 (((j : Nat) : Int) - ((U : Nat) : Int))), (127, bl true), (128, bl true), (129, i64 (((j : Nat) : Int) - ((U : Nat) : Int))), (130, pf b1 1), (131, .slice (some da) ds.length kd), (132, i64 ((ds.length : Nat) : Int)), (133, bl false), (134, bl false), (140, .slice (some ⟨b4, 0, none⟩) N cL1), (141, i64 ((j : Nat) : Int)), (142, .pointer (some ((⟨b4, 0, none⟩ : Addr).add j))), (143, u8 ((memL cs ds U N).getD j 0)), (144, u8 (cs.getD j 0)), (145, .bool z_)]) ((by rw [bne_eq_false_iff_eq]; first | exact memL_code (by omega) (by omega) | exact memL_data (by omega) (by omega) (by omega) (by omega) | exact memL_zero (by omega) (by omega) (by omega)) : (((memL cs ds U N).getD j 0) != (cs.getD j 0)) = false)
                refine cF hA ?_
                refine wp_skip ?_
                refine inBlock_normal ?_
                refine then_normal ?_
                refine rC (e' := [(1, pt b1), (2, bl false), (5, .slice (some ⟨b4, 0, none⟩) N cL1), (7, i64 ((U : Nat) : Int)), (8, i64 (((j : Nat) : Int) + 1)), (9, u8 (cs.getD j 0)), (10, i64 (((j : Nat) : Int) - ((U : Nat) : Int))), (107, i64 ((j : Nat) : Int)), (108, .slice (some ⟨b4, 0, none⟩) N cL1), (109, i64 ((N : Nat) : Int)), (110, bl true), (111, i64 ((j : Nat) : Int)), (112, i64 (((j : Nat) : Int) + 1)), (113, i64 ((j : Nat) : Int)), (114, pt b1), (115, .slice (some ca) cs.length kc), (116, i64 ((cs.length : Nat) : Int)), (117, bl true), (118, pt b1), (119, .slice (some ca) cs.length kc), (120, i64 ((j : Nat) : Int)), (121, .pointer (some (ca.add j))), (122, u8 (cs.getD j 0)), (123, i64 ((j : Nat) : Int)), (124, i64 ((U : Nat) : Int)), (125, i64 (((j : Nat) : Int) - ((U : Nat) : Int))), (126, i64 (((j : Nat) : Int) - ((U : Nat) : Int))), (127, bl true), (128, bl true), (129, i64 (((j : Nat) : Int) - ((U : Nat) : Int))), (130, pf b1 1), (131, .slice (some da) ds.length kd), (132, i64 ((ds.length : Nat) : Int)), (133, bl false), (134, bl false), (140, .slice (some ⟨b4, 0, none⟩) N cL1), (141, i64 ((j : Nat) : Int)), (142, .pointer (some ((⟨b4, 0, none⟩ : Addr).add j))), (143, u8 ((memL cs ds U N).getD j 0)), (144, u8 (cs.getD j 0)), (145, bl false)]) 3 hA [bl true] (cc ((inK_i64 (by omega) (by omega)) : inK .i64 (((j : Nat) : Int) + 1)) c0) ?_
                clear hA fr; intro fr hA
                refine then_normal ?_
                exact ⟨_, by omega, j + 1, rfl, (hA.sub (e' := [(1, pt b1), (2, bl false), (5, .slice (some ⟨b4, 0, none⟩) N cL1), (7, i64 ((U : Nat) : Int)), (8, i64 (((j : Nat) : Int) + 1))]) [1, 2, 5, 7, 8] (by kernel_rfl)).cast (by kernel_rfl), hO.to, (by omega), trivial⟩
            ·
              replace hA := hA.bool (f := fun z_ => [(1, pt b1), (2, bl false), (5, .slice (some ⟨b4, 0, none⟩) N cL1), (7, i64 ((U : Nat) : Int)), (8, i64 ((j : Nat) : Int)), (9, u8 (cs.getD j 0)), (10, i64 (((j : Nat) : Int) - ((U : Nat) : Int))), (107, i64 ((j : Nat) : Int)), (108, .slice (some ⟨b4, 0, none⟩) N cL1), (109, i64 ((N : Nat) : Int)), (110, bl true), (113, i64 ((j : Nat) : Int)), (114, pt b1), (115, .slice (some ca) cs.length kc), (116, i64 ((cs.length : Nat) : Int)), (117, bl true), (118, pt b1), (119, .slice (some ca) cs.length kc), (120, i64 ((j : Nat) : Int)), (121, .pointer (some (ca.add j))), (122, u8 (cs.getD j 0)), (123, i64 ((j : Nat) : Int)), (124, i64 ((U : Nat) : Int)), (125, i64 (((j : Nat) : Int) - ((U : Nat) : Int))), (126, i64 (((j : Nat) : Int) - ((U : Nat) : Int))), (127, .bool z_), (128, .bool z_)]) h4
              have h4p := of_decide_eq_false h4
              refine ck (l := (rg 3 6)) (r := []) (e' := [(1, pt b1), (2, bl false), (5, .slice (some ⟨b4, 0, none⟩) N cL1), (7, i64 ((U : Nat) : Int)), (8, i64 ((j : Nat) : Int)), (9, u8 (cs.getD j 0)), (10, i64 (((j : Nat) : Int) - ((U : Nat) : Int))), (107, i64 ((j : Nat) : Int)), (108, .slice (some ⟨b4, 0, none⟩) N cL1), (109, i64 ((N : Nat) : Int)), (110, bl true), (113, i64 ((j : Nat) : Int)), (114, pt b1), (115, .slice (some ca) cs.length kc), (116, i64 ((cs.length : Nat) : Int)), (117, bl true), (118, pt b1), (119, .slice (some ca) cs.length kc), (120, i64 ((j : Nat) : Int)), (121, .pointer (some (ca.add j))), (122, u8 (cs.getD j 0)), (123, i64 ((j : Nat) : Int)), (124, i64 ((U : Nat) : Int)), (125, i64 (((j : Nat) : Int) - ((U : Nat) : Int))), (126, i64 (((j : Nat) : Int) - ((U : Nat) : Int))), (127, bl false), (128, bl false), (129, .tuple #[]), (130, .tuple #[]), (131, .tuple #[]), (132, .tuple #[]), (133, .tuple #[]), (134, bl false)]) hA [] c0 ?_
              clear hA fr; intro fr hA
              refine end_ops ?_
              refine then_normal ?_
              refine cF hA ?_
              refine wp_skip ?_
              refine then_normal ?_
              refine sC (e' := [(1, pt b1), (2, bl false), (5, .slice (some ⟨b4, 0, none⟩) N cL1), (7, i64 ((U : Nat) : Int)), (8, i64 ((j : Nat) : Int)), (9, u8 (cs.getD j 0)), (10, i64 (((j : Nat) : Int) - ((U : Nat) : Int))), (107, i64 ((j : Nat) : Int)), (108, .slice (some ⟨b4, 0, none⟩) N cL1), (109, i64 ((N : Nat) : Int)), (110, bl true), (113, i64 ((j : Nat) : Int)), (114, pt b1), (115, .slice (some ca) cs.length kc), (116, i64 ((cs.length : Nat) : Int)), (117, bl true), (118, pt b1), (119, .slice (some ca) cs.length kc), (120, i64 ((j : Nat) : Int)), (121, .pointer (some (ca.add j))), (122, u8 (cs.getD j 0)), (123, i64 ((j : Nat) : Int)), (124, i64 ((U : Nat) : Int)), (125, i64 (((j : Nat) : Int) - ((U : Nat) : Int))), (126, i64 (((j : Nat) : Int) - ((U : Nat) : Int))), (127, bl false), (128, bl false), (129, .tuple #[]), (130, .tuple #[]), (131, .tuple #[]), (132, .tuple #[]), (133, .tuple #[]), (134, bl false), (140, .slice (some ⟨b4, 0, none⟩) N cL1), (141, i64 ((j : Nat) : Int)), (142, .pointer (some ((⟨b4, 0, none⟩ : Addr).add j))), (143, u8 ((memL cs ds U N).getD j 0)), (144, u8 (cs.getD j 0)), (145, bl (((memL cs ds U N).getD j 0) != (cs.getD j 0)))]) 6 hA [u8 ((memL cs ds U N).getD j 0)] (cc (⟨by omega, by omega⟩ : (0 : Int) ≤ ((j : Nat) : Int) ∧ ((j : Nat) : Int) < ((N : Nat) : Int)) (cc ((ld_mem (hO.b 4) (by rw [memL_len]; omega) (by kernel_rfl)) : Ld Tryd.prog w12 ((⟨b4, 0, none⟩ : Addr).add j) 5 (u8 ((memL cs ds U N).getD j 0))) c0)) ?_
              clear hA fr; intro fr hA
              replace hA := hA.bool (f := fun z_ => [(1, pt b1), (2, bl false), (5, .slice (some ⟨b4, 0, none⟩) N cL1), (7, i64 ((U : Nat) : Int)), (8, i64 ((j : Nat) : Int)), (9, u8 (cs.getD j 0)), (10, i64 (((j : Nat) : Int) - ((U : Nat) : Int))), (107, i64 ((j : Nat) : Int)), (108, .slice (some ⟨b4, 0, none⟩) N cL1), (109, i64 ((N : Nat) : Int)), (110, bl true), (113, i64 ((j : Nat) : Int)), (114, pt b1), (115, .slice (some ca) cs.length kc), (116, i64 ((cs.length : Nat) : Int)), (117, bl true), (118, pt b1), (119, .slice (some ca) cs.length kc), (120, i64 ((j : Nat) : Int)), (121, .pointer (some (ca.add j))), (122, u8 (cs.getD j 0)), (123, i64 ((j : Nat) : Int)), (124, i64 ((U : Nat) : Int)), (125, i64 (((j : Nat) : Int) - ((U : Nat) : Int))), (126, i64 (((j : Nat) : Int) - ((U : Nat) : Int))), (127, bl false), (128, bl false), (129, .tuple #[]), (130, .tuple #[]), (131, .tuple #[]), (132, .tuple #[]), (133, .tuple #[]), (134, bl false), (140, .slice (some ⟨b4, 0, none⟩) N cL1), (141, i64 ((j : Nat) : Int)), (142, .pointer (some ((⟨b4, 0, none⟩ : Addr).add j))), (143, u8 ((memL cs ds U N).getD j 0)), (144, u8 (cs.getD j 0)), (145, .bool z_)]) ((by rw [bne_eq_false_iff_eq]; first | exact memL_code (by omega) (by omega) | exact memL_data (by omega) (by omega) (by omega) (by omega) | exact memL_zero (by omega) (by omega) (by omega)) : (((memL cs ds U N).getD j 0) != (cs.getD j 0)) = false)
              refine cF hA ?_
              refine wp_skip ?_
              refine inBlock_normal ?_
              refine then_normal ?_
              refine rC (e' := [(1, pt b1), (2, bl false), (5, .slice (some ⟨b4, 0, none⟩) N cL1), (7, i64 ((U : Nat) : Int)), (8, i64 (((j : Nat) : Int) + 1)), (9, u8 (cs.getD j 0)), (10, i64 (((j : Nat) : Int) - ((U : Nat) : Int))), (107, i64 ((j : Nat) : Int)), (108, .slice (some ⟨b4, 0, none⟩) N cL1), (109, i64 ((N : Nat) : Int)), (110, bl true), (111, i64 ((j : Nat) : Int)), (112, i64 (((j : Nat) : Int) + 1)), (113, i64 ((j : Nat) : Int)), (114, pt b1), (115, .slice (some ca) cs.length kc), (116, i64 ((cs.length : Nat) : Int)), (117, bl true), (118, pt b1), (119, .slice (some ca) cs.length kc), (120, i64 ((j : Nat) : Int)), (121, .pointer (some (ca.add j))), (122, u8 (cs.getD j 0)), (123, i64 ((j : Nat) : Int)), (124, i64 ((U : Nat) : Int)), (125, i64 (((j : Nat) : Int) - ((U : Nat) : Int))), (126, i64 (((j : Nat) : Int) - ((U : Nat) : Int))), (127, bl false), (128, bl false), (129, .tuple #[]), (130, .tuple #[]), (131, .tuple #[]), (132, .tuple #[]), (133, .tuple #[]), (134, bl false), (140, .slice (some ⟨b4, 0, none⟩) N cL1), (141, i64 ((j : Nat) : Int)), (142, .pointer (some ((⟨b4, 0, none⟩ : Addr).add j))), (143, u8 ((memL cs ds U N).getD j 0)), (144, u8 (cs.getD j 0)), (145, bl false)]) 3 hA [bl true] (cc ((inK_i64 (by omega) (by omega)) : inK .i64 (((j : Nat) : Int) + 1)) c0) ?_
              clear hA fr; intro fr hA
              refine then_normal ?_
              exact ⟨_, by omega, j + 1, rfl, (hA.sub (e' := [(1, pt b1), (2, bl false), (5, .slice (some ⟨b4, 0, none⟩) N cL1), (7, i64 ((U : Nat) : Int)), (8, i64 (((j : Nat) : Int) + 1))]) [1, 2, 5, 7, 8] (by kernel_rfl)).cast (by kernel_rfl), hO.to, (by omega), trivial⟩
          ·
            replace hA := hA.bool (f := fun z_ => [(1, pt b1), (2, bl false), (5, .slice (some ⟨b4, 0, none⟩) N cL1), (7, i64 ((U : Nat) : Int)), (8, i64 ((j : Nat) : Int)), (9, u8 0), (107, i64 ((j : Nat) : Int)), (108, .slice (some ⟨b4, 0, none⟩) N cL1), (109, i64 ((N : Nat) : Int)), (110, bl true), (113, i64 ((j : Nat) : Int)), (114, pt b1), (115, .slice (some ca) cs.length kc), (116, i64 ((cs.length : Nat) : Int)), (117, .bool z_)]) h3
            have h3p := of_decide_eq_false h3
            refine cF hA ?_
            refine wp_skip ?_
            refine then_normal ?_
            refine wp_seq ?_
            refine sC (e' := [(1, pt b1), (2, bl false), (5, .slice (some ⟨b4, 0, none⟩) N cL1), (7, i64 ((U : Nat) : Int)), (8, i64 ((j : Nat) : Int)), (9, u8 0), (10, i64 (((j : Nat) : Int) - ((U : Nat) : Int))), (107, i64 ((j : Nat) : Int)), (108, .slice (some ⟨b4, 0, none⟩) N cL1), (109, i64 ((N : Nat) : Int)), (110, bl true), (113, i64 ((j : Nat) : Int)), (114, pt b1), (115, .slice (some ca) cs.length kc), (116, i64 ((cs.length : Nat) : Int)), (117, bl false), (123, i64 ((j : Nat) : Int)), (124, i64 ((U : Nat) : Int)), (125, i64 (((j : Nat) : Int) - ((U : Nat) : Int)))]) 4 hA [bl true] (cc ((inK_i64 (by omega) (by omega)) : inK .i64 (((j : Nat) : Int) - ((U : Nat) : Int))) c0) ?_
            clear hA fr; intro fr hA
            refine sR (l := (rg 0 9)) ?_
            refine ck (l := [0, 1, 2]) (r := (rg 3 6)) (e' := [(1, pt b1), (2, bl false), (5, .slice (some ⟨b4, 0, none⟩) N cL1), (7, i64 ((U : Nat) : Int)), (8, i64 ((j : Nat) : Int)), (9, u8 0), (10, i64 (((j : Nat) : Int) - ((U : Nat) : Int))), (107, i64 ((j : Nat) : Int)), (108, .slice (some ⟨b4, 0, none⟩) N cL1), (109, i64 ((N : Nat) : Int)), (110, bl true), (113, i64 ((j : Nat) : Int)), (114, pt b1), (115, .slice (some ca) cs.length kc), (116, i64 ((cs.length : Nat) : Int)), (117, bl false), (123, i64 ((j : Nat) : Int)), (124, i64 ((U : Nat) : Int)), (125, i64 (((j : Nat) : Int) - ((U : Nat) : Int))), (126, i64 (((j : Nat) : Int) - ((U : Nat) : Int))), (127, bl (decide ((((j : Nat) : Int) - ((U : Nat) : Int)) ≥ 0))), (128, bl (decide ((((j : Nat) : Int) - ((U : Nat) : Int)) ≥ 0)))]) hA [] c0 ?_
            clear hA fr; intro fr hA
            rcases Bool.eq_false_or_eq_true (decide ((((j : Nat) : Int) - ((U : Nat) : Int)) ≥ 0)) with h6 | h6
            ·
              replace hA := hA.bool (f := fun z_ => [(1, pt b1), (2, bl false), (5, .slice (some ⟨b4, 0, none⟩) N cL1), (7, i64 ((U : Nat) : Int)), (8, i64 ((j : Nat) : Int)), (9, u8 0), (10, i64 (((j : Nat) : Int) - ((U : Nat) : Int))), (107, i64 ((j : Nat) : Int)), (108, .slice (some ⟨b4, 0, none⟩) N cL1), (109, i64 ((N : Nat) : Int)), (110, bl true), (113, i64 ((j : Nat) : Int)), (114, pt b1), (115, .slice (some ca) cs.length kc), (116, i64 ((cs.length : Nat) : Int)), (117, bl false), (123, i64 ((j : Nat) : Int)), (124, i64 ((U : Nat) : Int)), (125, i64 (((j : Nat) : Int) - ((U : Nat) : Int))), (126, i64 (((j : Nat) : Int) - ((U : Nat) : Int))), (127, .bool z_), (128, .bool z_)]) h6
              have h6p := of_decide_eq_true h6
              refine ck (l := (rg 3 6)) (r := []) (e' := [(1, pt b1), (2, bl false), (5, .slice (some ⟨b4, 0, none⟩) N cL1), (7, i64 ((U : Nat) : Int)), (8, i64 ((j : Nat) : Int)), (9, u8 0), (10, i64 (((j : Nat) : Int) - ((U : Nat) : Int))), (107, i64 ((j : Nat) : Int)), (108, .slice (some ⟨b4, 0, none⟩) N cL1), (109, i64 ((N : Nat) : Int)), (110, bl true), (113, i64 ((j : Nat) : Int)), (114, pt b1), (115, .slice (some ca) cs.length kc), (116, i64 ((cs.length : Nat) : Int)), (117, bl false), (123, i64 ((j : Nat) : Int)), (124, i64 ((U : Nat) : Int)), (125, i64 (((j : Nat) : Int) - ((U : Nat) : Int))), (126, i64 (((j : Nat) : Int) - ((U : Nat) : Int))), (127, bl true), (128, bl true), (129, i64 (((j : Nat) : Int) - ((U : Nat) : Int))), (130, pf b1 1), (131, .slice (some da) ds.length kd), (132, i64 ((ds.length : Nat) : Int)), (133, bl (decide ((((j : Nat) : Int) - ((U : Nat) : Int)) < ((ds.length : Nat) : Int)))), (134, bl (decide ((((j : Nat) : Int) - ((U : Nat) : Int)) < ((ds.length : Nat) : Int))))]) hA [.slice (some da) ds.length kd] (cc (hO.l1 1 1 22 (.slice (some da) ds.length kd)) c0) ?_
              clear hA fr; intro fr hA
              refine end_ops ?_
              refine then_normal ?_
              rcases Bool.eq_false_or_eq_true (decide ((((j : Nat) : Int) - ((U : Nat) : Int)) < ((ds.length : Nat) : Int))) with h7 | h7
              ·
                replace hA := hA.bool (f := fun z_ => [(1, pt b1), (2, bl false), (5, .slice (some ⟨b4, 0, none⟩) N cL1), (7, i64 ((U : Nat) : Int)), (8, i64 ((j : Nat) : Int)), (9, u8 0), (10, i64 (((j : Nat) : Int) - ((U : Nat) : Int))), (107, i64 ((j : Nat) : Int)), (108, .slice (some ⟨b4, 0, none⟩) N cL1), (109, i64 ((N : Nat) : Int)), (110, bl true), (113, i64 ((j : Nat) : Int)), (114, pt b1), (115, .slice (some ca) cs.length kc), (116, i64 ((cs.length : Nat) : Int)), (117, bl false), (123, i64 ((j : Nat) : Int)), (124, i64 ((U : Nat) : Int)), (125, i64 (((j : Nat) : Int) - ((U : Nat) : Int))), (126, i64 (((j : Nat) : Int) - ((U : Nat) : Int))), (127, bl true), (128, bl true), (129, i64 (((j : Nat) : Int) - ((U : Nat) : Int))), (130, pf b1 1), (131, .slice (some da) ds.length kd), (132, i64 ((ds.length : Nat) : Int)), (133, .bool z_), (134, .bool z_)]) h7
                have h7p := of_decide_eq_true h7
                refine cT hA ?_
                refine rC (e' := [(1, pt b1), (2, bl false), (5, .slice (some ⟨b4, 0, none⟩) N cL1), (7, i64 ((U : Nat) : Int)), (8, i64 ((j : Nat) : Int)), (9, u8 (ds.getD ((((j : Nat) : Int) - ((U : Nat) : Int)).toNat) 0)), (10, i64 (((j : Nat) : Int) - ((U : Nat) : Int))), (107, i64 ((j : Nat) : Int)), (108, .slice (some ⟨b4, 0, none⟩) N cL1), (109, i64 ((N : Nat) : Int)), (110, bl true), (113, i64 ((j : Nat) : Int)), (114, pt b1), (115, .slice (some ca) cs.length kc), (116, i64 ((cs.length : Nat) : Int)), (117, bl false), (123, i64 ((j : Nat) : Int)), (124, i64 ((U : Nat) : Int)), (125, i64 (((j : Nat) : Int) - ((U : Nat) : Int))), (126, i64 (((j : Nat) : Int) - ((U : Nat) : Int))), (127, bl true), (128, bl true), (129, i64 (((j : Nat) : Int) - ((U : Nat) : Int))), (130, pf b1 1), (131, .slice (some da) ds.length kd), (132, i64 ((ds.length : Nat) : Int)), (133, bl true), (134, bl true), (135, pf b1 1), (136, .slice (some da) ds.length kd), (137, i64 (((j : Nat) : Int) - ((U : Nat) : Int))), (138, .pointer (some (da.add ((((j : Nat) : Int) - ((U : Nat) : Int)).toNat)))), (139, u8 (ds.getD ((((j : Nat) : Int) - ((U : Nat) : Int)).toNat) 0))]) 6 hA [.slice (some da) ds.length kd, u8 (ds.getD ((((j : Nat) : Int) - ((U : Nat) : Int)).toNat) 0)] (cc (hO.l1 1 1 22 (.slice (some da) ds.length kd)) (cc (⟨by omega, by omega⟩ : (0 : Int) ≤ ((j : Nat) : Int) - ((U : Nat) : Int) ∧ ((j : Nat) : Int) - ((U : Nat) : Int) < ((ds.length : Nat) : Int)) (cc ((ld_cell (by kernel_rfl) (hO.only.cell (hdd ((((j : Nat) : Int) - ((U : Nat) : Int)).toNat) (by omega)) (fun h => h))) : Ld Tryd.prog w12 (da.add ((((j : Nat) : Int) - ((U : Nat) : Int)).toNat)) 5 (u8 (ds.getD ((((j : Nat) : Int) - ((U : Nat) : Int)).toNat) 0))) c0))) ?_
                clear hA fr; intro fr hA
                refine then_normal ?_
                refine sC (e' := [(1, pt b1), (2, bl false), (5, .slice (some ⟨b4, 0, none⟩) N cL1), (7, i64 ((U : Nat) : Int)), (8, i64 ((j : Nat) : Int)), (9, u8 (ds.getD ((((j : Nat) : Int) - ((U : Nat) : Int)).toNat) 0)), (10, i64 (((j : Nat) : Int) - ((U : Nat) : Int))), (107, i64 ((j : Nat) : Int)), (108, .slice (some ⟨b4, 0, none⟩) N cL1), (109, i64 ((N : Nat) : Int)), (110, bl true), (113, i64 ((j : Nat) : Int)), (114, pt b1), (115, .slice (some ca) cs.length kc), (116, i64 ((cs.length : Nat) : Int)), (117, bl false), (123, i64 ((j : Nat) : Int)), (124, i64 ((U : Nat) : Int)), (125, i64 (((j : Nat) : Int) - ((U : Nat) : Int))), (126, i64 (((j : Nat) : Int) - ((U : Nat) : Int))), (127, bl true), (128, bl true), (129, i64 (((j : Nat) : Int) - ((U : Nat) : Int))), (130, pf b1 1), (131, .slice (some da) ds.length kd), (132, i64 ((ds.length : Nat) : Int)), (133, bl true), (134, bl true), (135, pf b1 1), (136, .slice (some da) ds.length kd), (137, i64 (((j : Nat) : Int) - ((U : Nat) : Int))), (138, .pointer (some (da.add ((((j : Nat) : Int) - ((U : Nat) : Int)).toNat)))), (139, u8 (ds.getD ((((j : Nat) : Int) - ((U : Nat) : Int)).toNat) 0)), (140, .slice (some ⟨b4, 0, none⟩) N cL1), (141, i64 ((j : Nat) : Int)), (142, .pointer (some ((⟨b4, 0, none⟩ : Addr).add j))), (143, u8 ((memL cs ds U N).getD j 0)), (144, u8 (ds.getD ((((j : Nat) : Int) - ((U : Nat) : Int)).toNat) 0)), (145, bl (((memL cs ds U N).getD j 0) != (ds.getD ((((j : Nat) : Int) - ((U : Nat) : Int)).toNat) 0)))]) 6 hA [u8 ((memL cs ds U N).getD j 0)] (cc (⟨by omega, by omega⟩ : (0 : Int) ≤ ((j : Nat) : Int) ∧ ((j : Nat) : Int) < ((N : Nat) : Int)) (cc ((ld_mem (hO.b 4) (by rw [memL_len]; omega) (by kernel_rfl)) : Ld Tryd.prog w12 ((⟨b4, 0, none⟩ : Addr).add j) 5 (u8 ((memL cs ds U N).getD j 0))) c0)) ?_
                clear hA fr; intro fr hA
                replace hA := hA.bool (f := fun z_ => [(1, pt b1), (2, bl false), (5, .slice (some ⟨b4, 0, none⟩) N cL1), (7, i64 ((U : Nat) : Int)), (8, i64 ((j : Nat) : Int)), (9, u8 (ds.getD ((((j : Nat) : Int) - ((U : Nat) : Int)).toNat) 0)), (10, i64 (((j : Nat) : Int) - ((U : Nat) : Int))), (107, i64 ((j : Nat) : Int)), (108, .slice (some ⟨b4, 0, none⟩) N cL1), (109, i64 ((N : Nat) : Int)), (110, bl true), (113, i64 ((j : Nat) : Int)), (114, pt b1), (115, .slice (some ca) cs.length kc), (116, i64 ((cs.length : Nat) : Int)), (117, bl false), (123, i64 ((j : Nat) : Int)), (124, i64 ((U : Nat) : Int)), (125, i64 (((j : Nat) : Int) - ((U : Nat) : Int))), (126, i64 (((j : Nat) : Int) - ((U : Nat) : Int))), (127, bl true), (128, bl true), (129, i64 (((j : Nat) : Int) - ((U : Nat) : Int))), (130, pf b1 1), (131, .slice (some da) ds.length kd), (132, i64 ((ds.length : Nat) : Int)), (133, bl true), (134, bl true), (135, pf b1 1), (136, .slice (some da) ds.length kd), (137, i64 (((j : Nat) : Int) - ((U : Nat) : Int))), (138, .pointer (some (da.add ((((j : Nat) : Int) - ((U : Nat) : Int)).toNat)))), (139, u8 (ds.getD ((((j : Nat) : Int) - ((U : Nat) : Int)).toNat) 0)), (140, .slice (some ⟨b4, 0, none⟩) N cL1), (141, i64 ((j : Nat) : Int)), (142, .pointer (some ((⟨b4, 0, none⟩ : Addr).add j))), (143, u8 ((memL cs ds U N).getD j 0)), (144, u8 (ds.getD ((((j : Nat) : Int) - ((U : Nat) : Int)).toNat) 0)), (145, .bool z_)]) ((by rw [bne_eq_false_iff_eq]; first | exact memL_code (by omega) (by omega) | exact memL_data (by omega) (by omega) (by omega) (by omega) | exact memL_zero (by omega) (by omega) (by omega)) : (((memL cs ds U N).getD j 0) != (ds.getD ((((j : Nat) : Int) - ((U : Nat) : Int)).toNat) 0)) = false)
                refine cF hA ?_
                refine wp_skip ?_
                refine inBlock_normal ?_
                refine then_normal ?_
                refine rC (e' := [(1, pt b1), (2, bl false), (5, .slice (some ⟨b4, 0, none⟩) N cL1), (7, i64 ((U : Nat) : Int)), (8, i64 (((j : Nat) : Int) + 1)), (9, u8 (ds.getD ((((j : Nat) : Int) - ((U : Nat) : Int)).toNat) 0)), (10, i64 (((j : Nat) : Int) - ((U : Nat) : Int))), (107, i64 ((j : Nat) : Int)), (108, .slice (some ⟨b4, 0, none⟩) N cL1), (109, i64 ((N : Nat) : Int)), (110, bl true), (111, i64 ((j : Nat) : Int)), (112, i64 (((j : Nat) : Int) + 1)), (113, i64 ((j : Nat) : Int)), (114, pt b1), (115, .slice (some ca) cs.length kc), (116, i64 ((cs.length : Nat) : Int)), (117, bl false), (123, i64 ((j : Nat) : Int)), (124, i64 ((U : Nat) : Int)), (125, i64 (((j : Nat) : Int) - ((U : Nat) : Int))), (126, i64 (((j : Nat) : Int) - ((U : Nat) : Int))), (127, bl true), (128, bl true), (129, i64 (((j : Nat) : Int) - ((U : Nat) : Int))), (130, pf b1 1), (131, .slice (some da) ds.length kd), (132, i64 ((ds.length : Nat) : Int)), (133, bl true), (134, bl true), (135, pf b1 1), (136, .slice (some da) ds.length kd), (137, i64 (((j : Nat) : Int) - ((U : Nat) : Int))), (138, .pointer (some (da.add ((((j : Nat) : Int) - ((U : Nat) : Int)).toNat)))), (139, u8 (ds.getD ((((j : Nat) : Int) - ((U : Nat) : Int)).toNat) 0)), (140, .slice (some ⟨b4, 0, none⟩) N cL1), (141, i64 ((j : Nat) : Int)), (142, .pointer (some ((⟨b4, 0, none⟩ : Addr).add j))), (143, u8 ((memL cs ds U N).getD j 0)), (144, u8 (ds.getD ((((j : Nat) : Int) - ((U : Nat) : Int)).toNat) 0)), (145, bl false)]) 3 hA [bl true] (cc ((inK_i64 (by omega) (by omega)) : inK .i64 (((j : Nat) : Int) + 1)) c0) ?_
                clear hA fr; intro fr hA
                refine then_normal ?_
                exact ⟨_, by omega, j + 1, rfl, (hA.sub (e' := [(1, pt b1), (2, bl false), (5, .slice (some ⟨b4, 0, none⟩) N cL1), (7, i64 ((U : Nat) : Int)), (8, i64 (((j : Nat) : Int) + 1))]) [1, 2, 5, 7, 8] (by kernel_rfl)).cast (by kernel_rfl), hO.to, (by omega), trivial⟩
              ·
                replace hA := hA.bool (f := fun z_ => [(1, pt b1), (2, bl false), (5, .slice (some ⟨b4, 0, none⟩) N cL1), (7, i64 ((U : Nat) : Int)), (8, i64 ((j : Nat) : Int)), (9, u8 0), (10, i64 (((j : Nat) : Int) - ((U : Nat) : Int))), (107, i64 ((j : Nat) : Int)), (108, .slice (some ⟨b4, 0, none⟩) N cL1), (109, i64 ((N : Nat) : Int)), (110, bl true), (113, i64 ((j : Nat) : Int)), (114, pt b1), (115, .slice (some ca) cs.length kc), (116, i64 ((cs.length : Nat) : Int)), (117, bl false), (123, i64 ((j : Nat) : Int)), (124, i64 ((U : Nat) : Int)), (125, i64 (((j : Nat) : Int) - ((U : Nat) : Int))), (126, i64 (((j : Nat) : Int) - ((U : Nat) : Int))), (127, bl true), (128, bl true), (129, i64 (((j : Nat) : Int) - ((U : Nat) : Int))), (130, pf b1 1), (131, .slice (some da) ds.length kd), (132, i64 ((ds.length : Nat) : Int)), (133, .bool z_), (134, .bool z_)]) h7
                have h7p := of_decide_eq_false h7
                refine cF hA ?_
                refine wp_skip ?_
                refine then_normal ?_
                refine sC (e' := [(1, pt b1), (2, bl false), (5, .slice (some ⟨b4, 0, none⟩) N cL1), (7, i64 ((U : Nat) : Int)), (8, i64 ((j : Nat) : Int)), (9, u8 0), (10, i64 (((j : Nat) : Int) - ((U : Nat) : Int))), (107, i64 ((j : Nat) : Int)), (108, .slice (some ⟨b4, 0, none⟩) N cL1), (109, i64 ((N : Nat) : Int)), (110, bl true), (113, i64 ((j : Nat) : Int)), (114, pt b1), (115, .slice (some ca) cs.length kc), (116, i64 ((cs.length : Nat) : Int)), (117, bl false), (123, i64 ((j : Nat) : Int)), (124, i64 ((U : Nat) : Int)), (125, i64 (((j : Nat) : Int) - ((U : Nat) : Int))), (126, i64 (((j : Nat) : Int) - ((U : Nat) : Int))), (127, bl true), (128, bl true), (129, i64 (((j : Nat) : Int) - ((U : Nat) : Int))), (130, pf b1 1), (131, .slice (some da) ds.length kd), (132, i64 ((ds.length : Nat) : Int)), (133, bl false), (134, bl false), (140, .slice (some ⟨b4, 0, none⟩) N cL1), (141, i64 ((j : Nat) : Int)), (142, .pointer (some ((⟨b4, 0, none⟩ : Addr).add j))), (143, u8 ((memL cs ds U N).getD j 0)), (144, u8 0), (145, bl (((memL cs ds U N).getD j 0) != 0))]) 6 hA [u8 ((memL cs ds U N).getD j 0)] (cc (⟨by omega, by omega⟩ : (0 : Int) ≤ ((j : Nat) : Int) ∧ ((j : Nat) : Int) < ((N : Nat) : Int)) (cc ((ld_mem (hO.b 4) (by rw [memL_len]; omega) (by kernel_rfl)) : Ld Tryd.prog w12 ((⟨b4, 0, none⟩ : Addr).add j) 5 (u8 ((memL cs ds U N).getD j 0))) c0)) ?_
                clear hA fr; intro fr hA
                replace hA := hA.bool (f := fun z_ => [(1, pt b1), (2, bl false), (5, .slice (some ⟨b4, 0, none⟩) N cL1), (7, i64 ((U : Nat) : Int)), (8, i64 ((j : Nat) : Int)), (9, u8 0), (10, i64 (((j : Nat) : Int) - ((U : Nat) : Int))), (107, i64 ((j : Nat) : Int)), (108, .slice (some ⟨b4, 0, none⟩) N cL1), (109, i64 ((N : Nat) : Int)), (110, bl true), (113, i64 ((j : Nat) : Int)), (114, pt b1), (115, .slice (some ca) cs.length kc), (116, i64 ((cs.length : Nat) : Int)), (117, bl false), (123, i64 ((j : Nat) : Int)), (124, i64 ((U : Nat) : Int)), (125, i64 (((j : Nat) : Int) - ((U : Nat) : Int))), (126, i64 (((j : Nat) : Int) - ((U : Nat) : Int))), (127, bl true), (128, bl true), (129, i64 (((j : Nat) : Int) - ((U : Nat) : Int))), (130, pf b1 1), (131, .slice (some da) ds.length kd), (132, i64 ((ds.length : Nat) : Int)), (133, bl false), (134, bl false), (140, .slice (some ⟨b4, 0, none⟩) N cL1), (141, i64 ((j : Nat) : Int)), (142, .pointer (some ((⟨b4, 0, none⟩ : Addr).add j))), (143, u8 ((memL cs ds U N).getD j 0)), (144, u8 0), (145, .bool z_)]) ((by rw [bne_eq_false_iff_eq]; first | exact memL_code (by omega) (by omega) | exact memL_data (by omega) (by omega) (by omega) (by omega) | exact memL_zero (by omega) (by omega) (by omega)) : (((memL cs ds U N).getD j 0) != 0) = false)
                refine cF hA ?_
                refine wp_skip ?_
                refine inBlock_normal ?_
                refine then_normal ?_
                refine rC (e' := [(1, pt b1), (2, bl false), (5, .slice (some ⟨b4, 0, none⟩) N cL1), (7, i64 ((U : Nat) : Int)), (8, i64 (((j : Nat) : Int) + 1)), (9, u8 0), (10, i64 (((j : Nat) : Int) - ((U : Nat) : Int))), (107, i64 ((j : Nat) : Int)), (108, .slice (some ⟨b4, 0, none⟩) N cL1), (109, i64 ((N : Nat) : Int)), (110, bl true), (111, i64 ((j : Nat) : Int)), (112, i64 (((j : Nat) : Int) + 1)), (113, i64 ((j : Nat) : Int)), (114, pt b1), (115, .slice (some ca) cs.length kc), (116, i64 ((cs.length : Nat) : Int)), (117, bl false), (123, i64 ((j : Nat) : Int)), (124, i64 ((U : Nat) : Int)), (125, i64 (((j : Nat) : Int) - ((U : Nat) : Int))), (126, i64 (((j : Nat) : Int) - ((U : Nat) : Int))), (127, bl true), (128, bl true), (129, i64 (((j : Nat) : Int) - ((U : Nat) : Int))), (130, pf b1 1), (131, .slice (some da) ds.length kd), (132, i64 ((ds.length : Nat) : Int)), (133, bl false), (134, bl false), (140, .slice (some ⟨b4, 0, none⟩) N cL1), (141, i64 ((j : Nat) : Int)), (142, .pointer (some ((⟨b4, 0, none⟩ : Addr).add j))), (143, u8 ((memL cs ds U N).getD j 0)), (144, u8 0), (145, bl false)]) 3 hA [bl true] (cc ((inK_i64 (by omega) (by omega)) : inK .i64 (((j : Nat) : Int) + 1)) c0) ?_
                clear hA fr; intro fr hA
                refine then_normal ?_
                exact ⟨_, by omega, j + 1, rfl, (hA.sub (e' := [(1, pt b1), (2, bl false), (5, .slice (some ⟨b4, 0, none⟩) N cL1), (7, i64 ((U : Nat) : Int)), (8, i64 (((j : Nat) : Int) + 1))]) [1, 2, 5, 7, 8] (by kernel_rfl)).cast (by kernel_rfl), hO.to, (by omega), trivial⟩
            ·
              replace hA := hA.bool (f := fun z_ => [(1, pt b1), (2, bl false), (5, .slice (some ⟨b4, 0, none⟩) N cL1), (7, i64 ((U : Nat) : Int)), (8, i64 ((j : Nat) : Int)), (9, u8 0), (10, i64 (((j : Nat) : Int) - ((U : Nat) : Int))), (107, i64 ((j : Nat) : Int)), (108, .slice (some ⟨b4, 0, none⟩) N cL1), (109, i64 ((N : Nat) : Int)), (110, bl true), (113, i64 ((j : Nat) : Int)), (114, pt b1), (115, .slice (some ca) cs.length kc), (116, i64 ((cs.length : Nat) : Int)), (117, bl false), (123, i64 ((j : Nat) : Int)), (124, i64 ((U : Nat) : Int)), (125, i64 (((j : Nat) : Int) - ((U : Nat) : Int))), (126, i64 (((j : Nat) : Int) - ((U : Nat) : Int))), (127, .bool z_), (128, .bool z_)]) h6
              have h6p := of_decide_eq_false h6
              refine ck (l := (rg 3 6)) (r := []) (e' := [(1, pt b1), (2, bl false), (5, .slice (some ⟨b4, 0, none⟩) N cL1), (7, i64 ((U : Nat) : Int)), (8, i64 ((j : Nat) : Int)), (9, u8 0), (10, i64 (((j : Nat) : Int) - ((U : Nat) : Int))), (107, i64 ((j : Nat) : Int)), (108, .slice (some ⟨b4, 0, none⟩) N cL1), (109, i64 ((N : Nat) : Int)), (110, bl true), (113, i64 ((j : Nat) : Int)), (114, pt b1), (115, .slice (some ca) cs.length kc), (116, i64 ((cs.length : Nat) : Int)), (117, bl false), (123, i64 ((j : Nat) : Int)), (124, i64 ((U : Nat) : Int)), (125, i64 (((j : Nat) : Int) - ((U : Nat) : Int))), (126, i64 (((j : Nat) : Int) - ((U : Nat) : Int))), (127, bl false), (128, bl false), (129, .tuple #[]), (130, .tuple #[]), (131, .tuple #[]), (132, .tuple #[]), (133, .tuple #[]), (134, bl false)]) hA [] c0 ?_
              clear hA fr; intro fr hA
              refine end_ops ?_
              refine then_normal ?_
              refine cF hA ?_
              refine wp_skip ?_
              refine then_normal ?_
              refine sC (e' := [(1, pt b1), (2, bl false), (5, .slice (some ⟨b4, 0, none⟩) N cL1), (7, i64 ((U : Nat) : Int)), (8, i64 ((j : Nat) : Int)), (9, u8 0), (10, i64 (((j : Nat) : Int) - ((U : Nat) : Int))), (107, i64 ((j : Nat) : Int)), (108, .slice (some ⟨b4, 0, none⟩) N cL1), (109, i64 ((N : Nat) : Int)), (110, bl true), (113, i64 ((j : Nat) : Int)), (114, pt b1), (115, .slice (some ca) cs.length kc), (116, i64 ((cs.length : Nat) : Int)), (117, bl false), (123, i64 ((j : Nat) : Int)), (124, i64 ((U : Nat) : Int)), (125, i64 (((j : Nat) : Int) - ((U : Nat) : Int))), (126, i64 (((j : Nat) : Int) - ((U : Nat) : Int))), (127, bl false), (128, bl false), (129, .tuple #[]), (130, .tuple #[]), (131, .tuple #[]), (132, .tuple #[]), (133, .tuple #[]), (134, bl false), (140, .slice (some ⟨b4, 0, none⟩) N cL1), (141, i64 ((j : Nat) : Int)), (142, .pointer (some ((⟨b4, 0, none⟩ : Addr).add j))), (143, u8 ((memL cs ds U N).getD j 0)), (144, u8 0), (145, bl (((memL cs ds U N).getD j 0) != 0))]) 6 hA [u8 ((memL cs ds U N).getD j 0)] (cc (⟨by omega, by omega⟩ : (0 : Int) ≤ ((j : Nat) : Int) ∧ ((j : Nat) : Int) < ((N : Nat) : Int)) (cc ((ld_mem (hO.b 4) (by rw [memL_len]; omega) (by kernel_rfl)) : Ld Tryd.prog w12 ((⟨b4, 0, none⟩ : Addr).add j) 5 (u8 ((memL cs ds U N).getD j 0))) c0)) ?_
              clear hA fr; intro fr hA
              replace hA := hA.bool (f := fun z_ => [(1, pt b1), (2, bl false), (5, .slice (some ⟨b4, 0, none⟩) N cL1), (7, i64 ((U : Nat) : Int)), (8, i64 ((j : Nat) : Int)), (9, u8 0), (10, i64 (((j : Nat) : Int) - ((U : Nat) : Int))), (107, i64 ((j : Nat) : Int)), (108, .slice (some ⟨b4, 0, none⟩) N cL1), (109, i64 ((N : Nat) : Int)), (110, bl true), (113, i64 ((j : Nat) : Int)), (114, pt b1), (115, .slice (some ca) cs.length kc), (116, i64 ((cs.length : Nat) : Int)), (117, bl false), (123, i64 ((j : Nat) : Int)), (124, i64 ((U : Nat) : Int)), (125, i64 (((j : Nat) : Int) - ((U : Nat) : Int))), (126, i64 (((j : Nat) : Int) - ((U : Nat) : Int))), (127, bl false), (128, bl false), (129, .tuple #[]), (130, .tuple #[]), (131, .tuple #[]), (132, .tuple #[]), (133, .tuple #[]), (134, bl false), (140, .slice (some ⟨b4, 0, none⟩) N cL1), (141, i64 ((j : Nat) : Int)), (142, .pointer (some ((⟨b4, 0, none⟩ : Addr).add j))), (143, u8 ((memL cs ds U N).getD j 0)), (144, u8 0), (145, .bool z_)]) ((by rw [bne_eq_false_iff_eq]; first | exact memL_code (by omega) (by omega) | exact memL_data (by omega) (by omega) (by omega) (by omega) | exact memL_zero (by omega) (by omega) (by omega)) : (((memL cs ds U N).getD j 0) != 0) = false)
              refine cF hA ?_
              refine wp_skip ?_
              refine inBlock_normal ?_
              refine then_normal ?_
              refine rC (e' := [(1, pt b1), (2, bl false), (5, .slice (some ⟨b4, 0, none⟩) N cL1), (7, i64 ((U : Nat) : Int)), (8, i64 (((j : Nat) : Int) + 1)), (9, u8 0), (10, i64 (((j : Nat) : Int) - ((U : Nat) : Int))), (107, i64 ((j : Nat) : Int)), (108, .slice (some ⟨b4, 0, none⟩) N cL1), (109, i64 ((N : Nat) : Int)), (110, bl true), (111, i64 ((j : Nat) : Int)), (112, i64 (((j : Nat) : Int) + 1)), (113, i64 ((j : Nat) : Int)), (114, pt b1), (115, .slice (some ca) cs.length kc), (116, i64 ((cs.length : Nat) : Int)), (117, bl false), (123, i64 ((j : Nat) : Int)), (124, i64 ((U : Nat) : Int)), (125, i64 (((j : Nat) : Int) - ((U : Nat) : Int))), (126, i64 (((j : Nat) : Int) - ((U : Nat) : Int))), (127, bl false), (128, bl false), (129, .tuple #[]), (130, .tuple #[]), (131, .tuple #[]), (132, .tuple #[]), (133, .tuple #[]), (134, bl false), (140, .slice (some ⟨b4, 0, none⟩) N cL1), (141, i64 ((j : Nat) : Int)), (142, .pointer (some ((⟨b4, 0, none⟩ : Addr).add j))), (143, u8 ((memL cs ds U N).getD j 0)), (144, u8 0), (145, bl false)]) 3 hA [bl true] (cc ((inK_i64 (by omega) (by omega)) : inK .i64 (((j : Nat) : Int) + 1)) c0) ?_
              clear hA fr; intro fr hA
              refine then_normal ?_
              exact ⟨_, by omega, j + 1, rfl, (hA.sub (e' := [(1, pt b1), (2, bl false), (5, .slice (some ⟨b4, 0, none⟩) N cL1), (7, i64 ((U : Nat) : Int)), (8, i64 (((j : Nat) : Int) + 1))]) [1, 2, 5, 7, 8] (by kernel_rfl)).cast (by kernel_rfl), hO.to, (by omega), trivial⟩
        ·
          replace hA := hA.bool (f := fun z_ => [(1, pt b1), (2, bl false), (5, .slice (some ⟨b4, 0, none⟩) N cL1), (7, i64 ((U : Nat) : Int)), (8, i64 ((j : Nat) : Int)), (107, i64 ((j : Nat) : Int)), (108, .slice (some ⟨b4, 0, none⟩) N cL1), (109, i64 ((N : Nat) : Int)), (110, .bool z_)]) h2
          have h2p := of_decide_eq_false h2
          refine cF hA ?_
          refine wp_exit ?_
          refine then_exit ?_
          refine then_exit ?_
          refine inBlock_exit ?_
          refine then_normal ?_
          refine sC (e' := [(2, bl true)]) 1 hA [] c0 ?_
          clear hA fr; intro fr hA
          refine wp_ret ?_
          refine cR (cs := [none]) (us := [bl true]) hA [] trivial ?_
          have hF := hO.only; clear hA hO
          exact ⟨rfl, hF⟩

theorem pag_ltn (ca : Addr) (dp : Option Addr) (kc kd : Nat) (cs ds : List Int) (z et : Int) (w : World) (hT : Tab w) (hs : SlI w (.slice (some ca) cs.length kc) cs) (hs2 : SlI w (.slice dp ds.length kd) ds) (hkc : cs.length ≤ kc) (hc : cs.length ≤ 2000) (hd : ds.length ≤ 2000) (hv : validB cs ((ds.length : Nat) : Int) z et = true) (hz0 : 0 ≤ z) (hz1 : z ≤ 3072) (U N : Nat) (hN : endP ((cs.length : Nat) : Int) ((ds.length : Nat) : Int) z = ((N : Nat) : Int)) (hU : upP ((cs.length : Nat) : Int) = ((U : Nat) : Int)) (hUN : U < N) (hN1 : N ≤ 3072) (hcu : cs.length ≤ U) (hud : U + ds.length ≤ N) (hN0 : 0 < N) (hN8 : N % 128 = 0) (hU8 : U % 128 = 0) (hcu2 : U < cs.length + 128) (hz3 : ((U : Nat) : Int) + ((ds.length : Nat) : Int) + z ≤ ((N : Nat) : Int)) (hz4 : ((N : Nat) : Int) < ((U : Nat) : Int) + ((ds.length : Nat) : Int) + z + 128) (hcc : Cel w ca cs) (hds : ds.length = 0) :
    Calls Tryd.prog 3 #[.agg #[.slice (some ca) cs.length kc, .slice dp ds.length kd, i64 z, i64 et]] w fun e w' => e = .returned (.bool true) ∧ Only none' w w' := by
  refine c_enter (args := [.agg #[.slice (some ca) cs.length kc, .slice dp ds.length kd, i64 z, i64 et]]) (m := 145) (n := 146) Tryd.func3 rfl (by kernel_rfl) (by kernel_rfl) fun fr hA => ?_
  have hO := Ow.nil Tryd.prog none' w
  have hcu8 := hs.1; have hdu8 := hs2.1
  refine sR (l := [0, 1]) ?_
  refine wpOps_cons' (mN (l := [.slice (some ca) cs.length kc, .slice dp ds.length kd, i64 z, i64 et]) (t := 24) (v := pt) (d := 1) hA hO ?_)
  clear hA hO fr; intro fr w1 b1 hA hO
  replace hA := hA.sb (e' := [(1, pt b1)])
  refine ck (l := [1]) (r := []) (e' := [(1, pt b1), (2, bl false)]) hA [] c0 ?_
  clear hA fr; intro fr hA
  refine end_ops ?_
  refine then_normal ?_
  refine wp_seq ?_
  refine sR (l := [0, 1]) ?_
  refine wpOps_cons' (mK (f := 6) (args := []) (d := (some 11)) (v := bl true) hA hO Tryd.func6 (awake_any _ (hT.keep hO.only (fun h => h))) ?_)
  clear hA hO fr; intro fr w2 hA hO
  refine ck (l := [1]) (r := []) (e' := [(1, pt b1), (2, bl false), (12, bl false)]) hA [] c0 ?_
  clear hA fr; intro fr hA
  refine end_ops ?_
  refine then_normal ?_
  refine cF hA ?_
  refine wp_skip ?_
  refine then_normal ?_
  refine wp_seq ?_
  refine sR (l := [0, 1, 2]) ?_
  refine ck (l := [0]) (r := [1, 2]) (e' := [(1, pt b1), (2, bl false), (13, .agg #[.slice (some ca) cs.length kc, .slice dp ds.length kd, i64 z, i64 et])]) hA [.agg #[.slice (some ca) cs.length kc, .slice dp ds.length kd, i64 z, i64 et]] (cc (hO.ln 0 0 24 [.slice (some ca) cs.length kc, .slice dp ds.length kd, i64 z, i64 et]) c0) ?_
  clear hA fr; intro fr hA
  refine wpOps_cons' (mK (f := 7) (args := [.agg #[.slice (some ca) cs.length kc, .slice dp ds.length kd, i64 z, i64 et]]) (d := (some 14)) (v := bl (decide (cs.length ≤ 2000 ∧ ds.length ≤ 2000))) hA hO Tryd.func7 (few_any (some ca) dp kc kd cs ds z et _) ?_)
  clear hA hO fr; intro fr w3 hA hO
  replace hA := hA.sb (e' := [(1, pt b1), (2, bl false), (14, bl (decide (cs.length ≤ 2000 ∧ ds.length ≤ 2000)))])
  refine ck (l := [2]) (r := []) (e' := [(1, pt b1), (2, bl false), (15, bl (!(decide (cs.length ≤ 2000 ∧ ds.length ≤ 2000))))]) hA [] c0 ?_
  clear hA fr; intro fr hA
  refine end_ops ?_
  refine then_normal ?_
  replace hA := hA.bool (f := fun z_ => [(1, pt b1), (2, bl false), (15, .bool !z_)]) (decide_eq_true ⟨hc, hd⟩ : (decide (cs.length ≤ 2000 ∧ ds.length ≤ 2000)) = true)
  refine cF hA ?_
  refine wp_skip ?_
  refine then_normal ?_
  refine sR (l := [0, 1, 2]) ?_
  refine ck (l := [0]) (r := [1, 2]) (e' := [(1, pt b1), (2, bl false), (16, .agg #[.slice (some ca) cs.length kc, .slice dp ds.length kd, i64 z, i64 et])]) hA [.agg #[.slice (some ca) cs.length kc, .slice dp ds.length kd, i64 z, i64 et]] (cc (hO.ln 0 0 24 [.slice (some ca) cs.length kc, .slice dp ds.length kd, i64 z, i64 et]) c0) ?_
  clear hA fr; intro fr hA
  refine wpOps_cons' (mN (l := [.slice none 0 0, .slice none 0 0, i64 0, i64 0]) (t := 27) (v := pt) (d := 3) hA hO ?_)
  clear hA hO fr; intro fr w4 b2 hA hO
  refine wpOps_cons' (mS (off := 0) (vc := [.slice (some ca) cs.length kc, .slice dp ds.length kd, i64 z, i64 et]) 0 hA hO ?_)
  clear hO; intro w5 hO
  replace hA := hA.sb (e' := [(1, pt b1), (2, bl false), (3, pt b2)])
  refine end_ops ?_
  refine then_normal ?_
  refine sR (l := [0, 1, 2]) ?_
  refine ck (l := [0]) (r := [1, 2]) (e' := [(1, pt b1), (2, bl false), (3, pt b2), (17, .agg #[.slice (some ca) cs.length kc, .slice dp ds.length kd, i64 z, i64 et])]) hA [.agg #[.slice (some ca) cs.length kc, .slice dp ds.length kd, i64 z, i64 et]] (cc (hO.ln 0 0 27 [.slice (some ca) cs.length kc, .slice dp ds.length kd, i64 z, i64 et]) c0) ?_
  clear hA fr; intro fr hA
  replace hO : Ow Tryd.prog none' w w5 [(b2, 27, [.slice (some ca) cs.length kc, .slice dp ds.length kd, i64 z, i64 et]), (b1, 24, [.slice (some ca) cs.length kc, .slice dp ds.length kd, i64 z, i64 et])] := hO
  refine wpOps_cons' (mC (f := 8) (args := [.agg #[.slice (some ca) cs.length kc, .slice dp ds.length kd, i64 z, i64 et]]) (d := (some 18)) hA Tryd.func8 (((pages_lt (some ca) dp kc kd cs ds z et _ hc hd (hT.keep hO.only (fun h => h)) (hs.keep hO.only) hkc (hs2.keep hO.only) hv hz0 hz1 U N hN hU hUN hN1 hcu hud hN0 hN8)).mono ?_))
  rintro en w6 ⟨m1, p1, c1, T1, hret, hW, hTP⟩; obtain ⟨b3, r1, rfl, rfl, hle_P, hcap_P⟩ := hTP.open (by rw [pagesV_len]; omega); rw [pagesV_len] at hret; subst hret
  refine ⟨_, rfl, ?_⟩
  clear hA fr; intro fr hA
  replace hO := Ow.join hO hW; clear hW
  replace hO : Ow Tryd.prog none' w w6 [(b2, 27, [.slice (some ca) cs.length kc, .slice dp ds.length kd, i64 z, i64 et]), (b1, 24, [.slice (some ca) cs.length kc, .slice dp ds.length kd, i64 z, i64 et]), (m1, 5, ((memL cs ds U N).flatMap fB)), (b3, 22, ((pagesV m1 (N / 128)).flatMap fS ++ r1))] := hO.to (by simp only [List.append_assoc, List.cons_append, List.nil_append, List.append_nil])
  replace hA := hA.sb (e' := [(1, pt b1), (2, bl false), (3, pt b2), (18, .slice (some ⟨b3, 0, none⟩) (N / 128) c1)])
  refine ck (l := [2]) (r := []) (e' := [(1, pt b1), (2, bl false), (3, pt b2), (4, .slice (some ⟨b3, 0, none⟩) (N / 128) c1)]) hA [] c0 ?_
  clear hA fr; intro fr hA
  refine end_ops ?_
  refine then_normal ?_
  refine wp_seq ?_
  refine sR (l := [0, 1, 2]) ?_
  refine ck (l := [0]) (r := [1, 2]) (e' := [(1, pt b1), (2, bl false), (3, pt b2), (4, .slice (some ⟨b3, 0, none⟩) (N / 128) c1), (19, .agg #[.slice (some ca) cs.length kc, .slice dp ds.length kd, i64 z, i64 et])]) hA [.agg #[.slice (some ca) cs.length kc, .slice dp ds.length kd, i64 z, i64 et]] (cc (hO.ln 0 0 27 [.slice (some ca) cs.length kc, .slice dp ds.length kd, i64 z, i64 et]) c0) ?_
  clear hA fr; intro fr hA
  refine wpOps_cons' (mK (f := 9) (args := [.agg #[.slice (some ca) cs.length kc, .slice dp ds.length kd, i64 z, i64 et]]) (d := (some 20)) (v := bl true) hA hO Tryd.func9 (rs (valid_any (some ca) dp kc kd cs ds z et _ hc hd (hT.keep hO.only (fun h => h)) (hs.keep hO.only) hkc) (congrArg Value.bool hv)) ?_)
  clear hA hO fr; intro fr w7 hA hO
  replace hA := hA.sb (e' := [(1, pt b1), (2, bl false), (3, pt b2), (4, .slice (some ⟨b3, 0, none⟩) (N / 128) c1), (20, bl true)])
  refine ck (l := [2]) (r := []) (e' := [(1, pt b1), (2, bl false), (3, pt b2), (4, .slice (some ⟨b3, 0, none⟩) (N / 128) c1), (21, bl false)]) hA [] c0 ?_
  clear hA fr; intro fr hA
  refine end_ops ?_
  refine then_normal ?_
  refine cF hA ?_
  refine wp_skip ?_
  refine then_normal ?_
  refine sC (e' := [(1, pt b1), (2, bl false), (3, pt b2), (4, .slice (some ⟨b3, 0, none⟩) (N / 128) c1), (5, .slice none 0 0)]) 1 hA [] c0 ?_
  clear hA fr; intro fr hA
  refine wp_seq ?_
  refine sC (e' := [(1, pt b1), (2, bl false), (3, pt b2), (4, .slice (some ⟨b3, 0, none⟩) (N / 128) c1), (5, .slice none 0 0), (6, i64 0)]) 1 hA [] c0 ?_
  clear hA fr; intro fr hA
  refine wp_block ?_
  have hT2 := One.nil fB 5 1
  replace hO : Ow Tryd.prog none' w w7 ([(b2, 27, [.slice (some ca) cs.length kc, .slice dp ds.length kd, i64 z, i64 et]), (b1, 24, [.slice (some ca) cs.length kc, .slice dp ds.length kd, i64 z, i64 et]), (m1, 5, ((memL cs ds U N).flatMap fB)), (b3, 22, ((pagesV m1 (N / 128)).flatMap fS ++ r1))] ++ ([] ++ ([]))) := hO.to (by simp only [List.append_assoc, List.cons_append, List.nil_append, List.append_nil])
  refine c_loop (fun mm fr W => ∃ (i : Nat) (pL1 : Option Addr) (cL1 : Nat) (TL1 : OwL), mm = N / 128 - i ∧ Holds 146 [] fr [(1, pt b1), (2, bl false), (3, pt b2), (4, .slice (some ⟨b3, 0, none⟩) (N / 128) c1), (5, .slice pL1 (((memL cs ds U N).take (128 * i)).length) cL1), (6, i64 ((i : Nat) : Int))] ∧ Ow Tryd.prog none' w W ([(b2, 27, [.slice (some ca) cs.length kc, .slice dp ds.length kd, i64 z, i64 et]), (b1, 24, [.slice (some ca) cs.length kc, .slice dp ds.length kd, i64 z, i64 et]), (m1, 5, ((memL cs ds U N).flatMap fB)), (b3, 22, ((pagesV m1 (N / 128)).flatMap fS ++ r1))] ++ (TL1 ++ ([]))) ∧ One fB 5 1 pL1 cL1 ((memL cs ds U N).take (128 * i)) TL1 ∧ U8s ((memL cs ds U N).take (128 * i)) ∧ i ≤ N / 128 ∧ True) ?_ ?_
  · exact ⟨_, 0, none, 0, [], rfl, (hA.sub (e' := [(1, pt b1), (2, bl false), (3, pt b2), (4, .slice (some ⟨b3, 0, none⟩) (N / 128) c1), (5, .slice none 0 0), (6, i64 0)]) [1, 2, 3, 4, 5, 6] (by kernel_rfl)).cast (by kernel_rfl), (hO : Ow Tryd.prog none' w _ ([(b2, 27, [.slice (some ca) cs.length kc, .slice dp ds.length kd, i64 z, i64 et]), (b1, 24, [.slice (some ca) cs.length kc, .slice dp ds.length kd, i64 z, i64 et]), (m1, 5, ((memL cs ds U N).flatMap fB)), (b3, 22, ((pagesV m1 (N / 128)).flatMap fS ++ r1))] ++ ([] ++ ([])))), hT2, U8s.nil, (by omega), trivial⟩
  · rintro _ fr w8 ⟨i, pL1, cL1, TL1, rfl, hA, hO, hTL1, huL1, hi, -⟩
    have hal : ((memL cs ds U N).take (128 * i)).length = 128 * i := by rw [List.length_take, memL_len]; omega
    refine wp_seq ?_
    refine sC (e' := [(1, pt b1), (2, bl false), (3, pt b2), (4, .slice (some ⟨b3, 0, none⟩) (N / 128) c1), (5, .slice pL1 (((memL cs ds U N).take (128 * i)).length) cL1), (6, i64 ((i : Nat) : Int)), (30, i64 ((i : Nat) : Int)), (31, .slice (some ⟨b3, 0, none⟩) (N / 128) c1), (32, i64 ((N / 128 : Nat) : Int)), (33, bl (decide (((i : Nat) : Int) < ((N / 128 : Nat) : Int))))]) 4 hA [] c0 ?_
    clear hA fr; intro fr hA
    rcases Bool.eq_false_or_eq_true (decide (((i : Nat) : Int) < ((N / 128 : Nat) : Int))) with h1 | h1
    ·
      replace hA := hA.bool (f := fun z_ => [(1, pt b1), (2, bl false), (3, pt b2), (4, .slice (some ⟨b3, 0, none⟩) (N / 128) c1), (5, .slice pL1 (((memL cs ds U N).take (128 * i)).length) cL1), (6, i64 ((i : Nat) : Int)), (30, i64 ((i : Nat) : Int)), (31, .slice (some ⟨b3, 0, none⟩) (N / 128) c1), (32, i64 ((N / 128 : Nat) : Int)), (33, .bool z_)]) h1
      have h1p := of_decide_eq_true h1
      refine cT hA ?_
      refine wp_skip ?_
      refine then_normal ?_
      refine wp_seq ?_
      refine wp_block ?_
      refine wp_seq ?_
      refine sC (e' := [(1, pt b1), (2, bl false), (3, pt b2), (4, .slice (some ⟨b3, 0, none⟩) (N / 128) c1), (5, .slice pL1 (((memL cs ds U N).take (128 * i)).length) cL1), (6, i64 ((i : Nat) : Int)), (30, i64 ((i : Nat) : Int)), (31, .slice (some ⟨b3, 0, none⟩) (N / 128) c1), (32, i64 ((N / 128 : Nat) : Int)), (33, bl true), (36, .slice (some ⟨b3, 0, none⟩) (N / 128) c1), (37, i64 ((i : Nat) : Int)), (38, .pointer (some ((⟨b3, 0, none⟩ : Addr).add i))), (39, .slice (some ⟨m1, 0 + (128 * i), none⟩) 128 128), (40, i64 128), (41, bl false)]) 6 hA [.slice (some ⟨m1, 0 + (128 * i), none⟩) 128 128] (cc (⟨by omega, by omega⟩ : (0 : Int) ≤ ((i : Nat) : Int) ∧ ((i : Nat) : Int) < ((N / 128 : Nat) : Int)) (cc ((ld_page (hO.b 3) (by omega) (by kernel_rfl)) : Ld Tryd.prog w8 ((⟨b3, 0, none⟩ : Addr).add i) 22 (.slice (some ⟨m1, 0 + (128 * i), none⟩) 128 128)) c0)) ?_
      clear hA fr; intro fr hA
      refine cF hA ?_
      refine wp_skip ?_
      refine then_normal ?_
      refine rR (l := (rg 0 7)) ?_
      refine ck (l := (rg 0 5)) (r := [5, 6]) (e' := [(1, pt b1), (2, bl false), (3, pt b2), (4, .slice (some ⟨b3, 0, none⟩) (N / 128) c1), (5, .slice pL1 (((memL cs ds U N).take (128 * i)).length) cL1), (6, i64 ((i : Nat) : Int)), (30, i64 ((i : Nat) : Int)), (31, .slice (some ⟨b3, 0, none⟩) (N / 128) c1), (32, i64 ((N / 128 : Nat) : Int)), (33, bl true), (36, .slice (some ⟨b3, 0, none⟩) (N / 128) c1), (37, i64 ((i : Nat) : Int)), (38, .pointer (some ((⟨b3, 0, none⟩ : Addr).add i))), (39, .slice (some ⟨m1, 0 + (128 * i), none⟩) 128 128), (40, i64 128), (41, bl false), (42, .slice pL1 (((memL cs ds U N).take (128 * i)).length) cL1), (43, .slice (some ⟨b3, 0, none⟩) (N / 128) c1), (44, i64 ((i : Nat) : Int)), (45, .pointer (some ((⟨b3, 0, none⟩ : Addr).add i))), (46, .slice (some ⟨m1, 0 + (128 * i), none⟩) 128 128)]) hA [.slice (some ⟨m1, 0 + (128 * i), none⟩) 128 128] (cc (⟨by omega, by omega⟩ : (0 : Int) ≤ ((i : Nat) : Int) ∧ ((i : Nat) : Int) < ((N / 128 : Nat) : Int)) (cc ((ld_page (hO.b 3) (by omega) (by kernel_rfl)) : Ld Tryd.prog w8 ((⟨b3, 0, none⟩ : Addr).add i) 22 (.slice (some ⟨m1, 0 + (128 * i), none⟩) 128 128)) c0)) ?_
      clear hA fr; intro fr hA
      replace hO : Ow Tryd.prog none' w w8 ([(b2, 27, [.slice (some ca) cs.length kc, .slice dp ds.length kd, i64 z, i64 et]), (b1, 24, [.slice (some ca) cs.length kc, .slice dp ds.length kd, i64 z, i64 et]), (m1, 5, ((memL cs ds U N).flatMap fB)), (b3, 22, ((pagesV m1 (N / 128)).flatMap fS ++ r1))] ++ (TL1 ++ ([]))) := hO
      refine wpOps_cons' (mA (f := fB) (el := 5) (sz := 1) (bytes := 1) (p := pL1) (c := cL1) (l := (memL cs ds U N).take (128 * i)) (l' := ((memL cs ds U N).drop (128 * i)).take 128) (T := TL1) (t := 22) (tx := 22) (ty := 22) (x := .slice (some ⟨m1, 0 + (128 * i), none⟩) 128 128) (d := 47) [(b2, 27, [.slice (some ca) cs.length kc, .slice dp ds.length kd, i64 z, i64 et]), (b1, 24, [.slice (some ca) cs.length kc, .slice dp ds.length kd, i64 z, i64 et]), (m1, 5, ((memL cs ds U N).flatMap fB)), (b3, 22, ((pagesV m1 (N / 128)).flatMap fS ++ r1))] ([]) encB hA hO hTL1 (page_src (e' := 5) (by kernel_rfl) (hO.b 2) (by rw [memL_len]; omega)) (by first | omega | (simp only [List.length_take, List.length_drop, memL_len]; omega)) (by unfold maxLen; first | omega | (simp only [List.length_take, List.length_drop, memL_len]; omega)) ?_)
      clear hA hO fr; intro fr w9 p2 c2 T3 hA hO hT3
      have huT3 : U8s (((memL cs ds U N).take (128 * i)) ++ (((memL cs ds U N).drop (128 * i)).take 128)) := (U8s.app huL1 (U8s.take (U8s.drop (memL_u8 hcu8 hdu8 U N) _) _))
      rw [show (((memL cs ds U N).take (128 * i)) ++ (((memL cs ds U N).drop (128 * i)).take 128)) = (memL cs ds U N).take (128 * (i + 1)) from (take_page _ _)] at hA hT3 huT3
      refine ck (l := [6]) (r := []) (e' := [(1, pt b1), (2, bl false), (3, pt b2), (4, .slice (some ⟨b3, 0, none⟩) (N / 128) c1), (5, .slice p2 (((memL cs ds U N).take (128 * (i + 1))).length) c2), (6, i64 ((i : Nat) : Int)), (30, i64 ((i : Nat) : Int)), (31, .slice (some ⟨b3, 0, none⟩) (N / 128) c1), (32, i64 ((N / 128 : Nat) : Int)), (33, bl true), (36, .slice (some ⟨b3, 0, none⟩) (N / 128) c1), (37, i64 ((i : Nat) : Int)), (38, .pointer (some ((⟨b3, 0, none⟩ : Addr).add i))), (39, .slice (some ⟨m1, 0 + (128 * i), none⟩) 128 128), (40, i64 128), (41, bl false), (42, .slice pL1 (((memL cs ds U N).take (128 * i)).length) cL1), (43, .slice (some ⟨b3, 0, none⟩) (N / 128) c1), (44, i64 ((i : Nat) : Int)), (45, .pointer (some ((⟨b3, 0, none⟩ : Addr).add i))), (46, .slice (some ⟨m1, 0 + (128 * i), none⟩) 128 128), (47, .slice p2 (((memL cs ds U N).take (128 * (i + 1))).length) c2)]) hA [] c0 ?_
      clear hA fr; intro fr hA
      refine end_ops ?_
      refine inBlock_normal ?_
      refine then_normal ?_
      refine rC (e' := [(1, pt b1), (2, bl false), (3, pt b2), (4, .slice (some ⟨b3, 0, none⟩) (N / 128) c1), (5, .slice p2 (((memL cs ds U N).take (128 * (i + 1))).length) c2), (6, i64 (((i : Nat) : Int) + 1)), (30, i64 ((i : Nat) : Int)), (31, .slice (some ⟨b3, 0, none⟩) (N / 128) c1), (32, i64 ((N / 128 : Nat) : Int)), (33, bl true), (34, i64 ((i : Nat) : Int)), (35, i64 (((i : Nat) : Int) + 1)), (36, .slice (some ⟨b3, 0, none⟩) (N / 128) c1), (37, i64 ((i : Nat) : Int)), (38, .pointer (some ((⟨b3, 0, none⟩ : Addr).add i))), (39, .slice (some ⟨m1, 0 + (128 * i), none⟩) 128 128), (40, i64 128), (41, bl false), (42, .slice pL1 (((memL cs ds U N).take (128 * i)).length) cL1), (43, .slice (some ⟨b3, 0, none⟩) (N / 128) c1), (44, i64 ((i : Nat) : Int)), (45, .pointer (some ((⟨b3, 0, none⟩ : Addr).add i))), (46, .slice (some ⟨m1, 0 + (128 * i), none⟩) 128 128), (47, .slice p2 (((memL cs ds U N).take (128 * (i + 1))).length) c2)]) 3 hA [bl true] (cc ((inK_i64 (by omega) (by omega)) : inK .i64 (((i : Nat) : Int) + 1)) c0) ?_
      clear hA fr; intro fr hA
      refine then_normal ?_
      exact ⟨_, by omega, i + 1, p2, c2, T3, rfl, (hA.sub (e' := [(1, pt b1), (2, bl false), (3, pt b2), (4, .slice (some ⟨b3, 0, none⟩) (N / 128) c1), (5, .slice p2 (((memL cs ds U N).take (128 * (i + 1))).length) c2), (6, i64 (((i : Nat) : Int) + 1))]) [1, 2, 3, 4, 5, 6] (by kernel_rfl)).cast (by kernel_rfl), (hO : Ow Tryd.prog none' w _ ([(b2, 27, [.slice (some ca) cs.length kc, .slice dp ds.length kd, i64 z, i64 et]), (b1, 24, [.slice (some ca) cs.length kc, .slice dp ds.length kd, i64 z, i64 et]), (m1, 5, ((memL cs ds U N).flatMap fB)), (b3, 22, ((pagesV m1 (N / 128)).flatMap fS ++ r1))] ++ (T3 ++ ([])))), hT3, huT3, (by omega), trivial⟩
    ·
      replace hA := hA.bool (f := fun z_ => [(1, pt b1), (2, bl false), (3, pt b2), (4, .slice (some ⟨b3, 0, none⟩) (N / 128) c1), (5, .slice pL1 (((memL cs ds U N).take (128 * i)).length) cL1), (6, i64 ((i : Nat) : Int)), (30, i64 ((i : Nat) : Int)), (31, .slice (some ⟨b3, 0, none⟩) (N / 128) c1), (32, i64 ((N / 128 : Nat) : Int)), (33, .bool z_)]) h1
      have h1p := of_decide_eq_false h1
      refine cF hA ?_
      refine wp_exit ?_
      refine then_exit ?_
      refine then_exit ?_
      refine inBlock_exit ?_
      refine then_normal ?_
      refine sR (l := [0, 1, 2]) ?_
      refine ck (l := [0]) (r := [1, 2]) (e' := [(1, pt b1), (2, bl false), (3, pt b2), (4, .slice (some ⟨b3, 0, none⟩) (N / 128) c1), (5, .slice pL1 (((memL cs ds U N).take (128 * i)).length) cL1), (48, .agg #[.slice (some ca) cs.length kc, .slice dp ds.length kd, i64 z, i64 et])]) hA [.agg #[.slice (some ca) cs.length kc, .slice dp ds.length kd, i64 z, i64 et]] (cc (hO.ln 0 0 27 [.slice (some ca) cs.length kc, .slice dp ds.length kd, i64 z, i64 et]) c0) ?_
      clear hA fr; intro fr hA
      refine wpOps_cons' (mK (f := 11) (args := [.agg #[.slice (some ca) cs.length kc, .slice dp ds.length kd, i64 z, i64 et]]) (d := (some 49)) (v := i64 ((U : Nat) : Int)) hA hO Tryd.func11 (rs (dataat_ok (some ca) dp kc kd cs ds z et _ hc hd (hT.keep hO.only (fun h => h)) (hs.keep hO.only) hkc (hs2.keep hO.only) hv hz0 hz1) (congrArg (Value.int .i64) hU)) ?_)
      clear hA hO fr; intro fr w10 hA hO
      replace hA := hA.sb (e' := [(1, pt b1), (2, bl false), (3, pt b2), (4, .slice (some ⟨b3, 0, none⟩) (N / 128) c1), (5, .slice pL1 (((memL cs ds U N).take (128 * i)).length) cL1), (49, i64 ((U : Nat) : Int))])
      refine ck (l := [2]) (r := []) (e' := [(1, pt b1), (2, bl false), (3, pt b2), (4, .slice (some ⟨b3, 0, none⟩) (N / 128) c1), (5, .slice pL1 (((memL cs ds U N).take (128 * i)).length) cL1), (7, i64 ((U : Nat) : Int))]) hA [] c0 ?_
      clear hA fr; intro fr hA
      refine end_ops ?_
      refine then_normal ?_
      refine wp_seq ?_
      refine sR (l := (rg 0 57)) ?_
      refine ck (l := [0, 1, 2]) (r := (rg 3 54)) (e' := [(1, pt b1), (2, bl false), (4, .slice (some ⟨b3, 0, none⟩) (N / 128) c1), (5, .slice pL1 (((memL cs ds U N).take (128 * i)).length) cL1), (7, i64 ((U : Nat) : Int)), (51, i64 ((N / 128 : Nat) : Int)), (52, .agg #[.slice (some ca) cs.length kc, .slice dp ds.length kd, i64 z, i64 et])]) hA [.agg #[.slice (some ca) cs.length kc, .slice dp ds.length kd, i64 z, i64 et]] (cc (hO.ln 0 0 27 [.slice (some ca) cs.length kc, .slice dp ds.length kd, i64 z, i64 et]) c0) ?_
      clear hA fr; intro fr hA
      refine wpOps_cons' (mK (f := 10) (args := [.agg #[.slice (some ca) cs.length kc, .slice dp ds.length kd, i64 z, i64 et]]) (d := (some 53)) (v := i64 ((N / 128 : Nat) : Int)) hA hO Tryd.func10 (rs (size_ok (some ca) dp kc kd cs ds z et _ hc hd (hT.keep hO.only (fun h => h)) (hs.keep hO.only) hkc (hs2.keep hO.only) hv hz0 hz1) (congrArg (Value.int .i64) (show endP ((cs.length : Nat) : Int) ((ds.length : Nat) : Int) z / 128 = ((N / 128 : Nat) : Int) by omega))) ?_)
      clear hA hO fr; intro fr w11 hA hO
      replace hA := hA.sb (e' := [(1, pt b1), (2, bl false), (4, .slice (some ⟨b3, 0, none⟩) (N / 128) c1), (5, .slice pL1 (((memL cs ds U N).take (128 * i)).length) cL1), (7, i64 ((U : Nat) : Int)), (51, i64 ((N / 128 : Nat) : Int)), (53, i64 ((N / 128 : Nat) : Int))])
      refine ck (l := [4, 5]) (r := (rg 6 51)) (e' := [(1, pt b1), (2, bl false), (4, .slice (some ⟨b3, 0, none⟩) (N / 128) c1), (5, .slice pL1 (((memL cs ds U N).take (128 * i)).length) cL1), (7, i64 ((U : Nat) : Int)), (54, bl (((N / 128 : Nat) : Int) != ((N / 128 : Nat) : Int))), (55, bl (((N / 128 : Nat) : Int) != ((N / 128 : Nat) : Int)))]) hA [] c0 ?_
      clear hA fr; intro fr hA
      replace hA := hA.bool (f := fun z_ => [(1, pt b1), (2, bl false), (4, .slice (some ⟨b3, 0, none⟩) (N / 128) c1), (5, .slice pL1 (((memL cs ds U N).take (128 * i)).length) cL1), (7, i64 ((U : Nat) : Int)), (54, .bool z_), (55, .bool z_)]) ((by first | exact decide_eq_false (by omega) | exact bne_eq_false_iff_eq.2 (by omega)) : (((N / 128 : Nat) : Int) != ((N / 128 : Nat) : Int)) = false)
      refine ck (l := (rg 6 5)) (r := (rg 11 46)) (e' := [(1, pt b1), (2, bl false), (5, .slice pL1 (((memL cs ds U N).take (128 * i)).length) cL1), (7, i64 ((U : Nat) : Int)), (58, bl (decide (((N / 128 : Nat) : Int) > 24))), (59, bl (decide (((N / 128 : Nat) : Int) > 24))), (60, bl (decide (((N / 128 : Nat) : Int) > 24)))]) hA [] c0 ?_
      clear hA fr; intro fr hA
      replace hA := hA.bool (f := fun z_ => [(1, pt b1), (2, bl false), (5, .slice pL1 (((memL cs ds U N).take (128 * i)).length) cL1), (7, i64 ((U : Nat) : Int)), (58, .bool z_), (59, .bool z_), (60, .bool z_)]) ((by first | exact decide_eq_false (by omega) | exact bne_eq_false_iff_eq.2 (by omega)) : (decide (((N / 128 : Nat) : Int) > 24)) = false)
      refine ck (l := (rg 11 5)) (r := (rg 16 41)) (e' := [(1, pt b1), (2, bl false), (5, .slice pL1 (((memL cs ds U N).take (128 * i)).length) cL1), (7, i64 ((U : Nat) : Int)), (63, bl ((((U : Nat) : Int) % 128) != 0)), (64, bl ((((U : Nat) : Int) % 128) != 0)), (65, bl ((((U : Nat) : Int) % 128) != 0))]) hA [bl true] (cc (⟨by omega, by omega, inK_i64 (by omega) (by omega)⟩ : (0 : Int) ≤ ((U : Nat) : Int) ∧ (0 : Int) < 128 ∧ inK .i64 ((U : Nat) : Int)) c0) ?_
      clear hA fr; intro fr hA
      replace hA := hA.bool (f := fun z_ => [(1, pt b1), (2, bl false), (5, .slice pL1 (((memL cs ds U N).take (128 * i)).length) cL1), (7, i64 ((U : Nat) : Int)), (63, .bool z_), (64, .bool z_), (65, .bool z_)]) ((by first | exact decide_eq_false (by omega) | exact bne_eq_false_iff_eq.2 (by omega)) : ((((U : Nat) : Int) % 128) != 0) = false)
      refine ck (l := (rg 16 7)) (r := (rg 23 34)) (e' := [(1, pt b1), (2, bl false), (5, .slice pL1 (((memL cs ds U N).take (128 * i)).length) cL1), (7, i64 ((U : Nat) : Int)), (70, bl (decide (((U : Nat) : Int) < ((cs.length : Nat) : Int)))), (71, bl (decide (((U : Nat) : Int) < ((cs.length : Nat) : Int)))), (72, bl (decide (((U : Nat) : Int) < ((cs.length : Nat) : Int))))]) hA [.slice (some ca) cs.length kc] (cc (hO.l1 1 0 22 (.slice (some ca) cs.length kc)) c0) ?_
      clear hA fr; intro fr hA
      replace hA := hA.bool (f := fun z_ => [(1, pt b1), (2, bl false), (5, .slice pL1 (((memL cs ds U N).take (128 * i)).length) cL1), (7, i64 ((U : Nat) : Int)), (70, .bool z_), (71, .bool z_), (72, .bool z_)]) ((by first | exact decide_eq_false (by omega) | exact bne_eq_false_iff_eq.2 (by omega)) : (decide (((U : Nat) : Int) < ((cs.length : Nat) : Int))) = false)
      refine ck (l := (rg 23 8)) (r := (rg 31 26)) (e' := [(1, pt b1), (2, bl false), (5, .slice pL1 (((memL cs ds U N).take (128 * i)).length) cL1), (7, i64 ((U : Nat) : Int)), (78, bl (decide (((U : Nat) : Int) ≥ (((cs.length : Nat) : Int) + 128)))), (79, bl (decide (((U : Nat) : Int) ≥ (((cs.length : Nat) : Int) + 128)))), (80, bl (decide (((U : Nat) : Int) ≥ (((cs.length : Nat) : Int) + 128))))]) hA [.slice (some ca) cs.length kc, bl true] (cc (hO.l1 1 0 22 (.slice (some ca) cs.length kc)) (cc ((inK_i64 (by omega) (by omega)) : inK .i64 (((cs.length : Nat) : Int) + 128)) c0)) ?_
      clear hA fr; intro fr hA
      replace hA := hA.bool (f := fun z_ => [(1, pt b1), (2, bl false), (5, .slice pL1 (((memL cs ds U N).take (128 * i)).length) cL1), (7, i64 ((U : Nat) : Int)), (78, .bool z_), (79, .bool z_), (80, .bool z_)]) ((by first | exact decide_eq_false (by omega) | exact bne_eq_false_iff_eq.2 (by omega)) : (decide (((U : Nat) : Int) ≥ (((cs.length : Nat) : Int) + 128))) = false)
      refine ck (l := (rg 31 13)) (r := (rg 44 13)) (e' := [(1, pt b1), (2, bl false), (5, .slice pL1 (((memL cs ds U N).take (128 * i)).length) cL1), (7, i64 ((U : Nat) : Int)), (91, bl (decide (((((memL cs ds U N).take (128 * i)).length : Nat) : Int) < ((((U : Nat) : Int) + ((ds.length : Nat) : Int)) + z)))), (92, bl (decide (((((memL cs ds U N).take (128 * i)).length : Nat) : Int) < ((((U : Nat) : Int) + ((ds.length : Nat) : Int)) + z)))), (93, bl (decide (((((memL cs ds U N).take (128 * i)).length : Nat) : Int) < ((((U : Nat) : Int) + ((ds.length : Nat) : Int)) + z))))]) hA [.slice dp ds.length kd, bl true, i64 z, bl true] (cc (hO.l1 1 1 22 (.slice dp ds.length kd)) (cc ((inK_i64 (by omega) (by omega)) : inK .i64 (((U : Nat) : Int) + ((ds.length : Nat) : Int))) (cc (hO.l1 1 2 3 (i64 z)) (cc ((inK_i64 (by omega) (by omega)) : inK .i64 ((((U : Nat) : Int) + ((ds.length : Nat) : Int)) + z)) c0)))) ?_
      clear hA fr; intro fr hA
      replace hA := hA.bool (f := fun z_ => [(1, pt b1), (2, bl false), (5, .slice pL1 (((memL cs ds U N).take (128 * i)).length) cL1), (7, i64 ((U : Nat) : Int)), (91, .bool z_), (92, .bool z_), (93, .bool z_)]) ((by first | exact decide_eq_false (by omega) | exact bne_eq_false_iff_eq.2 (by omega)) : (decide (((((memL cs ds U N).take (128 * i)).length : Nat) : Int) < ((((U : Nat) : Int) + ((ds.length : Nat) : Int)) + z))) = false)
      refine ck (l := (rg 44 13)) (r := []) (e' := [(1, pt b1), (2, bl false), (5, .slice pL1 (((memL cs ds U N).take (128 * i)).length) cL1), (7, i64 ((U : Nat) : Int)), (106, bl (decide (((((memL cs ds U N).take (128 * i)).length : Nat) : Int) ≥ (((((U : Nat) : Int) + ((ds.length : Nat) : Int)) + z) + 128))))]) hA [.slice dp ds.length kd, bl true, i64 z, bl true, bl true] (cc (hO.l1 1 1 22 (.slice dp ds.length kd)) (cc ((inK_i64 (by omega) (by omega)) : inK .i64 (((U : Nat) : Int) + ((ds.length : Nat) : Int))) (cc (hO.l1 1 2 3 (i64 z)) (cc ((inK_i64 (by omega) (by omega)) : inK .i64 ((((U : Nat) : Int) + ((ds.length : Nat) : Int)) + z)) (cc ((inK_i64 (by omega) (by omega)) : inK .i64 (((((U : Nat) : Int) + ((ds.length : Nat) : Int)) + z) + 128)) c0))))) ?_
      clear hA fr; intro fr hA
      refine end_ops ?_
      refine then_normal ?_
      replace hA := hA.bool (f := fun z_ => [(1, pt b1), (2, bl false), (5, .slice pL1 (((memL cs ds U N).take (128 * i)).length) cL1), (7, i64 ((U : Nat) : Int)), (106, .bool z_)]) ((by first | exact decide_eq_false (by omega) | exact bne_eq_false_iff_eq.2 (by omega)) : (decide (((((memL cs ds U N).take (128 * i)).length : Nat) : Int) ≥ (((((U : Nat) : Int) + ((ds.length : Nat) : Int)) + z) + 128))) = false)
      refine cF hA ?_
      refine wp_skip ?_
      refine then_normal ?_
      refine wp_seq ?_
      refine sC (e' := [(1, pt b1), (2, bl false), (5, .slice pL1 (((memL cs ds U N).take (128 * i)).length) cL1), (7, i64 ((U : Nat) : Int)), (8, i64 0)]) 1 hA [] c0 ?_
      clear hA fr; intro fr hA
      refine wp_block ?_
      obtain rfl : i = N / 128 := by omega
      have hM : (memL cs ds U N).take (128 * (N / 128)) = memL cs ds U N := List.take_of_length_le (by rw [memL_len]; omega)
      rw [hM] at hA hTL1 huL1 hal
      obtain ⟨b4, r2, rfl, rfl, hle_b4, hcap_b4⟩ := hTL1.open (by rw [memL_len]; omega)
      replace hO : Ow Tryd.prog none' w w11 [(b2, 27, [.slice (some ca) cs.length kc, .slice dp ds.length kd, i64 z, i64 et]), (b1, 24, [.slice (some ca) cs.length kc, .slice dp ds.length kd, i64 z, i64 et]), (m1, 5, ((memL cs ds U N).flatMap fB)), (b3, 22, ((pagesV m1 (N / 128)).flatMap fS ++ r1)), (b4, 5, ((memL cs ds U N).flatMap fB ++ r2))] := hO.to (by simp only [List.append_assoc, List.cons_append, List.nil_append, List.append_nil])
      rw [memL_len] at hA
      refine c_loop (fun mm fr W => ∃ (j : Nat), mm = N - j ∧ Holds 146 [] fr [(1, pt b1), (2, bl false), (5, .slice (some ⟨b4, 0, none⟩) N cL1), (7, i64 ((U : Nat) : Int)), (8, i64 ((j : Nat) : Int))] ∧ Ow Tryd.prog none' w W [(b2, 27, [.slice (some ca) cs.length kc, .slice dp ds.length kd, i64 z, i64 et]), (b1, 24, [.slice (some ca) cs.length kc, .slice dp ds.length kd, i64 z, i64 et]), (m1, 5, ((memL cs ds U N).flatMap fB)), (b3, 22, ((pagesV m1 (N / 128)).flatMap fS ++ r1)), (b4, 5, ((memL cs ds U N).flatMap fB ++ r2))] ∧ j ≤ N ∧ True) ?_ ?_
      · exact ⟨_, 0, rfl, (hA.sub (e' := [(1, pt b1), (2, bl false), (5, .slice (some ⟨b4, 0, none⟩) N cL1), (7, i64 ((U : Nat) : Int)), (8, i64 0)]) [1, 2, 5, 7, 8] (by kernel_rfl)).cast (by kernel_rfl), hO.to, (by omega), trivial⟩
      · rintro _ fr w12 ⟨j, rfl, hA, hO, hj, -⟩
        refine wp_seq ?_
        refine sC (e' := [(1, pt b1), (2, bl false), (5, .slice (some ⟨b4, 0, none⟩) N cL1), (7, i64 ((U : Nat) : Int)), (8, i64 ((j : Nat) : Int)), (107, i64 ((j : Nat) : Int)), (108, .slice (some ⟨b4, 0, none⟩) N cL1), (109, i64 ((N : Nat) : Int)), (110, bl (decide (((j : Nat) : Int) < ((N : Nat) : Int))))]) 4 hA [] c0 ?_
        clear hA fr; intro fr hA
        rcases Bool.eq_false_or_eq_true (decide (((j : Nat) : Int) < ((N : Nat) : Int))) with h2 | h2
        ·
          replace hA := hA.bool (f := fun z_ => [(1, pt b1), (2, bl false), (5, .slice (some ⟨b4, 0, none⟩) N cL1), (7, i64 ((U : Nat) : Int)), (8, i64 ((j : Nat) : Int)), (107, i64 ((j : Nat) : Int)), (108, .slice (some ⟨b4, 0, none⟩) N cL1), (109, i64 ((N : Nat) : Int)), (110, .bool z_)]) h2
          have h2p := of_decide_eq_true h2
          refine cT hA ?_
          refine wp_skip ?_
          refine then_normal ?_
          refine wp_seq ?_
          refine wp_block ?_
          refine sC (e' := [(1, pt b1), (2, bl false), (5, .slice (some ⟨b4, 0, none⟩) N cL1), (7, i64 ((U : Nat) : Int)), (8, i64 ((j : Nat) : Int)), (9, u8 0), (107, i64 ((j : Nat) : Int)), (108, .slice (some ⟨b4, 0, none⟩) N cL1), (109, i64 ((N : Nat) : Int)), (110, bl true)]) 1 hA [] c0 ?_
          clear hA fr; intro fr hA
          refine wp_seq ?_
          refine sC (e' := [(1, pt b1), (2, bl false), (5, .slice (some ⟨b4, 0, none⟩) N cL1), (7, i64 ((U : Nat) : Int)), (8, i64 ((j : Nat) : Int)), (9, u8 0), (107, i64 ((j : Nat) : Int)), (108, .slice (some ⟨b4, 0, none⟩) N cL1), (109, i64 ((N : Nat) : Int)), (110, bl true), (113, i64 ((j : Nat) : Int)), (114, pt b1), (115, .slice (some ca) cs.length kc), (116, i64 ((cs.length : Nat) : Int)), (117, bl (decide (((j : Nat) : Int) < ((cs.length : Nat) : Int))))]) 5 hA [.slice (some ca) cs.length kc] (cc (hO.l1 1 0 22 (.slice (some ca) cs.length kc)) c0) ?_
          clear hA fr; intro fr hA
          rcases Bool.eq_false_or_eq_true (decide (((j : Nat) : Int) < ((cs.length : Nat) : Int))) with h3 | h3
          ·
            replace hA := hA.bool (f := fun z_ => [(1, pt b1), (2, bl false), (5, .slice (some ⟨b4, 0, none⟩) N cL1), (7, i64 ((U : Nat) : Int)), (8, i64 ((j : Nat) : Int)), (9, u8 0), (107, i64 ((j : Nat) : Int)), (108, .slice (some ⟨b4, 0, none⟩) N cL1), (109, i64 ((N : Nat) : Int)), (110, bl true), (113, i64 ((j : Nat) : Int)), (114, pt b1), (115, .slice (some ca) cs.length kc), (116, i64 ((cs.length : Nat) : Int)), (117, .bool z_)]) h3
            have h3p := of_decide_eq_true h3
            refine cT hA ?_
            refine rC (e' := [(1, pt b1), (2, bl false), (5, .slice (some ⟨b4, 0, none⟩) N cL1), (7, i64 ((U : Nat) : Int)), (8, i64 ((j : Nat) : Int)), (9, u8 (cs.getD j 0)), (107, i64 ((j : Nat) : Int)), (108, .slice (some ⟨b4, 0, none⟩) N cL1), (109, i64 ((N : Nat) : Int)), (110, bl true), (113, i64 ((j : Nat) : Int)), (114, pt b1), (115, .slice (some ca) cs.length kc), (116, i64 ((cs.length : Nat) : Int)), (117, bl true), (118, pt b1), (119, .slice (some ca) cs.length kc), (120, i64 ((j : Nat) : Int)), (121, .pointer (some (ca.add j))), (122, u8 (cs.getD j 0))]) 6 hA [.slice (some ca) cs.length kc, u8 (cs.getD j 0)] (cc (hO.l1 1 0 22 (.slice (some ca) cs.length kc)) (cc (⟨by omega, by omega⟩ : (0 : Int) ≤ ((j : Nat) : Int) ∧ ((j : Nat) : Int) < ((cs.length : Nat) : Int)) (cc ((ld_cell (by kernel_rfl) (hO.only.cell (hcc j (by omega)) (fun h => h))) : Ld Tryd.prog w12 (ca.add j) 5 (u8 (cs.getD j 0))) c0))) ?_
            clear hA fr; intro fr hA
            refine then_normal ?_
            refine wp_seq ?_
            refine sC (e' := [(1, pt b1), (2, bl false), (5, .slice (some ⟨b4, 0, none⟩) N cL1), (7, i64 ((U : Nat) : Int)), (8, i64 ((j : Nat) : Int)), (9, u8 (cs.getD j 0)), (10, i64 (((j : Nat) : Int) - ((U : Nat) : Int))), (107, i64 ((j : Nat) : Int)), (108, .slice (some ⟨b4, 0, none⟩) N cL1), (109, i64 ((N : Nat) : Int)), (110, bl true), (113, i64 ((j : Nat) : Int)), (114, pt b1), (115, .slice (some ca) cs.length kc), (116, i64 ((cs.length : Nat) : Int)), (117, bl true), (118, pt b1), (119, .slice (some ca) cs.length kc), (120, i64 ((j : Nat) : Int)), (121, .pointer (some (ca.add j))), (122, u8 (cs.getD j 0)), (123, i64 ((j : Nat) : Int)), (124, i64 ((U : Nat) : Int)), (125, i64 (((j : Nat) : Int) - ((U : Nat) : Int)))]) 4 hA [bl true] (cc ((inK_i64 (by omega) (by omega)) : inK .i64 (((j : Nat) : Int) - ((U : Nat) : Int))) c0) ?_
            clear hA fr; intro fr hA
            refine sR (l := (rg 0 9)) ?_
            refine ck (l := [0, 1, 2]) (r := (rg 3 6)) (e' := [(1, pt b1), (2, bl false), (5, .slice (some ⟨b4, 0, none⟩) N cL1), (7, i64 ((U : Nat) : Int)), (8, i64 ((j : Nat) : Int)), (9, u8 (cs.getD j 0)), (10, i64 (((j : Nat) : Int) - ((U : Nat) : Int))), (107, i64 ((j : Nat) : Int)), (108, .slice (some ⟨b4, 0, none⟩) N cL1), (109, i64 ((N : Nat) : Int)), (110, bl true), (113, i64 ((j : Nat) : Int)), (114, pt b1), (115, .slice (some ca) cs.length kc), (116, i64 ((cs.length : Nat) : Int)), (117, bl true), (118, pt b1), (119, .slice (some ca) cs.length kc), (120, i64 ((j : Nat) : Int)), (121, .pointer (some (ca.add j))), (122, u8 (cs.getD j 0)), (123, i64 ((j : Nat) : Int)), (124, i64 ((U : Nat) : Int)), (125, i64 (((j : Nat) : Int) - ((U : Nat) : Int))), (126, i64 (((j : Nat) : Int) - ((U : Nat) : Int))), (127, bl (decide ((((j : Nat) : Int) - ((U : Nat) : Int)) ≥ 0))), (128, bl (decide ((((j : Nat) : Int) - ((U : Nat) : Int)) ≥ 0)))]) hA [] c0 ?_
            clear hA fr; intro fr hA
            rcases Bool.eq_false_or_eq_true (decide ((((j : Nat) : Int) - ((U : Nat) : Int)) ≥ 0)) with h4 | h4
            ·
              replace hA := hA.bool (f := fun z_ => [(1, pt b1), (2, bl false), (5, .slice (some ⟨b4, 0, none⟩) N cL1), (7, i64 ((U : Nat) : Int)), (8, i64 ((j : Nat) : Int)), (9, u8 (cs.getD j 0)), (10, i64 (((j : Nat) : Int) - ((U : Nat) : Int))), (107, i64 ((j : Nat) : Int)), (108, .slice (some ⟨b4, 0, none⟩) N cL1), (109, i64 ((N : Nat) : Int)), (110, bl true), (113, i64 ((j : Nat) : Int)), (114, pt b1), (115, .slice (some ca) cs.length kc), (116, i64 ((cs.length : Nat) : Int)), (117, bl true), (118, pt b1), (119, .slice (some ca) cs.length kc), (120, i64 ((j : Nat) : Int)), (121, .pointer (some (ca.add j))), (122, u8 (cs.getD j 0)), (123, i64 ((j : Nat) : Int)), (124, i64 ((U : Nat) : Int)), (125, i64 (((j : Nat) : Int) - ((U : Nat) : Int))), (126, i64 (((j : Nat) : Int) - ((U : Nat) : Int))), (127, .bool z_), (128, .bool z_)]) h4
              have h4p := of_decide_eq_true h4
              refine ck (l := (rg 3 6)) (r := []) (e' := [(1, pt b1), (2, bl false), (5, .slice (some ⟨b4, 0, none⟩) N cL1), (7, i64 ((U : Nat) : Int)), (8, i64 ((j : Nat) : Int)), (9, u8 (cs.getD j 0)), (10, i64 (((j : Nat) : Int) - ((U : Nat) : Int))), (107, i64 ((j : Nat) : Int)), (108, .slice (some ⟨b4, 0, none⟩) N cL1), (109, i64 ((N : Nat) : Int)), (110, bl true), (113, i64 ((j : Nat) : Int)), (114, pt b1), (115, .slice (some ca) cs.length kc), (116, i64 ((cs.length : Nat) : Int)), (117, bl true), (118, pt b1), (119, .slice (some ca) cs.length kc), (120, i64 ((j : Nat) : Int)), (121, .pointer (some (ca.add j))), (122, u8 (cs.getD j 0)), (123, i64 ((j : Nat) : Int)), (124, i64 ((U : Nat) : Int)), (125, i64 (((j : Nat) : Int) - ((U : Nat) : Int))), (126, i64 (((j : Nat) : Int) - ((U : Nat) : Int))), (127, bl true), (128, bl true), (129, i64 (((j : Nat) : Int) - ((U : Nat) : Int))), (130, pf b1 1), (131, .slice dp ds.length kd), (132, i64 ((ds.length : Nat) : Int)), (133, bl (decide ((((j : Nat) : Int) - ((U : Nat) : Int)) < ((ds.length : Nat) : Int)))), (134, bl (decide ((((j : Nat) : Int) - ((U : Nat) : Int)) < ((ds.length : Nat) : Int))))]) hA [.slice dp ds.length kd] (cc (hO.l1 1 1 22 (.slice dp ds.length kd)) c0) ?_
              clear hA fr; intro fr hA
              refine end_ops ?_
              refine then_normal ?_
              rcases Bool.eq_false_or_eq_true (decide ((((j : Nat) : Int) - ((U : Nat) : Int)) < ((ds.length : Nat) : Int))) with h5 | h5
              ·
                exfalso; have q_ := of_decide_eq_true h5; omega
              ·
                replace hA := hA.bool (f := fun z_ => [(1, pt b1), (2, bl false), (5, .slice (some ⟨b4, 0, none⟩) N cL1), (7, i64 ((U : Nat) : Int)), (8, i64 ((j : Nat) : Int)), (9, u8 (cs.getD j 0)), (10, i64 (((j : Nat) : Int) - ((U : Nat) : Int))), (107, i64 ((j : Nat) : Int)), (108, .slice (some ⟨b4, 0, none⟩) N cL1), (109, i64 ((N : Nat) : Int)), (110, bl true), (113, i64 ((j : Nat) : Int)), (114, pt b1), (115, .slice (some ca) cs.length kc), (116, i64 ((cs.length : Nat) : Int)), (117, bl true), (118, pt b1), (119, .slice (some ca) cs.length kc), (120, i64 ((j : Nat) : Int)), (121, .pointer (some (ca.add j))), (122, u8 (cs.getD j 0)), (123, i64 ((j : Nat) : Int)), (124, i64 ((U : Nat) : Int)), (125, i64 (((j : Nat) : Int) - ((U : Nat) : Int))), (126, i64 (((j : Nat) : Int) - ((U : Nat) : Int))), (127, bl true), (128, bl true), (129, i64 (((j : Nat) : Int) - ((U : Nat) : Int))), (130, pf b1 1), (131, .slice dp ds.length kd), (132, i64 ((ds.length : Nat) : Int)), (133, .bool z_), (134, .bool z_)]) h5
                have h5p := of_decide_eq_false h5
                refine cF hA ?_
                refine wp_skip ?_
                refine then_normal ?_
                refine sC (e' := [(1, pt b1), (2, bl false), (5, .slice (some ⟨b4, 0, none⟩) N cL1), (7, i64 ((U : Nat) : Int)), (8, i64 ((j : Nat) : Int)), (9, u8 (cs.getD j 0)), (10, i64 (((j : Nat) : Int) - ((U : Nat) : Int))), (107, i64 ((j : Nat) : Int)), (108, .slice (some ⟨b4, 0, none⟩) N cL1), (109, i64 ((N : Nat) : Int)), (110, bl true), (113, i64 ((j : Nat) : Int)), (114, pt b1), (115, .slice (some ca) cs.length kc), (116, i64 ((cs.length : Nat) : Int)), (117, bl true), (118, pt b1), (119, .slice (some ca) cs.length kc), (120, i64 ((j : Nat) : Int)), (121, .pointer (some (ca.add j))), (122, u8 (cs.getD j 0)), (123, i64 ((j : Nat) : Int)), (124, i64 ((U : Nat) : Int)), (125, i64 (((j : Nat) : Int) - ((U : Nat) : Int))), (126, i64 (((j : Nat) : Int) - ((U : Nat) : Int))), (127, bl true), (128, bl true), (129, i64 (((j : Nat) : Int) - ((U : Nat) : Int))), (130, pf b1 1), (131, .slice dp ds.length kd), (132, i64 ((ds.length : Nat) : Int)), (133, bl false), (134, bl false), (140, .slice (some ⟨b4, 0, none⟩) N cL1), (141, i64 ((j : Nat) : Int)), (142, .pointer (some ((⟨b4, 0, none⟩ : Addr).add j))), (143, u8 ((memL cs ds U N).getD j 0)), (144, u8 (cs.getD j 0)), (145, bl (((memL cs ds U N).getD j 0) != (cs.getD j 0)))]) 6 hA [u8 ((memL cs ds U N).getD j 0)] (cc (⟨by omega, by omega⟩ : (0 : Int) ≤ ((j : Nat) : Int) ∧ ((j : Nat) : Int) < ((N : Nat) : Int)) (cc ((ld_mem (hO.b 4) (by rw [memL_len]; omega) (by kernel_rfl)) : Ld Tryd.prog w12 ((⟨b4, 0, none⟩ : Addr).add j) 5 (u8 ((memL cs ds U N).getD j 0))) c0)) ?_
                clear hA fr; intro fr hA
                replace hA := hA.bool (f := fun z_ => [(1, pt b1), (2, bl false), (5, .slice (some ⟨b4, 0, none⟩) N cL1), (7, i64 ((U : Nat) : Int)), (8, i64 ((j : Nat) : Int)), (9, u8 (cs.getD j 0)), (10, i64 (((j : Nat) : Int) - ((U : Nat) : Int))), (107, i64 ((j : Nat) : Int)), (108, .slice (some ⟨b4, 0, none⟩) N cL1), (109, i64 ((N : Nat) : Int)), (110, bl true), (113, i64 ((j : Nat) : Int)), (114, pt b1), (115, .slice (some ca) cs.length kc), (116, i64 ((cs.length : Nat) : Int)), (117, bl true), (118, pt b1), (119, .slice (some ca) cs.length kc), (120, i64 ((j : Nat) : Int)), (121, .pointer (some (ca.add j))), (122, u8 (cs.getD j 0)), (123, i64 ((j : Nat) : Int)), (124, i64 ((U : Nat) : Int)), (125, i64 (((j : Nat) : Int) - ((U : Nat) : Int))), (126, i64 (((j : Nat) : Int) - ((U : Nat) : Int))), (127, bl true), (128, bl true), (129, i64 (((j : Nat) : Int) - ((U : Nat) : Int))), (130, pf b1 1), (131, .slice dp ds.length kd), (132, i64 ((ds.length : Nat) : Int)), (133, bl false), (134, bl false), (140, .slice (some ⟨b4, 0, none⟩) N cL1), (141, i64 ((j : Nat) : Int)), (142, .pointer (some ((⟨b4, 0, none⟩ : Addr).add j))), (143, u8 ((memL cs ds U N).getD j 0)), (144, u8 (cs.getD j 0)), (145, .bool z_)]) ((by rw [bne_eq_false_iff_eq]; first | exact memL_code (by omega) (by omega) | exact memL_data (by omega) (by omega) (by omega) (by omega) | exact memL_zero (by omega) (by omega) (by omega)) : (((memL cs ds U N).getD j 0) != (cs.getD j 0)) = false)
                refine cF hA ?_
                refine wp_skip ?_
                refine inBlock_normal ?_
                refine then_normal ?_
                refine rC (e' := [(1, pt b1), (2, bl false), (5, .slice (some ⟨b4, 0, none⟩) N cL1), (7, i64 ((U : Nat) : Int)), (8, i64 (((j : Nat) : Int) + 1)), (9, u8 (cs.getD j 0)), (10, i64 (((j : Nat) : Int) - ((U : Nat) : Int))), (107, i64 ((j : Nat) : Int)), (108, .slice (some ⟨b4, 0, none⟩) N cL1), (109, i64 ((N : Nat) : Int)), (110, bl true), (111, i64 ((j : Nat) : Int)), (112, i64 (((j : Nat) : Int) + 1)), (113, i64 ((j : Nat) : Int)), (114, pt b1), (115, .slice (some ca) cs.length kc), (116, i64 ((cs.length : Nat) : Int)), (117, bl true), (118, pt b1), (119, .slice (some ca) cs.length kc), (120, i64 ((j : Nat) : Int)), (121, .pointer (some (ca.add j))), (122, u8 (cs.getD j 0)), (123, i64 ((j : Nat) : Int)), (124, i64 ((U : Nat) : Int)), (125, i64 (((j : Nat) : Int) - ((U : Nat) : Int))), (126, i64 (((j : Nat) : Int) - ((U : Nat) : Int))), (127, bl true), (128, bl true), (129, i64 (((j : Nat) : Int) - ((U : Nat) : Int))), (130, pf b1 1), (131, .slice dp ds.length kd), (132, i64 ((ds.length : Nat) : Int)), (133, bl false), (134, bl false), (140, .slice (some ⟨b4, 0, none⟩) N cL1), (141, i64 ((j : Nat) : Int)), (142, .pointer (some ((⟨b4, 0, none⟩ : Addr).add j))), (143, u8 ((memL cs ds U N).getD j 0)), (144, u8 (cs.getD j 0)), (145, bl false)]) 3 hA [bl true] (cc ((inK_i64 (by omega) (by omega)) : inK .i64 (((j : Nat) : Int) + 1)) c0) ?_
                clear hA fr; intro fr hA
                refine then_normal ?_
                exact ⟨_, by omega, j + 1, rfl, (hA.sub (e' := [(1, pt b1), (2, bl false), (5, .slice (some ⟨b4, 0, none⟩) N cL1), (7, i64 ((U : Nat) : Int)), (8, i64 (((j : Nat) : Int) + 1))]) [1, 2, 5, 7, 8] (by kernel_rfl)).cast (by kernel_rfl), hO.to, (by omega), trivial⟩
            ·
              replace hA := hA.bool (f := fun z_ => [(1, pt b1), (2, bl false), (5, .slice (some ⟨b4, 0, none⟩) N cL1), (7, i64 ((U : Nat) : Int)), (8, i64 ((j : Nat) : Int)), (9, u8 (cs.getD j 0)), (10, i64 (((j : Nat) : Int) - ((U : Nat) : Int))), (107, i64 ((j : Nat) : Int)), (108, .slice (some ⟨b4, 0, none⟩) N cL1), (109, i64 ((N : Nat) : Int)), (110, bl true), (113, i64 ((j : Nat) : Int)), (114, pt b1), (115, .slice (some ca) cs.length kc), (116, i64 ((cs.length : Nat) : Int)), (117, bl true), (118, pt b1), (119, .slice (some ca) cs.length kc), (120, i64 ((j : Nat) : Int)), (121, .pointer (some (ca.add j))), (122, u8 (cs.getD j 0)), (123, i64 ((j : Nat) : Int)), (124, i64 ((U : Nat) : Int)), (125, i64 (((j : Nat) : Int) - ((U : Nat) : Int))), (126, i64 (((j : Nat) : Int) - ((U : Nat) : Int))), (127, .bool z_), (128, .bool z_)]) h4
              have h4p := of_decide_eq_false h4
              refine ck (l := (rg 3 6)) (r := []) (e' := [(1, pt b1), (2, bl false), (5, .slice (some ⟨b4, 0, none⟩) N cL1), (7, i64 ((U : Nat) : Int)), (8, i64 ((j : Nat) : Int)), (9, u8 (cs.getD j 0)), (10, i64 (((j : Nat) : Int) - ((U : Nat) : Int))), (107, i64 ((j : Nat) : Int)), (108, .slice (some ⟨b4, 0, none⟩) N cL1), (109, i64 ((N : Nat) : Int)), (110, bl true), (113, i64 ((j : Nat) : Int)), (114, pt b1), (115, .slice (some ca) cs.length kc), (116, i64 ((cs.length : Nat) : Int)), (117, bl true), (118, pt b1), (119, .slice (some ca) cs.length kc), (120, i64 ((j : Nat) : Int)), (121, .pointer (some (ca.add j))), (122, u8 (cs.getD j 0)), (123, i64 ((j : Nat) : Int)), (124, i64 ((U : Nat) : Int)), (125, i64 (((j : Nat) : Int) - ((U : Nat) : Int))), (126, i64 (((j : Nat) : Int) - ((U : Nat) : Int))), (127, bl false), (128, bl false), (129, .tuple #[]), (130, .tuple #[]), (131, .tuple #[]), (132, .tuple #[]), (133, .tuple #[]), (134, bl false)]) hA [] c0 ?_
              clear hA fr; intro fr hA
              refine end_ops ?_
              refine then_normal ?_
              refine cF hA ?_
              refine wp_skip ?_
              refine then_normal ?_
              refine sC (e' := [(1, pt b1), (2, bl false), (5, .slice (some ⟨b4, 0, none⟩) N cL1), (7, i64 ((U : Nat) : Int)), (8, i64 ((j : Nat) : Int)), (9, u8 (cs.getD j 0)), (10, i64 (((j : Nat) : Int) - ((U : Nat) : Int))), (107, i64 ((j : Nat) : Int)), (108, .slice (some ⟨b4, 0, none⟩) N cL1), (109, i64 ((N : Nat) : Int)), (110, bl true), (113, i64 ((j : Nat) : Int)), (114, pt b1), (115, .slice (some ca) cs.length kc), (116, i64 ((cs.length : Nat) : Int)), (117, bl true), (118, pt b1), (119, .slice (some ca) cs.length kc), (120, i64 ((j : Nat) : Int)), (121, .pointer (some (ca.add j))), (122, u8 (cs.getD j 0)), (123, i64 ((j : Nat) : Int)), (124, i64 ((U : Nat) : Int)), (125, i64 (((j : Nat) : Int) - ((U : Nat) : Int))), (126, i64 (((j : Nat) : Int) - ((U : Nat) : Int))), (127, bl false), (128, bl false), (129, .tuple #[]), (130, .tuple #[]), (131, .tuple #[]), (132, .tuple #[]), (133, .tuple #[]), (134, bl false), (140, .slice (some ⟨b4, 0, none⟩) N cL1), (141, i64 ((j : Nat) : Int)), (142, .pointer (some ((⟨b4, 0, none⟩ : Addr).add j))), (143, u8 ((memL cs ds U N).getD j 0)), (144, u8 (cs.getD j 0)), (145, bl (((memL cs ds U N).getD j 0) != (cs.getD j 0)))]) 6 hA [u8 ((memL cs ds U N).getD j 0)] (cc (⟨by omega, by omega⟩ : (0 : Int) ≤ ((j : Nat) : Int) ∧ ((j : Nat) : Int) < ((N : Nat) : Int)) (cc ((ld_mem (hO.b 4) (by rw [memL_len]; omega) (by kernel_rfl)) : Ld Tryd.prog w12 ((⟨b4, 0, none⟩ : Addr).add j) 5 (u8 ((memL cs ds U N).getD j 0))) c0)) ?_
              clear hA fr; intro fr hA
              replace hA := hA.bool (f := fun z_ => [(1, pt b1), (2, bl false), (5, .slice (some ⟨b4, 0, none⟩) N cL1), (7, i64 ((U : Nat) : Int)), (8, i64 ((j : Nat) : Int)), (9, u8 (cs.getD j 0)), (10, i64 (((j : Nat) : Int) - ((U : Nat) : Int))), (107, i64 ((j : Nat) : Int)), (108, .slice (some ⟨b4, 0, none⟩) N cL1), (109, i64 ((N : Nat) : Int)), (110, bl true), (113, i64 ((j : Nat) : Int)), (114, pt b1), (115, .slice (some ca) cs.length kc), (116, i64 ((cs.length : Nat) : Int)), (117, bl true), (118, pt b1), (119, .slice (some ca) cs.length kc), (120, i64 ((j : Nat) : Int)), (121, .pointer (some (ca.add j))), (122, u8 (cs.getD j 0)), (123, i64 ((j : Nat) : Int)), (124, i64 ((U : Nat) : Int)), (125, i64 (((j : Nat) : Int) - ((U : Nat) : Int))), (126, i64 (((j : Nat) : Int) - ((U : Nat) : Int))), (127, bl false), (128, bl false), (129, .tuple #[]), (130, .tuple #[]), (131, .tuple #[]), (132, .tuple #[]), (133, .tuple #[]), (134, bl false), (140, .slice (some ⟨b4, 0, none⟩) N cL1), (141, i64 ((j : Nat) : Int)), (142, .pointer (some ((⟨b4, 0, none⟩ : Addr).add j))), (143, u8 ((memL cs ds U N).getD j 0)), (144, u8 (cs.getD j 0)), (145, .bool z_)]) ((by rw [bne_eq_false_iff_eq]; first | exact memL_code (by omega) (by omega) | exact memL_data (by omega) (by omega) (by omega) (by omega) | exact memL_zero (by omega) (by omega) (by omega)) : (((memL cs ds U N).getD j 0) != (cs.getD j 0)) = false)
              refine cF hA ?_
              refine wp_skip ?_
              refine inBlock_normal ?_
              refine then_normal ?_
              refine rC (e' := [(1, pt b1), (2, bl false), (5, .slice (some ⟨b4, 0, none⟩) N cL1), (7, i64 ((U : Nat) : Int)), (8, i64 (((j : Nat) : Int) + 1)), (9, u8 (cs.getD j 0)), (10, i64 (((j : Nat) : Int) - ((U : Nat) : Int))), (107, i64 ((j : Nat) : Int)), (108, .slice (some ⟨b4, 0, none⟩) N cL1), (109, i64 ((N : Nat) : Int)), (110, bl true), (111, i64 ((j : Nat) : Int)), (112, i64 (((j : Nat) : Int) + 1)), (113, i64 ((j : Nat) : Int)), (114, pt b1), (115, .slice (some ca) cs.length kc), (116, i64 ((cs.length : Nat) : Int)), (117, bl true), (118, pt b1), (119, .slice (some ca) cs.length kc), (120, i64 ((j : Nat) : Int)), (121, .pointer (some (ca.add j))), (122, u8 (cs.getD j 0)), (123, i64 ((j : Nat) : Int)), (124, i64 ((U : Nat) : Int)), (125, i64 (((j : Nat) : Int) - ((U : Nat) : Int))), (126, i64 (((j : Nat) : Int) - ((U : Nat) : Int))), (127, bl false), (128, bl false), (129, .tuple #[]), (130, .tuple #[]), (131, .tuple #[]), (132, .tuple #[]), (133, .tuple #[]), (134, bl false), (140, .slice (some ⟨b4, 0, none⟩) N cL1), (141, i64 ((j : Nat) : Int)), (142, .pointer (some ((⟨b4, 0, none⟩ : Addr).add j))), (143, u8 ((memL cs ds U N).getD j 0)), (144, u8 (cs.getD j 0)), (145, bl false)]) 3 hA [bl true] (cc ((inK_i64 (by omega) (by omega)) : inK .i64 (((j : Nat) : Int) + 1)) c0) ?_
              clear hA fr; intro fr hA
              refine then_normal ?_
              exact ⟨_, by omega, j + 1, rfl, (hA.sub (e' := [(1, pt b1), (2, bl false), (5, .slice (some ⟨b4, 0, none⟩) N cL1), (7, i64 ((U : Nat) : Int)), (8, i64 (((j : Nat) : Int) + 1))]) [1, 2, 5, 7, 8] (by kernel_rfl)).cast (by kernel_rfl), hO.to, (by omega), trivial⟩
          ·
            replace hA := hA.bool (f := fun z_ => [(1, pt b1), (2, bl false), (5, .slice (some ⟨b4, 0, none⟩) N cL1), (7, i64 ((U : Nat) : Int)), (8, i64 ((j : Nat) : Int)), (9, u8 0), (107, i64 ((j : Nat) : Int)), (108, .slice (some ⟨b4, 0, none⟩) N cL1), (109, i64 ((N : Nat) : Int)), (110, bl true), (113, i64 ((j : Nat) : Int)), (114, pt b1), (115, .slice (some ca) cs.length kc), (116, i64 ((cs.length : Nat) : Int)), (117, .bool z_)]) h3
            have h3p := of_decide_eq_false h3
            refine cF hA ?_
            refine wp_skip ?_
            refine then_normal ?_
            refine wp_seq ?_
            refine sC (e' := [(1, pt b1), (2, bl false), (5, .slice (some ⟨b4, 0, none⟩) N cL1), (7, i64 ((U : Nat) : Int)), (8, i64 ((j : Nat) : Int)), (9, u8 0), (10, i64 (((j : Nat) : Int) - ((U : Nat) : Int))), (107, i64 ((j : Nat) : Int)), (108, .slice (some ⟨b4, 0, none⟩) N cL1), (109, i64 ((N : Nat) : Int)), (110, bl true), (113, i64 ((j : Nat) : Int)), (114, pt b1), (115, .slice (some ca) cs.length kc), (116, i64 ((cs.length : Nat) : Int)), (117, bl false), (123, i64 ((j : Nat) : Int)), (124, i64 ((U : Nat) : Int)), (125, i64 (((j : Nat) : Int) - ((U : Nat) : Int)))]) 4 hA [bl true] (cc ((inK_i64 (by omega) (by omega)) : inK .i64 (((j : Nat) : Int) - ((U : Nat) : Int))) c0) ?_
            clear hA fr; intro fr hA
            refine sR (l := (rg 0 9)) ?_
            refine ck (l := [0, 1, 2]) (r := (rg 3 6)) (e' := [(1, pt b1), (2, bl false), (5, .slice (some ⟨b4, 0, none⟩) N cL1), (7, i64 ((U : Nat) : Int)), (8, i64 ((j : Nat) : Int)), (9, u8 0), (10, i64 (((j : Nat) : Int) - ((U : Nat) : Int))), (107, i64 ((j : Nat) : Int)), (108, .slice (some ⟨b4, 0, none⟩) N cL1), (109, i64 ((N : Nat) : Int)), (110, bl true), (113, i64 ((j : Nat) : Int)), (114, pt b1), (115, .slice (some ca) cs.length kc), (116, i64 ((cs.length : Nat) : Int)), (117, bl false), (123, i64 ((j : Nat) : Int)), (124, i64 ((U : Nat) : Int)), (125, i64 (((j : Nat) : Int) - ((U : Nat) : Int))), (126, i64 (((j : Nat) : Int) - ((U : Nat) : Int))), (127, bl (decide ((((j : Nat) : Int) - ((U : Nat) : Int)) ≥ 0))), (128, bl (decide ((((j : Nat) : Int) - ((U : Nat) : Int)) ≥ 0)))]) hA [] c0 ?_
            clear hA fr; intro fr hA
            rcases Bool.eq_false_or_eq_true (decide ((((j : Nat) : Int) - ((U : Nat) : Int)) ≥ 0)) with h6 | h6
            ·
              replace hA := hA.bool (f := fun z_ => [(1, pt b1), (2, bl false), (5, .slice (some ⟨b4, 0, none⟩) N cL1), (7, i64 ((U : Nat) : Int)), (8, i64 ((j : Nat) : Int)), (9, u8 0), (10, i64 (((j : Nat) : Int) - ((U : Nat) : Int))), (107, i64 ((j : Nat) : Int)), (108, .slice (some ⟨b4, 0, none⟩) N cL1), (109, i64 ((N : Nat) : Int)), (110, bl true), (113, i64 ((j : Nat) : Int)), (114, pt b1), (115, .slice (some ca) cs.length kc), (116, i64 ((cs.length : Nat) : Int)), (117, bl false), (123, i64 ((j : Nat) : Int)), (124, i64 ((U : Nat) : Int)), (125, i64 (((j : Nat) : Int) - ((U : Nat) : Int))), (126, i64 (((j : Nat) : Int) - ((U : Nat) : Int))), (127, .bool z_), (128, .bool z_)]) h6
              have h6p := of_decide_eq_true h6
              refine ck (l := (rg 3 6)) (r := []) (e' := [(1, pt b1), (2, bl false), (5, .slice (some ⟨b4, 0, none⟩) N cL1), (7, i64 ((U : Nat) : Int)), (8, i64 ((j : Nat) : Int)), (9, u8 0), (10, i64 (((j : Nat) : Int) - ((U : Nat) : Int))), (107, i64 ((j : Nat) : Int)), (108, .slice (some ⟨b4, 0, none⟩) N cL1), (109, i64 ((N : Nat) : Int)), (110, bl true), (113, i64 ((j : Nat) : Int)), (114, pt b1), (115, .slice (some ca) cs.length kc), (116, i64 ((cs.length : Nat) : Int)), (117, bl false), (123, i64 ((j : Nat) : Int)), (124, i64 ((U : Nat) : Int)), (125, i64 (((j : Nat) : Int) - ((U : Nat) : Int))), (126, i64 (((j : Nat) : Int) - ((U : Nat) : Int))), (127, bl true), (128, bl true), (129, i64 (((j : Nat) : Int) - ((U : Nat) : Int))), (130, pf b1 1), (131, .slice dp ds.length kd), (132, i64 ((ds.length : Nat) : Int)), (133, bl (decide ((((j : Nat) : Int) - ((U : Nat) : Int)) < ((ds.length : Nat) : Int)))), (134, bl (decide ((((j : Nat) : Int) - ((U : Nat) : Int)) < ((ds.length : Nat) : Int))))]) hA [.slice dp ds.length kd] (cc (hO.l1 1 1 22 (.slice dp ds.length kd)) c0) ?_
              clear hA fr; intro fr hA
              refine end_ops ?_
              refine then_normal ?_
              rcases Bool.eq_false_or_eq_true (decide ((((j : Nat) : Int) - ((U : Nat) : Int)) < ((ds.length : Nat) : Int))) with h7 | h7
              ·
                exfalso; have q_ := of_decide_eq_true h7; omega
              ·
                replace hA := hA.bool (f := fun z_ => [(1, pt b1), (2, bl false), (5, .slice (some ⟨b4, 0, none⟩) N cL1), (7, i64 ((U : Nat) : Int)), (8, i64 ((j : Nat) : Int)), (9, u8 0), (10, i64 (((j : Nat) : Int) - ((U : Nat) : Int))), (107, i64 ((j : Nat) : Int)), (108, .slice (some ⟨b4, 0, none⟩) N cL1), (109, i64 ((N : Nat) : Int)), (110, bl true), (113, i64 ((j : Nat) : Int)), (114, pt b1), (115, .slice (some ca) cs.length kc), (116, i64 ((cs.length : Nat) : Int)), (117, bl false), (123, i64 ((j : Nat) : Int)), (124, i64 ((U : Nat) : Int)), (125, i64 (((j : Nat) : Int) - ((U : Nat) : Int))), (126, i64 (((j : Nat) : Int) - ((U : Nat) : Int))), (127, bl true), (128, bl true), (129, i64 (((j : Nat) : Int) - ((U : Nat) : Int))), (130, pf b1 1), (131, .slice dp ds.length kd), (132, i64 ((ds.length : Nat) : Int)), (133, .bool z_), (134, .bool z_)]) h7
                have h7p := of_decide_eq_false h7
                refine cF hA ?_
                refine wp_skip ?_
                refine then_normal ?_
                refine sC (e' := [(1, pt b1), (2, bl false), (5, .slice (some ⟨b4, 0, none⟩) N cL1), (7, i64 ((U : Nat) : Int)), (8, i64 ((j : Nat) : Int)), (9, u8 0), (10, i64 (((j : Nat) : Int) - ((U : Nat) : Int))), (107, i64 ((j : Nat) : Int)), (108, .slice (some ⟨b4, 0, none⟩) N cL1), (109, i64 ((N : Nat) : Int)), (110, bl true), (113, i64 ((j : Nat) : Int)), (114, pt b1), (115, .slice (some ca) cs.length kc), (116, i64 ((cs.length : Nat) : Int)), (117, bl false), (123, i64 ((j : Nat) : Int)), (124, i64 ((U : Nat) : Int)), (125, i64 (((j : Nat) : Int) - ((U : Nat) : Int))), (126, i64 (((j : Nat) : Int) - ((U : Nat) : Int))), (127, bl true), (128, bl true), (129, i64 (((j : Nat) : Int) - ((U : Nat) : Int))), (130, pf b1 1), (131, .slice dp ds.length kd), (132, i64 ((ds.length : Nat) : Int)), (133, bl false), (134, bl false), (140, .slice (some ⟨b4, 0, none⟩) N cL1), (141, i64 ((j : Nat) : Int)), (142, .pointer (some ((⟨b4, 0, none⟩ : Addr).add j))), (143, u8 ((memL cs ds U N).getD j 0)), (144, u8 0), (145, bl (((memL cs ds U N).getD j 0) != 0))]) 6 hA [u8 ((memL cs ds U N).getD j 0)] (cc (⟨by omega, by omega⟩ : (0 : Int) ≤ ((j : Nat) : Int) ∧ ((j : Nat) : Int) < ((N : Nat) : Int)) (cc ((ld_mem (hO.b 4) (by rw [memL_len]; omega) (by kernel_rfl)) : Ld Tryd.prog w12 ((⟨b4, 0, none⟩ : Addr).add j) 5 (u8 ((memL cs ds U N).getD j 0))) c0)) ?_
                clear hA fr; intro fr hA
                replace hA := hA.bool (f := fun z_ => [(1, pt b1), (2, bl false), (5, .slice (some ⟨b4, 0, none⟩) N cL1), (7, i64 ((U : Nat) : Int)), (8, i64 ((j : Nat) : Int)), (9, u8 0), (10, i64 (((j : Nat) : Int) - ((U : Nat) : Int))), (107, i64 ((j : Nat) : Int)), (108, .slice (some ⟨b4, 0, none⟩) N cL1), (109, i64 ((N : Nat) : Int)), (110, bl true), (113, i64 ((j : Nat) : Int)), (114, pt b1), (115, .slice (some ca) cs.length kc), (116, i64 ((cs.length : Nat) : Int)), (117, bl false), (123, i64 ((j : Nat) : Int)), (124, i64 ((U : Nat) : Int)), (125, i64 (((j : Nat) : Int) - ((U : Nat) : Int))), (126, i64 (((j : Nat) : Int) - ((U : Nat) : Int))), (127, bl true), (128, bl true), (129, i64 (((j : Nat) : Int) - ((U : Nat) : Int))), (130, pf b1 1), (131, .slice dp ds.length kd), (132, i64 ((ds.length : Nat) : Int)), (133, bl false), (134, bl false), (140, .slice (some ⟨b4, 0, none⟩) N cL1), (141, i64 ((j : Nat) : Int)), (142, .pointer (some ((⟨b4, 0, none⟩ : Addr).add j))), (143, u8 ((memL cs ds U N).getD j 0)), (144, u8 0), (145, .bool z_)]) ((by rw [bne_eq_false_iff_eq]; first | exact memL_code (by omega) (by omega) | exact memL_data (by omega) (by omega) (by omega) (by omega) | exact memL_zero (by omega) (by omega) (by omega)) : (((memL cs ds U N).getD j 0) != 0) = false)
                refine cF hA ?_
                refine wp_skip ?_
                refine inBlock_normal ?_
                refine then_normal ?_
                refine rC (e' := [(1, pt b1), (2, bl false), (5, .slice (some ⟨b4, 0, none⟩) N cL1), (7, i64 ((U : Nat) : Int)), (8, i64 (((j : Nat) : Int) + 1)), (9, u8 0), (10, i64 (((j : Nat) : Int) - ((U : Nat) : Int))), (107, i64 ((j : Nat) : Int)), (108, .slice (some ⟨b4, 0, none⟩) N cL1), (109, i64 ((N : Nat) : Int)), (110, bl true), (111, i64 ((j : Nat) : Int)), (112, i64 (((j : Nat) : Int) + 1)), (113, i64 ((j : Nat) : Int)), (114, pt b1), (115, .slice (some ca) cs.length kc), (116, i64 ((cs.length : Nat) : Int)), (117, bl false), (123, i64 ((j : Nat) : Int)), (124, i64 ((U : Nat) : Int)), (125, i64 (((j : Nat) : Int) - ((U : Nat) : Int))), (126, i64 (((j : Nat) : Int) - ((U : Nat) : Int))), (127, bl true), (128, bl true), (129, i64 (((j : Nat) : Int) - ((U : Nat) : Int))), (130, pf b1 1), (131, .slice dp ds.length kd), (132, i64 ((ds.length : Nat) : Int)), (133, bl false), (134, bl false), (140, .slice (some ⟨b4, 0, none⟩) N cL1), (141, i64 ((j : Nat) : Int)), (142, .pointer (some ((⟨b4, 0, none⟩ : Addr).add j))), (143, u8 ((memL cs ds U N).getD j 0)), (144, u8 0), (145, bl false)]) 3 hA [bl true] (cc ((inK_i64 (by omega) (by omega)) : inK .i64 (((j : Nat) : Int) + 1)) c0) ?_
                clear hA fr; intro fr hA
                refine then_normal ?_
                exact ⟨_, by omega, j + 1, rfl, (hA.sub (e' := [(1, pt b1), (2, bl false), (5, .slice (some ⟨b4, 0, none⟩) N cL1), (7, i64 ((U : Nat) : Int)), (8, i64 (((j : Nat) : Int) + 1))]) [1, 2, 5, 7, 8] (by kernel_rfl)).cast (by kernel_rfl), hO.to, (by omega), trivial⟩
            ·
              replace hA := hA.bool (f := fun z_ => [(1, pt b1), (2, bl false), (5, .slice (some ⟨b4, 0, none⟩) N cL1), (7, i64 ((U : Nat) : Int)), (8, i64 ((j : Nat) : Int)), (9, u8 0), (10, i64 (((j : Nat) : Int) - ((U : Nat) : Int))), (107, i64 ((j : Nat) : Int)), (108, .slice (some ⟨b4, 0, none⟩) N cL1), (109, i64 ((N : Nat) : Int)), (110, bl true), (113, i64 ((j : Nat) : Int)), (114, pt b1), (115, .slice (some ca) cs.length kc), (116, i64 ((cs.length : Nat) : Int)), (117, bl false), (123, i64 ((j : Nat) : Int)), (124, i64 ((U : Nat) : Int)), (125, i64 (((j : Nat) : Int) - ((U : Nat) : Int))), (126, i64 (((j : Nat) : Int) - ((U : Nat) : Int))), (127, .bool z_), (128, .bool z_)]) h6
              have h6p := of_decide_eq_false h6
              refine ck (l := (rg 3 6)) (r := []) (e' := [(1, pt b1), (2, bl false), (5, .slice (some ⟨b4, 0, none⟩) N cL1), (7, i64 ((U : Nat) : Int)), (8, i64 ((j : Nat) : Int)), (9, u8 0), (10, i64 (((j : Nat) : Int) - ((U : Nat) : Int))), (107, i64 ((j : Nat) : Int)), (108, .slice (some ⟨b4, 0, none⟩) N cL1), (109, i64 ((N : Nat) : Int)), (110, bl true), (113, i64 ((j : Nat) : Int)), (114, pt b1), (115, .slice (some ca) cs.length kc), (116, i64 ((cs.length : Nat) : Int)), (117, bl false), (123, i64 ((j : Nat) : Int)), (124, i64 ((U : Nat) : Int)), (125, i64 (((j : Nat) : Int) - ((U : Nat) : Int))), (126, i64 (((j : Nat) : Int) - ((U : Nat) : Int))), (127, bl false), (128, bl false), (129, .tuple #[]), (130, .tuple #[]), (131, .tuple #[]), (132, .tuple #[]), (133, .tuple #[]), (134, bl false)]) hA [] c0 ?_
              clear hA fr; intro fr hA
              refine end_ops ?_
              refine then_normal ?_
              refine cF hA ?_
              refine wp_skip ?_
              refine then_normal ?_
              refine sC (e' := [(1, pt b1), (2, bl false), (5, .slice (some ⟨b4, 0, none⟩) N cL1), (7, i64 ((U : Nat) : Int)), (8, i64 ((j : Nat) : Int)), (9, u8 0), (10, i64 (((j : Nat) : Int) - ((U : Nat) : Int))), (107, i64 ((j : Nat) : Int)), (108, .slice (some ⟨b4, 0, none⟩) N cL1), (109, i64 ((N : Nat) : Int)), (110, bl true), (113, i64 ((j : Nat) : Int)), (114, pt b1), (115, .slice (some ca) cs.length kc), (116, i64 ((cs.length : Nat) : Int)), (117, bl false), (123, i64 ((j : Nat) : Int)), (124, i64 ((U : Nat) : Int)), (125, i64 (((j : Nat) : Int) - ((U : Nat) : Int))), (126, i64 (((j : Nat) : Int) - ((U : Nat) : Int))), (127, bl false), (128, bl false), (129, .tuple #[]), (130, .tuple #[]), (131, .tuple #[]), (132, .tuple #[]), (133, .tuple #[]), (134, bl false), (140, .slice (some ⟨b4, 0, none⟩) N cL1), (141, i64 ((j : Nat) : Int)), (142, .pointer (some ((⟨b4, 0, none⟩ : Addr).add j))), (143, u8 ((memL cs ds U N).getD j 0)), (144, u8 0), (145, bl (((memL cs ds U N).getD j 0) != 0))]) 6 hA [u8 ((memL cs ds U N).getD j 0)] (cc (⟨by omega, by omega⟩ : (0 : Int) ≤ ((j : Nat) : Int) ∧ ((j : Nat) : Int) < ((N : Nat) : Int)) (cc ((ld_mem (hO.b 4) (by rw [memL_len]; omega) (by kernel_rfl)) : Ld Tryd.prog w12 ((⟨b4, 0, none⟩ : Addr).add j) 5 (u8 ((memL cs ds U N).getD j 0))) c0)) ?_
              clear hA fr; intro fr hA
              replace hA := hA.bool (f := fun z_ => [(1, pt b1), (2, bl false), (5, .slice (some ⟨b4, 0, none⟩) N cL1), (7, i64 ((U : Nat) : Int)), (8, i64 ((j : Nat) : Int)), (9, u8 0), (10, i64 (((j : Nat) : Int) - ((U : Nat) : Int))), (107, i64 ((j : Nat) : Int)), (108, .slice (some ⟨b4, 0, none⟩) N cL1), (109, i64 ((N : Nat) : Int)), (110, bl true), (113, i64 ((j : Nat) : Int)), (114, pt b1), (115, .slice (some ca) cs.length kc), (116, i64 ((cs.length : Nat) : Int)), (117, bl false), (123, i64 ((j : Nat) : Int)), (124, i64 ((U : Nat) : Int)), (125, i64 (((j : Nat) : Int) - ((U : Nat) : Int))), (126, i64 (((j : Nat) : Int) - ((U : Nat) : Int))), (127, bl false), (128, bl false), (129, .tuple #[]), (130, .tuple #[]), (131, .tuple #[]), (132, .tuple #[]), (133, .tuple #[]), (134, bl false), (140, .slice (some ⟨b4, 0, none⟩) N cL1), (141, i64 ((j : Nat) : Int)), (142, .pointer (some ((⟨b4, 0, none⟩ : Addr).add j))), (143, u8 ((memL cs ds U N).getD j 0)), (144, u8 0), (145, .bool z_)]) ((by rw [bne_eq_false_iff_eq]; first | exact memL_code (by omega) (by omega) | exact memL_data (by omega) (by omega) (by omega) (by omega) | exact memL_zero (by omega) (by omega) (by omega)) : (((memL cs ds U N).getD j 0) != 0) = false)
              refine cF hA ?_
              refine wp_skip ?_
              refine inBlock_normal ?_
              refine then_normal ?_
              refine rC (e' := [(1, pt b1), (2, bl false), (5, .slice (some ⟨b4, 0, none⟩) N cL1), (7, i64 ((U : Nat) : Int)), (8, i64 (((j : Nat) : Int) + 1)), (9, u8 0), (10, i64 (((j : Nat) : Int) - ((U : Nat) : Int))), (107, i64 ((j : Nat) : Int)), (108, .slice (some ⟨b4, 0, none⟩) N cL1), (109, i64 ((N : Nat) : Int)), (110, bl true), (111, i64 ((j : Nat) : Int)), (112, i64 (((j : Nat) : Int) + 1)), (113, i64 ((j : Nat) : Int)), (114, pt b1), (115, .slice (some ca) cs.length kc), (116, i64 ((cs.length : Nat) : Int)), (117, bl false), (123, i64 ((j : Nat) : Int)), (124, i64 ((U : Nat) : Int)), (125, i64 (((j : Nat) : Int) - ((U : Nat) : Int))), (126, i64 (((j : Nat) : Int) - ((U : Nat) : Int))), (127, bl false), (128, bl false), (129, .tuple #[]), (130, .tuple #[]), (131, .tuple #[]), (132, .tuple #[]), (133, .tuple #[]), (134, bl false), (140, .slice (some ⟨b4, 0, none⟩) N cL1), (141, i64 ((j : Nat) : Int)), (142, .pointer (some ((⟨b4, 0, none⟩ : Addr).add j))), (143, u8 ((memL cs ds U N).getD j 0)), (144, u8 0), (145, bl false)]) 3 hA [bl true] (cc ((inK_i64 (by omega) (by omega)) : inK .i64 (((j : Nat) : Int) + 1)) c0) ?_
              clear hA fr; intro fr hA
              refine then_normal ?_
              exact ⟨_, by omega, j + 1, rfl, (hA.sub (e' := [(1, pt b1), (2, bl false), (5, .slice (some ⟨b4, 0, none⟩) N cL1), (7, i64 ((U : Nat) : Int)), (8, i64 (((j : Nat) : Int) + 1))]) [1, 2, 5, 7, 8] (by kernel_rfl)).cast (by kernel_rfl), hO.to, (by omega), trivial⟩
        ·
          replace hA := hA.bool (f := fun z_ => [(1, pt b1), (2, bl false), (5, .slice (some ⟨b4, 0, none⟩) N cL1), (7, i64 ((U : Nat) : Int)), (8, i64 ((j : Nat) : Int)), (107, i64 ((j : Nat) : Int)), (108, .slice (some ⟨b4, 0, none⟩) N cL1), (109, i64 ((N : Nat) : Int)), (110, .bool z_)]) h2
          have h2p := of_decide_eq_false h2
          refine cF hA ?_
          refine wp_exit ?_
          refine then_exit ?_
          refine then_exit ?_
          refine inBlock_exit ?_
          refine then_normal ?_
          refine sC (e' := [(2, bl true)]) 1 hA [] c0 ?_
          clear hA fr; intro fr hA
          refine wp_ret ?_
          refine cR (cs := [none]) (us := [bl true]) hA [] trivial ?_
          have hF := hO.only; clear hA hO
          exact ⟨rfl, hF⟩

end Go.Proofs.YtkfnkcpdabdboaaDoor
