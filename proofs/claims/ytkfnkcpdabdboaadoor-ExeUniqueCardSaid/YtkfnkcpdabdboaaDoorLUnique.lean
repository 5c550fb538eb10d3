/- The layer exe: the law ExeUnique. -/
import Derived.Test.YtkfnkcpdabdboaaDoorUnique0
set_option linter.unusedVariables false
set_option linter.unusedSimpArgs false
set_option maxRecDepth 10000
namespace Go.Proofs.YtkfnkcpdabdboaaDoor
open Go Go.RowKit Go.Proofs.Sx

theorem file_u8 {w : World} {cp dp : Option Addr} {kc kd : Nat} {cs ds : List Int} {z et : Int} (hs : SlI w (.slice cp cs.length kc) cs) (hs2 : SlI w (.slice dp ds.length kd) ds) : U8s (fileL cs ds z et) := by
  unfold fileL sealL bodyL
  exact U8s.app (U8s.app (U8s.app (U8s.app (U8s.app (U8s.app (U8s.app (by intro x hx; simp at hx; omega) (encI_u8 _)) (encI_u8 _)) (encI_u8 _)) hs.1) (encI_u8 _)) hs2.1) (leL_u8 _ _)
theorem file_eq {cs ds cs' ds' : List Int} {z et z' et' : Int} (hc : cs.length ≤ 2000) (hc' : cs'.length ≤ 2000) (hd : ds.length ≤ 2000) (hd' : ds'.length ≤ 2000) (hz : inK .i64 z) (hz' : inK .i64 z') (he : inK .i64 et) (he' : inK .i64 et') :
    ((decide (fileL cs ds z et = fileL cs' ds' z' et')) == (decide (cs = cs' ∧ ds = ds' ∧ z = z' ∧ et = et'))) = true := by
  rw [beq_iff_eq, decide_eq_decide]
  constructor
  · exact file_inj hc hc' hd hd' hz hz' he he'
  · rintro ⟨rfl, rfl, rfl, rfl⟩; rfl

theorem uni_few1 (cp dp : Option Addr) (kc kd : Nat) (cs ds : List Int) (z et : Int) (cp' dp' : Option Addr) (kc' kd' : Nat) (cs' ds' : List Int) (z' et' : Int) (w : World) (hT : Tab w) (hs : SlI w (.slice cp cs.length kc) cs) (hs2 : SlI w (.slice dp ds.length kd) ds) (hs' : SlI w (.slice cp' cs'.length kc') cs') (hs2' : SlI w (.slice dp' ds'.length kd') ds') (hkc : cs.length ≤ kc) (hz : inK .i64 z) (het : inK .i64 et) (hkc' : cs'.length ≤ kc') (hz' : inK .i64 z') (het' : inK .i64 et') (hf : ¬ (cs.length ≤ 2000 ∧ ds.length ≤ 2000)) :
    Calls Tryd.prog 4 #[.agg #[.slice cp cs.length kc, .slice dp ds.length kd, i64 z, i64 et], .agg #[.slice cp' cs'.length kc', .slice dp' ds'.length kd', i64 z', i64 et']] w fun e w' => e = .returned (.bool true) ∧ Only none' w w' := by
  refine c_enter (args := [.agg #[.slice cp cs.length kc, .slice dp ds.length kd, i64 z, i64 et], .agg #[.slice cp' cs'.length kc', .slice dp' ds'.length kd', i64 z', i64 et']]) (m := 42) (n := 44) Tryd.func4 rfl (by kernel_rfl) (by kernel_rfl) fun fr hA => ?_
  have hO := Ow.nil Tryd.prog none' w
  refine sR (l := [0, 1, 2]) ?_
  refine wpOps_cons' (mN (l := [.slice cp cs.length kc, .slice dp ds.length kd, i64 z, i64 et]) (t := 24) (v := pt) (d := 2) hA hO ?_)
  clear hA hO fr; intro fr w1 b1 hA hO
  replace hA := hA.sb (e' := [(1, .agg #[.slice cp' cs'.length kc', .slice dp' ds'.length kd', i64 z', i64 et']), (2, pt b1)])
  refine wpOps_cons' (mN (l := [.slice cp' cs'.length kc', .slice dp' ds'.length kd', i64 z', i64 et']) (t := 24) (v := pt) (d := 3) hA hO ?_)
  clear hA hO fr; intro fr w2 b2 hA hO
  replace hA := hA.sb (e' := [(2, pt b1), (3, pt b2)])
  refine ck (l := [2]) (r := []) (e' := [(2, pt b1), (3, pt b2), (4, bl false)]) hA [] c0 ?_
  clear hA fr; intro fr hA
  refine end_ops ?_
  refine then_normal ?_
  refine wp_seq ?_
  refine sR (l := [0, 1]) ?_
  refine wpOps_cons' (mK (f := 6) (args := []) (d := (some 9)) (v := bl true) hA hO Tryd.func6 (awake_any _ (hT.keep hO.only (fun h => h))) ?_)
  clear hA hO fr; intro fr w3 hA hO
  refine ck (l := [1]) (r := []) (e' := [(2, pt b1), (3, pt b2), (4, bl false), (10, bl false)]) hA [] c0 ?_
  clear hA fr; intro fr hA
  refine end_ops ?_
  refine then_normal ?_
  refine cF hA ?_
  refine wp_skip ?_
  refine then_normal ?_
  refine wp_seq ?_
  refine sR (l := (rg 0 8)) ?_
  refine ck (l := [0]) (r := (rg 1 7)) (e' := [(2, pt b1), (3, pt b2), (4, bl false), (11, .agg #[.slice cp cs.length kc, .slice dp ds.length kd, i64 z, i64 et])]) hA [.agg #[.slice cp cs.length kc, .slice dp ds.length kd, i64 z, i64 et]] (cc (hO.ln 1 0 24 [.slice cp cs.length kc, .slice dp ds.length kd, i64 z, i64 et]) c0) ?_
  clear hA fr; intro fr hA
  refine wpOps_cons' (mK (f := 7) (args := [.agg #[.slice cp cs.length kc, .slice dp ds.length kd, i64 z, i64 et]]) (d := (some 12)) (v := bl (decide (cs.length ≤ 2000 ∧ ds.length ≤ 2000))) hA hO Tryd.func7 (few_any cp dp kc kd cs ds z et _) ?_)
  clear hA hO fr; intro fr w4 hA hO
  replace hA := hA.sb (e' := [(2, pt b1), (3, pt b2), (4, bl false), (12, bl (decide (cs.length ≤ 2000 ∧ ds.length ≤ 2000)))])
  refine ck (l := [2, 3]) (r := [4, 5, 6, 7]) (e' := [(2, pt b1), (3, pt b2), (4, bl false), (13, bl (!(decide (cs.length ≤ 2000 ∧ ds.length ≤ 2000)))), (14, bl (!(decide (cs.length ≤ 2000 ∧ ds.length ≤ 2000))))]) hA [] c0 ?_
  clear hA fr; intro fr hA
  replace hA := hA.bool (f := fun z_ => [(2, pt b1), (3, pt b2), (4, bl false), (13, .bool !z_), (14, .bool !z_)]) (decide_eq_false hf : (decide (cs.length ≤ 2000 ∧ ds.length ≤ 2000)) = false)
  refine ck (l := [4, 5, 6, 7]) (r := []) (e' := [(2, pt b1), (3, pt b2), (4, bl false), (18, bl true)]) hA [] c0 ?_
  clear hA fr; intro fr hA
  refine end_ops ?_
  refine then_normal ?_
  refine cT hA ?_
  refine sC (e' := [(2, pt b1), (3, pt b2), (4, bl true)]) 1 hA [] c0 ?_
  clear hA fr; intro fr hA
  refine wp_ret ?_
  refine then_ret ?_
  refine cR (cs := [none]) (us := [bl true]) hA [] trivial ?_
  have hF := hO.only; clear hA hO
  exact ⟨by first | rfl | exact congrArg (fun b => Ending.returned (.bool b)) (file_eq hc hc' hd hd' hz hz' het het'), hF⟩

theorem uni_few2 (cp dp : Option Addr) (kc kd : Nat) (cs ds : List Int) (z et : Int) (cp' dp' : Option Addr) (kc' kd' : Nat) (cs' ds' : List Int) (z' et' : Int) (w : World) (hT : Tab w) (hs : SlI w (.slice cp cs.length kc) cs) (hs2 : SlI w (.slice dp ds.length kd) ds) (hs' : SlI w (.slice cp' cs'.length kc') cs') (hs2' : SlI w (.slice dp' ds'.length kd') ds') (hkc : cs.length ≤ kc) (hz : inK .i64 z) (het : inK .i64 et) (hkc' : cs'.length ≤ kc') (hz' : inK .i64 z') (het' : inK .i64 et') (hc : cs.length ≤ 2000) (hd : ds.length ≤ 2000) (hf : ¬ (cs'.length ≤ 2000 ∧ ds'.length ≤ 2000)) :
    Calls Tryd.prog 4 #[.agg #[.slice cp cs.length kc, .slice dp ds.length kd, i64 z, i64 et], .agg #[.slice cp' cs'.length kc', .slice dp' ds'.length kd', i64 z', i64 et']] w fun e w' => e = .returned (.bool true) ∧ Only none' w w' := by
  refine c_enter (args := [.agg #[.slice cp cs.length kc, .slice dp ds.length kd, i64 z, i64 et], .agg #[.slice cp' cs'.length kc', .slice dp' ds'.length kd', i64 z', i64 et']]) (m := 42) (n := 44) Tryd.func4 rfl (by kernel_rfl) (by kernel_rfl) fun fr hA => ?_
  have hO := Ow.nil Tryd.prog none' w
  refine sR (l := [0, 1, 2]) ?_
  refine wpOps_cons' (mN (l := [.slice cp cs.length kc, .slice dp ds.length kd, i64 z, i64 et]) (t := 24) (v := pt) (d := 2) hA hO ?_)
  clear hA hO fr; intro fr w1 b1 hA hO
  replace hA := hA.sb (e' := [(1, .agg #[.slice cp' cs'.length kc', .slice dp' ds'.length kd', i64 z', i64 et']), (2, pt b1)])
  refine wpOps_cons' (mN (l := [.slice cp' cs'.length kc', .slice dp' ds'.length kd', i64 z', i64 et']) (t := 24) (v := pt) (d := 3) hA hO ?_)
  clear hA hO fr; intro fr w2 b2 hA hO
  replace hA := hA.sb (e' := [(2, pt b1), (3, pt b2)])
  refine ck (l := [2]) (r := []) (e' := [(2, pt b1), (3, pt b2), (4, bl false)]) hA [] c0 ?_
  clear hA fr; intro fr hA
  refine end_ops ?_
  refine then_normal ?_
  refine wp_seq ?_
  refine sR (l := [0, 1]) ?_
  refine wpOps_cons' (mK (f := 6) (args := []) (d := (some 9)) (v := bl true) hA hO Tryd.func6 (awake_any _ (hT.keep hO.only (fun h => h))) ?_)
  clear hA hO fr; intro fr w3 hA hO
  refine ck (l := [1]) (r := []) (e' := [(2, pt b1), (3, pt b2), (4, bl false), (10, bl false)]) hA [] c0 ?_
  clear hA fr; intro fr hA
  refine end_ops ?_
  refine then_normal ?_
  refine cF hA ?_
  refine wp_skip ?_
  refine then_normal ?_
  refine wp_seq ?_
  refine sR (l := (rg 0 8)) ?_
  refine ck (l := [0]) (r := (rg 1 7)) (e' := [(2, pt b1), (3, pt b2), (4, bl false), (11, .agg #[.slice cp cs.length kc, .slice dp ds.length kd, i64 z, i64 et])]) hA [.agg #[.slice cp cs.length kc, .slice dp ds.length kd, i64 z, i64 et]] (cc (hO.ln 1 0 24 [.slice cp cs.length kc, .slice dp ds.length kd, i64 z, i64 et]) c0) ?_
  clear hA fr; intro fr hA
  refine wpOps_cons' (mK (f := 7) (args := [.agg #[.slice cp cs.length kc, .slice dp ds.length kd, i64 z, i64 et]]) (d := (some 12)) (v := bl (decide (cs.length ≤ 2000 ∧ ds.length ≤ 2000))) hA hO Tryd.func7 (few_any cp dp kc kd cs ds z et _) ?_)
  clear hA hO fr; intro fr w4 hA hO
  replace hA := hA.sb (e' := [(2, pt b1), (3, pt b2), (4, bl false), (12, bl (decide (cs.length ≤ 2000 ∧ ds.length ≤ 2000)))])
  refine ck (l := [2, 3]) (r := [4, 5, 6, 7]) (e' := [(2, pt b1), (3, pt b2), (4, bl false), (13, bl (!(decide (cs.length ≤ 2000 ∧ ds.length ≤ 2000)))), (14, bl (!(decide (cs.length ≤ 2000 ∧ ds.length ≤ 2000))))]) hA [] c0 ?_
  clear hA fr; intro fr hA
  replace hA := hA.bool (f := fun z_ => [(2, pt b1), (3, pt b2), (4, bl false), (13, .bool !z_), (14, .bool !z_)]) (decide_eq_true ⟨hc, hd⟩ : (decide (cs.length ≤ 2000 ∧ ds.length ≤ 2000)) = true)
  refine ck (l := [4]) (r := [5, 6, 7]) (e' := [(2, pt b1), (3, pt b2), (4, bl false), (14, bl false), (15, .agg #[.slice cp' cs'.length kc', .slice dp' ds'.length kd', i64 z', i64 et'])]) hA [.agg #[.slice cp' cs'.length kc', .slice dp' ds'.length kd', i64 z', i64 et']] (cc (hO.ln 0 0 24 [.slice cp' cs'.length kc', .slice dp' ds'.length kd', i64 z', i64 et']) c0) ?_
  clear hA fr; intro fr hA
  refine wpOps_cons' (mK (f := 7) (args := [.agg #[.slice cp' cs'.length kc', .slice dp' ds'.length kd', i64 z', i64 et']]) (d := (some 16)) (v := bl (decide (cs'.length ≤ 2000 ∧ ds'.length ≤ 2000))) hA hO Tryd.func7 (few_any cp' dp' kc' kd' cs' ds' z' et' _) ?_)
  clear hA hO fr; intro fr w5 hA hO
  replace hA := hA.sb (e' := [(2, pt b1), (3, pt b2), (4, bl false), (14, bl false), (16, bl (decide (cs'.length ≤ 2000 ∧ ds'.length ≤ 2000)))])
  refine ck (l := [6, 7]) (r := []) (e' := [(2, pt b1), (3, pt b2), (4, bl false), (18, bl (!(decide (cs'.length ≤ 2000 ∧ ds'.length ≤ 2000))))]) hA [] c0 ?_
  clear hA fr; intro fr hA
  refine end_ops ?_
  refine then_normal ?_
  replace hA := hA.bool (f := fun z_ => [(2, pt b1), (3, pt b2), (4, bl false), (18, .bool !z_)]) (decide_eq_false hf : (decide (cs'.length ≤ 2000 ∧ ds'.length ≤ 2000)) = false)
  refine cT hA ?_
  refine sC (e' := [(2, pt b1), (3, pt b2), (4, bl true)]) 1 hA [] c0 ?_
  clear hA fr; intro fr hA
  refine wp_ret ?_
  refine then_ret ?_
  refine cR (cs := [none]) (us := [bl true]) hA [] trivial ?_
  have hF := hO.only; clear hA hO
  exact ⟨by first | rfl | exact congrArg (fun b => Ending.returned (.bool b)) (file_eq hc hc' hd hd' hz hz' het het'), hF⟩

theorem uni_00 (cp dp : Option Addr) (kc kd : Nat) (cs ds : List Int) (z et : Int) (cp' dp' : Option Addr) (kc' kd' : Nat) (cs' ds' : List Int) (z' et' : Int) (w : World) (hT : Tab w) (hs : SlI w (.slice cp cs.length kc) cs) (hs2 : SlI w (.slice dp ds.length kd) ds) (hs' : SlI w (.slice cp' cs'.length kc') cs') (hs2' : SlI w (.slice dp' ds'.length kd') ds') (hkc : cs.length ≤ kc) (hz : inK .i64 z) (het : inK .i64 et) (hkc' : cs'.length ≤ kc') (hz' : inK .i64 z') (het' : inK .i64 et') (hc : cs.length ≤ 2000) (hd : ds.length ≤ 2000) (hc' : cs'.length ≤ 2000) (hd' : ds'.length ≤ 2000) (hno : ¬ (validB cs ((ds.length : Nat) : Int) z et = true ∧ (fileL cs ds z et).length ≤ 1536)) (hno' : ¬ (validB cs' ((ds'.length : Nat) : Int) z' et' = true ∧ (fileL cs' ds' z' et').length ≤ 1536)) :
    Calls Tryd.prog 4 #[.agg #[.slice cp cs.length kc, .slice dp ds.length kd, i64 z, i64 et], .agg #[.slice cp' cs'.length kc', .slice dp' ds'.length kd', i64 z', i64 et']] w fun e w' => e = .returned (.bool true) ∧ Only none' w w' := by
  refine c_enter (args := [.agg #[.slice cp cs.length kc, .slice dp ds.length kd, i64 z, i64 et], .agg #[.slice cp' cs'.length kc', .slice dp' ds'.length kd', i64 z', i64 et']]) (m := 42) (n := 44) Tryd.func4 rfl (by kernel_rfl) (by kernel_rfl) fun fr hA => ?_
  have hO := Ow.nil Tryd.prog none' w
  refine sR (l := [0, 1, 2]) ?_
  refine wpOps_cons' (mN (l := [.slice cp cs.length kc, .slice dp ds.length kd, i64 z, i64 et]) (t := 24) (v := pt) (d := 2) hA hO ?_)
  clear hA hO fr; intro fr w1 b1 hA hO
  replace hA := hA.sb (e' := [(1, .agg #[.slice cp' cs'.length kc', .slice dp' ds'.length kd', i64 z', i64 et']), (2, pt b1)])
  refine wpOps_cons' (mN (l := [.slice cp' cs'.length kc', .slice dp' ds'.length kd', i64 z', i64 et']) (t := 24) (v := pt) (d := 3) hA hO ?_)
  clear hA hO fr; intro fr w2 b2 hA hO
  replace hA := hA.sb (e' := [(2, pt b1), (3, pt b2)])
  refine ck (l := [2]) (r := []) (e' := [(2, pt b1), (3, pt b2), (4, bl false)]) hA [] c0 ?_
  clear hA fr; intro fr hA
  refine end_ops ?_
  refine then_normal ?_
  refine wp_seq ?_
  refine sR (l := [0, 1]) ?_
  refine wpOps_cons' (mK (f := 6) (args := []) (d := (some 9)) (v := bl true) hA hO Tryd.func6 (awake_any _ (hT.keep hO.only (fun h => h))) ?_)
  clear hA hO fr; intro fr w3 hA hO
  refine ck (l := [1]) (r := []) (e' := [(2, pt b1), (3, pt b2), (4, bl false), (10, bl false)]) hA [] c0 ?_
  clear hA fr; intro fr hA
  refine end_ops ?_
  refine then_normal ?_
  refine cF hA ?_
  refine wp_skip ?_
  refine then_normal ?_
  refine wp_seq ?_
  refine sR (l := (rg 0 8)) ?_
  refine ck (l := [0]) (r := (rg 1 7)) (e' := [(2, pt b1), (3, pt b2), (4, bl false), (11, .agg #[.slice cp cs.length kc, .slice dp ds.length kd, i64 z, i64 et])]) hA [.agg #[.slice cp cs.length kc, .slice dp ds.length kd, i64 z, i64 et]] (cc (hO.ln 1 0 24 [.slice cp cs.length kc, .slice dp ds.length kd, i64 z, i64 et]) c0) ?_
  clear hA fr; intro fr hA
  refine wpOps_cons' (mK (f := 7) (args := [.agg #[.slice cp cs.length kc, .slice dp ds.length kd, i64 z, i64 et]]) (d := (some 12)) (v := bl (decide (cs.length ≤ 2000 ∧ ds.length ≤ 2000))) hA hO Tryd.func7 (few_any cp dp kc kd cs ds z et _) ?_)
  clear hA hO fr; intro fr w4 hA hO
  replace hA := hA.sb (e' := [(2, pt b1), (3, pt b2), (4, bl false), (12, bl (decide (cs.length ≤ 2000 ∧ ds.length ≤ 2000)))])
  refine ck (l := [2, 3]) (r := [4, 5, 6, 7]) (e' := [(2, pt b1), (3, pt b2), (4, bl false), (13, bl (!(decide (cs.length ≤ 2000 ∧ ds.length ≤ 2000)))), (14, bl (!(decide (cs.length ≤ 2000 ∧ ds.length ≤ 2000))))]) hA [] c0 ?_
  clear hA fr; intro fr hA
  replace hA := hA.bool (f := fun z_ => [(2, pt b1), (3, pt b2), (4, bl false), (13, .bool !z_), (14, .bool !z_)]) (decide_eq_true ⟨hc, hd⟩ : (decide (cs.length ≤ 2000 ∧ ds.length ≤ 2000)) = true)
  refine ck (l := [4]) (r := [5, 6, 7]) (e' := [(2, pt b1), (3, pt b2), (4, bl false), (14, bl false), (15, .agg #[.slice cp' cs'.length kc', .slice dp' ds'.length kd', i64 z', i64 et'])]) hA [.agg #[.slice cp' cs'.length kc', .slice dp' ds'.length kd', i64 z', i64 et']] (cc (hO.ln 0 0 24 [.slice cp' cs'.length kc', .slice dp' ds'.length kd', i64 z', i64 et']) c0) ?_
  clear hA fr; intro fr hA
  refine wpOps_cons' (mK (f := 7) (args := [.agg #[.slice cp' cs'.length kc', .slice dp' ds'.length kd', i64 z', i64 et']]) (d := (some 16)) (v := bl (decide (cs'.length ≤ 2000 ∧ ds'.length ≤ 2000))) hA hO Tryd.func7 (few_any cp' dp' kc' kd' cs' ds' z' et' _) ?_)
  clear hA hO fr; intro fr w5 hA hO
  replace hA := hA.sb (e' := [(2, pt b1), (3, pt b2), (4, bl false), (14, bl false), (16, bl (decide (cs'.length ≤ 2000 ∧ ds'.length ≤ 2000)))])
  refine ck (l := [6, 7]) (r := []) (e' := [(2, pt b1), (3, pt b2), (4, bl false), (18, bl (!(decide (cs'.length ≤ 2000 ∧ ds'.length ≤ 2000))))]) hA [] c0 ?_
  clear hA fr; intro fr hA
  refine end_ops ?_
  refine then_normal ?_
  replace hA := hA.bool (f := fun z_ => [(2, pt b1), (3, pt b2), (4, bl false), (18, .bool !z_)]) (decide_eq_true ⟨hc', hd'⟩ : (decide (cs'.length ≤ 2000 ∧ ds'.length ≤ 2000)) = true)
  refine cF hA ?_
  refine wp_skip ?_
  refine then_normal ?_
  refine sR (l := (rg 0 7)) ?_
  refine ck (l := [0]) (r := (rg 1 6)) (e' := [(2, pt b1), (3, pt b2), (4, bl false), (20, .agg #[.slice cp cs.length kc, .slice dp ds.length kd, i64 z, i64 et])]) hA [.agg #[.slice cp cs.length kc, .slice dp ds.length kd, i64 z, i64 et]] (cc (hO.ln 1 0 24 [.slice cp cs.length kc, .slice dp ds.length kd, i64 z, i64 et]) c0) ?_
  clear hA fr; intro fr hA
  refine wpOps_cons' (mC (f := 12) (args := [.agg #[.slice cp cs.length kc, .slice dp ds.length kd, i64 z, i64 et]]) (d := (some 21)) hA Tryd.func12 ((make_no cp dp kc kd cs ds z et _ hc hd (hT.keep hO.only (fun h => h)) (hs.keep hO.only) hkc (hs2.keep hO.only) hno hz het).mono ?_))
  rintro en w6 ⟨er1, rfl, hne_er1, ho⟩
  refine ⟨_, rfl, ?_⟩
  clear hA fr; intro fr hA
  replace hO := hO.st ho; clear ho
  replace hA := hA.sb (e' := [(2, pt b1), (3, pt b2), (4, bl false), (21, .tuple #[.slice none 0 0, i64 er1])])
  refine ck (l := (rg 2 5)) (r := []) (e' := [(2, pt b1), (3, pt b2), (4, bl false), (5, .slice none 0 0), (6, i64 er1)]) hA [] c0 ?_
  clear hA fr; intro fr hA
  refine end_ops ?_
  refine then_normal ?_
  refine sR (l := (rg 0 7)) ?_
  refine ck (l := [0]) (r := (rg 1 6)) (e' := [(2, pt b1), (3, pt b2), (4, bl false), (5, .slice none 0 0), (6, i64 er1), (25, .agg #[.slice cp' cs'.length kc', .slice dp' ds'.length kd', i64 z', i64 et'])]) hA [.agg #[.slice cp' cs'.length kc', .slice dp' ds'.length kd', i64 z', i64 et']] (cc (hO.ln 0 0 24 [.slice cp' cs'.length kc', .slice dp' ds'.length kd', i64 z', i64 et']) c0) ?_
  clear hA fr; intro fr hA
  refine wpOps_cons' (mC (f := 12) (args := [.agg #[.slice cp' cs'.length kc', .slice dp' ds'.length kd', i64 z', i64 et']]) (d := (some 26)) hA Tryd.func12 ((make_no cp' dp' kc' kd' cs' ds' z' et' _ hc' hd' (hT.keep hO.only (fun h => h)) (hs'.keep hO.only) hkc' (hs2'.keep hO.only) hno' hz' het').mono ?_))
  rintro en w7 ⟨er2, rfl, hne_er2, ho⟩
  refine ⟨_, rfl, ?_⟩
  clear hA fr; intro fr hA
  replace hO := hO.st ho; clear ho
  replace hA := hA.sb (e' := [(2, pt b1), (3, pt b2), (4, bl false), (5, .slice none 0 0), (6, i64 er1), (26, .tuple #[.slice none 0 0, i64 er2])])
  refine ck (l := (rg 2 5)) (r := []) (e' := [(2, pt b1), (3, pt b2), (4, bl false), (5, .slice none 0 0), (6, i64 er1), (7, .slice none 0 0), (8, i64 er2)]) hA [] c0 ?_
  clear hA fr; intro fr hA
  refine end_ops ?_
  refine then_normal ?_
  refine wp_seq ?_
  have hS := hO
  refine rP [(0, true), (1, true), (2, true), (3, true), (4, true), (5, true), (6, true), (7, true), (8, true), (10, true), (11, true), (9, false), (12, false), (13, true), (14, true), (15, true)] hS ?_
  intro w8 ho; replace hO := hO.st ho; clear ho
  refine ckS (l := [0, 1, 2]) (r := [(3, true), (4, true), (5, true), (6, true), (7, true), (8, true), (10, true), (11, true), (9, false), (12, false), (13, true), (14, true), (15, true)]) (e' := [(2, pt b1), (3, pt b2), (4, bl false), (5, .slice none 0 0), (7, .slice none 0 0), (8, i64 er2), (30, bl (er1 != 0)), (31, bl (er1 != 0))]) hA [] c0 ?_
  clear hA fr; intro fr hA
  replace hA := hA.bool (f := fun z_ => [(2, pt b1), (3, pt b2), (4, bl false), (5, .slice none 0 0), (7, .slice none 0 0), (8, i64 er2), (30, .bool z_), (31, .bool z_)]) (bne_iff_ne.2 (by assumption) : (er1 != 0) = true)
  refine ckS (l := [3, 4, 5, 6, 7, 8, 10, 11]) (r := [(9, false), (12, false), (13, true), (14, true), (15, true)]) (e' := [(4, bl false), (35, bl true), (36, .tuple #[]), (37, .tuple #[]), (39, .tuple #[]), (40, .tuple #[])]) hA [] c0 ?_
  clear hA fr; intro fr hA
  refine plan_mem (m_skip (d := (some 38)) hA (by kernel_rfl) (by kernel_rfl) ?_)
  clear hA fr; intro fr hA
  refine ⟨hO, ?_⟩
  replace hA := hA.sb (e' := [(4, bl false), (35, bl true), (38, .tuple #[]), (39, .tuple #[]), (40, .tuple #[])])
  refine plan_mem (m_skip (d := (some 41)) hA (by kernel_rfl) (by kernel_rfl) ?_)
  clear hA fr; intro fr hA
  refine ⟨hO, ?_⟩
  replace hA := hA.sb (e' := [(4, bl false), (35, bl true), (38, .tuple #[]), (41, .tuple #[])])
  refine ckS (l := [13, 14, 15]) (r := []) (e' := [(4, bl true)]) hA [] c0 ?_
  clear hA fr; intro fr hA
  refine end_plan ?_
  refine then_normal ?_
  refine wp_ret ?_
  refine cR (cs := [none]) (us := [bl true]) hA [] trivial ?_
  have hF := hO.only; clear hA hO
  exact ⟨by first | rfl | exact congrArg (fun b => Ending.returned (.bool b)) (file_eq hc hc' hd hd' hz hz' het het'), hF⟩

theorem uni_01 (cp dp : Option Addr) (kc kd : Nat) (cs ds : List Int) (z et : Int) (cp' dp' : Option Addr) (kc' kd' : Nat) (cs' ds' : List Int) (z' et' : Int) (w : World) (hT : Tab w) (hs : SlI w (.slice cp cs.length kc) cs) (hs2 : SlI w (.slice dp ds.length kd) ds) (hs' : SlI w (.slice cp' cs'.length kc') cs') (hs2' : SlI w (.slice dp' ds'.length kd') ds') (hkc : cs.length ≤ kc) (hz : inK .i64 z) (het : inK .i64 et) (hkc' : cs'.length ≤ kc') (hz' : inK .i64 z') (het' : inK .i64 et') (hc : cs.length ≤ 2000) (hd : ds.length ≤ 2000) (hc' : cs'.length ≤ 2000) (hd' : ds'.length ≤ 2000) (hno : ¬ (validB cs ((ds.length : Nat) : Int) z et = true ∧ (fileL cs ds z et).length ≤ 1536)) (hv' : validB cs' ((ds'.length : Nat) : Int) z' et' = true) (hbig' : (fileL cs' ds' z' et').length ≤ 1536) :
    Calls Tryd.prog 4 #[.agg #[.slice cp cs.length kc, .slice dp ds.length kd, i64 z, i64 et], .agg #[.slice cp' cs'.length kc', .slice dp' ds'.length kd', i64 z', i64 et']] w fun e w' => e = .returned (.bool true) ∧ Only none' w w' := by
  refine c_enter (args := [.agg #[.slice cp cs.length kc, .slice dp ds.length kd, i64 z, i64 et], .agg #[.slice cp' cs'.length kc', .slice dp' ds'.length kd', i64 z', i64 et']]) (m := 42) (n := 44) Tryd.func4 rfl (by kernel_rfl) (by kernel_rfl) fun fr hA => ?_
  have hO := Ow.nil Tryd.prog none' w
  refine sR (l := [0, 1, 2]) ?_
  refine wpOps_cons' (mN (l := [.slice cp cs.length kc, .slice dp ds.length kd, i64 z, i64 et]) (t := 24) (v := pt) (d := 2) hA hO ?_)
  clear hA hO fr; intro fr w1 b1 hA hO
  replace hA := hA.sb (e' := [(1, .agg #[.slice cp' cs'.length kc', .slice dp' ds'.length kd', i64 z', i64 et']), (2, pt b1)])
  refine wpOps_cons' (mN (l := [.slice cp' cs'.length kc', .slice dp' ds'.length kd', i64 z', i64 et']) (t := 24) (v := pt) (d := 3) hA hO ?_)
  clear hA hO fr; intro fr w2 b2 hA hO
  replace hA := hA.sb (e' := [(2, pt b1), (3, pt b2)])
  refine ck (l := [2]) (r := []) (e' := [(2, pt b1), (3, pt b2), (4, bl false)]) hA [] c0 ?_
  clear hA fr; intro fr hA
  refine end_ops ?_
  refine then_normal ?_
  refine wp_seq ?_
  refine sR (l := [0, 1]) ?_
  refine wpOps_cons' (mK (f := 6) (args := []) (d := (some 9)) (v := bl true) hA hO Tryd.func6 (awake_any _ (hT.keep hO.only (fun h => h))) ?_)
  clear hA hO fr; intro fr w3 hA hO
  refine ck (l := [1]) (r := []) (e' := [(2, pt b1), (3, pt b2), (4, bl false), (10, bl false)]) hA [] c0 ?_
  clear hA fr; intro fr hA
  refine end_ops ?_
  refine then_normal ?_
  refine cF hA ?_
  refine wp_skip ?_
  refine then_normal ?_
  refine wp_seq ?_
  refine sR (l := (rg 0 8)) ?_
  refine ck (l := [0]) (r := (rg 1 7)) (e' := [(2, pt b1), (3, pt b2), (4, bl false), (11, .agg #[.slice cp cs.length kc, .slice dp ds.length kd, i64 z, i64 et])]) hA [.agg #[.slice cp cs.length kc, .slice dp ds.length kd, i64 z, i64 et]] (cc (hO.ln 1 0 24 [.slice cp cs.length kc, .slice dp ds.length kd, i64 z, i64 et]) c0) ?_
  clear hA fr; intro fr hA
  refine wpOps_cons' (mK (f := 7) (args := [.agg #[.slice cp cs.length kc, .slice dp ds.length kd, i64 z, i64 et]]) (d := (some 12)) (v := bl (decide (cs.length ≤ 2000 ∧ ds.length ≤ 2000))) hA hO Tryd.func7 (few_any cp dp kc kd cs ds z et _) ?_)
  clear hA hO fr; intro fr w4 hA hO
  replace hA := hA.sb (e' := [(2, pt b1), (3, pt b2), (4, bl false), (12, bl (decide (cs.length ≤ 2000 ∧ ds.length ≤ 2000)))])
  refine ck (l := [2, 3]) (r := [4, 5, 6, 7]) (e' := [(2, pt b1), (3, pt b2), (4, bl false), (13, bl (!(decide (cs.length ≤ 2000 ∧ ds.length ≤ 2000)))), (14, bl (!(decide (cs.length ≤ 2000 ∧ ds.length ≤ 2000))))]) hA [] c0 ?_
  clear hA fr; intro fr hA
  replace hA := hA.bool (f := fun z_ => [(2, pt b1), (3, pt b2), (4, bl false), (13, .bool !z_), (14, .bool !z_)]) (decide_eq_true ⟨hc, hd⟩ : (decide (cs.length ≤ 2000 ∧ ds.length ≤ 2000)) = true)
  refine ck (l := [4]) (r := [5, 6, 7]) (e' := [(2, pt b1), (3, pt b2), (4, bl false), (14, bl false), (15, .agg #[.slice cp' cs'.length kc', .slice dp' ds'.length kd', i64 z', i64 et'])]) hA [.agg #[.slice cp' cs'.length kc', .slice dp' ds'.length kd', i64 z', i64 et']] (cc (hO.ln 0 0 24 [.slice cp' cs'.length kc', .slice dp' ds'.length kd', i64 z', i64 et']) c0) ?_
  clear hA fr; intro fr hA
  refine wpOps_cons' (mK (f := 7) (args := [.agg #[.slice cp' cs'.length kc', .slice dp' ds'.length kd', i64 z', i64 et']]) (d := (some 16)) (v := bl (decide (cs'.length ≤ 2000 ∧ ds'.length ≤ 2000))) hA hO Tryd.func7 (few_any cp' dp' kc' kd' cs' ds' z' et' _) ?_)
  clear hA hO fr; intro fr w5 hA hO
  replace hA := hA.sb (e' := [(2, pt b1), (3, pt b2), (4, bl false), (14, bl false), (16, bl (decide (cs'.length ≤ 2000 ∧ ds'.length ≤ 2000)))])
  refine ck (l := [6, 7]) (r := []) (e' := [(2, pt b1), (3, pt b2), (4, bl false), (18, bl (!(decide (cs'.length ≤ 2000 ∧ ds'.length ≤ 2000))))]) hA [] c0 ?_
  clear hA fr; intro fr hA
  refine end_ops ?_
  refine then_normal ?_
  replace hA := hA.bool (f := fun z_ => [(2, pt b1), (3, pt b2), (4, bl false), (18, .bool !z_)]) (decide_eq_true ⟨hc', hd'⟩ : (decide (cs'.length ≤ 2000 ∧ ds'.length ≤ 2000)) = true)
  refine cF hA ?_
  refine wp_skip ?_
  refine then_normal ?_
  refine sR (l := (rg 0 7)) ?_
  refine ck (l := [0]) (r := (rg 1 6)) (e' := [(2, pt b1), (3, pt b2), (4, bl false), (20, .agg #[.slice cp cs.length kc, .slice dp ds.length kd, i64 z, i64 et])]) hA [.agg #[.slice cp cs.length kc, .slice dp ds.length kd, i64 z, i64 et]] (cc (hO.ln 1 0 24 [.slice cp cs.length kc, .slice dp ds.length kd, i64 z, i64 et]) c0) ?_
  clear hA fr; intro fr hA
  refine wpOps_cons' (mC (f := 12) (args := [.agg #[.slice cp cs.length kc, .slice dp ds.length kd, i64 z, i64 et]]) (d := (some 21)) hA Tryd.func12 ((make_no cp dp kc kd cs ds z et _ hc hd (hT.keep hO.only (fun h => h)) (hs.keep hO.only) hkc (hs2.keep hO.only) hno hz het).mono ?_))
  rintro en w6 ⟨er1, rfl, hne_er1, ho⟩
  refine ⟨_, rfl, ?_⟩
  clear hA fr; intro fr hA
  replace hO := hO.st ho; clear ho
  replace hA := hA.sb (e' := [(2, pt b1), (3, pt b2), (4, bl false), (21, .tuple #[.slice none 0 0, i64 er1])])
  refine ck (l := (rg 2 5)) (r := []) (e' := [(2, pt b1), (3, pt b2), (4, bl false), (5, .slice none 0 0), (6, i64 er1)]) hA [] c0 ?_
  clear hA fr; intro fr hA
  refine end_ops ?_
  refine then_normal ?_
  refine sR (l := (rg 0 7)) ?_
  refine ck (l := [0]) (r := (rg 1 6)) (e' := [(2, pt b1), (3, pt b2), (4, bl false), (5, .slice none 0 0), (6, i64 er1), (25, .agg #[.slice cp' cs'.length kc', .slice dp' ds'.length kd', i64 z', i64 et'])]) hA [.agg #[.slice cp' cs'.length kc', .slice dp' ds'.length kd', i64 z', i64 et']] (cc (hO.ln 0 0 24 [.slice cp' cs'.length kc', .slice dp' ds'.length kd', i64 z', i64 et']) c0) ?_
  clear hA fr; intro fr hA
  refine wpOps_cons' (mC (f := 12) (args := [.agg #[.slice cp' cs'.length kc', .slice dp' ds'.length kd', i64 z', i64 et']]) (d := (some 26)) hA Tryd.func12 ((make_ok cp' dp' kc' kd' cs' ds' z' et' _ hc' hd' (hT.keep hO.only (fun h => h)) (hs'.keep hO.only) hkc' (hs2'.keep hO.only) hv' hz' het' hbig').mono ?_))
  rintro en w7 ⟨p1, c1, T1, rfl, hW, hT1⟩
  refine ⟨_, rfl, ?_⟩
  clear hA fr; intro fr hA
  have huT1 : U8s (fileL cs' ds' z' et') := file_u8 hs' hs2'
  replace hO := Ow.join hO hW; clear hW
  replace hO : Ow Tryd.prog none' w w7 ([(b2, 24, [.slice cp' cs'.length kc', .slice dp' ds'.length kd', i64 z', i64 et']), (b1, 24, [.slice cp cs.length kc, .slice dp ds.length kd, i64 z, i64 et])] ++ (T1 ++ ([]))) := hO.to (by simp only [List.append_assoc, List.cons_append, List.nil_append, List.append_nil])
  replace hA := hA.sb (e' := [(2, pt b1), (3, pt b2), (4, bl false), (5, .slice none 0 0), (6, i64 er1), (26, .tuple #[.slice p1 ((fileL cs' ds' z' et').length) c1, i64 0])])
  refine ck (l := (rg 2 5)) (r := []) (e' := [(2, pt b1), (3, pt b2), (4, bl false), (5, .slice none 0 0), (6, i64 er1), (7, .slice p1 ((fileL cs' ds' z' et').length) c1), (8, i64 0)]) hA [] c0 ?_
  clear hA fr; intro fr hA
  refine end_ops ?_
  refine then_normal ?_
  refine wp_seq ?_
  have hS : Ow Tryd.prog none' w _ [(b2, 24, [.slice cp' cs'.length kc', .slice dp' ds'.length kd', i64 z', i64 et']), (b1, 24, [.slice cp cs.length kc, .slice dp ds.length kd, i64 z, i64 et])] := hO.sub [0, 1]
  refine rP [(0, true), (1, true), (2, true), (3, true), (4, true), (5, true), (6, true), (7, true), (8, true), (10, true), (11, true), (9, false), (12, false), (13, true), (14, true), (15, true)] hS ?_
  intro w8 ho; replace hO := hO.st ho; clear ho
  refine ckS (l := [0, 1, 2]) (r := [(3, true), (4, true), (5, true), (6, true), (7, true), (8, true), (10, true), (11, true), (9, false), (12, false), (13, true), (14, true), (15, true)]) (e' := [(2, pt b1), (3, pt b2), (4, bl false), (5, .slice none 0 0), (7, .slice p1 ((fileL cs' ds' z' et').length) c1), (8, i64 0), (30, bl (er1 != 0)), (31, bl (er1 != 0))]) hA [] c0 ?_
  clear hA fr; intro fr hA
  replace hA := hA.bool (f := fun z_ => [(2, pt b1), (3, pt b2), (4, bl false), (5, .slice none 0 0), (7, .slice p1 ((fileL cs' ds' z' et').length) c1), (8, i64 0), (30, .bool z_), (31, .bool z_)]) (bne_iff_ne.2 (by assumption) : (er1 != 0) = true)
  refine ckS (l := [3, 4, 5, 6, 7, 8, 10, 11]) (r := [(9, false), (12, false), (13, true), (14, true), (15, true)]) (e' := [(4, bl false), (35, bl true), (36, .tuple #[]), (37, .tuple #[]), (39, .tuple #[]), (40, .tuple #[])]) hA [] c0 ?_
  clear hA fr; intro fr hA
  refine plan_mem (m_skip (d := (some 38)) hA (by kernel_rfl) (by kernel_rfl) ?_)
  clear hA fr; intro fr hA
  refine ⟨(hO.sub [0, 1]), ?_⟩
  replace hA := hA.sb (e' := [(4, bl false), (35, bl true), (38, .tuple #[]), (39, .tuple #[]), (40, .tuple #[])])
  refine plan_mem (m_skip (d := (some 41)) hA (by kernel_rfl) (by kernel_rfl) ?_)
  clear hA fr; intro fr hA
  refine ⟨(hO.sub [0, 1]), ?_⟩
  replace hA := hA.sb (e' := [(4, bl false), (35, bl true), (38, .tuple #[]), (41, .tuple #[])])
  refine ckS (l := [13, 14, 15]) (r := []) (e' := [(4, bl true)]) hA [] c0 ?_
  clear hA fr; intro fr hA
  refine end_plan ?_
  refine then_normal ?_
  refine wp_ret ?_
  refine cR (cs := [none]) (us := [bl true]) hA [] trivial ?_
  have hF := hO.only; clear hA hO
  exact ⟨by first | rfl | exact congrArg (fun b => Ending.returned (.bool b)) (file_eq hc hc' hd hd' hz hz' het het'), hF⟩

theorem uni_10 (cp dp : Option Addr) (kc kd : Nat) (cs ds : List Int) (z et : Int) (cp' dp' : Option Addr) (kc' kd' : Nat) (cs' ds' : List Int) (z' et' : Int) (w : World) (hT : Tab w) (hs : SlI w (.slice cp cs.length kc) cs) (hs2 : SlI w (.slice dp ds.length kd) ds) (hs' : SlI w (.slice cp' cs'.length kc') cs') (hs2' : SlI w (.slice dp' ds'.length kd') ds') (hkc : cs.length ≤ kc) (hz : inK .i64 z) (het : inK .i64 et) (hkc' : cs'.length ≤ kc') (hz' : inK .i64 z') (het' : inK .i64 et') (hc : cs.length ≤ 2000) (hd : ds.length ≤ 2000) (hc' : cs'.length ≤ 2000) (hd' : ds'.length ≤ 2000) (hv : validB cs ((ds.length : Nat) : Int) z et = true) (hbig : (fileL cs ds z et).length ≤ 1536) (hno' : ¬ (validB cs' ((ds'.length : Nat) : Int) z' et' = true ∧ (fileL cs' ds' z' et').length ≤ 1536)) :
    Calls Tryd.prog 4 #[.agg #[.slice cp cs.length kc, .slice dp ds.length kd, i64 z, i64 et], .agg #[.slice cp' cs'.length kc', .slice dp' ds'.length kd', i64 z', i64 et']] w fun e w' => e = .returned (.bool true) ∧ Only none' w w' := by
  refine c_enter (args := [.agg #[.slice cp cs.length kc, .slice dp ds.length kd, i64 z, i64 et], .agg #[.slice cp' cs'.length kc', .slice dp' ds'.length kd', i64 z', i64 et']]) (m := 42) (n := 44) Tryd.func4 rfl (by kernel_rfl) (by kernel_rfl) fun fr hA => ?_
  have hO := Ow.nil Tryd.prog none' w
  refine sR (l := [0, 1, 2]) ?_
  refine wpOps_cons' (mN (l := [.slice cp cs.length kc, .slice dp ds.length kd, i64 z, i64 et]) (t := 24) (v := pt) (d := 2) hA hO ?_)
  clear hA hO fr; intro fr w1 b1 hA hO
  replace hA := hA.sb (e' := [(1, .agg #[.slice cp' cs'.length kc', .slice dp' ds'.length kd', i64 z', i64 et']), (2, pt b1)])
  refine wpOps_cons' (mN (l := [.slice cp' cs'.length kc', .slice dp' ds'.length kd', i64 z', i64 et']) (t := 24) (v := pt) (d := 3) hA hO ?_)
  clear hA hO fr; intro fr w2 b2 hA hO
  replace hA := hA.sb (e' := [(2, pt b1), (3, pt b2)])
  refine ck (l := [2]) (r := []) (e' := [(2, pt b1), (3, pt b2), (4, bl false)]) hA [] c0 ?_
  clear hA fr; intro fr hA
  refine end_ops ?_
  refine then_normal ?_
  refine wp_seq ?_
  refine sR (l := [0, 1]) ?_
  refine wpOps_cons' (mK (f := 6) (args := []) (d := (some 9)) (v := bl true) hA hO Tryd.func6 (awake_any _ (hT.keep hO.only (fun h => h))) ?_)
  clear hA hO fr; intro fr w3 hA hO
  refine ck (l := [1]) (r := []) (e' := [(2, pt b1), (3, pt b2), (4, bl false), (10, bl false)]) hA [] c0 ?_
  clear hA fr; intro fr hA
  refine end_ops ?_
  refine then_normal ?_
  refine cF hA ?_
  refine wp_skip ?_
  refine then_normal ?_
  refine wp_seq ?_
  refine sR (l := (rg 0 8)) ?_
  refine ck (l := [0]) (r := (rg 1 7)) (e' := [(2, pt b1), (3, pt b2), (4, bl false), (11, .agg #[.slice cp cs.length kc, .slice dp ds.length kd, i64 z, i64 et])]) hA [.agg #[.slice cp cs.length kc, .slice dp ds.length kd, i64 z, i64 et]] (cc (hO.ln 1 0 24 [.slice cp cs.length kc, .slice dp ds.length kd, i64 z, i64 et]) c0) ?_
  clear hA fr; intro fr hA
  refine wpOps_cons' (mK (f := 7) (args := [.agg #[.slice cp cs.length kc, .slice dp ds.length kd, i64 z, i64 et]]) (d := (some 12)) (v := bl (decide (cs.length ≤ 2000 ∧ ds.length ≤ 2000))) hA hO Tryd.func7 (few_any cp dp kc kd cs ds z et _) ?_)
  clear hA hO fr; intro fr w4 hA hO
  replace hA := hA.sb (e' := [(2, pt b1), (3, pt b2), (4, bl false), (12, bl (decide (cs.length ≤ 2000 ∧ ds.length ≤ 2000)))])
  refine ck (l := [2, 3]) (r := [4, 5, 6, 7]) (e' := [(2, pt b1), (3, pt b2), (4, bl false), (13, bl (!(decide (cs.length ≤ 2000 ∧ ds.length ≤ 2000)))), (14, bl (!(decide (cs.length ≤ 2000 ∧ ds.length ≤ 2000))))]) hA [] c0 ?_
  clear hA fr; intro fr hA
  replace hA := hA.bool (f := fun z_ => [(2, pt b1), (3, pt b2), (4, bl false), (13, .bool !z_), (14, .bool !z_)]) (decide_eq_true ⟨hc, hd⟩ : (decide (cs.length ≤ 2000 ∧ ds.length ≤ 2000)) = true)
  refine ck (l := [4]) (r := [5, 6, 7]) (e' := [(2, pt b1), (3, pt b2), (4, bl false), (14, bl false), (15, .agg #[.slice cp' cs'.length kc', .slice dp' ds'.length kd', i64 z', i64 et'])]) hA [.agg #[.slice cp' cs'.length kc', .slice dp' ds'.length kd', i64 z', i64 et']] (cc (hO.ln 0 0 24 [.slice cp' cs'.length kc', .slice dp' ds'.length kd', i64 z', i64 et']) c0) ?_
  clear hA fr; intro fr hA
  refine wpOps_cons' (mK (f := 7) (args := [.agg #[.slice cp' cs'.length kc', .slice dp' ds'.length kd', i64 z', i64 et']]) (d := (some 16)) (v := bl (decide (cs'.length ≤ 2000 ∧ ds'.length ≤ 2000))) hA hO Tryd.func7 (few_any cp' dp' kc' kd' cs' ds' z' et' _) ?_)
  clear hA hO fr; intro fr w5 hA hO
  replace hA := hA.sb (e' := [(2, pt b1), (3, pt b2), (4, bl false), (14, bl false), (16, bl (decide (cs'.length ≤ 2000 ∧ ds'.length ≤ 2000)))])
  refine ck (l := [6, 7]) (r := []) (e' := [(2, pt b1), (3, pt b2), (4, bl false), (18, bl (!(decide (cs'.length ≤ 2000 ∧ ds'.length ≤ 2000))))]) hA [] c0 ?_
  clear hA fr; intro fr hA
  refine end_ops ?_
  refine then_normal ?_
  replace hA := hA.bool (f := fun z_ => [(2, pt b1), (3, pt b2), (4, bl false), (18, .bool !z_)]) (decide_eq_true ⟨hc', hd'⟩ : (decide (cs'.length ≤ 2000 ∧ ds'.length ≤ 2000)) = true)
  refine cF hA ?_
  refine wp_skip ?_
  refine then_normal ?_
  refine sR (l := (rg 0 7)) ?_
  refine ck (l := [0]) (r := (rg 1 6)) (e' := [(2, pt b1), (3, pt b2), (4, bl false), (20, .agg #[.slice cp cs.length kc, .slice dp ds.length kd, i64 z, i64 et])]) hA [.agg #[.slice cp cs.length kc, .slice dp ds.length kd, i64 z, i64 et]] (cc (hO.ln 1 0 24 [.slice cp cs.length kc, .slice dp ds.length kd, i64 z, i64 et]) c0) ?_
  clear hA fr; intro fr hA
  refine wpOps_cons' (mC (f := 12) (args := [.agg #[.slice cp cs.length kc, .slice dp ds.length kd, i64 z, i64 et]]) (d := (some 21)) hA Tryd.func12 ((make_ok cp dp kc kd cs ds z et _ hc hd (hT.keep hO.only (fun h => h)) (hs.keep hO.only) hkc (hs2.keep hO.only) hv hz het hbig).mono ?_))
  rintro en w6 ⟨p1, c1, T1, rfl, hW, hT1⟩
  refine ⟨_, rfl, ?_⟩
  clear hA fr; intro fr hA
  have huT1 : U8s (fileL cs ds z et) := file_u8 hs hs2
  replace hO := Ow.join hO hW; clear hW
  replace hO : Ow Tryd.prog none' w w6 ([(b2, 24, [.slice cp' cs'.length kc', .slice dp' ds'.length kd', i64 z', i64 et']), (b1, 24, [.slice cp cs.length kc, .slice dp ds.length kd, i64 z, i64 et])] ++ (T1 ++ ([]))) := hO.to (by simp only [List.append_assoc, List.cons_append, List.nil_append, List.append_nil])
  replace hA := hA.sb (e' := [(2, pt b1), (3, pt b2), (4, bl false), (21, .tuple #[.slice p1 ((fileL cs ds z et).length) c1, i64 0])])
  refine ck (l := (rg 2 5)) (r := []) (e' := [(2, pt b1), (3, pt b2), (4, bl false), (5, .slice p1 ((fileL cs ds z et).length) c1), (6, i64 0)]) hA [] c0 ?_
  clear hA fr; intro fr hA
  refine end_ops ?_
  refine then_normal ?_
  refine sR (l := (rg 0 7)) ?_
  refine ck (l := [0]) (r := (rg 1 6)) (e' := [(2, pt b1), (3, pt b2), (4, bl false), (5, .slice p1 ((fileL cs ds z et).length) c1), (6, i64 0), (25, .agg #[.slice cp' cs'.length kc', .slice dp' ds'.length kd', i64 z', i64 et'])]) hA [.agg #[.slice cp' cs'.length kc', .slice dp' ds'.length kd', i64 z', i64 et']] (cc (hO.ln 0 0 24 [.slice cp' cs'.length kc', .slice dp' ds'.length kd', i64 z', i64 et']) c0) ?_
  clear hA fr; intro fr hA
  refine wpOps_cons' (mC (f := 12) (args := [.agg #[.slice cp' cs'.length kc', .slice dp' ds'.length kd', i64 z', i64 et']]) (d := (some 26)) hA Tryd.func12 ((make_no cp' dp' kc' kd' cs' ds' z' et' _ hc' hd' (hT.keep hO.only (fun h => h)) (hs'.keep hO.only) hkc' (hs2'.keep hO.only) hno' hz' het').mono ?_))
  rintro en w7 ⟨er1, rfl, hne_er1, ho⟩
  refine ⟨_, rfl, ?_⟩
  clear hA fr; intro fr hA
  replace hO := hO.st ho; clear ho
  replace hA := hA.sb (e' := [(2, pt b1), (3, pt b2), (4, bl false), (5, .slice p1 ((fileL cs ds z et).length) c1), (6, i64 0), (26, .tuple #[.slice none 0 0, i64 er1])])
  refine ck (l := (rg 2 5)) (r := []) (e' := [(2, pt b1), (3, pt b2), (4, bl false), (5, .slice p1 ((fileL cs ds z et).length) c1), (6, i64 0), (7, .slice none 0 0), (8, i64 er1)]) hA [] c0 ?_
  clear hA fr; intro fr hA
  refine end_ops ?_
  refine then_normal ?_
  refine wp_seq ?_
  have hS : Ow Tryd.prog none' w _ [(b2, 24, [.slice cp' cs'.length kc', .slice dp' ds'.length kd', i64 z', i64 et']), (b1, 24, [.slice cp cs.length kc, .slice dp ds.length kd, i64 z, i64 et])] := hO.sub [0, 1]
  refine rP [(0, true), (1, true), (2, true), (3, true), (4, true), (5, true), (6, true), (7, true), (8, true), (10, true), (11, true), (9, false), (12, false), (13, true), (14, true), (15, true)] hS ?_
  intro w8 ho; replace hO := hO.st ho; clear ho
  refine ckS (l := (rg 0 7)) (r := [(7, true), (8, true), (10, true), (11, true), (9, false), (12, false), (13, true), (14, true), (15, true)]) (e' := [(2, pt b1), (3, pt b2), (4, bl false), (5, .slice p1 ((fileL cs ds z et).length) c1), (7, .slice none 0 0), (33, bl (er1 != 0)), (34, bl (er1 != 0)), (35, bl (er1 != 0))]) hA [] c0 ?_
  clear hA fr; intro fr hA
  replace hA := hA.bool (f := fun z_ => [(2, pt b1), (3, pt b2), (4, bl false), (5, .slice p1 ((fileL cs ds z et).length) c1), (7, .slice none 0 0), (33, .bool z_), (34, .bool z_), (35, .bool z_)]) (bne_iff_ne.2 (by assumption) : (er1 != 0) = true)
  refine ckS (l := [7, 8, 10, 11]) (r := [(9, false), (12, false), (13, true), (14, true), (15, true)]) (e' := [(4, bl false), (35, bl true), (36, .tuple #[]), (37, .tuple #[]), (39, .tuple #[]), (40, .tuple #[])]) hA [] c0 ?_
  clear hA fr; intro fr hA
  refine plan_mem (m_skip (d := (some 38)) hA (by kernel_rfl) (by kernel_rfl) ?_)
  clear hA fr; intro fr hA
  refine ⟨(hO.sub [0, 1]), ?_⟩
  replace hA := hA.sb (e' := [(4, bl false), (35, bl true), (38, .tuple #[]), (39, .tuple #[]), (40, .tuple #[])])
  refine plan_mem (m_skip (d := (some 41)) hA (by kernel_rfl) (by kernel_rfl) ?_)
  clear hA fr; intro fr hA
  refine ⟨(hO.sub [0, 1]), ?_⟩
  replace hA := hA.sb (e' := [(4, bl false), (35, bl true), (38, .tuple #[]), (41, .tuple #[])])
  refine ckS (l := [13, 14, 15]) (r := []) (e' := [(4, bl true)]) hA [] c0 ?_
  clear hA fr; intro fr hA
  refine end_plan ?_
  refine then_normal ?_
  refine wp_ret ?_
  refine cR (cs := [none]) (us := [bl true]) hA [] trivial ?_
  have hF := hO.only; clear hA hO
  exact ⟨by first | rfl | exact congrArg (fun b => Ending.returned (.bool b)) (file_eq hc hc' hd hd' hz hz' het het'), hF⟩

theorem uni_11 (cp dp : Option Addr) (kc kd : Nat) (cs ds : List Int) (z et : Int) (cp' dp' : Option Addr) (kc' kd' : Nat) (cs' ds' : List Int) (z' et' : Int) (w : World) (hT : Tab w) (hs : SlI w (.slice cp cs.length kc) cs) (hs2 : SlI w (.slice dp ds.length kd) ds) (hs' : SlI w (.slice cp' cs'.length kc') cs') (hs2' : SlI w (.slice dp' ds'.length kd') ds') (hkc : cs.length ≤ kc) (hz : inK .i64 z) (het : inK .i64 et) (hkc' : cs'.length ≤ kc') (hz' : inK .i64 z') (het' : inK .i64 et') (hc : cs.length ≤ 2000) (hd : ds.length ≤ 2000) (hc' : cs'.length ≤ 2000) (hd' : ds'.length ≤ 2000) (hv : validB cs ((ds.length : Nat) : Int) z et = true) (hbig : (fileL cs ds z et).length ≤ 1536) (hv' : validB cs' ((ds'.length : Nat) : Int) z' et' = true) (hbig' : (fileL cs' ds' z' et').length ≤ 1536) :
    Calls Tryd.prog 4 #[.agg #[.slice cp cs.length kc, .slice dp ds.length kd, i64 z, i64 et], .agg #[.slice cp' cs'.length kc', .slice dp' ds'.length kd', i64 z', i64 et']] w fun e w' => e = .returned (.bool true) ∧ Only none' w w' := by
  refine c_enter (args := [.agg #[.slice cp cs.length kc, .slice dp ds.length kd, i64 z, i64 et], .agg #[.slice cp' cs'.length kc', .slice dp' ds'.length kd', i64 z', i64 et']]) (m := 42) (n := 44) Tryd.func4 rfl (by kernel_rfl) (by kernel_rfl) fun fr hA => ?_
  have hO := Ow.nil Tryd.prog none' w
  refine sR (l := [0, 1, 2]) ?_
  refine wpOps_cons' (mN (l := [.slice cp cs.length kc, .slice dp ds.length kd, i64 z, i64 et]) (t := 24) (v := pt) (d := 2) hA hO ?_)
  clear hA hO fr; intro fr w1 b1 hA hO
  replace hA := hA.sb (e' := [(1, .agg #[.slice cp' cs'.length kc', .slice dp' ds'.length kd', i64 z', i64 et']), (2, pt b1)])
  refine wpOps_cons' (mN (l := [.slice cp' cs'.length kc', .slice dp' ds'.length kd', i64 z', i64 et']) (t := 24) (v := pt) (d := 3) hA hO ?_)
  clear hA hO fr; intro fr w2 b2 hA hO
  replace hA := hA.sb (e' := [(2, pt b1), (3, pt b2)])
  refine ck (l := [2]) (r := []) (e' := [(2, pt b1), (3, pt b2), (4, bl false)]) hA [] c0 ?_
  clear hA fr; intro fr hA
  refine end_ops ?_
  refine then_normal ?_
  refine wp_seq ?_
  refine sR (l := [0, 1]) ?_
  refine wpOps_cons' (mK (f := 6) (args := []) (d := (some 9)) (v := bl true) hA hO Tryd.func6 (awake_any _ (hT.keep hO.only (fun h => h))) ?_)
  clear hA hO fr; intro fr w3 hA hO
  refine ck (l := [1]) (r := []) (e' := [(2, pt b1), (3, pt b2), (4, bl false), (10, bl false)]) hA [] c0 ?_
  clear hA fr; intro fr hA
  refine end_ops ?_
  refine then_normal ?_
  refine cF hA ?_
  refine wp_skip ?_
  refine then_normal ?_
  refine wp_seq ?_
  refine sR (l := (rg 0 8)) ?_
  refine ck (l := [0]) (r := (rg 1 7)) (e' := [(2, pt b1), (3, pt b2), (4, bl false), (11, .agg #[.slice cp cs.length kc, .slice dp ds.length kd, i64 z, i64 et])]) hA [.agg #[.slice cp cs.length kc, .slice dp ds.length kd, i64 z, i64 et]] (cc (hO.ln 1 0 24 [.slice cp cs.length kc, .slice dp ds.length kd, i64 z, i64 et]) c0) ?_
  clear hA fr; intro fr hA
  refine wpOps_cons' (mK (f := 7) (args := [.agg #[.slice cp cs.length kc, .slice dp ds.length kd, i64 z, i64 et]]) (d := (some 12)) (v := bl (decide (cs.length ≤ 2000 ∧ ds.length ≤ 2000))) hA hO Tryd.func7 (few_any cp dp kc kd cs ds z et _) ?_)
  clear hA hO fr; intro fr w4 hA hO
  replace hA := hA.sb (e' := [(2, pt b1), (3, pt b2), (4, bl false), (12, bl (decide (cs.length ≤ 2000 ∧ ds.length ≤ 2000)))])
  refine ck (l := [2, 3]) (r := [4, 5, 6, 7]) (e' := [(2, pt b1), (3, pt b2), (4, bl false), (13, bl (!(decide (cs.length ≤ 2000 ∧ ds.length ≤ 2000)))), (14, bl (!(decide (cs.length ≤ 2000 ∧ ds.length ≤ 2000))))]) hA [] c0 ?_
  clear hA fr; intro fr hA
  replace hA := hA.bool (f := fun z_ => [(2, pt b1), (3, pt b2), (4, bl false), (13, .bool !z_), (14, .bool !z_)]) (decide_eq_true ⟨hc, hd⟩ : (decide (cs.length ≤ 2000 ∧ ds.length ≤ 2000)) = true)
  refine ck (l := [4]) (r := [5, 6, 7]) (e' := [(2, pt b1), (3, pt b2), (4, bl false), (14, bl false), (15, .agg #[.slice cp' cs'.length kc', .slice dp' ds'.length kd', i64 z', i64 et'])]) hA [.agg #[.slice cp' cs'.length kc', .slice dp' ds'.length kd', i64 z', i64 et']] (cc (hO.ln 0 0 24 [.slice cp' cs'.length kc', .slice dp' ds'.length kd', i64 z', i64 et']) c0) ?_
  clear hA fr; intro fr hA
  refine wpOps_cons' (mK (f := 7) (args := [.agg #[.slice cp' cs'.length kc', .slice dp' ds'.length kd', i64 z', i64 et']]) (d := (some 16)) (v := bl (decide (cs'.length ≤ 2000 ∧ ds'.length ≤ 2000))) hA hO Tryd.func7 (few_any cp' dp' kc' kd' cs' ds' z' et' _) ?_)
  clear hA hO fr; intro fr w5 hA hO
  replace hA := hA.sb (e' := [(2, pt b1), (3, pt b2), (4, bl false), (14, bl false), (16, bl (decide (cs'.length ≤ 2000 ∧ ds'.length ≤ 2000)))])
  refine ck (l := [6, 7]) (r := []) (e' := [(2, pt b1), (3, pt b2), (4, bl false), (18, bl (!(decide (cs'.length ≤ 2000 ∧ ds'.length ≤ 2000))))]) hA [] c0 ?_
  clear hA fr; intro fr hA
  refine end_ops ?_
  refine then_normal ?_
  replace hA := hA.bool (f := fun z_ => [(2, pt b1), (3, pt b2), (4, bl false), (18, .bool !z_)]) (decide_eq_true ⟨hc', hd'⟩ : (decide (cs'.length ≤ 2000 ∧ ds'.length ≤ 2000)) = true)
  refine cF hA ?_
  refine wp_skip ?_
  refine then_normal ?_
  refine sR (l := (rg 0 7)) ?_
  refine ck (l := [0]) (r := (rg 1 6)) (e' := [(2, pt b1), (3, pt b2), (4, bl false), (20, .agg #[.slice cp cs.length kc, .slice dp ds.length kd, i64 z, i64 et])]) hA [.agg #[.slice cp cs.length kc, .slice dp ds.length kd, i64 z, i64 et]] (cc (hO.ln 1 0 24 [.slice cp cs.length kc, .slice dp ds.length kd, i64 z, i64 et]) c0) ?_
  clear hA fr; intro fr hA
  refine wpOps_cons' (mC (f := 12) (args := [.agg #[.slice cp cs.length kc, .slice dp ds.length kd, i64 z, i64 et]]) (d := (some 21)) hA Tryd.func12 ((make_ok cp dp kc kd cs ds z et _ hc hd (hT.keep hO.only (fun h => h)) (hs.keep hO.only) hkc (hs2.keep hO.only) hv hz het hbig).mono ?_))
  rintro en w6 ⟨p1, c1, T1, rfl, hW, hT1⟩
  refine ⟨_, rfl, ?_⟩
  clear hA fr; intro fr hA
  have huT1 : U8s (fileL cs ds z et) := file_u8 hs hs2
  replace hO := Ow.join hO hW; clear hW
  replace hO : Ow Tryd.prog none' w w6 ([(b2, 24, [.slice cp' cs'.length kc', .slice dp' ds'.length kd', i64 z', i64 et']), (b1, 24, [.slice cp cs.length kc, .slice dp ds.length kd, i64 z, i64 et])] ++ (T1 ++ ([]))) := hO.to (by simp only [List.append_assoc, List.cons_append, List.nil_append, List.append_nil])
  replace hA := hA.sb (e' := [(2, pt b1), (3, pt b2), (4, bl false), (21, .tuple #[.slice p1 ((fileL cs ds z et).length) c1, i64 0])])
  refine ck (l := (rg 2 5)) (r := []) (e' := [(2, pt b1), (3, pt b2), (4, bl false), (5, .slice p1 ((fileL cs ds z et).length) c1), (6, i64 0)]) hA [] c0 ?_
  clear hA fr; intro fr hA
  refine end_ops ?_
  refine then_normal ?_
  refine sR (l := (rg 0 7)) ?_
  refine ck (l := [0]) (r := (rg 1 6)) (e' := [(2, pt b1), (3, pt b2), (4, bl false), (5, .slice p1 ((fileL cs ds z et).length) c1), (6, i64 0), (25, .agg #[.slice cp' cs'.length kc', .slice dp' ds'.length kd', i64 z', i64 et'])]) hA [.agg #[.slice cp' cs'.length kc', .slice dp' ds'.length kd', i64 z', i64 et']] (cc (hO.ln 0 0 24 [.slice cp' cs'.length kc', .slice dp' ds'.length kd', i64 z', i64 et']) c0) ?_
  clear hA fr; intro fr hA
  refine wpOps_cons' (mC (f := 12) (args := [.agg #[.slice cp' cs'.length kc', .slice dp' ds'.length kd', i64 z', i64 et']]) (d := (some 26)) hA Tryd.func12 ((make_ok cp' dp' kc' kd' cs' ds' z' et' _ hc' hd' (hT.keep hO.only (fun h => h)) (hs'.keep hO.only) hkc' (hs2'.keep hO.only) hv' hz' het' hbig').mono ?_))
  rintro en w7 ⟨p2, c2, T2, rfl, hW, hT2⟩
  refine ⟨_, rfl, ?_⟩
  clear hA fr; intro fr hA
  have huT2 : U8s (fileL cs' ds' z' et') := file_u8 hs' hs2'
  replace hO := Ow.join hO hW; clear hW
  replace hO : Ow Tryd.prog none' w w7 ([(b2, 24, [.slice cp' cs'.length kc', .slice dp' ds'.length kd', i64 z', i64 et']), (b1, 24, [.slice cp cs.length kc, .slice dp ds.length kd, i64 z, i64 et])] ++ (T1 ++ (T2 ++ ([])))) := hO.to (by simp only [List.append_assoc, List.cons_append, List.nil_append, List.append_nil])
  replace hA := hA.sb (e' := [(2, pt b1), (3, pt b2), (4, bl false), (5, .slice p1 ((fileL cs ds z et).length) c1), (6, i64 0), (26, .tuple #[.slice p2 ((fileL cs' ds' z' et').length) c2, i64 0])])
  refine ck (l := (rg 2 5)) (r := []) (e' := [(2, pt b1), (3, pt b2), (4, bl false), (5, .slice p1 ((fileL cs ds z et).length) c1), (6, i64 0), (7, .slice p2 ((fileL cs' ds' z' et').length) c2), (8, i64 0)]) hA [] c0 ?_
  clear hA fr; intro fr hA
  refine end_ops ?_
  refine then_normal ?_
  refine wp_seq ?_
  have hS : Ow Tryd.prog none' w _ [(b2, 24, [.slice cp' cs'.length kc', .slice dp' ds'.length kd', i64 z', i64 et']), (b1, 24, [.slice cp cs.length kc, .slice dp ds.length kd, i64 z, i64 et])] := hO.sub [0, 1]
  refine rP [(0, true), (1, true), (2, true), (3, true), (4, true), (5, true), (6, true), (7, true), (8, true), (10, true), (11, true), (9, false), (12, false), (13, true), (14, true), (15, true)] hS ?_
  intro w8 ho; replace hO := hO.st ho; clear ho
  refine ckS (l := [0, 1, 2, 3, 4, 5, 6, 7, 8, 10, 11]) (r := [(9, false), (12, false), (13, true), (14, true), (15, true)]) (e' := [(4, bl false), (35, bl false), (36, .slice p1 ((fileL cs ds z et).length) c1), (37, .slice p2 ((fileL cs' ds' z' et').length) c2), (39, .agg #[.slice cp cs.length kc, .slice dp ds.length kd, i64 z, i64 et]), (40, .agg #[.slice cp' cs'.length kc', .slice dp' ds'.length kd', i64 z', i64 et'])]) hA [.agg #[.slice cp cs.length kc, .slice dp ds.length kd, i64 z, i64 et], .agg #[.slice cp' cs'.length kc', .slice dp' ds'.length kd', i64 z', i64 et']] (cc (hS.sn 1 0 24 [.slice cp cs.length kc, .slice dp ds.length kd, i64 z, i64 et]) (cc (hS.sn 0 0 24 [.slice cp' cs'.length kc', .slice dp' ds'.length kd', i64 z', i64 et']) c0)) ?_
  clear hA fr; intro fr hA
  refine plan_mem (mK (f := 13) (args := [.slice p1 ((fileL cs ds z et).length) c1, .slice p2 ((fileL cs' ds' z' et').length) c2]) (d := (some 38)) (v := bl (decide (fileL cs ds z et = fileL cs' ds' z' et'))) hA hO Tryd.func13 (same_any (fileL cs ds z et) (fileL cs' ds' z' et') _ _ _ (Vw.sl (hT1.vw (A := [(b2, 24, [.slice cp' cs'.length kc', .slice dp' ds'.length kd', i64 z', i64 et']), (b1, 24, [.slice cp cs.length kc, .slice dp ds.length kd, i64 z, i64 et])]) (B := T2 ++ ([])) hO.m) huT1) (Vw.sl (hT2.vw (A := ([(b2, 24, [.slice cp' cs'.length kc', .slice dp' ds'.length kd', i64 z', i64 et']), (b1, 24, [.slice cp cs.length kc, .slice dp ds.length kd, i64 z, i64 et])] ++ (T1 ++ ([])))) (B := []) (hO.to (by simp only [List.append_assoc, List.cons_append, List.nil_append, List.append_nil]) : Ow Tryd.prog none' w _ (([(b2, 24, [.slice cp' cs'.length kc', .slice dp' ds'.length kd', i64 z', i64 et']), (b1, 24, [.slice cp cs.length kc, .slice dp ds.length kd, i64 z, i64 et])] ++ (T1 ++ ([]))) ++ (T2 ++ ([])))).m) huT2)) ?_)
  clear hA hO fr; intro fr w9 hA hO
  refine ⟨(hO.sub [0, 1]), ?_⟩
  replace hA := hA.sb (e' := [(4, bl false), (35, bl false), (38, bl (decide (fileL cs ds z et = fileL cs' ds' z' et'))), (39, .agg #[.slice cp cs.length kc, .slice dp ds.length kd, i64 z, i64 et]), (40, .agg #[.slice cp' cs'.length kc', .slice dp' ds'.length kd', i64 z', i64 et'])])
  refine plan_mem (mK (f := 14) (args := [.agg #[.slice cp cs.length kc, .slice dp ds.length kd, i64 z, i64 et], .agg #[.slice cp' cs'.length kc', .slice dp' ds'.length kd', i64 z', i64 et']]) (d := (some 41)) (v := bl (decide (cs = cs' ∧ ds = ds' ∧ z = z' ∧ et = et'))) hA hO Tryd.func14 (equal_any cp dp kc kd cs ds z et cp' dp' kc' kd' cs' ds' z' et' _ (hs.keep hO.only) (hs2.keep hO.only) (hs'.keep hO.only) (hs2'.keep hO.only)) ?_)
  clear hA hO fr; intro fr w10 hA hO
  refine ⟨(hO.sub [0, 1]), ?_⟩
  replace hA := hA.sb (e' := [(4, bl false), (35, bl false), (38, bl (decide (fileL cs ds z et = fileL cs' ds' z' et'))), (41, bl (decide (cs = cs' ∧ ds = ds' ∧ z = z' ∧ et = et')))])
  refine ckS (l := [13, 14, 15]) (r := []) (e' := [(4, bl ((decide (fileL cs ds z et = fileL cs' ds' z' et')) == (decide (cs = cs' ∧ ds = ds' ∧ z = z' ∧ et = et'))))]) hA [] c0 ?_
  clear hA fr; intro fr hA
  refine end_plan ?_
  refine then_normal ?_
  refine wp_ret ?_
  refine cR (cs := [none]) (us := [bl ((decide (fileL cs ds z et = fileL cs' ds' z' et')) == (decide (cs = cs' ∧ ds = ds' ∧ z = z' ∧ et = et')))]) hA [] trivial ?_
  have hF := hO.only; clear hA hO
  exact ⟨by first | rfl | exact congrArg (fun b => Ending.returned (.bool b)) (file_eq hc hc' hd hd' hz hz' het het'), hF⟩

theorem law_unique (cp dp : Option Addr) (kc kd : Nat) (cs ds : List Int) (z et : Int) (cp' dp' : Option Addr) (kc' kd' : Nat) (cs' ds' : List Int) (z' et' : Int) (w : World) (hT : Tab w) (hs : SlI w (.slice cp cs.length kc) cs) (hs2 : SlI w (.slice dp ds.length kd) ds) (hs' : SlI w (.slice cp' cs'.length kc') cs') (hs2' : SlI w (.slice dp' ds'.length kd') ds') (hkc : cs.length ≤ kc) (hz : inK .i64 z) (het : inK .i64 et) (hkc' : cs'.length ≤ kc') (hz' : inK .i64 z') (het' : inK .i64 et') : Calls Tryd.prog 4 #[.agg #[.slice cp cs.length kc, .slice dp ds.length kd, i64 z, i64 et], .agg #[.slice cp' cs'.length kc', .slice dp' ds'.length kd', i64 z', i64 et']] w fun e w' => e = .returned (.bool true) ∧ Only none' w w' := by
  by_cases f1 : cs.length ≤ 2000 ∧ ds.length ≤ 2000
  · by_cases f2 : cs'.length ≤ 2000 ∧ ds'.length ≤ 2000
    · by_cases h1 : validB cs ((ds.length : Nat) : Int) z et = true ∧ (fileL cs ds z et).length ≤ 1536
      · by_cases h2 : validB cs' ((ds'.length : Nat) : Int) z' et' = true ∧ (fileL cs' ds' z' et').length ≤ 1536
        · exact uni_11 cp dp kc kd cs ds z et cp' dp' kc' kd' cs' ds' z' et' w hT hs hs2 hs' hs2' hkc hz het hkc' hz' het' f1.1 f1.2 f2.1 f2.2 h1.1 h1.2 h2.1 h2.2
        · exact uni_10 cp dp kc kd cs ds z et cp' dp' kc' kd' cs' ds' z' et' w hT hs hs2 hs' hs2' hkc hz het hkc' hz' het' f1.1 f1.2 f2.1 f2.2 h1.1 h1.2 h2
      · by_cases h2 : validB cs' ((ds'.length : Nat) : Int) z' et' = true ∧ (fileL cs' ds' z' et').length ≤ 1536
        · exact uni_01 cp dp kc kd cs ds z et cp' dp' kc' kd' cs' ds' z' et' w hT hs hs2 hs' hs2' hkc hz het hkc' hz' het' f1.1 f1.2 f2.1 f2.2 h1 h2.1 h2.2
        · exact uni_00 cp dp kc kd cs ds z et cp' dp' kc' kd' cs' ds' z' et' w hT hs hs2 hs' hs2' hkc hz het hkc' hz' het' f1.1 f1.2 f2.1 f2.2 h1 h2
    · exact uni_few2 cp dp kc kd cs ds z et cp' dp' kc' kd' cs' ds' z' et' w hT hs hs2 hs' hs2' hkc hz het hkc' hz' het' f1.1 f1.2 f2
  · exact uni_few1 cp dp kc kd cs ds z et cp' dp' kc' kd' cs' ds' z' et' w hT hs hs2 hs' hs2' hkc hz het hkc' hz' het' f1

end Go.Proofs.YtkfnkcpdabdboaaDoor
