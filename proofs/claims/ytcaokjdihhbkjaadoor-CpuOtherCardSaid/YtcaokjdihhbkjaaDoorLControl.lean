/- The layer cpu: walks of the law CpuControl. -/
import Derived.Test.YtcaokjdihhbkjaaDoorEncdec
set_option linter.unusedVariables false
set_option linter.unusedSimpArgs false
set_option maxRecDepth 10000
namespace Go.Proofs.YtcaokjdihhbkjaaDoor
open Go Go.RowKit Go.Proofs.Sx

theorem ctl_bad (R : Nat → Int) (pc o a b c v : Int) (w : World) (hT : Tab w) (hR : RegsOk R) (hl : legalB o a b c v = false) :
    Calls Tryd.prog 6 #[.agg (List.toArray (regsL R pc)), .agg #[i64 o, i64 a, i64 b, i64 c, i64 v]] w fun e w' => e = .returned (.bool true) ∧ Only none' w w' := by
  refine c_enter (args := [.agg (List.toArray (regsL R pc)), .agg #[i64 o, i64 a, i64 b, i64 c, i64 v]]) (m := 119) (n := 121) Tryd.func6 rfl (by kernel_rfl) (by kernel_rfl) fun fr hA => ?_
  have hO := Ow.nil Tryd.prog none' w
  refine sR (l := [0, 1, 2]) ?_
  refine wpOps_cons' (mN (l := (regsL R pc)) (t := 38) (v := pt) (d := 2) hA hO ?_)
  clear hA hO fr; intro fr w1 b1 hA hO
  replace hA := hA.sb (e' := [(1, .agg #[i64 o, i64 a, i64 b, i64 c, i64 v]), (2, pt b1)])
  refine wpOps_cons' (mN (l := [i64 o, i64 a, i64 b, i64 c, i64 v]) (t := 29) (v := pt) (d := 3) hA hO ?_)
  clear hA hO fr; intro fr w2 b2 hA hO
  replace hA := hA.sb (e' := [(2, pt b1), (3, pt b2)])
  refine ck (l := [2]) (r := []) (e' := [(2, pt b1), (3, pt b2), (4, bl false)]) hA [] c0 ?_
  clear hA fr; intro fr hA
  refine end_ops ?_
  refine then_normal ?_
  refine wp_seq ?_
  refine sR (l := [0, 1]) ?_
  refine wpOps_cons' (mK (f := 12) (args := []) (d := (some 13)) (v := bl true) hA hO Tryd.func12 (awake_any _ (hT.keep hO.only (fun h => h))) ?_)
  clear hA hO fr; intro fr w3 hA hO
  refine ck (l := [1]) (r := []) (e' := [(2, pt b1), (3, pt b2), (4, bl false), (14, bl false)]) hA [] c0 ?_
  clear hA fr; intro fr hA
  refine end_ops ?_
  refine then_normal ?_
  refine cF hA ?_
  refine wp_skip ?_
  refine then_normal ?_
  refine sR (l := (rg 0 7)) ?_
  refine ck (l := [0]) (r := (rg 1 6)) (e' := [(2, pt b1), (3, pt b2), (4, bl false), (16, .agg #[i64 o, i64 a, i64 b, i64 c, i64 v])]) hA [.agg #[i64 o, i64 a, i64 b, i64 c, i64 v]] (cc (hO.ln 0 0 29 [i64 o, i64 a, i64 b, i64 c, i64 v]) c0) ?_
  clear hA fr; intro fr hA
  refine wpOps_cons' (mK (f := 15) (args := [.agg #[i64 o, i64 a, i64 b, i64 c, i64 v]]) (d := (some 17)) (v := .tuple #[.slice none 0 0, i64 1]) hA hO Tryd.func15 (encode_bad o a b c v _ (hT.keep hO.only (fun h => h)) hl) ?_)
  clear hA hO fr; intro fr w4 hA hO
  replace hA := hA.sb (e' := [(2, pt b1), (3, pt b2), (4, bl false), (17, .tuple #[.slice none 0 0, i64 1])])
  refine ck (l := (rg 2 5)) (r := []) (e' := [(2, pt b1), (3, pt b2), (4, bl false), (5, .slice none 0 0), (6, i64 1)]) hA [] c0 ?_
  clear hA fr; intro fr hA
  refine end_ops ?_
  refine then_normal ?_
  refine wp_seq ?_
  refine sC (e' := [(2, pt b1), (3, pt b2), (4, bl false), (5, .slice none 0 0), (31, bl true)]) 12 hA [] c0 ?_
  clear hA fr; intro fr hA
  refine cT hA ?_
  refine sC (e' := [(2, pt b1), (3, pt b2), (4, bl true), (5, .slice none 0 0)]) 1 hA [] c0 ?_
  clear hA fr; intro fr hA
  refine wp_ret ?_
  refine then_ret ?_
  refine cR (cs := [none]) (us := [bl true]) hA [] trivial ?_
  have hF := hO.only; clear hA hO
  exact ⟨by first | rfl | simp [pack], hF⟩

theorem ctl_lo (R : Nat → Int) (pc o a b c v : Int) (w : World) (hT : Tab w) (hR : RegsOk R) (hl : legalB o a b c v = true) (hp : pc < 0) :
    Calls Tryd.prog 6 #[.agg (List.toArray (regsL R pc)), .agg #[i64 o, i64 a, i64 b, i64 c, i64 v]] w fun e w' => e = .returned (.bool true) ∧ Only none' w w' := by
  refine c_enter (args := [.agg (List.toArray (regsL R pc)), .agg #[i64 o, i64 a, i64 b, i64 c, i64 v]]) (m := 119) (n := 121) Tryd.func6 rfl (by kernel_rfl) (by kernel_rfl) fun fr hA => ?_
  have hO := Ow.nil Tryd.prog none' w
  obtain ⟨ho_, ha_, hb_, hc_, hv_, hc2_⟩ := legal_spec hl
  refine sR (l := [0, 1, 2]) ?_
  refine wpOps_cons' (mN (l := (regsL R pc)) (t := 38) (v := pt) (d := 2) hA hO ?_)
  clear hA hO fr; intro fr w1 b1 hA hO
  replace hA := hA.sb (e' := [(1, .agg #[i64 o, i64 a, i64 b, i64 c, i64 v]), (2, pt b1)])
  refine wpOps_cons' (mN (l := [i64 o, i64 a, i64 b, i64 c, i64 v]) (t := 29) (v := pt) (d := 3) hA hO ?_)
  clear hA hO fr; intro fr w2 b2 hA hO
  replace hA := hA.sb (e' := [(2, pt b1), (3, pt b2)])
  refine ck (l := [2]) (r := []) (e' := [(2, pt b1), (3, pt b2), (4, bl false)]) hA [] c0 ?_
  clear hA fr; intro fr hA
  refine end_ops ?_
  refine then_normal ?_
  refine wp_seq ?_
  refine sR (l := [0, 1]) ?_
  refine wpOps_cons' (mK (f := 12) (args := []) (d := (some 13)) (v := bl true) hA hO Tryd.func12 (awake_any _ (hT.keep hO.only (fun h => h))) ?_)
  clear hA hO fr; intro fr w3 hA hO
  refine ck (l := [1]) (r := []) (e' := [(2, pt b1), (3, pt b2), (4, bl false), (14, bl false)]) hA [] c0 ?_
  clear hA fr; intro fr hA
  refine end_ops ?_
  refine then_normal ?_
  refine cF hA ?_
  refine wp_skip ?_
  refine then_normal ?_
  refine sR (l := (rg 0 7)) ?_
  refine ck (l := [0]) (r := (rg 1 6)) (e' := [(2, pt b1), (3, pt b2), (4, bl false), (16, .agg #[i64 o, i64 a, i64 b, i64 c, i64 v])]) hA [.agg #[i64 o, i64 a, i64 b, i64 c, i64 v]] (cc (hO.ln 0 0 29 [i64 o, i64 a, i64 b, i64 c, i64 v]) c0) ?_
  clear hA fr; intro fr hA
  refine wpOps_cons' (mC (f := 15) (args := [.agg #[i64 o, i64 a, i64 b, i64 c, i64 v]]) (d := (some 17)) hA Tryd.func15 ((encode_ok o a b c v _ (hT.keep hO.only (fun h => h)) hl).mono ?_))
  rintro en w4 ⟨k1, rfl, ho, hbk, hge⟩
  refine ⟨_, rfl, ?_⟩
  clear hA fr; intro fr hA
  replace hO := hO.add ho hbk hge; clear ho hbk hge
  replace hA := hA.sb (e' := [(2, pt b1), (3, pt b2), (4, bl false), (17, .tuple #[.slice (some ⟨k1, 0, none⟩) 4 4, i64 0])])
  refine ck (l := (rg 2 5)) (r := []) (e' := [(2, pt b1), (3, pt b2), (4, bl false), (5, .slice (some ⟨k1, 0, none⟩) 4 4), (6, i64 0)]) hA [] c0 ?_
  clear hA fr; intro fr hA
  refine end_ops ?_
  refine then_normal ?_
  refine wp_seq ?_
  refine sR (l := (rg 0 12)) ?_
  refine ck (l := (rg 0 8)) (r := [8, 9, 10, 11]) (e' := [(2, pt b1), (3, pt b2), (4, bl false), (5, .slice (some ⟨k1, 0, none⟩) 4 4), (25, bl (decide (pc < 0))), (26, bl (decide (pc < 0))), (27, bl (decide (pc < 0)))]) hA [i64 pc] (cc (hO.l1 2 16 3 (i64 pc)) c0) ?_
  clear hA fr; intro fr hA
  replace hA := hA.bool (f := fun z => [(2, pt b1), (3, pt b2), (4, bl false), (5, .slice (some ⟨k1, 0, none⟩) 4 4), (25, .bool z), (26, .bool z), (27, .bool z)]) (decide_eq_true (by omega) : (decide (pc < 0)) = true)
  refine ck (l := [8, 9, 10, 11]) (r := []) (e' := [(2, pt b1), (3, pt b2), (4, bl false), (5, .slice (some ⟨k1, 0, none⟩) 4 4), (31, bl true)]) hA [] c0 ?_
  clear hA fr; intro fr hA
  refine end_ops ?_
  refine then_normal ?_
  refine cT hA ?_
  refine sC (e' := [(2, pt b1), (3, pt b2), (4, bl true), (5, .slice (some ⟨k1, 0, none⟩) 4 4)]) 1 hA [] c0 ?_
  clear hA fr; intro fr hA
  refine wp_ret ?_
  refine then_ret ?_
  refine cR (cs := [none]) (us := [bl true]) hA [] trivial ?_
  have hF := hO.only; clear hA hO
  exact ⟨by first | rfl | simp [pack], hF⟩

theorem ctl_hi (R : Nat → Int) (pc o a b c v : Int) (w : World) (hT : Tab w) (hR : RegsOk R) (hl : legalB o a b c v = true) (hp : 1048576 < pc) :
    Calls Tryd.prog 6 #[.agg (List.toArray (regsL R pc)), .agg #[i64 o, i64 a, i64 b, i64 c, i64 v]] w fun e w' => e = .returned (.bool true) ∧ Only none' w w' := by
  refine c_enter (args := [.agg (List.toArray (regsL R pc)), .agg #[i64 o, i64 a, i64 b, i64 c, i64 v]]) (m := 119) (n := 121) Tryd.func6 rfl (by kernel_rfl) (by kernel_rfl) fun fr hA => ?_
  have hO := Ow.nil Tryd.prog none' w
  obtain ⟨ho_, ha_, hb_, hc_, hv_, hc2_⟩ := legal_spec hl
  refine sR (l := [0, 1, 2]) ?_
  refine wpOps_cons' (mN (l := (regsL R pc)) (t := 38) (v := pt) (d := 2) hA hO ?_)
  clear hA hO fr; intro fr w1 b1 hA hO
  replace hA := hA.sb (e' := [(1, .agg #[i64 o, i64 a, i64 b, i64 c, i64 v]), (2, pt b1)])
  refine wpOps_cons' (mN (l := [i64 o, i64 a, i64 b, i64 c, i64 v]) (t := 29) (v := pt) (d := 3) hA hO ?_)
  clear hA hO fr; intro fr w2 b2 hA hO
  replace hA := hA.sb (e' := [(2, pt b1), (3, pt b2)])
  refine ck (l := [2]) (r := []) (e' := [(2, pt b1), (3, pt b2), (4, bl false)]) hA [] c0 ?_
  clear hA fr; intro fr hA
  refine end_ops ?_
  refine then_normal ?_
  refine wp_seq ?_
  refine sR (l := [0, 1]) ?_
  refine wpOps_cons' (mK (f := 12) (args := []) (d := (some 13)) (v := bl true) hA hO Tryd.func12 (awake_any _ (hT.keep hO.only (fun h => h))) ?_)
  clear hA hO fr; intro fr w3 hA hO
  refine ck (l := [1]) (r := []) (e' := [(2, pt b1), (3, pt b2), (4, bl false), (14, bl false)]) hA [] c0 ?_
  clear hA fr; intro fr hA
  refine end_ops ?_
  refine then_normal ?_
  refine cF hA ?_
  refine wp_skip ?_
  refine then_normal ?_
  refine sR (l := (rg 0 7)) ?_
  refine ck (l := [0]) (r := (rg 1 6)) (e' := [(2, pt b1), (3, pt b2), (4, bl false), (16, .agg #[i64 o, i64 a, i64 b, i64 c, i64 v])]) hA [.agg #[i64 o, i64 a, i64 b, i64 c, i64 v]] (cc (hO.ln 0 0 29 [i64 o, i64 a, i64 b, i64 c, i64 v]) c0) ?_
  clear hA fr; intro fr hA
  refine wpOps_cons' (mC (f := 15) (args := [.agg #[i64 o, i64 a, i64 b, i64 c, i64 v]]) (d := (some 17)) hA Tryd.func15 ((encode_ok o a b c v _ (hT.keep hO.only (fun h => h)) hl).mono ?_))
  rintro en w4 ⟨k1, rfl, ho, hbk, hge⟩
  refine ⟨_, rfl, ?_⟩
  clear hA fr; intro fr hA
  replace hO := hO.add ho hbk hge; clear ho hbk hge
  replace hA := hA.sb (e' := [(2, pt b1), (3, pt b2), (4, bl false), (17, .tuple #[.slice (some ⟨k1, 0, none⟩) 4 4, i64 0])])
  refine ck (l := (rg 2 5)) (r := []) (e' := [(2, pt b1), (3, pt b2), (4, bl false), (5, .slice (some ⟨k1, 0, none⟩) 4 4), (6, i64 0)]) hA [] c0 ?_
  clear hA fr; intro fr hA
  refine end_ops ?_
  refine then_normal ?_
  refine wp_seq ?_
  refine sR (l := (rg 0 12)) ?_
  refine ck (l := (rg 0 8)) (r := [8, 9, 10, 11]) (e' := [(2, pt b1), (3, pt b2), (4, bl false), (5, .slice (some ⟨k1, 0, none⟩) 4 4), (25, bl (decide (pc < 0))), (26, bl (decide (pc < 0))), (27, bl (decide (pc < 0)))]) hA [i64 pc] (cc (hO.l1 2 16 3 (i64 pc)) c0) ?_
  clear hA fr; intro fr hA
  replace hA := hA.bool (f := fun z => [(2, pt b1), (3, pt b2), (4, bl false), (5, .slice (some ⟨k1, 0, none⟩) 4 4), (25, .bool z), (26, .bool z), (27, .bool z)]) (decide_eq_false (by omega) : (decide (pc < 0)) = false)
  refine ck (l := [8, 9, 10, 11]) (r := []) (e' := [(2, pt b1), (3, pt b2), (4, bl false), (5, .slice (some ⟨k1, 0, none⟩) 4 4), (31, bl (decide (pc > 1048576)))]) hA [i64 pc] (cc (hO.l1 2 16 3 (i64 pc)) c0) ?_
  clear hA fr; intro fr hA
  refine end_ops ?_
  refine then_normal ?_
  replace hA := hA.bool (f := fun z => [(2, pt b1), (3, pt b2), (4, bl false), (5, .slice (some ⟨k1, 0, none⟩) 4 4), (31, .bool z)]) (decide_eq_true (by omega) : (decide (pc > 1048576)) = true)
  refine cT hA ?_
  refine sC (e' := [(2, pt b1), (3, pt b2), (4, bl true), (5, .slice (some ⟨k1, 0, none⟩) 4 4)]) 1 hA [] c0 ?_
  clear hA fr; intro fr hA
  refine wp_ret ?_
  refine then_ret ?_
  refine cR (cs := [none]) (us := [bl true]) hA [] trivial ?_
  have hF := hO.only; clear hA hO
  exact ⟨by first | rfl | simp [pack], hF⟩

theorem ctl_exc (R : Nat → Int) (pc st k o a b c v : Int) (w : World) (hT : Tab w) (hR : RegsOk R) (hl : legalB o a b c v = true) (hp : 0 ≤ pc) (hp' : pc ≤ 1048576) (hx : execV R pc 1 o a b c v = outV R pc st (trapL 2 k 0 0 0 0 0)) :
    Calls Tryd.prog 6 #[.agg (List.toArray (regsL R pc)), .agg #[i64 o, i64 a, i64 b, i64 c, i64 v]] w fun e w' => e = .returned (.bool true) ∧ Only none' w w' := by
  refine c_enter (args := [.agg (List.toArray (regsL R pc)), .agg #[i64 o, i64 a, i64 b, i64 c, i64 v]]) (m := 119) (n := 121) Tryd.func6 rfl (by kernel_rfl) (by kernel_rfl) fun fr hA => ?_
  have hO := Ow.nil Tryd.prog none' w
  obtain ⟨ho_, ha_, hb_, hc_, hv_, hc2_⟩ := legal_spec hl
  refine sR (l := [0, 1, 2]) ?_
  refine wpOps_cons' (mN (l := (regsL R pc)) (t := 38) (v := pt) (d := 2) hA hO ?_)
  clear hA hO fr; intro fr w1 b1 hA hO
  replace hA := hA.sb (e' := [(1, .agg #[i64 o, i64 a, i64 b, i64 c, i64 v]), (2, pt b1)])
  refine wpOps_cons' (mN (l := [i64 o, i64 a, i64 b, i64 c, i64 v]) (t := 29) (v := pt) (d := 3) hA hO ?_)
  clear hA hO fr; intro fr w2 b2 hA hO
  replace hA := hA.sb (e' := [(2, pt b1), (3, pt b2)])
  refine ck (l := [2]) (r := []) (e' := [(2, pt b1), (3, pt b2), (4, bl false)]) hA [] c0 ?_
  clear hA fr; intro fr hA
  refine end_ops ?_
  refine then_normal ?_
  refine wp_seq ?_
  refine sR (l := [0, 1]) ?_
  refine wpOps_cons' (mK (f := 12) (args := []) (d := (some 13)) (v := bl true) hA hO Tryd.func12 (awake_any _ (hT.keep hO.only (fun h => h))) ?_)
  clear hA hO fr; intro fr w3 hA hO
  refine ck (l := [1]) (r := []) (e' := [(2, pt b1), (3, pt b2), (4, bl false), (14, bl false)]) hA [] c0 ?_
  clear hA fr; intro fr hA
  refine end_ops ?_
  refine then_normal ?_
  refine cF hA ?_
  refine wp_skip ?_
  refine then_normal ?_
  refine sR (l := (rg 0 7)) ?_
  refine ck (l := [0]) (r := (rg 1 6)) (e' := [(2, pt b1), (3, pt b2), (4, bl false), (16, .agg #[i64 o, i64 a, i64 b, i64 c, i64 v])]) hA [.agg #[i64 o, i64 a, i64 b, i64 c, i64 v]] (cc (hO.ln 0 0 29 [i64 o, i64 a, i64 b, i64 c, i64 v]) c0) ?_
  clear hA fr; intro fr hA
  refine wpOps_cons' (mC (f := 15) (args := [.agg #[i64 o, i64 a, i64 b, i64 c, i64 v]]) (d := (some 17)) hA Tryd.func15 ((encode_ok o a b c v _ (hT.keep hO.only (fun h => h)) hl).mono ?_))
  rintro en w4 ⟨k1, rfl, ho, hbk, hge⟩
  refine ⟨_, rfl, ?_⟩
  clear hA fr; intro fr hA
  replace hO := hO.add ho hbk hge; clear ho hbk hge
  replace hA := hA.sb (e' := [(2, pt b1), (3, pt b2), (4, bl false), (17, .tuple #[.slice (some ⟨k1, 0, none⟩) 4 4, i64 0])])
  refine ck (l := (rg 2 5)) (r := []) (e' := [(2, pt b1), (3, pt b2), (4, bl false), (5, .slice (some ⟨k1, 0, none⟩) 4 4), (6, i64 0)]) hA [] c0 ?_
  clear hA fr; intro fr hA
  refine end_ops ?_
  refine then_normal ?_
  refine wp_seq ?_
  refine sR (l := (rg 0 12)) ?_
  refine ck (l := (rg 0 8)) (r := [8, 9, 10, 11]) (e' := [(2, pt b1), (3, pt b2), (4, bl false), (5, .slice (some ⟨k1, 0, none⟩) 4 4), (25, bl (decide (pc < 0))), (26, bl (decide (pc < 0))), (27, bl (decide (pc < 0)))]) hA [i64 pc] (cc (hO.l1 2 16 3 (i64 pc)) c0) ?_
  clear hA fr; intro fr hA
  replace hA := hA.bool (f := fun z => [(2, pt b1), (3, pt b2), (4, bl false), (5, .slice (some ⟨k1, 0, none⟩) 4 4), (25, .bool z), (26, .bool z), (27, .bool z)]) (decide_eq_false (by omega) : (decide (pc < 0)) = false)
  refine ck (l := [8, 9, 10, 11]) (r := []) (e' := [(2, pt b1), (3, pt b2), (4, bl false), (5, .slice (some ⟨k1, 0, none⟩) 4 4), (31, bl (decide (pc > 1048576)))]) hA [i64 pc] (cc (hO.l1 2 16 3 (i64 pc)) c0) ?_
  clear hA fr; intro fr hA
  refine end_ops ?_
  refine then_normal ?_
  replace hA := hA.bool (f := fun z => [(2, pt b1), (3, pt b2), (4, bl false), (5, .slice (some ⟨k1, 0, none⟩) 4 4), (31, .bool z)]) (decide_eq_false (by omega) : (decide (pc > 1048576)) = false)
  refine cF hA ?_
  refine wp_skip ?_
  refine then_normal ?_
  refine sR (l := (rg 0 12)) ?_
  refine ck (l := [0, 1]) (r := (rg 2 10)) (e' := [(2, pt b1), (3, pt b2), (4, bl false), (33, .agg (List.toArray (regsL R pc))), (34, .slice (some ⟨k1, 0, none⟩) 4 4)]) hA [.agg (List.toArray (regsL R pc))] (cc (hO.ln 2 0 38 (regsL R pc)) c0) ?_
  clear hA fr; intro fr hA
  refine wpOps_cons' (mK (f := 18) (args := [.agg (List.toArray (regsL R pc)), .slice (some ⟨k1, 0, none⟩) 4 4, i64 1]) (d := (some 35)) (v := .tuple #[.agg (List.toArray (regsL R pc)), i64 st, .agg #[i64 2, i64 k, i64 0, i64 0, i64 0, i64 0, i64 0]]) hA hO Tryd.func18 (rs (exec_any R pc 1 _ ([IntKind.u8.wrap o, IntKind.u8.wrap a, cond (opV o) (IntKind.u8.wrap (v / 256)) (IntKind.u8.wrap b), cond (opV o) (IntKind.u8.wrap v) (IntKind.u8.wrap c)]) _ (hT.keep hO.only (fun h => h)) hR (by omega) (by omega) ((hO.b 0).sl (xs := [IntKind.u8.wrap o, IntKind.u8.wrap a, cond (opV o) (IntKind.u8.wrap (v / 256)) (IntKind.u8.wrap b), cond (opV o) (IntKind.u8.wrap v) (IntKind.u8.wrap c)]) (U8s.cons (wrap_inK .u8 _) (U8s.cons (wrap_inK .u8 _) (U8s.cons (inK_cond (wrap_inK .u8 _) (wrap_inK .u8 _)) (U8s.cons (inK_cond (wrap_inK .u8 _) (wrap_inK .u8 _)) U8s.nil)))) rfl (by kernel_rfl))) ((execX_enc R pc 1 hl).trans hx)) ?_)
  clear hA hO fr; intro fr w5 hA hO
  replace hA := hA.sb (e' := [(2, pt b1), (3, pt b2), (4, bl false), (35, .tuple #[.agg (List.toArray (regsL R pc)), i64 st, .agg #[i64 2, i64 k, i64 0, i64 0, i64 0, i64 0, i64 0]])])
  refine ck (l := [3, 4, 5, 6]) (r := (rg 7 5)) (e' := [(2, pt b1), (3, pt b2), (4, bl false), (36, .agg (List.toArray (regsL R pc))), (37, i64 st), (38, .agg #[i64 2, i64 k, i64 0, i64 0, i64 0, i64 0, i64 0])]) hA [] c0 ?_
  clear hA fr; intro fr hA
  refine wpOps_cons' (mN (l := [i32 0, i32 0, i32 0, i32 0, i32 0, i32 0, i32 0, i32 0, i32 0, i32 0, i32 0, i32 0, i32 0, i32 0, i32 0, i32 0, i64 0]) (t := 40) (v := pt) (d := 7) hA hO ?_)
  clear hA hO fr; intro fr w6 b3 hA hO
  refine wpOps_cons' (mN (l := [i64 0, i64 0, i64 0, i64 0, i64 0, i64 0, i64 0]) (t := 43) (v := pt) (d := 9) hA hO ?_)
  clear hA hO fr; intro fr w7 b4 hA hO
  refine wpOps_cons' (mS (off := 0) (vc := (regsL R pc)) 1 hA hO ?_)
  clear hO; intro w8 hO
  replace hA := hA.sb (e' := [(2, pt b1), (3, pt b2), (4, bl false), (7, pt b3), (9, pt b4), (37, i64 st), (38, .agg #[i64 2, i64 k, i64 0, i64 0, i64 0, i64 0, i64 0])])
  refine ck (l := [10]) (r := [11]) (e' := [(2, pt b1), (3, pt b2), (4, bl false), (7, pt b3), (9, pt b4), (38, .agg #[i64 2, i64 k, i64 0, i64 0, i64 0, i64 0, i64 0])]) hA [] c0 ?_
  clear hA fr; intro fr hA
  refine wpOps_cons' (mS (off := 0) (vc := [i64 2, i64 k, i64 0, i64 0, i64 0, i64 0, i64 0]) 0 hA hO ?_)
  clear hO; intro w9 hO
  replace hA := hA.sb (e' := [(2, pt b1), (3, pt b2), (4, bl false), (7, pt b3), (9, pt b4)])
  refine end_ops ?_
  refine then_normal ?_
  refine wp_seq ?_
  refine sC (e' := [(2, pt b1), (3, pt b2), (4, bl false), (7, pt b3), (41, bl true)]) 3 hA [i64 2] (cc (hO.l1 0 0 3 (i64 2)) c0) ?_
  clear hA fr; intro fr hA
  refine cT hA ?_
  refine sC (e' := [(2, pt b1), (3, pt b2), (4, bl true), (7, pt b3)]) 4 hA [.agg (List.toArray (regsL R pc)), .agg (List.toArray (regsL R pc)), bl true] (cc (hO.ln 1 0 40 (regsL R pc)) (cc (hO.ln 4 0 38 (regsL R pc)) (cc ((eqG_of (b := (((R 0) == (R 0)) && (((R 1) == (R 1)) && (((R 2) == (R 2)) && (((R 3) == (R 3)) && (((R 4) == (R 4)) && (((R 5) == (R 5)) && (((R 6) == (R 6)) && (((R 7) == (R 7)) && (((R 8) == (R 8)) && (((R 9) == (R 9)) && (((R 10) == (R 10)) && (((R 11) == (R 11)) && (((R 12) == (R 12)) && (((R 13) == (R 13)) && (((R 14) == (R 14)) && (((R 15) == (R 15)) && true)))))))))))))))) && ((pc == pc) && true)) (by kernel_rfl) (by kernel_rfl)).cast (by simp) : EqG Tryd.prog 38 (.agg (List.toArray (regsL R pc))) (.agg (List.toArray (regsL R pc))) true) c0))) ?_
  clear hA fr; intro fr hA
  refine wp_ret ?_
  refine then_ret ?_
  refine cR (cs := [none]) (us := [bl true]) hA [] trivial ?_
  have hF := hO.only; clear hA hO
  exact ⟨by first | rfl | simp [pack], hF⟩

theorem ctl_next0 (R' : Nat → Int) (R : Nat → Int) (pc st k p0 p1 p2 p3 p4 o a b c v : Int) (w : World) (hT : Tab w) (hR : RegsOk R) (hl : legalB o a b c v = true) (hp : 0 ≤ pc) (hp' : pc ≤ 1048576) (ho : o < 18 ∨ o = 22) (hx : execV R pc 1 o a b c v = outV R' (pc + 4) st (trapL 0 k p0 p1 p2 p3 p4)) :
    Calls Tryd.prog 6 #[.agg (List.toArray (regsL R pc)), .agg #[i64 o, i64 a, i64 b, i64 c, i64 v]] w fun e w' => e = .returned (.bool true) ∧ Only none' w w' := by
  refine c_enter (args := [.agg (List.toArray (regsL R pc)), .agg #[i64 o, i64 a, i64 b, i64 c, i64 v]]) (m := 119) (n := 121) Tryd.func6 rfl (by kernel_rfl) (by kernel_rfl) fun fr hA => ?_
  have hO := Ow.nil Tryd.prog none' w
  obtain ⟨ho_, ha_, hb_, hc_, hv_, hc2_⟩ := legal_spec hl
  refine sR (l := [0, 1, 2]) ?_
  refine wpOps_cons' (mN (l := (regsL R pc)) (t := 38) (v := pt) (d := 2) hA hO ?_)
  clear hA hO fr; intro fr w1 b1 hA hO
  replace hA := hA.sb (e' := [(1, .agg #[i64 o, i64 a, i64 b, i64 c, i64 v]), (2, pt b1)])
  refine wpOps_cons' (mN (l := [i64 o, i64 a, i64 b, i64 c, i64 v]) (t := 29) (v := pt) (d := 3) hA hO ?_)
  clear hA hO fr; intro fr w2 b2 hA hO
  replace hA := hA.sb (e' := [(2, pt b1), (3, pt b2)])
  refine ck (l := [2]) (r := []) (e' := [(2, pt b1), (3, pt b2), (4, bl false)]) hA [] c0 ?_
  clear hA fr; intro fr hA
  refine end_ops ?_
  refine then_normal ?_
  refine wp_seq ?_
  refine sR (l := [0, 1]) ?_
  refine wpOps_cons' (mK (f := 12) (args := []) (d := (some 13)) (v := bl true) hA hO Tryd.func12 (awake_any _ (hT.keep hO.only (fun h => h))) ?_)
  clear hA hO fr; intro fr w3 hA hO
  refine ck (l := [1]) (r := []) (e' := [(2, pt b1), (3, pt b2), (4, bl false), (14, bl false)]) hA [] c0 ?_
  clear hA fr; intro fr hA
  refine end_ops ?_
  refine then_normal ?_
  refine cF hA ?_
  refine wp_skip ?_
  refine then_normal ?_
  refine sR (l := (rg 0 7)) ?_
  refine ck (l := [0]) (r := (rg 1 6)) (e' := [(2, pt b1), (3, pt b2), (4, bl false), (16, .agg #[i64 o, i64 a, i64 b, i64 c, i64 v])]) hA [.agg #[i64 o, i64 a, i64 b, i64 c, i64 v]] (cc (hO.ln 0 0 29 [i64 o, i64 a, i64 b, i64 c, i64 v]) c0) ?_
  clear hA fr; intro fr hA
  refine wpOps_cons' (mC (f := 15) (args := [.agg #[i64 o, i64 a, i64 b, i64 c, i64 v]]) (d := (some 17)) hA Tryd.func15 ((encode_ok o a b c v _ (hT.keep hO.only (fun h => h)) hl).mono ?_))
  rintro en w4 ⟨k1, rfl, ho, hbk, hge⟩
  refine ⟨_, rfl, ?_⟩
  clear hA fr; intro fr hA
  replace hO := hO.add ho hbk hge; clear ho hbk hge
  replace hA := hA.sb (e' := [(2, pt b1), (3, pt b2), (4, bl false), (17, .tuple #[.slice (some ⟨k1, 0, none⟩) 4 4, i64 0])])
  refine ck (l := (rg 2 5)) (r := []) (e' := [(2, pt b1), (3, pt b2), (4, bl false), (5, .slice (some ⟨k1, 0, none⟩) 4 4), (6, i64 0)]) hA [] c0 ?_
  clear hA fr; intro fr hA
  refine end_ops ?_
  refine then_normal ?_
  refine wp_seq ?_
  refine sR (l := (rg 0 12)) ?_
  refine ck (l := (rg 0 8)) (r := [8, 9, 10, 11]) (e' := [(2, pt b1), (3, pt b2), (4, bl false), (5, .slice (some ⟨k1, 0, none⟩) 4 4), (25, bl (decide (pc < 0))), (26, bl (decide (pc < 0))), (27, bl (decide (pc < 0)))]) hA [i64 pc] (cc (hO.l1 2 16 3 (i64 pc)) c0) ?_
  clear hA fr; intro fr hA
  replace hA := hA.bool (f := fun z => [(2, pt b1), (3, pt b2), (4, bl false), (5, .slice (some ⟨k1, 0, none⟩) 4 4), (25, .bool z), (26, .bool z), (27, .bool z)]) (decide_eq_false (by omega) : (decide (pc < 0)) = false)
  refine ck (l := [8, 9, 10, 11]) (r := []) (e' := [(2, pt b1), (3, pt b2), (4, bl false), (5, .slice (some ⟨k1, 0, none⟩) 4 4), (31, bl (decide (pc > 1048576)))]) hA [i64 pc] (cc (hO.l1 2 16 3 (i64 pc)) c0) ?_
  clear hA fr; intro fr hA
  refine end_ops ?_
  refine then_normal ?_
  replace hA := hA.bool (f := fun z => [(2, pt b1), (3, pt b2), (4, bl false), (5, .slice (some ⟨k1, 0, none⟩) 4 4), (31, .bool z)]) (decide_eq_false (by omega) : (decide (pc > 1048576)) = false)
  refine cF hA ?_
  refine wp_skip ?_
  refine then_normal ?_
  refine sR (l := (rg 0 12)) ?_
  refine ck (l := [0, 1]) (r := (rg 2 10)) (e' := [(2, pt b1), (3, pt b2), (4, bl false), (33, .agg (List.toArray (regsL R pc))), (34, .slice (some ⟨k1, 0, none⟩) 4 4)]) hA [.agg (List.toArray (regsL R pc))] (cc (hO.ln 2 0 38 (regsL R pc)) c0) ?_
  clear hA fr; intro fr hA
  refine wpOps_cons' (mK (f := 18) (args := [.agg (List.toArray (regsL R pc)), .slice (some ⟨k1, 0, none⟩) 4 4, i64 1]) (d := (some 35)) (v := .tuple #[.agg (List.toArray (regsL R' (pc + 4))), i64 st, .agg #[i64 0, i64 k, i64 p0, i64 p1, i64 p2, i64 p3, i64 p4]]) hA hO Tryd.func18 (rs (exec_any R pc 1 _ ([IntKind.u8.wrap o, IntKind.u8.wrap a, cond (opV o) (IntKind.u8.wrap (v / 256)) (IntKind.u8.wrap b), cond (opV o) (IntKind.u8.wrap v) (IntKind.u8.wrap c)]) _ (hT.keep hO.only (fun h => h)) hR (by omega) (by omega) ((hO.b 0).sl (xs := [IntKind.u8.wrap o, IntKind.u8.wrap a, cond (opV o) (IntKind.u8.wrap (v / 256)) (IntKind.u8.wrap b), cond (opV o) (IntKind.u8.wrap v) (IntKind.u8.wrap c)]) (U8s.cons (wrap_inK .u8 _) (U8s.cons (wrap_inK .u8 _) (U8s.cons (inK_cond (wrap_inK .u8 _) (wrap_inK .u8 _)) (U8s.cons (inK_cond (wrap_inK .u8 _) (wrap_inK .u8 _)) U8s.nil)))) rfl (by kernel_rfl))) ((execX_enc R pc 1 hl).trans hx)) ?_)
  clear hA hO fr; intro fr w5 hA hO
  replace hA := hA.sb (e' := [(2, pt b1), (3, pt b2), (4, bl false), (35, .tuple #[.agg (List.toArray (regsL R' (pc + 4))), i64 st, .agg #[i64 0, i64 k, i64 p0, i64 p1, i64 p2, i64 p3, i64 p4]])])
  refine ck (l := [3, 4, 5, 6]) (r := (rg 7 5)) (e' := [(2, pt b1), (3, pt b2), (4, bl false), (36, .agg (List.toArray (regsL R' (pc + 4)))), (37, i64 st), (38, .agg #[i64 0, i64 k, i64 p0, i64 p1, i64 p2, i64 p3, i64 p4])]) hA [] c0 ?_
  clear hA fr; intro fr hA
  refine wpOps_cons' (mN (l := [i32 0, i32 0, i32 0, i32 0, i32 0, i32 0, i32 0, i32 0, i32 0, i32 0, i32 0, i32 0, i32 0, i32 0, i32 0, i32 0, i64 0]) (t := 40) (v := pt) (d := 7) hA hO ?_)
  clear hA hO fr; intro fr w6 b3 hA hO
  refine wpOps_cons' (mN (l := [i64 0, i64 0, i64 0, i64 0, i64 0, i64 0, i64 0]) (t := 43) (v := pt) (d := 9) hA hO ?_)
  clear hA hO fr; intro fr w7 b4 hA hO
  refine wpOps_cons' (mS (off := 0) (vc := (regsL R' (pc + 4))) 1 hA hO ?_)
  clear hO; intro w8 hO
  replace hA := hA.sb (e' := [(2, pt b1), (3, pt b2), (4, bl false), (7, pt b3), (9, pt b4), (37, i64 st), (38, .agg #[i64 0, i64 k, i64 p0, i64 p1, i64 p2, i64 p3, i64 p4])])
  refine ck (l := [10]) (r := [11]) (e' := [(2, pt b1), (3, pt b2), (4, bl false), (7, pt b3), (9, pt b4), (38, .agg #[i64 0, i64 k, i64 p0, i64 p1, i64 p2, i64 p3, i64 p4])]) hA [] c0 ?_
  clear hA fr; intro fr hA
  refine wpOps_cons' (mS (off := 0) (vc := [i64 0, i64 k, i64 p0, i64 p1, i64 p2, i64 p3, i64 p4]) 0 hA hO ?_)
  clear hO; intro w9 hO
  replace hA := hA.sb (e' := [(2, pt b1), (3, pt b2), (4, bl false), (7, pt b3), (9, pt b4)])
  refine end_ops ?_
  refine then_normal ?_
  refine wp_seq ?_
  refine sC (e' := [(2, pt b1), (3, pt b2), (4, bl false), (7, pt b3), (41, bl false)]) 3 hA [i64 0] (cc (hO.l1 0 0 3 (i64 0)) c0) ?_
  clear hA fr; intro fr hA
  refine cF hA ?_
  refine wp_skip ?_
  refine then_normal ?_
  refine wp_seq ?_
  refine sR (l := (rg 0 8)) ?_
  refine ck (l := [0, 1, 2, 3]) (r := [4, 5, 6, 7]) (e' := [(2, pt b1), (3, pt b2), (4, bl false), (7, pt b3), (47, bl (decide (o < 18))), (48, bl (decide (o < 18)))]) hA [i64 o] (cc (hO.l1 3 0 3 (i64 o)) c0) ?_
  clear hA fr; intro fr hA
  rcases Bool.eq_false_or_eq_true (decide (o < 18)) with h1 | h1
  ·
    replace hA := hA.bool (f := fun z => [(2, pt b1), (3, pt b2), (4, bl false), (7, pt b3), (47, .bool z), (48, .bool z)]) h1
    have h1p := of_decide_eq_true h1
    refine ck (l := [4, 5, 6, 7]) (r := []) (e' := [(2, pt b1), (3, pt b2), (4, bl false), (7, pt b3), (52, bl true)]) hA [] c0 ?_
    clear hA fr; intro fr hA
    refine end_ops ?_
    refine then_normal ?_
    refine cT hA ?_
    refine sC (e' := [(2, pt b1), (3, pt b2), (4, bl ((pc + 4) == (pc + 4))), (7, pt b3)]) 7 hA [i64 (pc + 4), i64 pc, bl true] (cc (hO.l1 1 16 3 (i64 (pc + 4))) (cc (hO.l1 4 16 3 (i64 pc)) (cc ((inK_i64 (by omega) (by omega)) : inK .i64 (pc + 4)) c0))) ?_
    clear hA fr; intro fr hA
    refine wp_ret ?_
    refine then_ret ?_
    refine cR (cs := [none]) (us := [bl ((pc + 4) == (pc + 4))]) hA [] trivial ?_
    have hF := hO.only; clear hA hO
    exact ⟨by first | rfl | simp [pack], hF⟩
  ·
    replace hA := hA.bool (f := fun z => [(2, pt b1), (3, pt b2), (4, bl false), (7, pt b3), (47, .bool z), (48, .bool z)]) h1
    have h1p := of_decide_eq_false h1
    refine ck (l := [4, 5, 6, 7]) (r := []) (e' := [(2, pt b1), (3, pt b2), (4, bl false), (7, pt b3), (52, bl (o == 22))]) hA [i64 o] (cc (hO.l1 3 0 3 (i64 o)) c0) ?_
    clear hA fr; intro fr hA
    refine end_ops ?_
    refine then_normal ?_
    replace hA := hA.bool (f := fun z => [(2, pt b1), (3, pt b2), (4, bl false), (7, pt b3), (52, .bool z)]) (beq_iff_eq.2 (by omega) : (o == 22) = true)
    refine cT hA ?_
    refine sC (e' := [(2, pt b1), (3, pt b2), (4, bl ((pc + 4) == (pc + 4))), (7, pt b3)]) 7 hA [i64 (pc + 4), i64 pc, bl true] (cc (hO.l1 1 16 3 (i64 (pc + 4))) (cc (hO.l1 4 16 3 (i64 pc)) (cc ((inK_i64 (by omega) (by omega)) : inK .i64 (pc + 4)) c0))) ?_
    clear hA fr; intro fr hA
    refine wp_ret ?_
    refine then_ret ?_
    refine cR (cs := [none]) (us := [bl ((pc + 4) == (pc + 4))]) hA [] trivial ?_
    have hF := hO.only; clear hA hO
    exact ⟨by first | rfl | simp [pack], hF⟩

theorem ctl_next1 (R' : Nat → Int) (R : Nat → Int) (pc st k p0 p1 p2 p3 p4 o a b c v : Int) (w : World) (hT : Tab w) (hR : RegsOk R) (hl : legalB o a b c v = true) (hp : 0 ≤ pc) (hp' : pc ≤ 1048576) (ho : o < 18 ∨ o = 22) (hx : execV R pc 1 o a b c v = outV R' (pc + 4) st (trapL 1 k p0 p1 p2 p3 p4)) :
    Calls Tryd.prog 6 #[.agg (List.toArray (regsL R pc)), .agg #[i64 o, i64 a, i64 b, i64 c, i64 v]] w fun e w' => e = .returned (.bool true) ∧ Only none' w w' := by
  refine c_enter (args := [.agg (List.toArray (regsL R pc)), .agg #[i64 o, i64 a, i64 b, i64 c, i64 v]]) (m := 119) (n := 121) Tryd.func6 rfl (by kernel_rfl) (by kernel_rfl) fun fr hA => ?_
  have hO := Ow.nil Tryd.prog none' w
  obtain ⟨ho_, ha_, hb_, hc_, hv_, hc2_⟩ := legal_spec hl
  refine sR (l := [0, 1, 2]) ?_
  refine wpOps_cons' (mN (l := (regsL R pc)) (t := 38) (v := pt) (d := 2) hA hO ?_)
  clear hA hO fr; intro fr w1 b1 hA hO
  replace hA := hA.sb (e' := [(1, .agg #[i64 o, i64 a, i64 b, i64 c, i64 v]), (2, pt b1)])
  refine wpOps_cons' (mN (l := [i64 o, i64 a, i64 b, i64 c, i64 v]) (t := 29) (v := pt) (d := 3) hA hO ?_)
  clear hA hO fr; intro fr w2 b2 hA hO
  replace hA := hA.sb (e' := [(2, pt b1), (3, pt b2)])
  refine ck (l := [2]) (r := []) (e' := [(2, pt b1), (3, pt b2), (4, bl false)]) hA [] c0 ?_
  clear hA fr; intro fr hA
  refine end_ops ?_
  refine then_normal ?_
  refine wp_seq ?_
  refine sR (l := [0, 1]) ?_
  refine wpOps_cons' (mK (f := 12) (args := []) (d := (some 13)) (v := bl true) hA hO Tryd.func12 (awake_any _ (hT.keep hO.only (fun h => h))) ?_)
  clear hA hO fr; intro fr w3 hA hO
  refine ck (l := [1]) (r := []) (e' := [(2, pt b1), (3, pt b2), (4, bl false), (14, bl false)]) hA [] c0 ?_
  clear hA fr; intro fr hA
  refine end_ops ?_
  refine then_normal ?_
  refine cF hA ?_
  refine wp_skip ?_
  refine then_normal ?_
  refine sR (l := (rg 0 7)) ?_
  refine ck (l := [0]) (r := (rg 1 6)) (e' := [(2, pt b1), (3, pt b2), (4, bl false), (16, .agg #[i64 o, i64 a, i64 b, i64 c, i64 v])]) hA [.agg #[i64 o, i64 a, i64 b, i64 c, i64 v]] (cc (hO.ln 0 0 29 [i64 o, i64 a, i64 b, i64 c, i64 v]) c0) ?_
  clear hA fr; intro fr hA
  refine wpOps_cons' (mC (f := 15) (args := [.agg #[i64 o, i64 a, i64 b, i64 c, i64 v]]) (d := (some 17)) hA Tryd.func15 ((encode_ok o a b c v _ (hT.keep hO.only (fun h => h)) hl).mono ?_))
  rintro en w4 ⟨k1, rfl, ho, hbk, hge⟩
  refine ⟨_, rfl, ?_⟩
  clear hA fr; intro fr hA
  replace hO := hO.add ho hbk hge; clear ho hbk hge
  replace hA := hA.sb (e' := [(2, pt b1), (3, pt b2), (4, bl false), (17, .tuple #[.slice (some ⟨k1, 0, none⟩) 4 4, i64 0])])
  refine ck (l := (rg 2 5)) (r := []) (e' := [(2, pt b1), (3, pt b2), (4, bl false), (5, .slice (some ⟨k1, 0, none⟩) 4 4), (6, i64 0)]) hA [] c0 ?_
  clear hA fr; intro fr hA
  refine end_ops ?_
  refine then_normal ?_
  refine wp_seq ?_
  refine sR (l := (rg 0 12)) ?_
  refine ck (l := (rg 0 8)) (r := [8, 9, 10, 11]) (e' := [(2, pt b1), (3, pt b2), (4, bl false), (5, .slice (some ⟨k1, 0, none⟩) 4 4), (25, bl (decide (pc < 0))), (26, bl (decide (pc < 0))), (27, bl (decide (pc < 0)))]) hA [i64 pc] (cc (hO.l1 2 16 3 (i64 pc)) c0) ?_
  clear hA fr; intro fr hA
  replace hA := hA.bool (f := fun z => [(2, pt b1), (3, pt b2), (4, bl false), (5, .slice (some ⟨k1, 0, none⟩) 4 4), (25, .bool z), (26, .bool z), (27, .bool z)]) (decide_eq_false (by omega) : (decide (pc < 0)) = false)
  refine ck (l := [8, 9, 10, 11]) (r := []) (e' := [(2, pt b1), (3, pt b2), (4, bl false), (5, .slice (some ⟨k1, 0, none⟩) 4 4), (31, bl (decide (pc > 1048576)))]) hA [i64 pc] (cc (hO.l1 2 16 3 (i64 pc)) c0) ?_
  clear hA fr; intro fr hA
  refine end_ops ?_
  refine then_normal ?_
  replace hA := hA.bool (f := fun z => [(2, pt b1), (3, pt b2), (4, bl false), (5, .slice (some ⟨k1, 0, none⟩) 4 4), (31, .bool z)]) (decide_eq_false (by omega) : (decide (pc > 1048576)) = false)
  refine cF hA ?_
  refine wp_skip ?_
  refine then_normal ?_
  refine sR (l := (rg 0 12)) ?_
  refine ck (l := [0, 1]) (r := (rg 2 10)) (e' := [(2, pt b1), (3, pt b2), (4, bl false), (33, .agg (List.toArray (regsL R pc))), (34, .slice (some ⟨k1, 0, none⟩) 4 4)]) hA [.agg (List.toArray (regsL R pc))] (cc (hO.ln 2 0 38 (regsL R pc)) c0) ?_
  clear hA fr; intro fr hA
  refine wpOps_cons' (mK (f := 18) (args := [.agg (List.toArray (regsL R pc)), .slice (some ⟨k1, 0, none⟩) 4 4, i64 1]) (d := (some 35)) (v := .tuple #[.agg (List.toArray (regsL R' (pc + 4))), i64 st, .agg #[i64 1, i64 k, i64 p0, i64 p1, i64 p2, i64 p3, i64 p4]]) hA hO Tryd.func18 (rs (exec_any R pc 1 _ ([IntKind.u8.wrap o, IntKind.u8.wrap a, cond (opV o) (IntKind.u8.wrap (v / 256)) (IntKind.u8.wrap b), cond (opV o) (IntKind.u8.wrap v) (IntKind.u8.wrap c)]) _ (hT.keep hO.only (fun h => h)) hR (by omega) (by omega) ((hO.b 0).sl (xs := [IntKind.u8.wrap o, IntKind.u8.wrap a, cond (opV o) (IntKind.u8.wrap (v / 256)) (IntKind.u8.wrap b), cond (opV o) (IntKind.u8.wrap v) (IntKind.u8.wrap c)]) (U8s.cons (wrap_inK .u8 _) (U8s.cons (wrap_inK .u8 _) (U8s.cons (inK_cond (wrap_inK .u8 _) (wrap_inK .u8 _)) (U8s.cons (inK_cond (wrap_inK .u8 _) (wrap_inK .u8 _)) U8s.nil)))) rfl (by kernel_rfl))) ((execX_enc R pc 1 hl).trans hx)) ?_)
  clear hA hO fr; intro fr w5 hA hO
  replace hA := hA.sb (e' := [(2, pt b1), (3, pt b2), (4, bl false), (35, .tuple #[.agg (List.toArray (regsL R' (pc + 4))), i64 st, .agg #[i64 1, i64 k, i64 p0, i64 p1, i64 p2, i64 p3, i64 p4]])])
  refine ck (l := [3, 4, 5, 6]) (r := (rg 7 5)) (e' := [(2, pt b1), (3, pt b2), (4, bl false), (36, .agg (List.toArray (regsL R' (pc + 4)))), (37, i64 st), (38, .agg #[i64 1, i64 k, i64 p0, i64 p1, i64 p2, i64 p3, i64 p4])]) hA [] c0 ?_
  clear hA fr; intro fr hA
  refine wpOps_cons' (mN (l := [i32 0, i32 0, i32 0, i32 0, i32 0, i32 0, i32 0, i32 0, i32 0, i32 0, i32 0, i32 0, i32 0, i32 0, i32 0, i32 0, i64 0]) (t := 40) (v := pt) (d := 7) hA hO ?_)
  clear hA hO fr; intro fr w6 b3 hA hO
  refine wpOps_cons' (mN (l := [i64 0, i64 0, i64 0, i64 0, i64 0, i64 0, i64 0]) (t := 43) (v := pt) (d := 9) hA hO ?_)
  clear hA hO fr; intro fr w7 b4 hA hO
  refine wpOps_cons' (mS (off := 0) (vc := (regsL R' (pc + 4))) 1 hA hO ?_)
  clear hO; intro w8 hO
  replace hA := hA.sb (e' := [(2, pt b1), (3, pt b2), (4, bl false), (7, pt b3), (9, pt b4), (37, i64 st), (38, .agg #[i64 1, i64 k, i64 p0, i64 p1, i64 p2, i64 p3, i64 p4])])
  refine ck (l := [10]) (r := [11]) (e' := [(2, pt b1), (3, pt b2), (4, bl false), (7, pt b3), (9, pt b4), (38, .agg #[i64 1, i64 k, i64 p0, i64 p1, i64 p2, i64 p3, i64 p4])]) hA [] c0 ?_
  clear hA fr; intro fr hA
  refine wpOps_cons' (mS (off := 0) (vc := [i64 1, i64 k, i64 p0, i64 p1, i64 p2, i64 p3, i64 p4]) 0 hA hO ?_)
  clear hO; intro w9 hO
  replace hA := hA.sb (e' := [(2, pt b1), (3, pt b2), (4, bl false), (7, pt b3), (9, pt b4)])
  refine end_ops ?_
  refine then_normal ?_
  refine wp_seq ?_
  refine sC (e' := [(2, pt b1), (3, pt b2), (4, bl false), (7, pt b3), (41, bl false)]) 3 hA [i64 1] (cc (hO.l1 0 0 3 (i64 1)) c0) ?_
  clear hA fr; intro fr hA
  refine cF hA ?_
  refine wp_skip ?_
  refine then_normal ?_
  refine wp_seq ?_
  refine sR (l := (rg 0 8)) ?_
  refine ck (l := [0, 1, 2, 3]) (r := [4, 5, 6, 7]) (e' := [(2, pt b1), (3, pt b2), (4, bl false), (7, pt b3), (47, bl (decide (o < 18))), (48, bl (decide (o < 18)))]) hA [i64 o] (cc (hO.l1 3 0 3 (i64 o)) c0) ?_
  clear hA fr; intro fr hA
  rcases Bool.eq_false_or_eq_true (decide (o < 18)) with h1 | h1
  ·
    replace hA := hA.bool (f := fun z => [(2, pt b1), (3, pt b2), (4, bl false), (7, pt b3), (47, .bool z), (48, .bool z)]) h1
    have h1p := of_decide_eq_true h1
    refine ck (l := [4, 5, 6, 7]) (r := []) (e' := [(2, pt b1), (3, pt b2), (4, bl false), (7, pt b3), (52, bl true)]) hA [] c0 ?_
    clear hA fr; intro fr hA
    refine end_ops ?_
    refine then_normal ?_
    refine cT hA ?_
    refine sC (e' := [(2, pt b1), (3, pt b2), (4, bl ((pc + 4) == (pc + 4))), (7, pt b3)]) 7 hA [i64 (pc + 4), i64 pc, bl true] (cc (hO.l1 1 16 3 (i64 (pc + 4))) (cc (hO.l1 4 16 3 (i64 pc)) (cc ((inK_i64 (by omega) (by omega)) : inK .i64 (pc + 4)) c0))) ?_
    clear hA fr; intro fr hA
    refine wp_ret ?_
    refine then_ret ?_
    refine cR (cs := [none]) (us := [bl ((pc + 4) == (pc + 4))]) hA [] trivial ?_
    have hF := hO.only; clear hA hO
    exact ⟨by first | rfl | simp [pack], hF⟩
  ·
    replace hA := hA.bool (f := fun z => [(2, pt b1), (3, pt b2), (4, bl false), (7, pt b3), (47, .bool z), (48, .bool z)]) h1
    have h1p := of_decide_eq_false h1
    refine ck (l := [4, 5, 6, 7]) (r := []) (e' := [(2, pt b1), (3, pt b2), (4, bl false), (7, pt b3), (52, bl (o == 22))]) hA [i64 o] (cc (hO.l1 3 0 3 (i64 o)) c0) ?_
    clear hA fr; intro fr hA
    refine end_ops ?_
    refine then_normal ?_
    replace hA := hA.bool (f := fun z => [(2, pt b1), (3, pt b2), (4, bl false), (7, pt b3), (52, .bool z)]) (beq_iff_eq.2 (by omega) : (o == 22) = true)
    refine cT hA ?_
    refine sC (e' := [(2, pt b1), (3, pt b2), (4, bl ((pc + 4) == (pc + 4))), (7, pt b3)]) 7 hA [i64 (pc + 4), i64 pc, bl true] (cc (hO.l1 1 16 3 (i64 (pc + 4))) (cc (hO.l1 4 16 3 (i64 pc)) (cc ((inK_i64 (by omega) (by omega)) : inK .i64 (pc + 4)) c0))) ?_
    clear hA fr; intro fr hA
    refine wp_ret ?_
    refine then_ret ?_
    refine cR (cs := [none]) (us := [bl ((pc + 4) == (pc + 4))]) hA [] trivial ?_
    have hF := hO.only; clear hA hO
    exact ⟨by first | rfl | simp [pack], hF⟩

theorem updOk {R : Nat → Int} {k : Nat} {v : Int} (h : RegsOk R) (hv : inK .i32 v) : RegsOk (upd R k v) := fun i => by
  unfold upd; split
  · exact hv
  · exact h i
theorem back_exec (R : Nat → Int) (pc ld : Int) {a : Int} (ha : 0 ≤ a ∧ a ≤ 15) : execX R pc ld [21, IntKind.u8.wrap a, 0, 0] = outV R (R a.toNat) 0 noTrap := by
  have hl : legalB 21 a 0 0 0 = true := by
    have : regB a true = true := by simp [regB]; omega
    show ((true && true) && (regB a true && (true && (true && true)))) = true
    rw [this]; rfl
  exact (execX_enc R pc ld hl).trans (by kernel_rfl)

theorem ctl_21 (R : Nat → Int) (pc a b c v : Int) (w : World) (hT : Tab w) (hR : RegsOk R) (hl : legalB 21 a b c v = true) (hp : 0 ≤ pc) (hp' : pc ≤ 1048576) :
    Calls Tryd.prog 6 #[.agg (List.toArray (regsL R pc)), .agg #[i64 21, i64 a, i64 b, i64 c, i64 v]] w fun e w' => e = .returned (.bool true) ∧ Only none' w w' := by
  refine c_enter (args := [.agg (List.toArray (regsL R pc)), .agg #[i64 21, i64 a, i64 b, i64 c, i64 v]]) (m := 119) (n := 121) Tryd.func6 rfl (by kernel_rfl) (by kernel_rfl) fun fr hA => ?_
  have hO := Ow.nil Tryd.prog none' w
  obtain ⟨ho_, ha_, hb_, hc_, hv_, hc2_⟩ := legal_spec hl
  refine sR (l := [0, 1, 2]) ?_
  refine wpOps_cons' (mN (l := (regsL R pc)) (t := 38) (v := pt) (d := 2) hA hO ?_)
  clear hA hO fr; intro fr w1 b1 hA hO
  replace hA := hA.sb (e' := [(1, .agg #[i64 21, i64 a, i64 b, i64 c, i64 v]), (2, pt b1)])
  refine wpOps_cons' (mN (l := [i64 21, i64 a, i64 b, i64 c, i64 v]) (t := 29) (v := pt) (d := 3) hA hO ?_)
  clear hA hO fr; intro fr w2 b2 hA hO
  replace hA := hA.sb (e' := [(2, pt b1), (3, pt b2)])
  refine ck (l := [2]) (r := []) (e' := [(2, pt b1), (3, pt b2), (4, bl false)]) hA [] c0 ?_
  clear hA fr; intro fr hA
  refine end_ops ?_
  refine then_normal ?_
  refine wp_seq ?_
  refine sR (l := [0, 1]) ?_
  refine wpOps_cons' (mK (f := 12) (args := []) (d := (some 13)) (v := bl true) hA hO Tryd.func12 (awake_any _ (hT.keep hO.only (fun h => h))) ?_)
  clear hA hO fr; intro fr w3 hA hO
  refine ck (l := [1]) (r := []) (e' := [(2, pt b1), (3, pt b2), (4, bl false), (14, bl false)]) hA [] c0 ?_
  clear hA fr; intro fr hA
  refine end_ops ?_
  refine then_normal ?_
  refine cF hA ?_
  refine wp_skip ?_
  refine then_normal ?_
  refine sR (l := (rg 0 7)) ?_
  refine ck (l := [0]) (r := (rg 1 6)) (e' := [(2, pt b1), (3, pt b2), (4, bl false), (16, .agg #[i64 21, i64 a, i64 b, i64 c, i64 v])]) hA [.agg #[i64 21, i64 a, i64 b, i64 c, i64 v]] (cc (hO.ln 0 0 29 [i64 21, i64 a, i64 b, i64 c, i64 v]) c0) ?_
  clear hA fr; intro fr hA
  refine wpOps_cons' (mC (f := 15) (args := [.agg #[i64 21, i64 a, i64 b, i64 c, i64 v]]) (d := (some 17)) hA Tryd.func15 ((encode_ok 21 a b c v _ (hT.keep hO.only (fun h => h)) hl).mono ?_))
  rintro en w4 ⟨k1, rfl, ho, hbk, hge⟩
  refine ⟨_, rfl, ?_⟩
  clear hA fr; intro fr hA
  replace hO := hO.add ho hbk hge; clear ho hbk hge
  replace hA := hA.sb (e' := [(2, pt b1), (3, pt b2), (4, bl false), (17, .tuple #[.slice (some ⟨k1, 0, none⟩) 4 4, i64 0])])
  refine ck (l := (rg 2 5)) (r := []) (e' := [(2, pt b1), (3, pt b2), (4, bl false), (5, .slice (some ⟨k1, 0, none⟩) 4 4), (6, i64 0)]) hA [] c0 ?_
  clear hA fr; intro fr hA
  refine end_ops ?_
  refine then_normal ?_
  refine wp_seq ?_
  refine sR (l := (rg 0 12)) ?_
  refine ck (l := (rg 0 8)) (r := [8, 9, 10, 11]) (e' := [(2, pt b1), (3, pt b2), (4, bl false), (5, .slice (some ⟨k1, 0, none⟩) 4 4), (25, bl (decide (pc < 0))), (26, bl (decide (pc < 0))), (27, bl (decide (pc < 0)))]) hA [i64 pc] (cc (hO.l1 2 16 3 (i64 pc)) c0) ?_
  clear hA fr; intro fr hA
  replace hA := hA.bool (f := fun z => [(2, pt b1), (3, pt b2), (4, bl false), (5, .slice (some ⟨k1, 0, none⟩) 4 4), (25, .bool z), (26, .bool z), (27, .bool z)]) (decide_eq_false (by omega) : (decide (pc < 0)) = false)
  refine ck (l := [8, 9, 10, 11]) (r := []) (e' := [(2, pt b1), (3, pt b2), (4, bl false), (5, .slice (some ⟨k1, 0, none⟩) 4 4), (31, bl (decide (pc > 1048576)))]) hA [i64 pc] (cc (hO.l1 2 16 3 (i64 pc)) c0) ?_
  clear hA fr; intro fr hA
  refine end_ops ?_
  refine then_normal ?_
  replace hA := hA.bool (f := fun z => [(2, pt b1), (3, pt b2), (4, bl false), (5, .slice (some ⟨k1, 0, none⟩) 4 4), (31, .bool z)]) (decide_eq_false (by omega) : (decide (pc > 1048576)) = false)
  refine cF hA ?_
  refine wp_skip ?_
  refine then_normal ?_
  refine sR (l := (rg 0 12)) ?_
  refine ck (l := [0, 1]) (r := (rg 2 10)) (e' := [(2, pt b1), (3, pt b2), (4, bl false), (33, .agg (List.toArray (regsL R pc))), (34, .slice (some ⟨k1, 0, none⟩) 4 4)]) hA [.agg (List.toArray (regsL R pc))] (cc (hO.ln 2 0 38 (regsL R pc)) c0) ?_
  clear hA fr; intro fr hA
  refine wpOps_cons' (mK (f := 18) (args := [.agg (List.toArray (regsL R pc)), .slice (some ⟨k1, 0, none⟩) 4 4, i64 1]) (d := (some 35)) (v := .tuple #[.agg (List.toArray (regsL R (R a.toNat))), i64 0, .agg #[i64 0, i64 0, i64 0, i64 0, i64 0, i64 0, i64 0]]) hA hO Tryd.func18 (rs (exec_any R pc 1 _ ([IntKind.u8.wrap 21, IntKind.u8.wrap a, cond (opV 21) (IntKind.u8.wrap (v / 256)) (IntKind.u8.wrap b), cond (opV 21) (IntKind.u8.wrap v) (IntKind.u8.wrap c)]) _ (hT.keep hO.only (fun h => h)) hR (by omega) (by omega) ((hO.b 0).sl (xs := [IntKind.u8.wrap 21, IntKind.u8.wrap a, cond (opV 21) (IntKind.u8.wrap (v / 256)) (IntKind.u8.wrap b), cond (opV 21) (IntKind.u8.wrap v) (IntKind.u8.wrap c)]) (U8s.cons (wrap_inK .u8 _) (U8s.cons (wrap_inK .u8 _) (U8s.cons (inK_cond (wrap_inK .u8 _) (wrap_inK .u8 _)) (U8s.cons (inK_cond (wrap_inK .u8 _) (wrap_inK .u8 _)) U8s.nil)))) rfl (by kernel_rfl))) ((execX_enc R pc 1 hl).trans (by kernel_rfl))) ?_)
  clear hA hO fr; intro fr w5 hA hO
  replace hA := hA.sb (e' := [(2, pt b1), (3, pt b2), (4, bl false), (35, .tuple #[.agg (List.toArray (regsL R (R a.toNat))), i64 0, .agg #[i64 0, i64 0, i64 0, i64 0, i64 0, i64 0, i64 0]])])
  refine ck (l := [3, 4, 5, 6]) (r := (rg 7 5)) (e' := [(2, pt b1), (3, pt b2), (4, bl false), (36, .agg (List.toArray (regsL R (R a.toNat)))), (37, i64 0), (38, .agg #[i64 0, i64 0, i64 0, i64 0, i64 0, i64 0, i64 0])]) hA [] c0 ?_
  clear hA fr; intro fr hA
  refine wpOps_cons' (mN (l := [i32 0, i32 0, i32 0, i32 0, i32 0, i32 0, i32 0, i32 0, i32 0, i32 0, i32 0, i32 0, i32 0, i32 0, i32 0, i32 0, i64 0]) (t := 40) (v := pt) (d := 7) hA hO ?_)
  clear hA hO fr; intro fr w6 b3 hA hO
  refine wpOps_cons' (mN (l := [i64 0, i64 0, i64 0, i64 0, i64 0, i64 0, i64 0]) (t := 43) (v := pt) (d := 9) hA hO ?_)
  clear hA hO fr; intro fr w7 b4 hA hO
  refine wpOps_cons' (mS (off := 0) (vc := (regsL R (R a.toNat))) 1 hA hO ?_)
  clear hO; intro w8 hO
  replace hA := hA.sb (e' := [(2, pt b1), (3, pt b2), (4, bl false), (7, pt b3), (9, pt b4), (37, i64 0), (38, .agg #[i64 0, i64 0, i64 0, i64 0, i64 0, i64 0, i64 0])])
  refine ck (l := [10]) (r := [11]) (e' := [(2, pt b1), (3, pt b2), (4, bl false), (7, pt b3), (9, pt b4), (38, .agg #[i64 0, i64 0, i64 0, i64 0, i64 0, i64 0, i64 0])]) hA [] c0 ?_
  clear hA fr; intro fr hA
  refine wpOps_cons' (mS (off := 0) (vc := [i64 0, i64 0, i64 0, i64 0, i64 0, i64 0, i64 0]) 0 hA hO ?_)
  clear hO; intro w9 hO
  replace hA := hA.sb (e' := [(2, pt b1), (3, pt b2), (4, bl false), (7, pt b3), (9, pt b4)])
  refine end_ops ?_
  refine then_normal ?_
  refine wp_seq ?_
  refine sC (e' := [(2, pt b1), (3, pt b2), (4, bl false), (7, pt b3), (41, bl false)]) 3 hA [i64 0] (cc (hO.l1 0 0 3 (i64 0)) c0) ?_
  clear hA fr; intro fr hA
  refine cF hA ?_
  refine wp_skip ?_
  refine then_normal ?_
  refine wp_seq ?_
  refine sC (e' := [(2, pt b1), (3, pt b2), (4, bl false), (7, pt b3), (52, bl false)]) 8 hA [i64 21, i64 21] (cc (hO.l1 3 0 3 (i64 21)) (cc (hO.l1 3 0 3 (i64 21)) c0)) ?_
  clear hA fr; intro fr hA
  refine cF hA ?_
  refine wp_skip ?_
  refine then_normal ?_
  refine wp_seq ?_
  refine sC (e' := [(2, pt b1), (3, pt b2), (4, bl false), (7, pt b3), (61, bl true)]) 3 hA [i64 21] (cc (hO.l1 3 0 3 (i64 21)) c0) ?_
  clear hA fr; intro fr hA
  refine cT hA ?_
  refine wp_seq ?_
  have hS := hO
  refine rP [(0, true), (1, true), (2, true), (3, true), (4, true), (5, true), (6, true), (7, true), (8, true), (9, true)] hS ?_
  intro w10 ho; replace hO := hO.st ho; clear ho
  refine ckS (l := (rg 0 10)) (r := []) (e' := [(2, pt b1), (3, pt b2), (4, bl ((R a.toNat) == (R ((a).toNat)))), (7, pt b3)]) hA [i64 (R a.toNat), i64 a, i32 (R ((a).toNat)), bl true] (cc (hS.s1 1 16 3 (i64 (R a.toNat))) (cc (hS.s1 3 1 3 (i64 a)) (cc (⟨by omega, by omega⟩ : (0 : Int) ≤ a ∧ a < ((16 : Nat) : Int)) (cc (hS.sx ((⟨b1, 0, none⟩ : Addr).add ((a).toNat)) 21 (i32 (R ((a).toNat))) fun _ hO => (ld_regs (hO.b 4) (by omega) (by kernel_rfl))) (cc ((inK_up (by kernel_rfl) (hR _)) : inK .i64 (R ((a).toNat))) c0))))) ?_
  clear hA fr; intro fr hA
  refine end_plan ?_
  refine then_normal ?_
  refine wp_ret ?_
  refine then_ret ?_
  refine cR (cs := [none]) (us := [bl ((R a.toNat) == (R ((a).toNat)))]) hA [] trivial ?_
  have hF := hO.only; clear hA hO
  exact ⟨by first | rfl | simp [pack], hF⟩

theorem ctl_19n (R : Nat → Int) (pc a b c v : Int) (w : World) (hT : Tab w) (hR : RegsOk R) (hl : legalB 19 a b c v = true) (hp : 0 ≤ pc) (hp' : pc ≤ 1048576) (hz : R a.toNat ≠ 0) :
    Calls Tryd.prog 6 #[.agg (List.toArray (regsL R pc)), .agg #[i64 19, i64 a, i64 b, i64 c, i64 v]] w fun e w' => e = .returned (.bool true) ∧ Only none' w w' := by
  refine c_enter (args := [.agg (List.toArray (regsL R pc)), .agg #[i64 19, i64 a, i64 b, i64 c, i64 v]]) (m := 119) (n := 121) Tryd.func6 rfl (by kernel_rfl) (by kernel_rfl) fun fr hA => ?_
  have hO := Ow.nil Tryd.prog none' w
  obtain ⟨ho_, ha_, hb_, hc_, hv_, hc2_⟩ := legal_spec hl
  refine sR (l := [0, 1, 2]) ?_
  refine wpOps_cons' (mN (l := (regsL R pc)) (t := 38) (v := pt) (d := 2) hA hO ?_)
  clear hA hO fr; intro fr w1 b1 hA hO
  replace hA := hA.sb (e' := [(1, .agg #[i64 19, i64 a, i64 b, i64 c, i64 v]), (2, pt b1)])
  refine wpOps_cons' (mN (l := [i64 19, i64 a, i64 b, i64 c, i64 v]) (t := 29) (v := pt) (d := 3) hA hO ?_)
  clear hA hO fr; intro fr w2 b2 hA hO
  replace hA := hA.sb (e' := [(2, pt b1), (3, pt b2)])
  refine ck (l := [2]) (r := []) (e' := [(2, pt b1), (3, pt b2), (4, bl false)]) hA [] c0 ?_
  clear hA fr; intro fr hA
  refine end_ops ?_
  refine then_normal ?_
  refine wp_seq ?_
  refine sR (l := [0, 1]) ?_
  refine wpOps_cons' (mK (f := 12) (args := []) (d := (some 13)) (v := bl true) hA hO Tryd.func12 (awake_any _ (hT.keep hO.only (fun h => h))) ?_)
  clear hA hO fr; intro fr w3 hA hO
  refine ck (l := [1]) (r := []) (e' := [(2, pt b1), (3, pt b2), (4, bl false), (14, bl false)]) hA [] c0 ?_
  clear hA fr; intro fr hA
  refine end_ops ?_
  refine then_normal ?_
  refine cF hA ?_
  refine wp_skip ?_
  refine then_normal ?_
  refine sR (l := (rg 0 7)) ?_
  refine ck (l := [0]) (r := (rg 1 6)) (e' := [(2, pt b1), (3, pt b2), (4, bl false), (16, .agg #[i64 19, i64 a, i64 b, i64 c, i64 v])]) hA [.agg #[i64 19, i64 a, i64 b, i64 c, i64 v]] (cc (hO.ln 0 0 29 [i64 19, i64 a, i64 b, i64 c, i64 v]) c0) ?_
  clear hA fr; intro fr hA
  refine wpOps_cons' (mC (f := 15) (args := [.agg #[i64 19, i64 a, i64 b, i64 c, i64 v]]) (d := (some 17)) hA Tryd.func15 ((encode_ok 19 a b c v _ (hT.keep hO.only (fun h => h)) hl).mono ?_))
  rintro en w4 ⟨k1, rfl, ho, hbk, hge⟩
  refine ⟨_, rfl, ?_⟩
  clear hA fr; intro fr hA
  replace hO := hO.add ho hbk hge; clear ho hbk hge
  replace hA := hA.sb (e' := [(2, pt b1), (3, pt b2), (4, bl false), (17, .tuple #[.slice (some ⟨k1, 0, none⟩) 4 4, i64 0])])
  refine ck (l := (rg 2 5)) (r := []) (e' := [(2, pt b1), (3, pt b2), (4, bl false), (5, .slice (some ⟨k1, 0, none⟩) 4 4), (6, i64 0)]) hA [] c0 ?_
  clear hA fr; intro fr hA
  refine end_ops ?_
  refine then_normal ?_
  refine wp_seq ?_
  refine sR (l := (rg 0 12)) ?_
  refine ck (l := (rg 0 8)) (r := [8, 9, 10, 11]) (e' := [(2, pt b1), (3, pt b2), (4, bl false), (5, .slice (some ⟨k1, 0, none⟩) 4 4), (25, bl (decide (pc < 0))), (26, bl (decide (pc < 0))), (27, bl (decide (pc < 0)))]) hA [i64 pc] (cc (hO.l1 2 16 3 (i64 pc)) c0) ?_
  clear hA fr; intro fr hA
  replace hA := hA.bool (f := fun z => [(2, pt b1), (3, pt b2), (4, bl false), (5, .slice (some ⟨k1, 0, none⟩) 4 4), (25, .bool z), (26, .bool z), (27, .bool z)]) (decide_eq_false (by omega) : (decide (pc < 0)) = false)
  refine ck (l := [8, 9, 10, 11]) (r := []) (e' := [(2, pt b1), (3, pt b2), (4, bl false), (5, .slice (some ⟨k1, 0, none⟩) 4 4), (31, bl (decide (pc > 1048576)))]) hA [i64 pc] (cc (hO.l1 2 16 3 (i64 pc)) c0) ?_
  clear hA fr; intro fr hA
  refine end_ops ?_
  refine then_normal ?_
  replace hA := hA.bool (f := fun z => [(2, pt b1), (3, pt b2), (4, bl false), (5, .slice (some ⟨k1, 0, none⟩) 4 4), (31, .bool z)]) (decide_eq_false (by omega) : (decide (pc > 1048576)) = false)
  refine cF hA ?_
  refine wp_skip ?_
  refine then_normal ?_
  refine sR (l := (rg 0 12)) ?_
  refine ck (l := [0, 1]) (r := (rg 2 10)) (e' := [(2, pt b1), (3, pt b2), (4, bl false), (33, .agg (List.toArray (regsL R pc))), (34, .slice (some ⟨k1, 0, none⟩) 4 4)]) hA [.agg (List.toArray (regsL R pc))] (cc (hO.ln 2 0 38 (regsL R pc)) c0) ?_
  clear hA fr; intro fr hA
  refine wpOps_cons' (mK (f := 18) (args := [.agg (List.toArray (regsL R pc)), .slice (some ⟨k1, 0, none⟩) 4 4, i64 1]) (d := (some 35)) (v := .tuple #[.agg (List.toArray (regsL R (pc + 4))), i64 0, .agg #[i64 0, i64 0, i64 0, i64 0, i64 0, i64 0, i64 0]]) hA hO Tryd.func18 (rs (exec_any R pc 1 _ ([IntKind.u8.wrap 19, IntKind.u8.wrap a, cond (opV 19) (IntKind.u8.wrap (v / 256)) (IntKind.u8.wrap b), cond (opV 19) (IntKind.u8.wrap v) (IntKind.u8.wrap c)]) _ (hT.keep hO.only (fun h => h)) hR (by omega) (by omega) ((hO.b 0).sl (xs := [IntKind.u8.wrap 19, IntKind.u8.wrap a, cond (opV 19) (IntKind.u8.wrap (v / 256)) (IntKind.u8.wrap b), cond (opV 19) (IntKind.u8.wrap v) (IntKind.u8.wrap c)]) (U8s.cons (wrap_inK .u8 _) (U8s.cons (wrap_inK .u8 _) (U8s.cons (inK_cond (wrap_inK .u8 _) (wrap_inK .u8 _)) (U8s.cons (inK_cond (wrap_inK .u8 _) (wrap_inK .u8 _)) U8s.nil)))) rfl (by kernel_rfl))) ((execX_enc R pc 1 hl).trans (by simp [execV, hz]; rfl))) ?_)
  clear hA hO fr; intro fr w5 hA hO
  replace hA := hA.sb (e' := [(2, pt b1), (3, pt b2), (4, bl false), (35, .tuple #[.agg (List.toArray (regsL R (pc + 4))), i64 0, .agg #[i64 0, i64 0, i64 0, i64 0, i64 0, i64 0, i64 0]])])
  refine ck (l := [3, 4, 5, 6]) (r := (rg 7 5)) (e' := [(2, pt b1), (3, pt b2), (4, bl false), (36, .agg (List.toArray (regsL R (pc + 4)))), (37, i64 0), (38, .agg #[i64 0, i64 0, i64 0, i64 0, i64 0, i64 0, i64 0])]) hA [] c0 ?_
  clear hA fr; intro fr hA
  refine wpOps_cons' (mN (l := [i32 0, i32 0, i32 0, i32 0, i32 0, i32 0, i32 0, i32 0, i32 0, i32 0, i32 0, i32 0, i32 0, i32 0, i32 0, i32 0, i64 0]) (t := 40) (v := pt) (d := 7) hA hO ?_)
  clear hA hO fr; intro fr w6 b3 hA hO
  refine wpOps_cons' (mN (l := [i64 0, i64 0, i64 0, i64 0, i64 0, i64 0, i64 0]) (t := 43) (v := pt) (d := 9) hA hO ?_)
  clear hA hO fr; intro fr w7 b4 hA hO
  refine wpOps_cons' (mS (off := 0) (vc := (regsL R (pc + 4))) 1 hA hO ?_)
  clear hO; intro w8 hO
  replace hA := hA.sb (e' := [(2, pt b1), (3, pt b2), (4, bl false), (7, pt b3), (9, pt b4), (37, i64 0), (38, .agg #[i64 0, i64 0, i64 0, i64 0, i64 0, i64 0, i64 0])])
  refine ck (l := [10]) (r := [11]) (e' := [(2, pt b1), (3, pt b2), (4, bl false), (7, pt b3), (9, pt b4), (38, .agg #[i64 0, i64 0, i64 0, i64 0, i64 0, i64 0, i64 0])]) hA [] c0 ?_
  clear hA fr; intro fr hA
  refine wpOps_cons' (mS (off := 0) (vc := [i64 0, i64 0, i64 0, i64 0, i64 0, i64 0, i64 0]) 0 hA hO ?_)
  clear hO; intro w9 hO
  replace hA := hA.sb (e' := [(2, pt b1), (3, pt b2), (4, bl false), (7, pt b3), (9, pt b4)])
  refine end_ops ?_
  refine then_normal ?_
  refine wp_seq ?_
  refine sC (e' := [(2, pt b1), (3, pt b2), (4, bl false), (7, pt b3), (41, bl false)]) 3 hA [i64 0] (cc (hO.l1 0 0 3 (i64 0)) c0) ?_
  clear hA fr; intro fr hA
  refine cF hA ?_
  refine wp_skip ?_
  refine then_normal ?_
  refine wp_seq ?_
  refine sC (e' := [(2, pt b1), (3, pt b2), (4, bl false), (7, pt b3), (52, bl false)]) 8 hA [i64 19, i64 19] (cc (hO.l1 3 0 3 (i64 19)) (cc (hO.l1 3 0 3 (i64 19)) c0)) ?_
  clear hA fr; intro fr hA
  refine cF hA ?_
  refine wp_skip ?_
  refine then_normal ?_
  refine wp_seq ?_
  refine sC (e' := [(2, pt b1), (3, pt b2), (4, bl false), (7, pt b3), (61, bl false)]) 3 hA [i64 19] (cc (hO.l1 3 0 3 (i64 19)) c0) ?_
  clear hA fr; intro fr hA
  refine cF hA ?_
  refine wp_skip ?_
  refine then_normal ?_
  refine wp_seq ?_
  refine sC (e' := [(2, pt b1), (3, pt b2), (4, bl false), (7, pt b3), (81, bl ((R ((a).toNat)) != 0))]) 11 hA [i64 19, i64 a, i32 (R ((a).toNat))] (cc (hO.l1 3 0 3 (i64 19)) (cc (hO.l1 3 1 3 (i64 a)) (cc (⟨by omega, by omega⟩ : (0 : Int) ≤ a ∧ a < ((16 : Nat) : Int)) (cc ((ld_regs (hO.b 4) (by omega) (by kernel_rfl)) : Ld Tryd.prog w9 ((⟨b1, 0, none⟩ : Addr).add ((a).toNat)) 21 (i32 (R ((a).toNat)))) c0)))) ?_
  clear hA fr; intro fr hA
  replace hA := hA.bool (f := fun z => [(2, pt b1), (3, pt b2), (4, bl false), (7, pt b3), (81, .bool z)]) (bne_iff_ne.2 hz : ((R ((a).toNat)) != 0) = true)
  refine cT hA ?_
  refine sC (e' := [(2, pt b1), (3, pt b2), (4, bl ((pc + 4) == (pc + 4))), (7, pt b3)]) 7 hA [i64 (pc + 4), i64 pc, bl true] (cc (hO.l1 1 16 3 (i64 (pc + 4))) (cc (hO.l1 4 16 3 (i64 pc)) (cc ((inK_i64 (by omega) (by omega)) : inK .i64 (pc + 4)) c0))) ?_
  clear hA fr; intro fr hA
  refine wp_ret ?_
  refine then_ret ?_
  refine cR (cs := [none]) (us := [bl ((pc + 4) == (pc + 4))]) hA [] trivial ?_
  have hF := hO.only; clear hA hO
  exact ⟨by first | rfl | simp [pack], hF⟩

theorem ctl_18 (R : Nat → Int) (pc a b c v : Int) (w : World) (hT : Tab w) (hR : RegsOk R) (hl : legalB 18 a b c v = true) (hp : 0 ≤ pc) (hp' : pc ≤ 1048576) :
    Calls Tryd.prog 6 #[.agg (List.toArray (regsL R pc)), .agg #[i64 18, i64 a, i64 b, i64 c, i64 v]] w fun e w' => e = .returned (.bool true) ∧ Only none' w w' := by
  refine c_enter (args := [.agg (List.toArray (regsL R pc)), .agg #[i64 18, i64 a, i64 b, i64 c, i64 v]]) (m := 119) (n := 121) Tryd.func6 rfl (by kernel_rfl) (by kernel_rfl) fun fr hA => ?_
  have hO := Ow.nil Tryd.prog none' w
  obtain ⟨ho_, ha_, hb_, hc_, hv_, hc2_⟩ := legal_spec hl
  refine sR (l := [0, 1, 2]) ?_
  refine wpOps_cons' (mN (l := (regsL R pc)) (t := 38) (v := pt) (d := 2) hA hO ?_)
  clear hA hO fr; intro fr w1 b1 hA hO
  replace hA := hA.sb (e' := [(1, .agg #[i64 18, i64 a, i64 b, i64 c, i64 v]), (2, pt b1)])
  refine wpOps_cons' (mN (l := [i64 18, i64 a, i64 b, i64 c, i64 v]) (t := 29) (v := pt) (d := 3) hA hO ?_)
  clear hA hO fr; intro fr w2 b2 hA hO
  replace hA := hA.sb (e' := [(2, pt b1), (3, pt b2)])
  refine ck (l := [2]) (r := []) (e' := [(2, pt b1), (3, pt b2), (4, bl false)]) hA [] c0 ?_
  clear hA fr; intro fr hA
  refine end_ops ?_
  refine then_normal ?_
  refine wp_seq ?_
  refine sR (l := [0, 1]) ?_
  refine wpOps_cons' (mK (f := 12) (args := []) (d := (some 13)) (v := bl true) hA hO Tryd.func12 (awake_any _ (hT.keep hO.only (fun h => h))) ?_)
  clear hA hO fr; intro fr w3 hA hO
  refine ck (l := [1]) (r := []) (e' := [(2, pt b1), (3, pt b2), (4, bl false), (14, bl false)]) hA [] c0 ?_
  clear hA fr; intro fr hA
  refine end_ops ?_
  refine then_normal ?_
  refine cF hA ?_
  refine wp_skip ?_
  refine then_normal ?_
  refine sR (l := (rg 0 7)) ?_
  refine ck (l := [0]) (r := (rg 1 6)) (e' := [(2, pt b1), (3, pt b2), (4, bl false), (16, .agg #[i64 18, i64 a, i64 b, i64 c, i64 v])]) hA [.agg #[i64 18, i64 a, i64 b, i64 c, i64 v]] (cc (hO.ln 0 0 29 [i64 18, i64 a, i64 b, i64 c, i64 v]) c0) ?_
  clear hA fr; intro fr hA
  refine wpOps_cons' (mC (f := 15) (args := [.agg #[i64 18, i64 a, i64 b, i64 c, i64 v]]) (d := (some 17)) hA Tryd.func15 ((encode_ok 18 a b c v _ (hT.keep hO.only (fun h => h)) hl).mono ?_))
  rintro en w4 ⟨k1, rfl, ho, hbk, hge⟩
  refine ⟨_, rfl, ?_⟩
  clear hA fr; intro fr hA
  replace hO := hO.add ho hbk hge; clear ho hbk hge
  replace hA := hA.sb (e' := [(2, pt b1), (3, pt b2), (4, bl false), (17, .tuple #[.slice (some ⟨k1, 0, none⟩) 4 4, i64 0])])
  refine ck (l := (rg 2 5)) (r := []) (e' := [(2, pt b1), (3, pt b2), (4, bl false), (5, .slice (some ⟨k1, 0, none⟩) 4 4), (6, i64 0)]) hA [] c0 ?_
  clear hA fr; intro fr hA
  refine end_ops ?_
  refine then_normal ?_
  refine wp_seq ?_
  refine sR (l := (rg 0 12)) ?_
  refine ck (l := (rg 0 8)) (r := [8, 9, 10, 11]) (e' := [(2, pt b1), (3, pt b2), (4, bl false), (5, .slice (some ⟨k1, 0, none⟩) 4 4), (25, bl (decide (pc < 0))), (26, bl (decide (pc < 0))), (27, bl (decide (pc < 0)))]) hA [i64 pc] (cc (hO.l1 2 16 3 (i64 pc)) c0) ?_
  clear hA fr; intro fr hA
  replace hA := hA.bool (f := fun z => [(2, pt b1), (3, pt b2), (4, bl false), (5, .slice (some ⟨k1, 0, none⟩) 4 4), (25, .bool z), (26, .bool z), (27, .bool z)]) (decide_eq_false (by omega) : (decide (pc < 0)) = false)
  refine ck (l := [8, 9, 10, 11]) (r := []) (e' := [(2, pt b1), (3, pt b2), (4, bl false), (5, .slice (some ⟨k1, 0, none⟩) 4 4), (31, bl (decide (pc > 1048576)))]) hA [i64 pc] (cc (hO.l1 2 16 3 (i64 pc)) c0) ?_
  clear hA fr; intro fr hA
  refine end_ops ?_
  refine then_normal ?_
  replace hA := hA.bool (f := fun z => [(2, pt b1), (3, pt b2), (4, bl false), (5, .slice (some ⟨k1, 0, none⟩) 4 4), (31, .bool z)]) (decide_eq_false (by omega) : (decide (pc > 1048576)) = false)
  refine cF hA ?_
  refine wp_skip ?_
  refine then_normal ?_
  refine sR (l := (rg 0 12)) ?_
  refine ck (l := [0, 1]) (r := (rg 2 10)) (e' := [(2, pt b1), (3, pt b2), (4, bl false), (33, .agg (List.toArray (regsL R pc))), (34, .slice (some ⟨k1, 0, none⟩) 4 4)]) hA [.agg (List.toArray (regsL R pc))] (cc (hO.ln 2 0 38 (regsL R pc)) c0) ?_
  clear hA fr; intro fr hA
  refine wpOps_cons' (mK (f := 18) (args := [.agg (List.toArray (regsL R pc)), .slice (some ⟨k1, 0, none⟩) 4 4, i64 1]) (d := (some 35)) (v := .tuple #[.agg (List.toArray (regsL R ((pc + 4) + (4 * v)))), i64 0, .agg #[i64 0, i64 0, i64 0, i64 0, i64 0, i64 0, i64 0]]) hA hO Tryd.func18 (rs (exec_any R pc 1 _ ([IntKind.u8.wrap 18, IntKind.u8.wrap a, cond (opV 18) (IntKind.u8.wrap (v / 256)) (IntKind.u8.wrap b), cond (opV 18) (IntKind.u8.wrap v) (IntKind.u8.wrap c)]) _ (hT.keep hO.only (fun h => h)) hR (by omega) (by omega) ((hO.b 0).sl (xs := [IntKind.u8.wrap 18, IntKind.u8.wrap a, cond (opV 18) (IntKind.u8.wrap (v / 256)) (IntKind.u8.wrap b), cond (opV 18) (IntKind.u8.wrap v) (IntKind.u8.wrap c)]) (U8s.cons (wrap_inK .u8 _) (U8s.cons (wrap_inK .u8 _) (U8s.cons (inK_cond (wrap_inK .u8 _) (wrap_inK .u8 _)) (U8s.cons (inK_cond (wrap_inK .u8 _) (wrap_inK .u8 _)) U8s.nil)))) rfl (by kernel_rfl))) ((execX_enc R pc 1 hl).trans (by kernel_rfl))) ?_)
  clear hA hO fr; intro fr w5 hA hO
  replace hA := hA.sb (e' := [(2, pt b1), (3, pt b2), (4, bl false), (35, .tuple #[.agg (List.toArray (regsL R ((pc + 4) + (4 * v)))), i64 0, .agg #[i64 0, i64 0, i64 0, i64 0, i64 0, i64 0, i64 0]])])
  refine ck (l := [3, 4, 5, 6]) (r := (rg 7 5)) (e' := [(2, pt b1), (3, pt b2), (4, bl false), (36, .agg (List.toArray (regsL R ((pc + 4) + (4 * v))))), (37, i64 0), (38, .agg #[i64 0, i64 0, i64 0, i64 0, i64 0, i64 0, i64 0])]) hA [] c0 ?_
  clear hA fr; intro fr hA
  refine wpOps_cons' (mN (l := [i32 0, i32 0, i32 0, i32 0, i32 0, i32 0, i32 0, i32 0, i32 0, i32 0, i32 0, i32 0, i32 0, i32 0, i32 0, i32 0, i64 0]) (t := 40) (v := pt) (d := 7) hA hO ?_)
  clear hA hO fr; intro fr w6 b3 hA hO
  refine wpOps_cons' (mN (l := [i64 0, i64 0, i64 0, i64 0, i64 0, i64 0, i64 0]) (t := 43) (v := pt) (d := 9) hA hO ?_)
  clear hA hO fr; intro fr w7 b4 hA hO
  refine wpOps_cons' (mS (off := 0) (vc := (regsL R ((pc + 4) + (4 * v)))) 1 hA hO ?_)
  clear hO; intro w8 hO
  replace hA := hA.sb (e' := [(2, pt b1), (3, pt b2), (4, bl false), (7, pt b3), (9, pt b4), (37, i64 0), (38, .agg #[i64 0, i64 0, i64 0, i64 0, i64 0, i64 0, i64 0])])
  refine ck (l := [10]) (r := [11]) (e' := [(2, pt b1), (3, pt b2), (4, bl false), (7, pt b3), (9, pt b4), (38, .agg #[i64 0, i64 0, i64 0, i64 0, i64 0, i64 0, i64 0])]) hA [] c0 ?_
  clear hA fr; intro fr hA
  refine wpOps_cons' (mS (off := 0) (vc := [i64 0, i64 0, i64 0, i64 0, i64 0, i64 0, i64 0]) 0 hA hO ?_)
  clear hO; intro w9 hO
  replace hA := hA.sb (e' := [(2, pt b1), (3, pt b2), (4, bl false), (7, pt b3), (9, pt b4)])
  refine end_ops ?_
  refine then_normal ?_
  refine wp_seq ?_
  refine sC (e' := [(2, pt b1), (3, pt b2), (4, bl false), (7, pt b3), (41, bl false)]) 3 hA [i64 0] (cc (hO.l1 0 0 3 (i64 0)) c0) ?_
  clear hA fr; intro fr hA
  refine cF hA ?_
  refine wp_skip ?_
  refine then_normal ?_
  refine wp_seq ?_
  refine sC (e' := [(2, pt b1), (3, pt b2), (4, bl false), (7, pt b3), (52, bl false)]) 8 hA [i64 18, i64 18] (cc (hO.l1 3 0 3 (i64 18)) (cc (hO.l1 3 0 3 (i64 18)) c0)) ?_
  clear hA fr; intro fr hA
  refine cF hA ?_
  refine wp_skip ?_
  refine then_normal ?_
  refine wp_seq ?_
  refine sC (e' := [(2, pt b1), (3, pt b2), (4, bl false), (7, pt b3), (61, bl false)]) 3 hA [i64 18] (cc (hO.l1 3 0 3 (i64 18)) c0) ?_
  clear hA fr; intro fr hA
  refine cF hA ?_
  refine wp_skip ?_
  refine then_normal ?_
  refine wp_seq ?_
  refine sC (e' := [(2, pt b1), (3, pt b2), (4, bl false), (7, pt b3), (81, bl false)]) 11 hA [i64 18] (cc (hO.l1 3 0 3 (i64 18)) c0) ?_
  clear hA fr; intro fr hA
  refine cF hA ?_
  refine wp_skip ?_
  refine then_normal ?_
  refine sR (l := (rg 0 15)) ?_
  refine ck (l := [0, 1, 2, 3]) (r := (rg 4 11)) (e' := [(2, pt b1), (3, pt b2), (4, bl false), (7, pt b3), (89, .agg (List.toArray (regsL R ((pc + 4) + (4 * v))))), (92, u8 (IntKind.u8.wrap a))]) hA [.agg (List.toArray (regsL R ((pc + 4) + (4 * v)))), i64 a, bl false] (cc (hO.ln 1 0 40 (regsL R ((pc + 4) + (4 * v)))) (cc (hO.l1 3 1 3 (i64 a)) c0)) ?_
  clear hA fr; intro fr hA
  refine wpOps_cons' (mN (l := [u8 21, u8 (IntKind.u8.wrap a), u8 0, u8 0]) (t := 5) (v := fun b => .slice (some ⟨b, 0, none⟩) 4 4) (d := 93) hA hO ?_)
  clear hA hO fr; intro fr w10 b5 hA hO
  replace hA := hA.sb (e' := [(2, pt b1), (3, pt b2), (4, bl false), (7, pt b3), (89, .agg (List.toArray (regsL R ((pc + 4) + (4 * v))))), (93, .slice (some ⟨b5, 0, none⟩) 4 4)])
  refine wpOps_cons' (mK (f := 18) (args := [.agg (List.toArray (regsL R ((pc + 4) + (4 * v)))), .slice (some ⟨b5, 0, none⟩) 4 4, i64 0]) (d := (some 94)) (v := .tuple #[.agg (List.toArray (regsL R (R a.toNat))), i64 0, .agg #[i64 0, i64 0, i64 0, i64 0, i64 0, i64 0, i64 0]]) hA hO Tryd.func18 (rs (exec_any R ((pc + 4) + (4 * v)) 0 _ ([21, IntKind.u8.wrap a, 0, 0]) _ (hT.keep hO.only (fun h => h)) hR (by omega) (by omega) ((hO.b 0).sl (xs := [21, IntKind.u8.wrap a, 0, 0]) (U8s.cons (inK_u8 (by decide) (by decide)) (U8s.cons (wrap_inK .u8 _) (U8s.cons (inK_u8 (by decide) (by decide)) (U8s.cons (inK_u8 (by decide) (by decide)) U8s.nil)))) rfl (by kernel_rfl))) (back_exec _ _ _ ha_)) ?_)
  clear hA hO fr; intro fr w11 hA hO
  replace hA := hA.sb (e' := [(2, pt b1), (3, pt b2), (4, bl false), (7, pt b3), (94, .tuple #[.agg (List.toArray (regsL R (R a.toNat))), i64 0, .agg #[i64 0, i64 0, i64 0, i64 0, i64 0, i64 0, i64 0]])])
  refine ck (l := [6, 7, 8, 9]) (r := (rg 10 5)) (e' := [(2, pt b1), (3, pt b2), (4, bl false), (7, pt b3), (95, .agg (List.toArray (regsL R (R a.toNat)))), (96, i64 0), (97, .agg #[i64 0, i64 0, i64 0, i64 0, i64 0, i64 0, i64 0])]) hA [] c0 ?_
  clear hA fr; intro fr hA
  refine wpOps_cons' (mN (l := [i32 0, i32 0, i32 0, i32 0, i32 0, i32 0, i32 0, i32 0, i32 0, i32 0, i32 0, i32 0, i32 0, i32 0, i32 0, i32 0, i64 0]) (t := 40) (v := pt) (d := 10) hA hO ?_)
  clear hA hO fr; intro fr w12 b6 hA hO
  refine wpOps_cons' (mN (l := [i64 0, i64 0, i64 0, i64 0, i64 0, i64 0, i64 0]) (t := 43) (v := pt) (d := 12) hA hO ?_)
  clear hA hO fr; intro fr w13 b7 hA hO
  refine wpOps_cons' (mS (off := 0) (vc := (regsL R (R a.toNat))) 1 hA hO ?_)
  clear hO; intro w14 hO
  replace hA := hA.sb (e' := [(2, pt b1), (3, pt b2), (4, bl false), (7, pt b3), (10, pt b6), (12, pt b7), (96, i64 0), (97, .agg #[i64 0, i64 0, i64 0, i64 0, i64 0, i64 0, i64 0])])
  refine ck (l := [13]) (r := [14]) (e' := [(2, pt b1), (3, pt b2), (4, bl false), (7, pt b3), (10, pt b6), (12, pt b7), (97, .agg #[i64 0, i64 0, i64 0, i64 0, i64 0, i64 0, i64 0])]) hA [] c0 ?_
  clear hA fr; intro fr hA
  refine wpOps_cons' (mS (off := 0) (vc := [i64 0, i64 0, i64 0, i64 0, i64 0, i64 0, i64 0]) 0 hA hO ?_)
  clear hO; intro w15 hO
  replace hA := hA.sb (e' := [(2, pt b1), (3, pt b2), (4, bl false), (7, pt b3), (10, pt b6)])
  refine end_ops ?_
  refine then_normal ?_
  refine sR (l := (rg 0 24)) ?_
  refine ck (l := (rg 0 11)) (r := (rg 11 13)) (e' := [(2, pt b1), (3, pt b2), (4, bl false), (10, pt b6), (107, bl (((pc + 4) + (4 * v)) == ((pc + 4) + (4 * v)))), (108, bl (((pc + 4) + (4 * v)) == ((pc + 4) + (4 * v))))]) hA [i64 ((pc + 4) + (4 * v)), i64 pc, bl true, i64 v, bl true, bl true] (cc (hO.l1 4 16 3 (i64 ((pc + 4) + (4 * v)))) (cc (hO.l1 7 16 3 (i64 pc)) (cc ((inK_i64 (by omega) (by omega)) : inK .i64 (pc + 4)) (cc (hO.l1 6 4 3 (i64 v)) (cc ((inK_i64 (by omega) (by omega)) : inK .i64 (4 * v)) (cc ((inK_i64 (by omega) (by omega)) : inK .i64 ((pc + 4) + (4 * v))) c0)))))) ?_
  clear hA fr; intro fr hA
  replace hA := hA.bool (f := fun z => [(2, pt b1), (3, pt b2), (4, bl false), (10, pt b6), (107, .bool z), (108, .bool z)]) (beq_self_eq_true _ : (((pc + 4) + (4 * v)) == ((pc + 4) + (4 * v))) = true)
  refine ck (l := (rg 11 13)) (r := []) (e' := [(4, bl true)]) hA [i64 18] (cc (hO.l1 6 0 3 (i64 18)) c0) ?_
  clear hA fr; intro fr hA
  refine end_ops ?_
  refine then_normal ?_
  refine wp_ret ?_
  refine cR (cs := [none]) (us := [bl true]) hA [] trivial ?_
  have hF := hO.only; clear hA hO
  exact ⟨by first | rfl | simp [pack], hF⟩

theorem ctl_19z (R : Nat → Int) (pc a b c v : Int) (w : World) (hT : Tab w) (hR : RegsOk R) (hl : legalB 19 a b c v = true) (hp : 0 ≤ pc) (hp' : pc ≤ 1048576) (hz : R a.toNat = 0) :
    Calls Tryd.prog 6 #[.agg (List.toArray (regsL R pc)), .agg #[i64 19, i64 a, i64 b, i64 c, i64 v]] w fun e w' => e = .returned (.bool true) ∧ Only none' w w' := by
  refine c_enter (args := [.agg (List.toArray (regsL R pc)), .agg #[i64 19, i64 a, i64 b, i64 c, i64 v]]) (m := 119) (n := 121) Tryd.func6 rfl (by kernel_rfl) (by kernel_rfl) fun fr hA => ?_
  have hO := Ow.nil Tryd.prog none' w
  obtain ⟨ho_, ha_, hb_, hc_, hv_, hc2_⟩ := legal_spec hl
  refine sR (l := [0, 1, 2]) ?_
  refine wpOps_cons' (mN (l := (regsL R pc)) (t := 38) (v := pt) (d := 2) hA hO ?_)
  clear hA hO fr; intro fr w1 b1 hA hO
  replace hA := hA.sb (e' := [(1, .agg #[i64 19, i64 a, i64 b, i64 c, i64 v]), (2, pt b1)])
  refine wpOps_cons' (mN (l := [i64 19, i64 a, i64 b, i64 c, i64 v]) (t := 29) (v := pt) (d := 3) hA hO ?_)
  clear hA hO fr; intro fr w2 b2 hA hO
  replace hA := hA.sb (e' := [(2, pt b1), (3, pt b2)])
  refine ck (l := [2]) (r := []) (e' := [(2, pt b1), (3, pt b2), (4, bl false)]) hA [] c0 ?_
  clear hA fr; intro fr hA
  refine end_ops ?_
  refine then_normal ?_
  refine wp_seq ?_
  refine sR (l := [0, 1]) ?_
  refine wpOps_cons' (mK (f := 12) (args := []) (d := (some 13)) (v := bl true) hA hO Tryd.func12 (awake_any _ (hT.keep hO.only (fun h => h))) ?_)
  clear hA hO fr; intro fr w3 hA hO
  refine ck (l := [1]) (r := []) (e' := [(2, pt b1), (3, pt b2), (4, bl false), (14, bl false)]) hA [] c0 ?_
  clear hA fr; intro fr hA
  refine end_ops ?_
  refine then_normal ?_
  refine cF hA ?_
  refine wp_skip ?_
  refine then_normal ?_
  refine sR (l := (rg 0 7)) ?_
  refine ck (l := [0]) (r := (rg 1 6)) (e' := [(2, pt b1), (3, pt b2), (4, bl false), (16, .agg #[i64 19, i64 a, i64 b, i64 c, i64 v])]) hA [.agg #[i64 19, i64 a, i64 b, i64 c, i64 v]] (cc (hO.ln 0 0 29 [i64 19, i64 a, i64 b, i64 c, i64 v]) c0) ?_
  clear hA fr; intro fr hA
  refine wpOps_cons' (mC (f := 15) (args := [.agg #[i64 19, i64 a, i64 b, i64 c, i64 v]]) (d := (some 17)) hA Tryd.func15 ((encode_ok 19 a b c v _ (hT.keep hO.only (fun h => h)) hl).mono ?_))
  rintro en w4 ⟨k1, rfl, ho, hbk, hge⟩
  refine ⟨_, rfl, ?_⟩
  clear hA fr; intro fr hA
  replace hO := hO.add ho hbk hge; clear ho hbk hge
  replace hA := hA.sb (e' := [(2, pt b1), (3, pt b2), (4, bl false), (17, .tuple #[.slice (some ⟨k1, 0, none⟩) 4 4, i64 0])])
  refine ck (l := (rg 2 5)) (r := []) (e' := [(2, pt b1), (3, pt b2), (4, bl false), (5, .slice (some ⟨k1, 0, none⟩) 4 4), (6, i64 0)]) hA [] c0 ?_
  clear hA fr; intro fr hA
  refine end_ops ?_
  refine then_normal ?_
  refine wp_seq ?_
  refine sR (l := (rg 0 12)) ?_
  refine ck (l := (rg 0 8)) (r := [8, 9, 10, 11]) (e' := [(2, pt b1), (3, pt b2), (4, bl false), (5, .slice (some ⟨k1, 0, none⟩) 4 4), (25, bl (decide (pc < 0))), (26, bl (decide (pc < 0))), (27, bl (decide (pc < 0)))]) hA [i64 pc] (cc (hO.l1 2 16 3 (i64 pc)) c0) ?_
  clear hA fr; intro fr hA
  replace hA := hA.bool (f := fun z => [(2, pt b1), (3, pt b2), (4, bl false), (5, .slice (some ⟨k1, 0, none⟩) 4 4), (25, .bool z), (26, .bool z), (27, .bool z)]) (decide_eq_false (by omega) : (decide (pc < 0)) = false)
  refine ck (l := [8, 9, 10, 11]) (r := []) (e' := [(2, pt b1), (3, pt b2), (4, bl false), (5, .slice (some ⟨k1, 0, none⟩) 4 4), (31, bl (decide (pc > 1048576)))]) hA [i64 pc] (cc (hO.l1 2 16 3 (i64 pc)) c0) ?_
  clear hA fr; intro fr hA
  refine end_ops ?_
  refine then_normal ?_
  replace hA := hA.bool (f := fun z => [(2, pt b1), (3, pt b2), (4, bl false), (5, .slice (some ⟨k1, 0, none⟩) 4 4), (31, .bool z)]) (decide_eq_false (by omega) : (decide (pc > 1048576)) = false)
  refine cF hA ?_
  refine wp_skip ?_
  refine then_normal ?_
  refine sR (l := (rg 0 12)) ?_
  refine ck (l := [0, 1]) (r := (rg 2 10)) (e' := [(2, pt b1), (3, pt b2), (4, bl false), (33, .agg (List.toArray (regsL R pc))), (34, .slice (some ⟨k1, 0, none⟩) 4 4)]) hA [.agg (List.toArray (regsL R pc))] (cc (hO.ln 2 0 38 (regsL R pc)) c0) ?_
  clear hA fr; intro fr hA
  refine wpOps_cons' (mK (f := 18) (args := [.agg (List.toArray (regsL R pc)), .slice (some ⟨k1, 0, none⟩) 4 4, i64 1]) (d := (some 35)) (v := .tuple #[.agg (List.toArray (regsL R ((pc + 4) + (4 * v)))), i64 0, .agg #[i64 0, i64 0, i64 0, i64 0, i64 0, i64 0, i64 0]]) hA hO Tryd.func18 (rs (exec_any R pc 1 _ ([IntKind.u8.wrap 19, IntKind.u8.wrap a, cond (opV 19) (IntKind.u8.wrap (v / 256)) (IntKind.u8.wrap b), cond (opV 19) (IntKind.u8.wrap v) (IntKind.u8.wrap c)]) _ (hT.keep hO.only (fun h => h)) hR (by omega) (by omega) ((hO.b 0).sl (xs := [IntKind.u8.wrap 19, IntKind.u8.wrap a, cond (opV 19) (IntKind.u8.wrap (v / 256)) (IntKind.u8.wrap b), cond (opV 19) (IntKind.u8.wrap v) (IntKind.u8.wrap c)]) (U8s.cons (wrap_inK .u8 _) (U8s.cons (wrap_inK .u8 _) (U8s.cons (inK_cond (wrap_inK .u8 _) (wrap_inK .u8 _)) (U8s.cons (inK_cond (wrap_inK .u8 _) (wrap_inK .u8 _)) U8s.nil)))) rfl (by kernel_rfl))) ((execX_enc R pc 1 hl).trans (by simp [execV, hz]; rfl))) ?_)
  clear hA hO fr; intro fr w5 hA hO
  replace hA := hA.sb (e' := [(2, pt b1), (3, pt b2), (4, bl false), (35, .tuple #[.agg (List.toArray (regsL R ((pc + 4) + (4 * v)))), i64 0, .agg #[i64 0, i64 0, i64 0, i64 0, i64 0, i64 0, i64 0]])])
  refine ck (l := [3, 4, 5, 6]) (r := (rg 7 5)) (e' := [(2, pt b1), (3, pt b2), (4, bl false), (36, .agg (List.toArray (regsL R ((pc + 4) + (4 * v))))), (37, i64 0), (38, .agg #[i64 0, i64 0, i64 0, i64 0, i64 0, i64 0, i64 0])]) hA [] c0 ?_
  clear hA fr; intro fr hA
  refine wpOps_cons' (mN (l := [i32 0, i32 0, i32 0, i32 0, i32 0, i32 0, i32 0, i32 0, i32 0, i32 0, i32 0, i32 0, i32 0, i32 0, i32 0, i32 0, i64 0]) (t := 40) (v := pt) (d := 7) hA hO ?_)
  clear hA hO fr; intro fr w6 b3 hA hO
  refine wpOps_cons' (mN (l := [i64 0, i64 0, i64 0, i64 0, i64 0, i64 0, i64 0]) (t := 43) (v := pt) (d := 9) hA hO ?_)
  clear hA hO fr; intro fr w7 b4 hA hO
  refine wpOps_cons' (mS (off := 0) (vc := (regsL R ((pc + 4) + (4 * v)))) 1 hA hO ?_)
  clear hO; intro w8 hO
  replace hA := hA.sb (e' := [(2, pt b1), (3, pt b2), (4, bl false), (7, pt b3), (9, pt b4), (37, i64 0), (38, .agg #[i64 0, i64 0, i64 0, i64 0, i64 0, i64 0, i64 0])])
  refine ck (l := [10]) (r := [11]) (e' := [(2, pt b1), (3, pt b2), (4, bl false), (7, pt b3), (9, pt b4), (38, .agg #[i64 0, i64 0, i64 0, i64 0, i64 0, i64 0, i64 0])]) hA [] c0 ?_
  clear hA fr; intro fr hA
  refine wpOps_cons' (mS (off := 0) (vc := [i64 0, i64 0, i64 0, i64 0, i64 0, i64 0, i64 0]) 0 hA hO ?_)
  clear hO; intro w9 hO
  replace hA := hA.sb (e' := [(2, pt b1), (3, pt b2), (4, bl false), (7, pt b3), (9, pt b4)])
  refine end_ops ?_
  refine then_normal ?_
  refine wp_seq ?_
  refine sC (e' := [(2, pt b1), (3, pt b2), (4, bl false), (7, pt b3), (41, bl false)]) 3 hA [i64 0] (cc (hO.l1 0 0 3 (i64 0)) c0) ?_
  clear hA fr; intro fr hA
  refine cF hA ?_
  refine wp_skip ?_
  refine then_normal ?_
  refine wp_seq ?_
  refine sC (e' := [(2, pt b1), (3, pt b2), (4, bl false), (7, pt b3), (52, bl false)]) 8 hA [i64 19, i64 19] (cc (hO.l1 3 0 3 (i64 19)) (cc (hO.l1 3 0 3 (i64 19)) c0)) ?_
  clear hA fr; intro fr hA
  refine cF hA ?_
  refine wp_skip ?_
  refine then_normal ?_
  refine wp_seq ?_
  refine sC (e' := [(2, pt b1), (3, pt b2), (4, bl false), (7, pt b3), (61, bl false)]) 3 hA [i64 19] (cc (hO.l1 3 0 3 (i64 19)) c0) ?_
  clear hA fr; intro fr hA
  refine cF hA ?_
  refine wp_skip ?_
  refine then_normal ?_
  refine wp_seq ?_
  refine sC (e' := [(2, pt b1), (3, pt b2), (4, bl false), (7, pt b3), (81, bl ((R ((a).toNat)) != 0))]) 11 hA [i64 19, i64 a, i32 (R ((a).toNat))] (cc (hO.l1 3 0 3 (i64 19)) (cc (hO.l1 3 1 3 (i64 a)) (cc (⟨by omega, by omega⟩ : (0 : Int) ≤ a ∧ a < ((16 : Nat) : Int)) (cc ((ld_regs (hO.b 4) (by omega) (by kernel_rfl)) : Ld Tryd.prog w9 ((⟨b1, 0, none⟩ : Addr).add ((a).toNat)) 21 (i32 (R ((a).toNat)))) c0)))) ?_
  clear hA fr; intro fr hA
  replace hA := hA.bool (f := fun z => [(2, pt b1), (3, pt b2), (4, bl false), (7, pt b3), (81, .bool z)]) (by rw [hz]; rfl : ((R ((a).toNat)) != 0) = false)
  refine cF hA ?_
  refine wp_skip ?_
  refine then_normal ?_
  refine sR (l := (rg 0 15)) ?_
  refine ck (l := [0, 1, 2, 3]) (r := (rg 4 11)) (e' := [(2, pt b1), (3, pt b2), (4, bl false), (7, pt b3), (89, .agg (List.toArray (regsL R ((pc + 4) + (4 * v))))), (92, u8 (IntKind.u8.wrap a))]) hA [.agg (List.toArray (regsL R ((pc + 4) + (4 * v)))), i64 a, bl false] (cc (hO.ln 1 0 40 (regsL R ((pc + 4) + (4 * v)))) (cc (hO.l1 3 1 3 (i64 a)) c0)) ?_
  clear hA fr; intro fr hA
  refine wpOps_cons' (mN (l := [u8 21, u8 (IntKind.u8.wrap a), u8 0, u8 0]) (t := 5) (v := fun b => .slice (some ⟨b, 0, none⟩) 4 4) (d := 93) hA hO ?_)
  clear hA hO fr; intro fr w10 b5 hA hO
  replace hA := hA.sb (e' := [(2, pt b1), (3, pt b2), (4, bl false), (7, pt b3), (89, .agg (List.toArray (regsL R ((pc + 4) + (4 * v))))), (93, .slice (some ⟨b5, 0, none⟩) 4 4)])
  refine wpOps_cons' (mK (f := 18) (args := [.agg (List.toArray (regsL R ((pc + 4) + (4 * v)))), .slice (some ⟨b5, 0, none⟩) 4 4, i64 0]) (d := (some 94)) (v := .tuple #[.agg (List.toArray (regsL R (R a.toNat))), i64 0, .agg #[i64 0, i64 0, i64 0, i64 0, i64 0, i64 0, i64 0]]) hA hO Tryd.func18 (rs (exec_any R ((pc + 4) + (4 * v)) 0 _ ([21, IntKind.u8.wrap a, 0, 0]) _ (hT.keep hO.only (fun h => h)) hR (by omega) (by omega) ((hO.b 0).sl (xs := [21, IntKind.u8.wrap a, 0, 0]) (U8s.cons (inK_u8 (by decide) (by decide)) (U8s.cons (wrap_inK .u8 _) (U8s.cons (inK_u8 (by decide) (by decide)) (U8s.cons (inK_u8 (by decide) (by decide)) U8s.nil)))) rfl (by kernel_rfl))) (back_exec _ _ _ ha_)) ?_)
  clear hA hO fr; intro fr w11 hA hO
  replace hA := hA.sb (e' := [(2, pt b1), (3, pt b2), (4, bl false), (7, pt b3), (94, .tuple #[.agg (List.toArray (regsL R (R a.toNat))), i64 0, .agg #[i64 0, i64 0, i64 0, i64 0, i64 0, i64 0, i64 0]])])
  refine ck (l := [6, 7, 8, 9]) (r := (rg 10 5)) (e' := [(2, pt b1), (3, pt b2), (4, bl false), (7, pt b3), (95, .agg (List.toArray (regsL R (R a.toNat)))), (96, i64 0), (97, .agg #[i64 0, i64 0, i64 0, i64 0, i64 0, i64 0, i64 0])]) hA [] c0 ?_
  clear hA fr; intro fr hA
  refine wpOps_cons' (mN (l := [i32 0, i32 0, i32 0, i32 0, i32 0, i32 0, i32 0, i32 0, i32 0, i32 0, i32 0, i32 0, i32 0, i32 0, i32 0, i32 0, i64 0]) (t := 40) (v := pt) (d := 10) hA hO ?_)
  clear hA hO fr; intro fr w12 b6 hA hO
  refine wpOps_cons' (mN (l := [i64 0, i64 0, i64 0, i64 0, i64 0, i64 0, i64 0]) (t := 43) (v := pt) (d := 12) hA hO ?_)
  clear hA hO fr; intro fr w13 b7 hA hO
  refine wpOps_cons' (mS (off := 0) (vc := (regsL R (R a.toNat))) 1 hA hO ?_)
  clear hO; intro w14 hO
  replace hA := hA.sb (e' := [(2, pt b1), (3, pt b2), (4, bl false), (7, pt b3), (10, pt b6), (12, pt b7), (96, i64 0), (97, .agg #[i64 0, i64 0, i64 0, i64 0, i64 0, i64 0, i64 0])])
  refine ck (l := [13]) (r := [14]) (e' := [(2, pt b1), (3, pt b2), (4, bl false), (7, pt b3), (10, pt b6), (12, pt b7), (97, .agg #[i64 0, i64 0, i64 0, i64 0, i64 0, i64 0, i64 0])]) hA [] c0 ?_
  clear hA fr; intro fr hA
  refine wpOps_cons' (mS (off := 0) (vc := [i64 0, i64 0, i64 0, i64 0, i64 0, i64 0, i64 0]) 0 hA hO ?_)
  clear hO; intro w15 hO
  replace hA := hA.sb (e' := [(2, pt b1), (3, pt b2), (4, bl false), (7, pt b3), (10, pt b6)])
  refine end_ops ?_
  refine then_normal ?_
  refine sR (l := (rg 0 24)) ?_
  refine ck (l := (rg 0 11)) (r := (rg 11 13)) (e' := [(2, pt b1), (3, pt b2), (4, bl false), (10, pt b6), (107, bl (((pc + 4) + (4 * v)) == ((pc + 4) + (4 * v)))), (108, bl (((pc + 4) + (4 * v)) == ((pc + 4) + (4 * v))))]) hA [i64 ((pc + 4) + (4 * v)), i64 pc, bl true, i64 v, bl true, bl true] (cc (hO.l1 4 16 3 (i64 ((pc + 4) + (4 * v)))) (cc (hO.l1 7 16 3 (i64 pc)) (cc ((inK_i64 (by omega) (by omega)) : inK .i64 (pc + 4)) (cc (hO.l1 6 4 3 (i64 v)) (cc ((inK_i64 (by omega) (by omega)) : inK .i64 (4 * v)) (cc ((inK_i64 (by omega) (by omega)) : inK .i64 ((pc + 4) + (4 * v))) c0)))))) ?_
  clear hA fr; intro fr hA
  replace hA := hA.bool (f := fun z => [(2, pt b1), (3, pt b2), (4, bl false), (10, pt b6), (107, .bool z), (108, .bool z)]) (beq_self_eq_true _ : (((pc + 4) + (4 * v)) == ((pc + 4) + (4 * v))) = true)
  refine ck (l := (rg 11 13)) (r := []) (e' := [(4, bl true)]) hA [i64 19] (cc (hO.l1 6 0 3 (i64 19)) c0) ?_
  clear hA fr; intro fr hA
  refine end_ops ?_
  refine then_normal ?_
  refine wp_ret ?_
  refine cR (cs := [none]) (us := [bl true]) hA [] trivial ?_
  have hF := hO.only; clear hA hO
  exact ⟨by first | rfl | simp [pack], hF⟩

theorem ctl_20 (R : Nat → Int) (pc a b c v : Int) (w : World) (hT : Tab w) (hR : RegsOk R) (hl : legalB 20 a b c v = true) (hp : 0 ≤ pc) (hp' : pc ≤ 1048576) :
    Calls Tryd.prog 6 #[.agg (List.toArray (regsL R pc)), .agg #[i64 20, i64 a, i64 b, i64 c, i64 v]] w fun e w' => e = .returned (.bool true) ∧ Only none' w w' := by
  refine c_enter (args := [.agg (List.toArray (regsL R pc)), .agg #[i64 20, i64 a, i64 b, i64 c, i64 v]]) (m := 119) (n := 121) Tryd.func6 rfl (by kernel_rfl) (by kernel_rfl) fun fr hA => ?_
  have hO := Ow.nil Tryd.prog none' w
  obtain ⟨ho_, ha_, hb_, hc_, hv_, hc2_⟩ := legal_spec hl
  refine sR (l := [0, 1, 2]) ?_
  refine wpOps_cons' (mN (l := (regsL R pc)) (t := 38) (v := pt) (d := 2) hA hO ?_)
  clear hA hO fr; intro fr w1 b1 hA hO
  replace hA := hA.sb (e' := [(1, .agg #[i64 20, i64 a, i64 b, i64 c, i64 v]), (2, pt b1)])
  refine wpOps_cons' (mN (l := [i64 20, i64 a, i64 b, i64 c, i64 v]) (t := 29) (v := pt) (d := 3) hA hO ?_)
  clear hA hO fr; intro fr w2 b2 hA hO
  replace hA := hA.sb (e' := [(2, pt b1), (3, pt b2)])
  refine ck (l := [2]) (r := []) (e' := [(2, pt b1), (3, pt b2), (4, bl false)]) hA [] c0 ?_
  clear hA fr; intro fr hA
  refine end_ops ?_
  refine then_normal ?_
  refine wp_seq ?_
  refine sR (l := [0, 1]) ?_
  refine wpOps_cons' (mK (f := 12) (args := []) (d := (some 13)) (v := bl true) hA hO Tryd.func12 (awake_any _ (hT.keep hO.only (fun h => h))) ?_)
  clear hA hO fr; intro fr w3 hA hO
  refine ck (l := [1]) (r := []) (e' := [(2, pt b1), (3, pt b2), (4, bl false), (14, bl false)]) hA [] c0 ?_
  clear hA fr; intro fr hA
  refine end_ops ?_
  refine then_normal ?_
  refine cF hA ?_
  refine wp_skip ?_
  refine then_normal ?_
  refine sR (l := (rg 0 7)) ?_
  refine ck (l := [0]) (r := (rg 1 6)) (e' := [(2, pt b1), (3, pt b2), (4, bl false), (16, .agg #[i64 20, i64 a, i64 b, i64 c, i64 v])]) hA [.agg #[i64 20, i64 a, i64 b, i64 c, i64 v]] (cc (hO.ln 0 0 29 [i64 20, i64 a, i64 b, i64 c, i64 v]) c0) ?_
  clear hA fr; intro fr hA
  refine wpOps_cons' (mC (f := 15) (args := [.agg #[i64 20, i64 a, i64 b, i64 c, i64 v]]) (d := (some 17)) hA Tryd.func15 ((encode_ok 20 a b c v _ (hT.keep hO.only (fun h => h)) hl).mono ?_))
  rintro en w4 ⟨k1, rfl, ho, hbk, hge⟩
  refine ⟨_, rfl, ?_⟩
  clear hA fr; intro fr hA
  replace hO := hO.add ho hbk hge; clear ho hbk hge
  replace hA := hA.sb (e' := [(2, pt b1), (3, pt b2), (4, bl false), (17, .tuple #[.slice (some ⟨k1, 0, none⟩) 4 4, i64 0])])
  refine ck (l := (rg 2 5)) (r := []) (e' := [(2, pt b1), (3, pt b2), (4, bl false), (5, .slice (some ⟨k1, 0, none⟩) 4 4), (6, i64 0)]) hA [] c0 ?_
  clear hA fr; intro fr hA
  refine end_ops ?_
  refine then_normal ?_
  refine wp_seq ?_
  refine sR (l := (rg 0 12)) ?_
  refine ck (l := (rg 0 8)) (r := [8, 9, 10, 11]) (e' := [(2, pt b1), (3, pt b2), (4, bl false), (5, .slice (some ⟨k1, 0, none⟩) 4 4), (25, bl (decide (pc < 0))), (26, bl (decide (pc < 0))), (27, bl (decide (pc < 0)))]) hA [i64 pc] (cc (hO.l1 2 16 3 (i64 pc)) c0) ?_
  clear hA fr; intro fr hA
  replace hA := hA.bool (f := fun z => [(2, pt b1), (3, pt b2), (4, bl false), (5, .slice (some ⟨k1, 0, none⟩) 4 4), (25, .bool z), (26, .bool z), (27, .bool z)]) (decide_eq_false (by omega) : (decide (pc < 0)) = false)
  refine ck (l := [8, 9, 10, 11]) (r := []) (e' := [(2, pt b1), (3, pt b2), (4, bl false), (5, .slice (some ⟨k1, 0, none⟩) 4 4), (31, bl (decide (pc > 1048576)))]) hA [i64 pc] (cc (hO.l1 2 16 3 (i64 pc)) c0) ?_
  clear hA fr; intro fr hA
  refine end_ops ?_
  refine then_normal ?_
  replace hA := hA.bool (f := fun z => [(2, pt b1), (3, pt b2), (4, bl false), (5, .slice (some ⟨k1, 0, none⟩) 4 4), (31, .bool z)]) (decide_eq_false (by omega) : (decide (pc > 1048576)) = false)
  refine cF hA ?_
  refine wp_skip ?_
  refine then_normal ?_
  refine sR (l := (rg 0 12)) ?_
  refine ck (l := [0, 1]) (r := (rg 2 10)) (e' := [(2, pt b1), (3, pt b2), (4, bl false), (33, .agg (List.toArray (regsL R pc))), (34, .slice (some ⟨k1, 0, none⟩) 4 4)]) hA [.agg (List.toArray (regsL R pc))] (cc (hO.ln 2 0 38 (regsL R pc)) c0) ?_
  clear hA fr; intro fr hA
  refine wpOps_cons' (mK (f := 18) (args := [.agg (List.toArray (regsL R pc)), .slice (some ⟨k1, 0, none⟩) 4 4, i64 1]) (d := (some 35)) (v := .tuple #[.agg (List.toArray (regsL (upd R a.toNat (IntKind.i32.wrap (pc + 4))) ((pc + 4) + (4 * v)))), i64 0, .agg #[i64 0, i64 0, i64 0, i64 0, i64 0, i64 0, i64 0]]) hA hO Tryd.func18 (rs (exec_any R pc 1 _ ([IntKind.u8.wrap 20, IntKind.u8.wrap a, cond (opV 20) (IntKind.u8.wrap (v / 256)) (IntKind.u8.wrap b), cond (opV 20) (IntKind.u8.wrap v) (IntKind.u8.wrap c)]) _ (hT.keep hO.only (fun h => h)) hR (by omega) (by omega) ((hO.b 0).sl (xs := [IntKind.u8.wrap 20, IntKind.u8.wrap a, cond (opV 20) (IntKind.u8.wrap (v / 256)) (IntKind.u8.wrap b), cond (opV 20) (IntKind.u8.wrap v) (IntKind.u8.wrap c)]) (U8s.cons (wrap_inK .u8 _) (U8s.cons (wrap_inK .u8 _) (U8s.cons (inK_cond (wrap_inK .u8 _) (wrap_inK .u8 _)) (U8s.cons (inK_cond (wrap_inK .u8 _) (wrap_inK .u8 _)) U8s.nil)))) rfl (by kernel_rfl))) ((execX_enc R pc 1 hl).trans (by kernel_rfl))) ?_)
  clear hA hO fr; intro fr w5 hA hO
  replace hA := hA.sb (e' := [(2, pt b1), (3, pt b2), (4, bl false), (35, .tuple #[.agg (List.toArray (regsL (upd R a.toNat (IntKind.i32.wrap (pc + 4))) ((pc + 4) + (4 * v)))), i64 0, .agg #[i64 0, i64 0, i64 0, i64 0, i64 0, i64 0, i64 0]])])
  refine ck (l := [3, 4, 5, 6]) (r := (rg 7 5)) (e' := [(2, pt b1), (3, pt b2), (4, bl false), (36, .agg (List.toArray (regsL (upd R a.toNat (IntKind.i32.wrap (pc + 4))) ((pc + 4) + (4 * v))))), (37, i64 0), (38, .agg #[i64 0, i64 0, i64 0, i64 0, i64 0, i64 0, i64 0])]) hA [] c0 ?_
  clear hA fr; intro fr hA
  refine wpOps_cons' (mN (l := [i32 0, i32 0, i32 0, i32 0, i32 0, i32 0, i32 0, i32 0, i32 0, i32 0, i32 0, i32 0, i32 0, i32 0, i32 0, i32 0, i64 0]) (t := 40) (v := pt) (d := 7) hA hO ?_)
  clear hA hO fr; intro fr w6 b3 hA hO
  refine wpOps_cons' (mN (l := [i64 0, i64 0, i64 0, i64 0, i64 0, i64 0, i64 0]) (t := 43) (v := pt) (d := 9) hA hO ?_)
  clear hA hO fr; intro fr w7 b4 hA hO
  refine wpOps_cons' (mS (off := 0) (vc := (regsL (upd R a.toNat (IntKind.i32.wrap (pc + 4))) ((pc + 4) + (4 * v)))) 1 hA hO ?_)
  clear hO; intro w8 hO
  replace hA := hA.sb (e' := [(2, pt b1), (3, pt b2), (4, bl false), (7, pt b3), (9, pt b4), (37, i64 0), (38, .agg #[i64 0, i64 0, i64 0, i64 0, i64 0, i64 0, i64 0])])
  refine ck (l := [10]) (r := [11]) (e' := [(2, pt b1), (3, pt b2), (4, bl false), (7, pt b3), (9, pt b4), (38, .agg #[i64 0, i64 0, i64 0, i64 0, i64 0, i64 0, i64 0])]) hA [] c0 ?_
  clear hA fr; intro fr hA
  refine wpOps_cons' (mS (off := 0) (vc := [i64 0, i64 0, i64 0, i64 0, i64 0, i64 0, i64 0]) 0 hA hO ?_)
  clear hO; intro w9 hO
  replace hA := hA.sb (e' := [(2, pt b1), (3, pt b2), (4, bl false), (7, pt b3), (9, pt b4)])
  refine end_ops ?_
  refine then_normal ?_
  refine wp_seq ?_
  refine sC (e' := [(2, pt b1), (3, pt b2), (4, bl false), (7, pt b3), (41, bl false)]) 3 hA [i64 0] (cc (hO.l1 0 0 3 (i64 0)) c0) ?_
  clear hA fr; intro fr hA
  refine cF hA ?_
  refine wp_skip ?_
  refine then_normal ?_
  refine wp_seq ?_
  refine sC (e' := [(2, pt b1), (3, pt b2), (4, bl false), (7, pt b3), (52, bl false)]) 8 hA [i64 20, i64 20] (cc (hO.l1 3 0 3 (i64 20)) (cc (hO.l1 3 0 3 (i64 20)) c0)) ?_
  clear hA fr; intro fr hA
  refine cF hA ?_
  refine wp_skip ?_
  refine then_normal ?_
  refine wp_seq ?_
  refine sC (e' := [(2, pt b1), (3, pt b2), (4, bl false), (7, pt b3), (61, bl false)]) 3 hA [i64 20] (cc (hO.l1 3 0 3 (i64 20)) c0) ?_
  clear hA fr; intro fr hA
  refine cF hA ?_
  refine wp_skip ?_
  refine then_normal ?_
  refine wp_seq ?_
  refine sC (e' := [(2, pt b1), (3, pt b2), (4, bl false), (7, pt b3), (81, bl false)]) 11 hA [i64 20] (cc (hO.l1 3 0 3 (i64 20)) c0) ?_
  clear hA fr; intro fr hA
  refine cF hA ?_
  refine wp_skip ?_
  refine then_normal ?_
  refine sR (l := (rg 0 15)) ?_
  refine ck (l := [0, 1, 2, 3]) (r := (rg 4 11)) (e' := [(2, pt b1), (3, pt b2), (4, bl false), (7, pt b3), (89, .agg (List.toArray (regsL (upd R a.toNat (IntKind.i32.wrap (pc + 4))) ((pc + 4) + (4 * v))))), (92, u8 (IntKind.u8.wrap a))]) hA [.agg (List.toArray (regsL (upd R a.toNat (IntKind.i32.wrap (pc + 4))) ((pc + 4) + (4 * v)))), i64 a, bl false] (cc (hO.ln 1 0 40 (regsL (upd R a.toNat (IntKind.i32.wrap (pc + 4))) ((pc + 4) + (4 * v)))) (cc (hO.l1 3 1 3 (i64 a)) c0)) ?_
  clear hA fr; intro fr hA
  refine wpOps_cons' (mN (l := [u8 21, u8 (IntKind.u8.wrap a), u8 0, u8 0]) (t := 5) (v := fun b => .slice (some ⟨b, 0, none⟩) 4 4) (d := 93) hA hO ?_)
  clear hA hO fr; intro fr w10 b5 hA hO
  replace hA := hA.sb (e' := [(2, pt b1), (3, pt b2), (4, bl false), (7, pt b3), (89, .agg (List.toArray (regsL (upd R a.toNat (IntKind.i32.wrap (pc + 4))) ((pc + 4) + (4 * v))))), (93, .slice (some ⟨b5, 0, none⟩) 4 4)])
  refine wpOps_cons' (mK (f := 18) (args := [.agg (List.toArray (regsL (upd R a.toNat (IntKind.i32.wrap (pc + 4))) ((pc + 4) + (4 * v)))), .slice (some ⟨b5, 0, none⟩) 4 4, i64 0]) (d := (some 94)) (v := .tuple #[.agg (List.toArray (regsL (upd R a.toNat (IntKind.i32.wrap (pc + 4))) (pc + 4))), i64 0, .agg #[i64 0, i64 0, i64 0, i64 0, i64 0, i64 0, i64 0]]) hA hO Tryd.func18 (rs (exec_any (upd R a.toNat (IntKind.i32.wrap (pc + 4))) ((pc + 4) + (4 * v)) 0 _ ([21, IntKind.u8.wrap a, 0, 0]) _ (hT.keep hO.only (fun h => h)) (updOk hR (wrap_inK .i32 _)) (by omega) (by omega) ((hO.b 0).sl (xs := [21, IntKind.u8.wrap a, 0, 0]) (U8s.cons (inK_u8 (by decide) (by decide)) (U8s.cons (wrap_inK .u8 _) (U8s.cons (inK_u8 (by decide) (by decide)) (U8s.cons (inK_u8 (by decide) (by decide)) U8s.nil)))) rfl (by kernel_rfl))) ((back_exec _ _ _ ha_).trans (by rw [show (upd R a.toNat (IntKind.i32.wrap (pc + 4))) a.toNat = pc + 4 from by simp only [upd, if_true]; exact (inK_i32 (by omega) (by omega)).wrap]; rfl))) ?_)
  clear hA hO fr; intro fr w11 hA hO
  replace hA := hA.sb (e' := [(2, pt b1), (3, pt b2), (4, bl false), (7, pt b3), (94, .tuple #[.agg (List.toArray (regsL (upd R a.toNat (IntKind.i32.wrap (pc + 4))) (pc + 4))), i64 0, .agg #[i64 0, i64 0, i64 0, i64 0, i64 0, i64 0, i64 0]])])
  refine ck (l := [6, 7, 8, 9]) (r := (rg 10 5)) (e' := [(2, pt b1), (3, pt b2), (4, bl false), (7, pt b3), (95, .agg (List.toArray (regsL (upd R a.toNat (IntKind.i32.wrap (pc + 4))) (pc + 4)))), (96, i64 0), (97, .agg #[i64 0, i64 0, i64 0, i64 0, i64 0, i64 0, i64 0])]) hA [] c0 ?_
  clear hA fr; intro fr hA
  refine wpOps_cons' (mN (l := [i32 0, i32 0, i32 0, i32 0, i32 0, i32 0, i32 0, i32 0, i32 0, i32 0, i32 0, i32 0, i32 0, i32 0, i32 0, i32 0, i64 0]) (t := 40) (v := pt) (d := 10) hA hO ?_)
  clear hA hO fr; intro fr w12 b6 hA hO
  refine wpOps_cons' (mN (l := [i64 0, i64 0, i64 0, i64 0, i64 0, i64 0, i64 0]) (t := 43) (v := pt) (d := 12) hA hO ?_)
  clear hA hO fr; intro fr w13 b7 hA hO
  refine wpOps_cons' (mS (off := 0) (vc := (regsL (upd R a.toNat (IntKind.i32.wrap (pc + 4))) (pc + 4))) 1 hA hO ?_)
  clear hO; intro w14 hO
  replace hA := hA.sb (e' := [(2, pt b1), (3, pt b2), (4, bl false), (7, pt b3), (10, pt b6), (12, pt b7), (96, i64 0), (97, .agg #[i64 0, i64 0, i64 0, i64 0, i64 0, i64 0, i64 0])])
  refine ck (l := [13]) (r := [14]) (e' := [(2, pt b1), (3, pt b2), (4, bl false), (7, pt b3), (10, pt b6), (12, pt b7), (97, .agg #[i64 0, i64 0, i64 0, i64 0, i64 0, i64 0, i64 0])]) hA [] c0 ?_
  clear hA fr; intro fr hA
  refine wpOps_cons' (mS (off := 0) (vc := [i64 0, i64 0, i64 0, i64 0, i64 0, i64 0, i64 0]) 0 hA hO ?_)
  clear hO; intro w15 hO
  replace hA := hA.sb (e' := [(2, pt b1), (3, pt b2), (4, bl false), (7, pt b3), (10, pt b6)])
  refine end_ops ?_
  refine then_normal ?_
  refine sR (l := (rg 0 24)) ?_
  refine ck (l := (rg 0 11)) (r := (rg 11 13)) (e' := [(2, pt b1), (3, pt b2), (4, bl false), (10, pt b6), (107, bl (((pc + 4) + (4 * v)) == ((pc + 4) + (4 * v)))), (108, bl (((pc + 4) + (4 * v)) == ((pc + 4) + (4 * v))))]) hA [i64 ((pc + 4) + (4 * v)), i64 pc, bl true, i64 v, bl true, bl true] (cc (hO.l1 4 16 3 (i64 ((pc + 4) + (4 * v)))) (cc (hO.l1 7 16 3 (i64 pc)) (cc ((inK_i64 (by omega) (by omega)) : inK .i64 (pc + 4)) (cc (hO.l1 6 4 3 (i64 v)) (cc ((inK_i64 (by omega) (by omega)) : inK .i64 (4 * v)) (cc ((inK_i64 (by omega) (by omega)) : inK .i64 ((pc + 4) + (4 * v))) c0)))))) ?_
  clear hA fr; intro fr hA
  replace hA := hA.bool (f := fun z => [(2, pt b1), (3, pt b2), (4, bl false), (10, pt b6), (107, .bool z), (108, .bool z)]) (beq_self_eq_true _ : (((pc + 4) + (4 * v)) == ((pc + 4) + (4 * v))) = true)
  refine ck (l := (rg 11 13)) (r := []) (e' := [(4, bl ((pc + 4) == (pc + 4)))]) hA [i64 20, i64 (pc + 4), i64 pc, bl true] (cc (hO.l1 6 0 3 (i64 20)) (cc (hO.l1 1 16 3 (i64 (pc + 4))) (cc (hO.l1 7 16 3 (i64 pc)) (cc ((inK_i64 (by omega) (by omega)) : inK .i64 (pc + 4)) c0)))) ?_
  clear hA fr; intro fr hA
  refine end_ops ?_
  refine then_normal ?_
  refine wp_ret ?_
  refine cR (cs := [none]) (us := [bl ((pc + 4) == (pc + 4))]) hA [] trivial ?_
  have hF := hO.only; clear hA hO
  exact ⟨by first | rfl | simp [pack], hF⟩

theorem law_control (R : Nat → Int) (pc o a b c v : Int) (w : World) (hT : Tab w) (hR : RegsOk R) : Calls Tryd.prog 6 #[.agg (regsL R pc).toArray, insV o a b c v] w fun e w' => e = .returned (.bool true) ∧ Only none' w w' := by
  cases hl : legalB o a b c v with
  | false => exact ctl_bad R pc o a b c v w hT hR hl
  | true =>
    by_cases h1 : pc < 0
    · exact ctl_lo R pc o a b c v w hT hR hl h1
    by_cases h2 : 1048576 < pc
    · exact ctl_hi R pc o a b c v w hT hR hl h2
    have g1 : 0 ≤ pc := by omega
    have g2 : pc ≤ 1048576 := by omega
    have ho := (legal_spec hl).1
    by_cases e21 : o = 21
    · subst e21; exact ctl_21 R pc a b c v w hT hR hl g1 g2
    by_cases e19 : o = 19
    · subst e19
      by_cases hz : R a.toNat = 0
      · exact ctl_19z R pc a b c v w hT hR hl g1 g2 hz
      · exact ctl_19n R pc a b c v w hT hR hl g1 g2 hz
    by_cases e18 : o = 18
    · subst e18; exact ctl_18 R pc a b c v w hT hR hl g1 g2
    by_cases e20 : o = 20
    · subst e20; exact ctl_20 R pc a b c v w hT hR hl g1 g2
    have hlo : o < 18 ∨ o = 22 := by omega
    have nx0 := fun R' st k p0 p1 p2 p3 p4 => ctl_next0 R' R pc st k p0 p1 p2 p3 p4 o a b c v w hT hR hl g1 g2 hlo
    have nx1 := fun R' st k p0 p1 p2 p3 p4 => ctl_next1 R' R pc st k p0 p1 p2 p3 p4 o a b c v w hT hR hl g1 g2 hlo
    have ex := fun st k => ctl_exc R pc st k o a b c v w hT hR hl g1 g2
    simp only [execV] at nx0 nx1 ex
    by_cases e1 : o = 1
    · subst e1; exact nx0 _ _ _ _ _ _ _ _ rfl
    by_cases e2 : o = 2
    · subst e2; exact nx0 _ _ _ _ _ _ _ _ rfl
    by_cases e3 : o = 3
    · subst e3; exact nx0 _ _ _ _ _ _ _ _ rfl
    simp only [if_neg e1, if_neg e2, if_neg e3, if_neg e18, if_neg e19, if_neg e20, if_neg e21] at nx0 nx1 ex
    by_cases e14 : o = 14
    · simp only [if_pos e14] at nx0 ex
      by_cases hm : (R b.toNat + c).tmod 4 = 0
      · rw [if_pos hm] at nx0; exact nx0 _ _ _ _ _ _ _ _ rfl
      · rw [if_neg hm] at ex; exact ex _ _ rfl
    by_cases e15 : o = 15
    · simp only [if_pos e15, if_neg e14] at nx0 ex
      by_cases hm : (R b.toNat + c).tmod 4 = 0
      · rw [if_pos hm] at nx0; exact nx0 _ _ _ _ _ _ _ _ rfl
      · rw [if_neg hm] at ex; exact ex _ _ rfl
    simp only [if_neg e14, if_neg e15] at nx0 nx1 ex
    by_cases e16 : o = 16
    · simp only [if_pos e16] at nx0; exact nx0 _ _ _ _ _ _ _ _ rfl
    by_cases e17 : o = 17
    · simp only [if_pos e17, if_neg e16] at nx0; exact nx0 _ _ _ _ _ _ _ _ rfl
    simp only [if_neg e16, if_neg e17] at nx0 nx1 ex
    by_cases e22 : o = 22
    · simp only [if_pos e22] at nx1; exact nx1 _ _ _ _ _ _ _ _ rfl
    simp only [if_neg e22] at nx0 ex
    by_cases hd : (o = 7 ∨ o = 8) ∧ R c.toNat = 0
    · rw [if_pos hd] at ex; exact ex _ _ rfl
    · rw [if_neg hd] at nx0; exact nx0 _ _ _ _ _ _ _ _ rfl

end Go.Proofs.YtcaokjdihhbkjaaDoor
