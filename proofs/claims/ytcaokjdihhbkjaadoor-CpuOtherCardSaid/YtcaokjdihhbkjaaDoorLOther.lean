/- The layer cpu: walks of the law CpuOther. -/
import Derived.Test.YtcaokjdihhbkjaaDoorLControl
set_option linter.unusedVariables false
set_option linter.unusedSimpArgs false
set_option maxRecDepth 10000
namespace Go.Proofs.YtcaokjdihhbkjaaDoor
open Go Go.RowKit Go.Proofs.Sx

theorem tame_any (R : Nat → Int) (pc : Int) (w : World) :
    Calls Tryd.prog 17 #[.agg (List.toArray (regsL R pc))] w fun e w' => e = .returned (.bool (decide (pc > -1099511627776) && decide (pc < 1099511627776))) ∧ Only none' w w' := by
  refine c_enter (args := [.agg (List.toArray (regsL R pc))]) (m := 10) (n := 11) Tryd.func17 rfl (by kernel_rfl) (by kernel_rfl) fun fr hA => ?_
  have hO := Ow.nil Tryd.prog none' w
  refine sR (l := [0, 1]) ?_
  refine wpOps_cons' (mN (l := (regsL R pc)) (t := 38) (v := pt) (d := 1) hA hO ?_)
  clear hA hO fr; intro fr w1 b1 hA hO
  replace hA := hA.sb (e' := [(1, pt b1)])
  refine ck (l := [1]) (r := []) (e' := [(1, pt b1), (2, bl false)]) hA [] c0 ?_
  clear hA fr; intro fr hA
  refine end_ops ?_
  refine then_normal ?_
  refine sR (l := (rg 0 9)) ?_
  refine ck (l := [0, 1, 2, 3]) (r := (rg 4 5)) (e' := [(1, pt b1), (2, bl false), (5, bl (decide (pc > (-1099511627776)))), (6, bl (decide (pc > (-1099511627776))))]) hA [i64 pc] (cc (hO.l1 0 16 3 (i64 pc)) c0) ?_
  clear hA fr; intro fr hA
  rcases Bool.eq_false_or_eq_true (decide (pc > (-1099511627776))) with h1 | h1
  ·
    replace hA := hA.bool (f := fun z => [(1, pt b1), (2, bl false), (5, .bool z), (6, .bool z)]) h1
    have h1p := of_decide_eq_true h1
    refine ck (l := (rg 4 5)) (r := []) (e' := [(2, bl (decide (pc < 1099511627776)))]) hA [i64 pc] (cc (hO.l1 0 16 3 (i64 pc)) c0) ?_
    clear hA fr; intro fr hA
    refine end_ops ?_
    refine then_normal ?_
    refine wp_ret ?_
    refine cR (cs := [none]) (us := [bl (decide (pc < 1099511627776))]) hA [] trivial ?_
    have hF := hO.only; clear hA hO
    exact ⟨by simp_all [pack] <;> omega, hF⟩
  ·
    replace hA := hA.bool (f := fun z => [(1, pt b1), (2, bl false), (5, .bool z), (6, .bool z)]) h1
    have h1p := of_decide_eq_false h1
    refine ck (l := (rg 4 5)) (r := []) (e' := [(2, bl false)]) hA [] c0 ?_
    clear hA fr; intro fr hA
    refine end_ops ?_
    refine then_normal ?_
    refine wp_ret ?_
    refine cR (cs := [none]) (us := [bl false]) hA [] trivial ?_
    have hF := hO.only; clear hA hO
    exact ⟨by simp_all [pack] <;> omega, hF⟩

theorem oth_bad (R Q : Nat → Int) (pc qc o a b c v : Int) (w : World) (hT : Tab w) (hR : RegsOk R) (hQ : RegsOk Q) (hl : legalB o a b c v = false) :
    Calls Tryd.prog 4 #[.agg (List.toArray (regsL R pc)), .agg (List.toArray (regsL Q qc)), .agg #[i64 o, i64 a, i64 b, i64 c, i64 v]] w fun e w' => e = .returned (.bool true) ∧ Only none' w w' := by
  refine c_enter (args := [.agg (List.toArray (regsL R pc)), .agg (List.toArray (regsL Q qc)), .agg #[i64 o, i64 a, i64 b, i64 c, i64 v]]) (m := 134) (n := 137) Tryd.func4 rfl (by kernel_rfl) (by kernel_rfl) fun fr hA => ?_
  have hO := Ow.nil Tryd.prog none' w
  refine sR (l := [0, 1, 2, 3]) ?_
  refine wpOps_cons' (mN (l := (regsL R pc)) (t := 38) (v := pt) (d := 3) hA hO ?_)
  clear hA hO fr; intro fr w1 b1 hA hO
  replace hA := hA.sb (e' := [(1, .agg (List.toArray (regsL Q qc))), (2, .agg #[i64 o, i64 a, i64 b, i64 c, i64 v]), (3, pt b1)])
  refine wpOps_cons' (mN (l := (regsL Q qc)) (t := 38) (v := pt) (d := 4) hA hO ?_)
  clear hA hO fr; intro fr w2 b2 hA hO
  replace hA := hA.sb (e' := [(2, .agg #[i64 o, i64 a, i64 b, i64 c, i64 v]), (3, pt b1), (4, pt b2)])
  refine wpOps_cons' (mN (l := [i64 o, i64 a, i64 b, i64 c, i64 v]) (t := 29) (v := pt) (d := 5) hA hO ?_)
  clear hA hO fr; intro fr w3 b3 hA hO
  replace hA := hA.sb (e' := [(3, pt b1), (4, pt b2), (5, pt b3)])
  refine ck (l := [3]) (r := []) (e' := [(3, pt b1), (4, pt b2), (5, pt b3), (6, bl false)]) hA [] c0 ?_
  clear hA fr; intro fr hA
  refine end_ops ?_
  refine then_normal ?_
  refine wp_seq ?_
  refine sR (l := [0, 1]) ?_
  refine wpOps_cons' (mK (f := 12) (args := []) (d := (some 16)) (v := bl true) hA hO Tryd.func12 (awake_any _ (hT.keep hO.only (fun h => h))) ?_)
  clear hA hO fr; intro fr w4 hA hO
  refine ck (l := [1]) (r := []) (e' := [(3, pt b1), (4, pt b2), (5, pt b3), (6, bl false), (17, bl false)]) hA [] c0 ?_
  clear hA fr; intro fr hA
  refine end_ops ?_
  refine then_normal ?_
  refine cF hA ?_
  refine wp_skip ?_
  refine then_normal ?_
  refine sR (l := (rg 0 7)) ?_
  refine ck (l := [0]) (r := (rg 1 6)) (e' := [(3, pt b1), (4, pt b2), (5, pt b3), (6, bl false), (19, .agg #[i64 o, i64 a, i64 b, i64 c, i64 v])]) hA [.agg #[i64 o, i64 a, i64 b, i64 c, i64 v]] (cc (hO.ln 0 0 29 [i64 o, i64 a, i64 b, i64 c, i64 v]) c0) ?_
  clear hA fr; intro fr hA
  refine wpOps_cons' (mK (f := 15) (args := [.agg #[i64 o, i64 a, i64 b, i64 c, i64 v]]) (d := (some 20)) (v := .tuple #[.slice none 0 0, i64 1]) hA hO Tryd.func15 (encode_bad o a b c v _ (hT.keep hO.only (fun h => h)) hl) ?_)
  clear hA hO fr; intro fr w5 hA hO
  replace hA := hA.sb (e' := [(3, pt b1), (4, pt b2), (5, pt b3), (6, bl false), (20, .tuple #[.slice none 0 0, i64 1])])
  refine ck (l := (rg 2 5)) (r := []) (e' := [(3, pt b1), (4, pt b2), (5, pt b3), (6, bl false), (7, .slice none 0 0), (8, i64 1)]) hA [] c0 ?_
  clear hA fr; intro fr hA
  refine end_ops ?_
  refine then_normal ?_
  refine wp_seq ?_
  refine sC (e' := [(3, pt b1), (4, pt b2), (5, pt b3), (6, bl false), (7, .slice none 0 0), (29, bl true)]) 7 hA [] c0 ?_
  clear hA fr; intro fr hA
  refine cT hA ?_
  refine sC (e' := [(3, pt b1), (4, pt b2), (5, pt b3), (6, bl true), (7, .slice none 0 0)]) 1 hA [] c0 ?_
  clear hA fr; intro fr hA
  refine wp_ret ?_
  refine then_ret ?_
  refine cR (cs := [none]) (us := [bl true]) hA [] trivial ?_
  have hF := hO.only; clear hA hO
  exact ⟨by first | rfl | simp [pack], hF⟩

theorem oth_wild (R Q : Nat → Int) (pc qc o a b c v : Int) (w : World) (hT : Tab w) (hR : RegsOk R) (hQ : RegsOk Q) (hl : legalB o a b c v = true) (hp : ¬ (-1099511627776 < pc ∧ pc < 1099511627776)) :
    Calls Tryd.prog 4 #[.agg (List.toArray (regsL R pc)), .agg (List.toArray (regsL Q qc)), .agg #[i64 o, i64 a, i64 b, i64 c, i64 v]] w fun e w' => e = .returned (.bool true) ∧ Only none' w w' := by
  refine c_enter (args := [.agg (List.toArray (regsL R pc)), .agg (List.toArray (regsL Q qc)), .agg #[i64 o, i64 a, i64 b, i64 c, i64 v]]) (m := 134) (n := 137) Tryd.func4 rfl (by kernel_rfl) (by kernel_rfl) fun fr hA => ?_
  have hO := Ow.nil Tryd.prog none' w
  obtain ⟨ho_, ha_, hb_, hc_, hv_, hc2_⟩ := legal_spec hl
  refine sR (l := [0, 1, 2, 3]) ?_
  refine wpOps_cons' (mN (l := (regsL R pc)) (t := 38) (v := pt) (d := 3) hA hO ?_)
  clear hA hO fr; intro fr w1 b1 hA hO
  replace hA := hA.sb (e' := [(1, .agg (List.toArray (regsL Q qc))), (2, .agg #[i64 o, i64 a, i64 b, i64 c, i64 v]), (3, pt b1)])
  refine wpOps_cons' (mN (l := (regsL Q qc)) (t := 38) (v := pt) (d := 4) hA hO ?_)
  clear hA hO fr; intro fr w2 b2 hA hO
  replace hA := hA.sb (e' := [(2, .agg #[i64 o, i64 a, i64 b, i64 c, i64 v]), (3, pt b1), (4, pt b2)])
  refine wpOps_cons' (mN (l := [i64 o, i64 a, i64 b, i64 c, i64 v]) (t := 29) (v := pt) (d := 5) hA hO ?_)
  clear hA hO fr; intro fr w3 b3 hA hO
  replace hA := hA.sb (e' := [(3, pt b1), (4, pt b2), (5, pt b3)])
  refine ck (l := [3]) (r := []) (e' := [(3, pt b1), (4, pt b2), (5, pt b3), (6, bl false)]) hA [] c0 ?_
  clear hA fr; intro fr hA
  refine end_ops ?_
  refine then_normal ?_
  refine wp_seq ?_
  refine sR (l := [0, 1]) ?_
  refine wpOps_cons' (mK (f := 12) (args := []) (d := (some 16)) (v := bl true) hA hO Tryd.func12 (awake_any _ (hT.keep hO.only (fun h => h))) ?_)
  clear hA hO fr; intro fr w4 hA hO
  refine ck (l := [1]) (r := []) (e' := [(3, pt b1), (4, pt b2), (5, pt b3), (6, bl false), (17, bl false)]) hA [] c0 ?_
  clear hA fr; intro fr hA
  refine end_ops ?_
  refine then_normal ?_
  refine cF hA ?_
  refine wp_skip ?_
  refine then_normal ?_
  refine sR (l := (rg 0 7)) ?_
  refine ck (l := [0]) (r := (rg 1 6)) (e' := [(3, pt b1), (4, pt b2), (5, pt b3), (6, bl false), (19, .agg #[i64 o, i64 a, i64 b, i64 c, i64 v])]) hA [.agg #[i64 o, i64 a, i64 b, i64 c, i64 v]] (cc (hO.ln 0 0 29 [i64 o, i64 a, i64 b, i64 c, i64 v]) c0) ?_
  clear hA fr; intro fr hA
  refine wpOps_cons' (mC (f := 15) (args := [.agg #[i64 o, i64 a, i64 b, i64 c, i64 v]]) (d := (some 20)) hA Tryd.func15 ((encode_ok o a b c v _ (hT.keep hO.only (fun h => h)) hl).mono ?_))
  rintro en w5 ⟨k1, rfl, ho, hbk, hge⟩
  refine ⟨_, rfl, ?_⟩
  clear hA fr; intro fr hA
  replace hO := hO.add ho hbk hge; clear ho hbk hge
  replace hA := hA.sb (e' := [(3, pt b1), (4, pt b2), (5, pt b3), (6, bl false), (20, .tuple #[.slice (some ⟨k1, 0, none⟩) 4 4, i64 0])])
  refine ck (l := (rg 2 5)) (r := []) (e' := [(3, pt b1), (4, pt b2), (5, pt b3), (6, bl false), (7, .slice (some ⟨k1, 0, none⟩) 4 4), (8, i64 0)]) hA [] c0 ?_
  clear hA fr; intro fr hA
  refine end_ops ?_
  refine then_normal ?_
  refine wp_seq ?_
  refine sR (l := (rg 0 7)) ?_
  refine ck (l := [0, 1, 2, 3]) (r := [4, 5, 6]) (e' := [(3, pt b1), (4, pt b2), (5, pt b3), (6, bl false), (7, .slice (some ⟨k1, 0, none⟩) 4 4), (25, bl false), (26, .agg (List.toArray (regsL R pc)))]) hA [.agg (List.toArray (regsL R pc))] (cc (hO.ln 3 0 38 (regsL R pc)) c0) ?_
  clear hA fr; intro fr hA
  refine wpOps_cons' (mK (f := 17) (args := [.agg (List.toArray (regsL R pc))]) (d := (some 27)) (v := bl (decide (pc > -1099511627776) && decide (pc < 1099511627776))) hA hO Tryd.func17 (tame_any R pc _) ?_)
  clear hA hO fr; intro fr w6 hA hO
  replace hA := hA.sb (e' := [(3, pt b1), (4, pt b2), (5, pt b3), (6, bl false), (7, .slice (some ⟨k1, 0, none⟩) 4 4), (25, bl false), (27, bl (decide (pc > -1099511627776) && decide (pc < 1099511627776)))])
  refine ck (l := [5, 6]) (r := []) (e' := [(3, pt b1), (4, pt b2), (5, pt b3), (6, bl false), (7, .slice (some ⟨k1, 0, none⟩) 4 4), (29, bl (!(decide (pc > -1099511627776) && decide (pc < 1099511627776))))]) hA [] c0 ?_
  clear hA fr; intro fr hA
  refine end_ops ?_
  refine then_normal ?_
  replace hA := hA.bool (f := fun z => [(3, pt b1), (4, pt b2), (5, pt b3), (6, bl false), (7, .slice (some ⟨k1, 0, none⟩) 4 4), (29, .bool !z)]) (by simp; omega : (decide (pc > -1099511627776) && decide (pc < 1099511627776)) = false)
  refine cT hA ?_
  refine sC (e' := [(3, pt b1), (4, pt b2), (5, pt b3), (6, bl true), (7, .slice (some ⟨k1, 0, none⟩) 4 4)]) 1 hA [] c0 ?_
  clear hA fr; intro fr hA
  refine wp_ret ?_
  refine then_ret ?_
  refine cR (cs := [none]) (us := [bl true]) hA [] trivial ?_
  have hF := hO.only; clear hA hO
  exact ⟨by first | rfl | simp [pack], hF⟩

theorem oth_22 (R Q : Nat → Int) (pc qc a b c v : Int) (w : World) (hT : Tab w) (hR : RegsOk R) (hQ : RegsOk Q) (hl : legalB 22 a b c v = true) (hp : -1099511627776 < pc) (hp' : pc < 1099511627776) :
    Calls Tryd.prog 4 #[.agg (List.toArray (regsL R pc)), .agg (List.toArray (regsL Q qc)), .agg #[i64 22, i64 a, i64 b, i64 c, i64 v]] w fun e w' => e = .returned (.bool true) ∧ Only none' w w' := by
  refine c_enter (args := [.agg (List.toArray (regsL R pc)), .agg (List.toArray (regsL Q qc)), .agg #[i64 22, i64 a, i64 b, i64 c, i64 v]]) (m := 134) (n := 137) Tryd.func4 rfl (by kernel_rfl) (by kernel_rfl) fun fr hA => ?_
  have hO := Ow.nil Tryd.prog none' w
  obtain ⟨ho_, ha_, hb_, hc_, hv_, hc2_⟩ := legal_spec hl
  refine sR (l := [0, 1, 2, 3]) ?_
  refine wpOps_cons' (mN (l := (regsL R pc)) (t := 38) (v := pt) (d := 3) hA hO ?_)
  clear hA hO fr; intro fr w1 b1 hA hO
  replace hA := hA.sb (e' := [(1, .agg (List.toArray (regsL Q qc))), (2, .agg #[i64 22, i64 a, i64 b, i64 c, i64 v]), (3, pt b1)])
  refine wpOps_cons' (mN (l := (regsL Q qc)) (t := 38) (v := pt) (d := 4) hA hO ?_)
  clear hA hO fr; intro fr w2 b2 hA hO
  replace hA := hA.sb (e' := [(2, .agg #[i64 22, i64 a, i64 b, i64 c, i64 v]), (3, pt b1), (4, pt b2)])
  refine wpOps_cons' (mN (l := [i64 22, i64 a, i64 b, i64 c, i64 v]) (t := 29) (v := pt) (d := 5) hA hO ?_)
  clear hA hO fr; intro fr w3 b3 hA hO
  replace hA := hA.sb (e' := [(3, pt b1), (4, pt b2), (5, pt b3)])
  refine ck (l := [3]) (r := []) (e' := [(3, pt b1), (4, pt b2), (5, pt b3), (6, bl false)]) hA [] c0 ?_
  clear hA fr; intro fr hA
  refine end_ops ?_
  refine then_normal ?_
  refine wp_seq ?_
  refine sR (l := [0, 1]) ?_
  refine wpOps_cons' (mK (f := 12) (args := []) (d := (some 16)) (v := bl true) hA hO Tryd.func12 (awake_any _ (hT.keep hO.only (fun h => h))) ?_)
  clear hA hO fr; intro fr w4 hA hO
  refine ck (l := [1]) (r := []) (e' := [(3, pt b1), (4, pt b2), (5, pt b3), (6, bl false), (17, bl false)]) hA [] c0 ?_
  clear hA fr; intro fr hA
  refine end_ops ?_
  refine then_normal ?_
  refine cF hA ?_
  refine wp_skip ?_
  refine then_normal ?_
  refine sR (l := (rg 0 7)) ?_
  refine ck (l := [0]) (r := (rg 1 6)) (e' := [(3, pt b1), (4, pt b2), (5, pt b3), (6, bl false), (19, .agg #[i64 22, i64 a, i64 b, i64 c, i64 v])]) hA [.agg #[i64 22, i64 a, i64 b, i64 c, i64 v]] (cc (hO.ln 0 0 29 [i64 22, i64 a, i64 b, i64 c, i64 v]) c0) ?_
  clear hA fr; intro fr hA
  refine wpOps_cons' (mC (f := 15) (args := [.agg #[i64 22, i64 a, i64 b, i64 c, i64 v]]) (d := (some 20)) hA Tryd.func15 ((encode_ok 22 a b c v _ (hT.keep hO.only (fun h => h)) hl).mono ?_))
  rintro en w5 ⟨k1, rfl, ho, hbk, hge⟩
  refine ⟨_, rfl, ?_⟩
  clear hA fr; intro fr hA
  replace hO := hO.add ho hbk hge; clear ho hbk hge
  replace hA := hA.sb (e' := [(3, pt b1), (4, pt b2), (5, pt b3), (6, bl false), (20, .tuple #[.slice (some ⟨k1, 0, none⟩) 4 4, i64 0])])
  refine ck (l := (rg 2 5)) (r := []) (e' := [(3, pt b1), (4, pt b2), (5, pt b3), (6, bl false), (7, .slice (some ⟨k1, 0, none⟩) 4 4), (8, i64 0)]) hA [] c0 ?_
  clear hA fr; intro fr hA
  refine end_ops ?_
  refine then_normal ?_
  refine wp_seq ?_
  refine sR (l := (rg 0 7)) ?_
  refine ck (l := [0, 1, 2, 3]) (r := [4, 5, 6]) (e' := [(3, pt b1), (4, pt b2), (5, pt b3), (6, bl false), (7, .slice (some ⟨k1, 0, none⟩) 4 4), (25, bl false), (26, .agg (List.toArray (regsL R pc)))]) hA [.agg (List.toArray (regsL R pc))] (cc (hO.ln 3 0 38 (regsL R pc)) c0) ?_
  clear hA fr; intro fr hA
  refine wpOps_cons' (mK (f := 17) (args := [.agg (List.toArray (regsL R pc))]) (d := (some 27)) (v := bl (decide (pc > -1099511627776) && decide (pc < 1099511627776))) hA hO Tryd.func17 (tame_any R pc _) ?_)
  clear hA hO fr; intro fr w6 hA hO
  replace hA := hA.sb (e' := [(3, pt b1), (4, pt b2), (5, pt b3), (6, bl false), (7, .slice (some ⟨k1, 0, none⟩) 4 4), (25, bl false), (27, bl (decide (pc > -1099511627776) && decide (pc < 1099511627776)))])
  refine ck (l := [5, 6]) (r := []) (e' := [(3, pt b1), (4, pt b2), (5, pt b3), (6, bl false), (7, .slice (some ⟨k1, 0, none⟩) 4 4), (29, bl (!(decide (pc > -1099511627776) && decide (pc < 1099511627776))))]) hA [] c0 ?_
  clear hA fr; intro fr hA
  refine end_ops ?_
  refine then_normal ?_
  replace hA := hA.bool (f := fun z => [(3, pt b1), (4, pt b2), (5, pt b3), (6, bl false), (7, .slice (some ⟨k1, 0, none⟩) 4 4), (29, .bool !z)]) (by simp; omega : (decide (pc > -1099511627776) && decide (pc < 1099511627776)) = true)
  refine cF hA ?_
  refine wp_skip ?_
  refine then_normal ?_
  refine sR (l := (rg 0 12)) ?_
  refine ck (l := [0, 1]) (r := (rg 2 10)) (e' := [(3, pt b1), (4, pt b2), (5, pt b3), (6, bl false), (7, .slice (some ⟨k1, 0, none⟩) 4 4), (31, .agg (List.toArray (regsL R pc))), (32, .slice (some ⟨k1, 0, none⟩) 4 4)]) hA [.agg (List.toArray (regsL R pc))] (cc (hO.ln 3 0 38 (regsL R pc)) c0) ?_
  clear hA fr; intro fr hA
  refine wpOps_cons' (mK (f := 18) (args := [.agg (List.toArray (regsL R pc)), .slice (some ⟨k1, 0, none⟩) 4 4, i64 5]) (d := (some 33)) (v := .tuple #[.agg (List.toArray (regsL R (pc + 4))), i64 0, .agg #[i64 1, i64 (R 1), i64 (R 2), i64 (R 3), i64 (R 4), i64 (R 5), i64 (R 6)]]) hA hO Tryd.func18 (rs (exec_any R pc 5 _ ([IntKind.u8.wrap 22, IntKind.u8.wrap a, cond (opV 22) (IntKind.u8.wrap (v / 256)) (IntKind.u8.wrap b), cond (opV 22) (IntKind.u8.wrap v) (IntKind.u8.wrap c)]) _ (hT.keep hO.only (fun h => h)) hR hp hp' ((hO.b 0).sl (xs := [IntKind.u8.wrap 22, IntKind.u8.wrap a, cond (opV 22) (IntKind.u8.wrap (v / 256)) (IntKind.u8.wrap b), cond (opV 22) (IntKind.u8.wrap v) (IntKind.u8.wrap c)]) (U8s.cons (wrap_inK .u8 _) (U8s.cons (wrap_inK .u8 _) (U8s.cons (inK_cond (wrap_inK .u8 _) (wrap_inK .u8 _)) (U8s.cons (inK_cond (wrap_inK .u8 _) (wrap_inK .u8 _)) U8s.nil)))) rfl (by kernel_rfl))) ((execX_enc R pc 5 hl).trans (by kernel_rfl))) ?_)
  clear hA hO fr; intro fr w7 hA hO
  replace hA := hA.sb (e' := [(3, pt b1), (4, pt b2), (5, pt b3), (6, bl false), (7, .slice (some ⟨k1, 0, none⟩) 4 4), (33, .tuple #[.agg (List.toArray (regsL R (pc + 4))), i64 0, .agg #[i64 1, i64 (R 1), i64 (R 2), i64 (R 3), i64 (R 4), i64 (R 5), i64 (R 6)]])])
  refine ck (l := [3, 4, 5, 6]) (r := (rg 7 5)) (e' := [(3, pt b1), (4, pt b2), (5, pt b3), (6, bl false), (7, .slice (some ⟨k1, 0, none⟩) 4 4), (34, .agg (List.toArray (regsL R (pc + 4)))), (35, i64 0), (36, .agg #[i64 1, i64 (R 1), i64 (R 2), i64 (R 3), i64 (R 4), i64 (R 5), i64 (R 6)])]) hA [] c0 ?_
  clear hA fr; intro fr hA
  refine wpOps_cons' (mN (l := [i32 0, i32 0, i32 0, i32 0, i32 0, i32 0, i32 0, i32 0, i32 0, i32 0, i32 0, i32 0, i32 0, i32 0, i32 0, i32 0, i64 0]) (t := 40) (v := pt) (d := 9) hA hO ?_)
  clear hA hO fr; intro fr w8 b4 hA hO
  refine wpOps_cons' (mN (l := [i64 0, i64 0, i64 0, i64 0, i64 0, i64 0, i64 0]) (t := 43) (v := pt) (d := 11) hA hO ?_)
  clear hA hO fr; intro fr w9 b5 hA hO
  refine wpOps_cons' (mS (off := 0) (vc := (regsL R (pc + 4))) 1 hA hO ?_)
  clear hO; intro w10 hO
  replace hA := hA.sb (e' := [(3, pt b1), (4, pt b2), (5, pt b3), (6, bl false), (7, .slice (some ⟨k1, 0, none⟩) 4 4), (9, pt b4), (11, pt b5), (35, i64 0), (36, .agg #[i64 1, i64 (R 1), i64 (R 2), i64 (R 3), i64 (R 4), i64 (R 5), i64 (R 6)])])
  refine ck (l := [10]) (r := [11]) (e' := [(3, pt b1), (4, pt b2), (5, pt b3), (6, bl false), (7, .slice (some ⟨k1, 0, none⟩) 4 4), (9, pt b4), (10, i64 0), (11, pt b5), (36, .agg #[i64 1, i64 (R 1), i64 (R 2), i64 (R 3), i64 (R 4), i64 (R 5), i64 (R 6)])]) hA [] c0 ?_
  clear hA fr; intro fr hA
  refine wpOps_cons' (mS (off := 0) (vc := [i64 1, i64 (R 1), i64 (R 2), i64 (R 3), i64 (R 4), i64 (R 5), i64 (R 6)]) 0 hA hO ?_)
  clear hO; intro w11 hO
  replace hA := hA.sb (e' := [(3, pt b1), (4, pt b2), (5, pt b3), (6, bl false), (7, .slice (some ⟨k1, 0, none⟩) 4 4), (9, pt b4), (10, i64 0), (11, pt b5)])
  refine end_ops ?_
  refine then_normal ?_
  refine wp_seq ?_
  refine sC (e' := [(3, pt b1), (4, pt b2), (5, pt b3), (6, bl false), (7, .slice (some ⟨k1, 0, none⟩) 4 4), (9, pt b4), (10, i64 0), (11, pt b5), (12, i64 0)]) 1 hA [] c0 ?_
  clear hA fr; intro fr hA
  refine wp_block ?_
  refine c_loop (fun mm fr W => ∃ (j : Nat), mm = 16 - j ∧ Holds 137 [] fr [(3, pt b1), (4, pt b2), (5, pt b3), (6, bl false), (7, .slice (some ⟨k1, 0, none⟩) 4 4), (9, pt b4), (10, i64 0), (11, pt b5), (12, i64 ((j : Nat) : Int))] ∧ Ow Tryd.prog none' w W [(b5, 43, [i64 1, i64 (R 1), i64 (R 2), i64 (R 3), i64 (R 4), i64 (R 5), i64 (R 6)]), (b4, 40, (regsL R (pc + 4))), (k1, 5, [u8 (IntKind.u8.wrap 22), u8 (IntKind.u8.wrap a), u8 (cond (opV 22) (IntKind.u8.wrap (v / 256)) (IntKind.u8.wrap b)), u8 (cond (opV 22) (IntKind.u8.wrap v) (IntKind.u8.wrap c))]), (b3, 29, [i64 22, i64 a, i64 b, i64 c, i64 v]), (b2, 38, (regsL Q qc)), (b1, 38, (regsL R pc))] ∧ j ≤ 16 ∧ True) ?_ ?_
  · exact ⟨_, 0, rfl, (hA.sub (e' := [(3, pt b1), (4, pt b2), (5, pt b3), (6, bl false), (7, .slice (some ⟨k1, 0, none⟩) 4 4), (9, pt b4), (10, i64 0), (11, pt b5), (12, i64 0)]) [3, 4, 5, 6, 7, 9, 10, 11, 12] (by kernel_rfl)).cast (by kernel_rfl), hO.to, (by omega), trivial⟩
  · rintro _ fr w12 ⟨j, rfl, hA, hO, hj, -⟩
    refine wp_seq ?_
    refine sC (e' := [(3, pt b1), (4, pt b2), (5, pt b3), (6, bl false), (7, .slice (some ⟨k1, 0, none⟩) 4 4), (9, pt b4), (10, i64 0), (11, pt b5), (12, i64 ((j : Nat) : Int)), (37, i64 ((j : Nat) : Int)), (38, bl (decide (((j : Nat) : Int) < 16)))]) 2 hA [] c0 ?_
    clear hA fr; intro fr hA
    rcases Bool.eq_false_or_eq_true (decide (((j : Nat) : Int) < 16)) with h1 | h1
    ·
      replace hA := hA.bool (f := fun z => [(3, pt b1), (4, pt b2), (5, pt b3), (6, bl false), (7, .slice (some ⟨k1, 0, none⟩) 4 4), (9, pt b4), (10, i64 0), (11, pt b5), (12, i64 ((j : Nat) : Int)), (37, i64 ((j : Nat) : Int)), (38, .bool z)]) h1
      have h1p := of_decide_eq_true h1
      refine cT hA ?_
      refine wp_skip ?_
      refine then_normal ?_
      refine wp_seq ?_
      refine wp_block ?_
      refine wp_seq ?_
      have hS := hO
      refine rP [(0, true), (1, true), (2, true), (3, true), (4, true), (5, true), (6, true), (7, true), (8, true), (9, true), (10, true), (11, true), (12, true), (13, true), (14, true)] hS ?_
      intro w13 ho; replace hO := hO.st ho; clear ho
      refine ckS (l := (rg 0 5)) (r := [(5, true), (6, true), (7, true), (8, true), (9, true), (10, true), (11, true), (12, true), (13, true), (14, true)]) (e' := [(3, pt b1), (4, pt b2), (5, pt b3), (6, bl false), (7, .slice (some ⟨k1, 0, none⟩) 4 4), (9, pt b4), (10, i64 0), (11, pt b5), (12, i64 ((j : Nat) : Int)), (37, i64 ((j : Nat) : Int)), (38, bl true), (41, i64 ((j : Nat) : Int)), (42, pf b3 1), (43, i64 a), (44, bl (((j : Nat) : Int) != a)), (45, bl (((j : Nat) : Int) != a))]) hA [i64 a] (cc (hS.s1 3 1 3 (i64 a)) c0) ?_
      clear hA fr; intro fr hA
      rcases Bool.eq_false_or_eq_true (((j : Nat) : Int) != a) with h2 | h2
      ·
        replace hA := hA.bool (f := fun z => [(3, pt b1), (4, pt b2), (5, pt b3), (6, bl false), (7, .slice (some ⟨k1, 0, none⟩) 4 4), (9, pt b4), (10, i64 0), (11, pt b5), (12, i64 ((j : Nat) : Int)), (37, i64 ((j : Nat) : Int)), (38, bl true), (41, i64 ((j : Nat) : Int)), (42, pf b3 1), (43, i64 a), (44, .bool z), (45, .bool z)]) h2
        have h2p := ne_of_bne h2
        refine ckS (l := (rg 5 10)) (r := []) (e' := [(3, pt b1), (4, pt b2), (5, pt b3), (6, bl false), (7, .slice (some ⟨k1, 0, none⟩) 4 4), (9, pt b4), (10, i64 0), (11, pt b5), (12, i64 ((j : Nat) : Int)), (37, i64 ((j : Nat) : Int)), (38, bl true), (41, i64 ((j : Nat) : Int)), (42, pf b3 1), (43, i64 a), (44, bl true), (45, bl true), (46, i64 ((j : Nat) : Int)), (47, pt b4), (48, .pointer (some ((⟨b4, 0, none⟩ : Addr).add j))), (49, i32 (R j)), (50, i64 ((j : Nat) : Int)), (51, pt b1), (52, .pointer (some ((⟨b1, 0, none⟩ : Addr).add j))), (53, i32 (R j)), (54, bl ((R j) != (R j))), (55, bl ((R j) != (R j)))]) hA [i32 (R j), i32 (R j)] (cc (⟨by omega, by omega⟩ : (0 : Int) ≤ ((j : Nat) : Int) ∧ ((j : Nat) : Int) < ((16 : Nat) : Int)) (cc (hS.sx ((⟨b4, 0, none⟩ : Addr).add j) 21 (i32 (R j)) fun _ hO => (ld_regs (hO.b 1) (by omega) (by kernel_rfl))) (cc (⟨by omega, by omega⟩ : (0 : Int) ≤ ((j : Nat) : Int) ∧ ((j : Nat) : Int) < ((16 : Nat) : Int)) (cc (hS.sx ((⟨b1, 0, none⟩ : Addr).add j) 21 (i32 (R j)) fun _ hO => (ld_regs (hO.b 5) (by omega) (by kernel_rfl))) c0)))) ?_
        clear hA fr; intro fr hA
        refine end_plan ?_
        refine then_normal ?_
        replace hA := hA.bool (f := fun z => [(3, pt b1), (4, pt b2), (5, pt b3), (6, bl false), (7, .slice (some ⟨k1, 0, none⟩) 4 4), (9, pt b4), (10, i64 0), (11, pt b5), (12, i64 ((j : Nat) : Int)), (37, i64 ((j : Nat) : Int)), (38, bl true), (41, i64 ((j : Nat) : Int)), (42, pf b3 1), (43, i64 a), (44, bl true), (45, bl true), (46, i64 ((j : Nat) : Int)), (47, pt b4), (48, .pointer (some ((⟨b4, 0, none⟩ : Addr).add j))), (49, i32 (R j)), (50, i64 ((j : Nat) : Int)), (51, pt b1), (52, .pointer (some ((⟨b1, 0, none⟩ : Addr).add j))), (53, i32 (R j)), (54, .bool z), (55, .bool z)]) (by simp : ((R j) != (R j)) = false)
        refine cF hA ?_
        refine wp_skip ?_
        refine inBlock_normal ?_
        refine then_normal ?_
        refine rC (e' := [(3, pt b1), (4, pt b2), (5, pt b3), (6, bl false), (7, .slice (some ⟨k1, 0, none⟩) 4 4), (9, pt b4), (10, i64 0), (11, pt b5), (12, i64 (((j : Nat) : Int) + 1)), (37, i64 ((j : Nat) : Int)), (38, bl true), (39, i64 ((j : Nat) : Int)), (40, i64 (((j : Nat) : Int) + 1)), (41, i64 ((j : Nat) : Int)), (42, pf b3 1), (43, i64 a), (44, bl true), (45, bl true), (46, i64 ((j : Nat) : Int)), (47, pt b4), (48, .pointer (some ((⟨b4, 0, none⟩ : Addr).add j))), (49, i32 (R j)), (50, i64 ((j : Nat) : Int)), (51, pt b1), (52, .pointer (some ((⟨b1, 0, none⟩ : Addr).add j))), (53, i32 (R j)), (54, bl false), (55, bl false)]) 3 hA [bl true] (cc ((inK_i64 (by omega) (by omega)) : inK .i64 (((j : Nat) : Int) + 1)) c0) ?_
        clear hA fr; intro fr hA
        refine then_normal ?_
        exact ⟨_, by omega, j + 1, rfl, (hA.sub (e' := [(3, pt b1), (4, pt b2), (5, pt b3), (6, bl false), (7, .slice (some ⟨k1, 0, none⟩) 4 4), (9, pt b4), (10, i64 0), (11, pt b5), (12, i64 (((j : Nat) : Int) + 1))]) [3, 4, 5, 6, 7, 9, 10, 11, 12] (by kernel_rfl)).cast (by kernel_rfl), hO.to, (by omega), trivial⟩
      ·
        replace hA := hA.bool (f := fun z => [(3, pt b1), (4, pt b2), (5, pt b3), (6, bl false), (7, .slice (some ⟨k1, 0, none⟩) 4 4), (9, pt b4), (10, i64 0), (11, pt b5), (12, i64 ((j : Nat) : Int)), (37, i64 ((j : Nat) : Int)), (38, bl true), (41, i64 ((j : Nat) : Int)), (42, pf b3 1), (43, i64 a), (44, .bool z), (45, .bool z)]) h2
        have h2p := eq_of_bne_false h2
        refine ckS (l := (rg 5 10)) (r := []) (e' := [(3, pt b1), (4, pt b2), (5, pt b3), (6, bl false), (7, .slice (some ⟨k1, 0, none⟩) 4 4), (9, pt b4), (10, i64 0), (11, pt b5), (12, i64 ((j : Nat) : Int)), (37, i64 ((j : Nat) : Int)), (38, bl true), (41, i64 ((j : Nat) : Int)), (42, pf b3 1), (43, i64 a), (44, bl false), (45, bl false), (46, .tuple #[]), (47, .tuple #[]), (48, .tuple #[]), (49, .tuple #[]), (50, .tuple #[]), (51, .tuple #[]), (52, .tuple #[]), (53, .tuple #[]), (54, .tuple #[]), (55, bl false)]) hA [] c0 ?_
        clear hA fr; intro fr hA
        refine end_plan ?_
        refine then_normal ?_
        refine cF hA ?_
        refine wp_skip ?_
        refine inBlock_normal ?_
        refine then_normal ?_
        refine rC (e' := [(3, pt b1), (4, pt b2), (5, pt b3), (6, bl false), (7, .slice (some ⟨k1, 0, none⟩) 4 4), (9, pt b4), (10, i64 0), (11, pt b5), (12, i64 (((j : Nat) : Int) + 1)), (37, i64 ((j : Nat) : Int)), (38, bl true), (39, i64 ((j : Nat) : Int)), (40, i64 (((j : Nat) : Int) + 1)), (41, i64 ((j : Nat) : Int)), (42, pf b3 1), (43, i64 a), (44, bl false), (45, bl false), (46, .tuple #[]), (47, .tuple #[]), (48, .tuple #[]), (49, .tuple #[]), (50, .tuple #[]), (51, .tuple #[]), (52, .tuple #[]), (53, .tuple #[]), (54, .tuple #[]), (55, bl false)]) 3 hA [bl true] (cc ((inK_i64 (by omega) (by omega)) : inK .i64 (((j : Nat) : Int) + 1)) c0) ?_
        clear hA fr; intro fr hA
        refine then_normal ?_
        exact ⟨_, by omega, j + 1, rfl, (hA.sub (e' := [(3, pt b1), (4, pt b2), (5, pt b3), (6, bl false), (7, .slice (some ⟨k1, 0, none⟩) 4 4), (9, pt b4), (10, i64 0), (11, pt b5), (12, i64 (((j : Nat) : Int) + 1))]) [3, 4, 5, 6, 7, 9, 10, 11, 12] (by kernel_rfl)).cast (by kernel_rfl), hO.to, (by omega), trivial⟩
    ·
      replace hA := hA.bool (f := fun z => [(3, pt b1), (4, pt b2), (5, pt b3), (6, bl false), (7, .slice (some ⟨k1, 0, none⟩) 4 4), (9, pt b4), (10, i64 0), (11, pt b5), (12, i64 ((j : Nat) : Int)), (37, i64 ((j : Nat) : Int)), (38, .bool z)]) h1
      have h1p := of_decide_eq_false h1
      refine cF hA ?_
      refine wp_exit ?_
      refine then_exit ?_
      refine then_exit ?_
      refine inBlock_exit ?_
      refine then_normal ?_
      refine wp_seq ?_
      refine sC (e' := [(3, pt b1), (4, pt b2), (5, pt b3), (6, bl false), (7, .slice (some ⟨k1, 0, none⟩) 4 4), (9, pt b4), (10, i64 0), (11, pt b5), (58, bl true)]) 3 hA [i64 22] (cc (hO.l1 3 0 3 (i64 22)) c0) ?_
      clear hA fr; intro fr hA
      refine cT hA ?_
      refine sC (e' := [(3, pt b1), (4, pt b2), (5, pt b3), (6, bl true), (7, .slice (some ⟨k1, 0, none⟩) 4 4), (9, pt b4), (10, i64 0), (11, pt b5)]) 6 hA [.agg (List.toArray (regsA R)), .agg (List.toArray (regsA R)), bl true] (cc (hO.ln 1 0 36 (regsA R)) (cc (hO.ln 5 0 36 (regsA R)) (cc ((eqG_of (b := ((R 0) == (R 0)) && (((R 1) == (R 1)) && (((R 2) == (R 2)) && (((R 3) == (R 3)) && (((R 4) == (R 4)) && (((R 5) == (R 5)) && (((R 6) == (R 6)) && (((R 7) == (R 7)) && (((R 8) == (R 8)) && (((R 9) == (R 9)) && (((R 10) == (R 10)) && (((R 11) == (R 11)) && (((R 12) == (R 12)) && (((R 13) == (R 13)) && (((R 14) == (R 14)) && (((R 15) == (R 15)) && true)))))))))))))))) (by kernel_rfl) (by kernel_rfl)).cast (by simp) : EqG Tryd.prog 36 (.agg (List.toArray (regsA R))) (.agg (List.toArray (regsA R))) true) c0))) ?_
      clear hA fr; intro fr hA
      refine wp_ret ?_
      refine then_ret ?_
      refine cR (cs := [none]) (us := [bl true]) hA [] trivial ?_
      have hF := hO.only; clear hA hO
      exact ⟨by first | rfl | simp [pack], hF⟩

theorem oth_c (R' Q' : Nat → Int) (R Q : Nat → Int) (pc qc pc' st k p0 p1 p2 p3 p4 p5 o a b c v : Int) (w : World) (hT : Tab w) (hR : RegsOk R) (hQ : RegsOk Q) (hl : legalB o a b c v = true) (hp : -1099511627776 < pc) (hp' : pc < 1099511627776) (hk : 4 ≤ o ∧ o ≤ 13) (hx : execV R pc 5 o a b c v = outV R' pc' st (trapL k p0 p1 p2 p3 p4 p5)) (hx2 : execV (upd (upd (upd Q a.toNat (R a.toNat)) b.toNat (R b.toNat)) c.toNat (R c.toNat)) pc 5 o a b c v = outV Q' pc' st (trapL k p0 p1 p2 p3 p4 p5)) (hsame : ∀ j : Nat, j < 16 → (j : Int) ≠ a → R' j = R j) (hq : Q' a.toNat = R' a.toNat) :
    Calls Tryd.prog 4 #[.agg (List.toArray (regsL R pc)), .agg (List.toArray (regsL Q qc)), .agg #[i64 o, i64 a, i64 b, i64 c, i64 v]] w fun e w' => e = .returned (.bool true) ∧ Only none' w w' := by
  refine c_enter (args := [.agg (List.toArray (regsL R pc)), .agg (List.toArray (regsL Q qc)), .agg #[i64 o, i64 a, i64 b, i64 c, i64 v]]) (m := 134) (n := 137) Tryd.func4 rfl (by kernel_rfl) (by kernel_rfl) fun fr hA => ?_
  have hO := Ow.nil Tryd.prog none' w
  obtain ⟨ho_, ha_, hb_, hc_, hv_, hc2_⟩ := legal_spec hl
  refine sR (l := [0, 1, 2, 3]) ?_
  refine wpOps_cons' (mN (l := (regsL R pc)) (t := 38) (v := pt) (d := 3) hA hO ?_)
  clear hA hO fr; intro fr w1 b1 hA hO
  replace hA := hA.sb (e' := [(1, .agg (List.toArray (regsL Q qc))), (2, .agg #[i64 o, i64 a, i64 b, i64 c, i64 v]), (3, pt b1)])
  refine wpOps_cons' (mN (l := (regsL Q qc)) (t := 38) (v := pt) (d := 4) hA hO ?_)
  clear hA hO fr; intro fr w2 b2 hA hO
  replace hA := hA.sb (e' := [(2, .agg #[i64 o, i64 a, i64 b, i64 c, i64 v]), (3, pt b1), (4, pt b2)])
  refine wpOps_cons' (mN (l := [i64 o, i64 a, i64 b, i64 c, i64 v]) (t := 29) (v := pt) (d := 5) hA hO ?_)
  clear hA hO fr; intro fr w3 b3 hA hO
  replace hA := hA.sb (e' := [(3, pt b1), (4, pt b2), (5, pt b3)])
  refine ck (l := [3]) (r := []) (e' := [(3, pt b1), (4, pt b2), (5, pt b3), (6, bl false)]) hA [] c0 ?_
  clear hA fr; intro fr hA
  refine end_ops ?_
  refine then_normal ?_
  refine wp_seq ?_
  refine sR (l := [0, 1]) ?_
  refine wpOps_cons' (mK (f := 12) (args := []) (d := (some 16)) (v := bl true) hA hO Tryd.func12 (awake_any _ (hT.keep hO.only (fun h => h))) ?_)
  clear hA hO fr; intro fr w4 hA hO
  refine ck (l := [1]) (r := []) (e' := [(3, pt b1), (4, pt b2), (5, pt b3), (6, bl false), (17, bl false)]) hA [] c0 ?_
  clear hA fr; intro fr hA
  refine end_ops ?_
  refine then_normal ?_
  refine cF hA ?_
  refine wp_skip ?_
  refine then_normal ?_
  refine sR (l := (rg 0 7)) ?_
  refine ck (l := [0]) (r := (rg 1 6)) (e' := [(3, pt b1), (4, pt b2), (5, pt b3), (6, bl false), (19, .agg #[i64 o, i64 a, i64 b, i64 c, i64 v])]) hA [.agg #[i64 o, i64 a, i64 b, i64 c, i64 v]] (cc (hO.ln 0 0 29 [i64 o, i64 a, i64 b, i64 c, i64 v]) c0) ?_
  clear hA fr; intro fr hA
  refine wpOps_cons' (mC (f := 15) (args := [.agg #[i64 o, i64 a, i64 b, i64 c, i64 v]]) (d := (some 20)) hA Tryd.func15 ((encode_ok o a b c v _ (hT.keep hO.only (fun h => h)) hl).mono ?_))
  rintro en w5 ⟨k1, rfl, ho, hbk, hge⟩
  refine ⟨_, rfl, ?_⟩
  clear hA fr; intro fr hA
  replace hO := hO.add ho hbk hge; clear ho hbk hge
  replace hA := hA.sb (e' := [(3, pt b1), (4, pt b2), (5, pt b3), (6, bl false), (20, .tuple #[.slice (some ⟨k1, 0, none⟩) 4 4, i64 0])])
  refine ck (l := (rg 2 5)) (r := []) (e' := [(3, pt b1), (4, pt b2), (5, pt b3), (6, bl false), (7, .slice (some ⟨k1, 0, none⟩) 4 4), (8, i64 0)]) hA [] c0 ?_
  clear hA fr; intro fr hA
  refine end_ops ?_
  refine then_normal ?_
  refine wp_seq ?_
  refine sR (l := (rg 0 7)) ?_
  refine ck (l := [0, 1, 2, 3]) (r := [4, 5, 6]) (e' := [(3, pt b1), (4, pt b2), (5, pt b3), (6, bl false), (7, .slice (some ⟨k1, 0, none⟩) 4 4), (25, bl false), (26, .agg (List.toArray (regsL R pc)))]) hA [.agg (List.toArray (regsL R pc))] (cc (hO.ln 3 0 38 (regsL R pc)) c0) ?_
  clear hA fr; intro fr hA
  refine wpOps_cons' (mK (f := 17) (args := [.agg (List.toArray (regsL R pc))]) (d := (some 27)) (v := bl (decide (pc > -1099511627776) && decide (pc < 1099511627776))) hA hO Tryd.func17 (tame_any R pc _) ?_)
  clear hA hO fr; intro fr w6 hA hO
  replace hA := hA.sb (e' := [(3, pt b1), (4, pt b2), (5, pt b3), (6, bl false), (7, .slice (some ⟨k1, 0, none⟩) 4 4), (25, bl false), (27, bl (decide (pc > -1099511627776) && decide (pc < 1099511627776)))])
  refine ck (l := [5, 6]) (r := []) (e' := [(3, pt b1), (4, pt b2), (5, pt b3), (6, bl false), (7, .slice (some ⟨k1, 0, none⟩) 4 4), (29, bl (!(decide (pc > -1099511627776) && decide (pc < 1099511627776))))]) hA [] c0 ?_
  clear hA fr; intro fr hA
  refine end_ops ?_
  refine then_normal ?_
  replace hA := hA.bool (f := fun z => [(3, pt b1), (4, pt b2), (5, pt b3), (6, bl false), (7, .slice (some ⟨k1, 0, none⟩) 4 4), (29, .bool !z)]) (by simp; omega : (decide (pc > -1099511627776) && decide (pc < 1099511627776)) = true)
  refine cF hA ?_
  refine wp_skip ?_
  refine then_normal ?_
  refine sR (l := (rg 0 12)) ?_
  refine ck (l := [0, 1]) (r := (rg 2 10)) (e' := [(3, pt b1), (4, pt b2), (5, pt b3), (6, bl false), (7, .slice (some ⟨k1, 0, none⟩) 4 4), (31, .agg (List.toArray (regsL R pc))), (32, .slice (some ⟨k1, 0, none⟩) 4 4)]) hA [.agg (List.toArray (regsL R pc))] (cc (hO.ln 3 0 38 (regsL R pc)) c0) ?_
  clear hA fr; intro fr hA
  refine wpOps_cons' (mK (f := 18) (args := [.agg (List.toArray (regsL R pc)), .slice (some ⟨k1, 0, none⟩) 4 4, i64 5]) (d := (some 33)) (v := .tuple #[.agg (List.toArray (regsL R' pc')), i64 st, .agg #[i64 k, i64 p0, i64 p1, i64 p2, i64 p3, i64 p4, i64 p5]]) hA hO Tryd.func18 (rs (exec_any R pc 5 _ ([IntKind.u8.wrap o, IntKind.u8.wrap a, cond (opV o) (IntKind.u8.wrap (v / 256)) (IntKind.u8.wrap b), cond (opV o) (IntKind.u8.wrap v) (IntKind.u8.wrap c)]) _ (hT.keep hO.only (fun h => h)) hR hp hp' ((hO.b 0).sl (xs := [IntKind.u8.wrap o, IntKind.u8.wrap a, cond (opV o) (IntKind.u8.wrap (v / 256)) (IntKind.u8.wrap b), cond (opV o) (IntKind.u8.wrap v) (IntKind.u8.wrap c)]) (U8s.cons (wrap_inK .u8 _) (U8s.cons (wrap_inK .u8 _) (U8s.cons (inK_cond (wrap_inK .u8 _) (wrap_inK .u8 _)) (U8s.cons (inK_cond (wrap_inK .u8 _) (wrap_inK .u8 _)) U8s.nil)))) rfl (by kernel_rfl))) ((execX_enc R pc 5 hl).trans hx)) ?_)
  clear hA hO fr; intro fr w7 hA hO
  replace hA := hA.sb (e' := [(3, pt b1), (4, pt b2), (5, pt b3), (6, bl false), (7, .slice (some ⟨k1, 0, none⟩) 4 4), (33, .tuple #[.agg (List.toArray (regsL R' pc')), i64 st, .agg #[i64 k, i64 p0, i64 p1, i64 p2, i64 p3, i64 p4, i64 p5]])])
  refine ck (l := [3, 4, 5, 6]) (r := (rg 7 5)) (e' := [(3, pt b1), (4, pt b2), (5, pt b3), (6, bl false), (7, .slice (some ⟨k1, 0, none⟩) 4 4), (34, .agg (List.toArray (regsL R' pc'))), (35, i64 st), (36, .agg #[i64 k, i64 p0, i64 p1, i64 p2, i64 p3, i64 p4, i64 p5])]) hA [] c0 ?_
  clear hA fr; intro fr hA
  refine wpOps_cons' (mN (l := [i32 0, i32 0, i32 0, i32 0, i32 0, i32 0, i32 0, i32 0, i32 0, i32 0, i32 0, i32 0, i32 0, i32 0, i32 0, i32 0, i64 0]) (t := 40) (v := pt) (d := 9) hA hO ?_)
  clear hA hO fr; intro fr w8 b4 hA hO
  refine wpOps_cons' (mN (l := [i64 0, i64 0, i64 0, i64 0, i64 0, i64 0, i64 0]) (t := 43) (v := pt) (d := 11) hA hO ?_)
  clear hA hO fr; intro fr w9 b5 hA hO
  refine wpOps_cons' (mS (off := 0) (vc := (regsL R' pc')) 1 hA hO ?_)
  clear hO; intro w10 hO
  replace hA := hA.sb (e' := [(3, pt b1), (4, pt b2), (5, pt b3), (6, bl false), (7, .slice (some ⟨k1, 0, none⟩) 4 4), (9, pt b4), (11, pt b5), (35, i64 st), (36, .agg #[i64 k, i64 p0, i64 p1, i64 p2, i64 p3, i64 p4, i64 p5])])
  refine ck (l := [10]) (r := [11]) (e' := [(3, pt b1), (4, pt b2), (5, pt b3), (6, bl false), (7, .slice (some ⟨k1, 0, none⟩) 4 4), (9, pt b4), (10, i64 st), (11, pt b5), (36, .agg #[i64 k, i64 p0, i64 p1, i64 p2, i64 p3, i64 p4, i64 p5])]) hA [] c0 ?_
  clear hA fr; intro fr hA
  refine wpOps_cons' (mS (off := 0) (vc := [i64 k, i64 p0, i64 p1, i64 p2, i64 p3, i64 p4, i64 p5]) 0 hA hO ?_)
  clear hO; intro w11 hO
  replace hA := hA.sb (e' := [(3, pt b1), (4, pt b2), (5, pt b3), (6, bl false), (7, .slice (some ⟨k1, 0, none⟩) 4 4), (9, pt b4), (10, i64 st), (11, pt b5)])
  refine end_ops ?_
  refine then_normal ?_
  refine wp_seq ?_
  refine sC (e' := [(3, pt b1), (4, pt b2), (5, pt b3), (6, bl false), (7, .slice (some ⟨k1, 0, none⟩) 4 4), (9, pt b4), (10, i64 st), (11, pt b5), (12, i64 0)]) 1 hA [] c0 ?_
  clear hA fr; intro fr hA
  refine wp_block ?_
  refine c_loop (fun mm fr W => ∃ (j : Nat), mm = 16 - j ∧ Holds 137 [] fr [(3, pt b1), (4, pt b2), (5, pt b3), (6, bl false), (7, .slice (some ⟨k1, 0, none⟩) 4 4), (9, pt b4), (10, i64 st), (11, pt b5), (12, i64 ((j : Nat) : Int))] ∧ Ow Tryd.prog none' w W [(b5, 43, [i64 k, i64 p0, i64 p1, i64 p2, i64 p3, i64 p4, i64 p5]), (b4, 40, (regsL R' pc')), (k1, 5, [u8 (IntKind.u8.wrap o), u8 (IntKind.u8.wrap a), u8 (cond (opV o) (IntKind.u8.wrap (v / 256)) (IntKind.u8.wrap b)), u8 (cond (opV o) (IntKind.u8.wrap v) (IntKind.u8.wrap c))]), (b3, 29, [i64 o, i64 a, i64 b, i64 c, i64 v]), (b2, 38, (regsL Q qc)), (b1, 38, (regsL R pc))] ∧ j ≤ 16 ∧ True) ?_ ?_
  · exact ⟨_, 0, rfl, (hA.sub (e' := [(3, pt b1), (4, pt b2), (5, pt b3), (6, bl false), (7, .slice (some ⟨k1, 0, none⟩) 4 4), (9, pt b4), (10, i64 st), (11, pt b5), (12, i64 0)]) [3, 4, 5, 6, 7, 9, 10, 11, 12] (by kernel_rfl)).cast (by kernel_rfl), hO.to, (by omega), trivial⟩
  · rintro _ fr w12 ⟨j, rfl, hA, hO, hj, -⟩
    refine wp_seq ?_
    refine sC (e' := [(3, pt b1), (4, pt b2), (5, pt b3), (6, bl false), (7, .slice (some ⟨k1, 0, none⟩) 4 4), (9, pt b4), (10, i64 st), (11, pt b5), (12, i64 ((j : Nat) : Int)), (37, i64 ((j : Nat) : Int)), (38, bl (decide (((j : Nat) : Int) < 16)))]) 2 hA [] c0 ?_
    clear hA fr; intro fr hA
    rcases Bool.eq_false_or_eq_true (decide (((j : Nat) : Int) < 16)) with h1 | h1
    ·
      replace hA := hA.bool (f := fun z => [(3, pt b1), (4, pt b2), (5, pt b3), (6, bl false), (7, .slice (some ⟨k1, 0, none⟩) 4 4), (9, pt b4), (10, i64 st), (11, pt b5), (12, i64 ((j : Nat) : Int)), (37, i64 ((j : Nat) : Int)), (38, .bool z)]) h1
      have h1p := of_decide_eq_true h1
      refine cT hA ?_
      refine wp_skip ?_
      refine then_normal ?_
      refine wp_seq ?_
      refine wp_block ?_
      refine wp_seq ?_
      have hS := hO
      refine rP [(0, true), (1, true), (2, true), (3, true), (4, true), (5, true), (6, true), (7, true), (8, true), (9, true), (10, true), (11, true), (12, true), (13, true), (14, true)] hS ?_
      intro w13 ho; replace hO := hO.st ho; clear ho
      refine ckS (l := (rg 0 5)) (r := [(5, true), (6, true), (7, true), (8, true), (9, true), (10, true), (11, true), (12, true), (13, true), (14, true)]) (e' := [(3, pt b1), (4, pt b2), (5, pt b3), (6, bl false), (7, .slice (some ⟨k1, 0, none⟩) 4 4), (9, pt b4), (10, i64 st), (11, pt b5), (12, i64 ((j : Nat) : Int)), (37, i64 ((j : Nat) : Int)), (38, bl true), (41, i64 ((j : Nat) : Int)), (42, pf b3 1), (43, i64 a), (44, bl (((j : Nat) : Int) != a)), (45, bl (((j : Nat) : Int) != a))]) hA [i64 a] (cc (hS.s1 3 1 3 (i64 a)) c0) ?_
      clear hA fr; intro fr hA
      rcases Bool.eq_false_or_eq_true (((j : Nat) : Int) != a) with h2 | h2
      ·
        replace hA := hA.bool (f := fun z => [(3, pt b1), (4, pt b2), (5, pt b3), (6, bl false), (7, .slice (some ⟨k1, 0, none⟩) 4 4), (9, pt b4), (10, i64 st), (11, pt b5), (12, i64 ((j : Nat) : Int)), (37, i64 ((j : Nat) : Int)), (38, bl true), (41, i64 ((j : Nat) : Int)), (42, pf b3 1), (43, i64 a), (44, .bool z), (45, .bool z)]) h2
        have h2p := ne_of_bne h2
        refine ckS (l := (rg 5 10)) (r := []) (e' := [(3, pt b1), (4, pt b2), (5, pt b3), (6, bl false), (7, .slice (some ⟨k1, 0, none⟩) 4 4), (9, pt b4), (10, i64 st), (11, pt b5), (12, i64 ((j : Nat) : Int)), (37, i64 ((j : Nat) : Int)), (38, bl true), (41, i64 ((j : Nat) : Int)), (42, pf b3 1), (43, i64 a), (44, bl true), (45, bl true), (46, i64 ((j : Nat) : Int)), (47, pt b4), (48, .pointer (some ((⟨b4, 0, none⟩ : Addr).add j))), (49, i32 (R' j)), (50, i64 ((j : Nat) : Int)), (51, pt b1), (52, .pointer (some ((⟨b1, 0, none⟩ : Addr).add j))), (53, i32 (R j)), (54, bl ((R' j) != (R j))), (55, bl ((R' j) != (R j)))]) hA [i32 (R' j), i32 (R j)] (cc (⟨by omega, by omega⟩ : (0 : Int) ≤ ((j : Nat) : Int) ∧ ((j : Nat) : Int) < ((16 : Nat) : Int)) (cc (hS.sx ((⟨b4, 0, none⟩ : Addr).add j) 21 (i32 (R' j)) fun _ hO => (ld_regs (hO.b 1) (by omega) (by kernel_rfl))) (cc (⟨by omega, by omega⟩ : (0 : Int) ≤ ((j : Nat) : Int) ∧ ((j : Nat) : Int) < ((16 : Nat) : Int)) (cc (hS.sx ((⟨b1, 0, none⟩ : Addr).add j) 21 (i32 (R j)) fun _ hO => (ld_regs (hO.b 5) (by omega) (by kernel_rfl))) c0)))) ?_
        clear hA fr; intro fr hA
        refine end_plan ?_
        refine then_normal ?_
        replace hA := hA.bool (f := fun z => [(3, pt b1), (4, pt b2), (5, pt b3), (6, bl false), (7, .slice (some ⟨k1, 0, none⟩) 4 4), (9, pt b4), (10, i64 st), (11, pt b5), (12, i64 ((j : Nat) : Int)), (37, i64 ((j : Nat) : Int)), (38, bl true), (41, i64 ((j : Nat) : Int)), (42, pf b3 1), (43, i64 a), (44, bl true), (45, bl true), (46, i64 ((j : Nat) : Int)), (47, pt b4), (48, .pointer (some ((⟨b4, 0, none⟩ : Addr).add j))), (49, i32 (R' j)), (50, i64 ((j : Nat) : Int)), (51, pt b1), (52, .pointer (some ((⟨b1, 0, none⟩ : Addr).add j))), (53, i32 (R j)), (54, .bool z), (55, .bool z)]) ((by rw [hsame j (by omega) (by omega)]; simp) : ((R' j) != (R j)) = false)
        refine cF hA ?_
        refine wp_skip ?_
        refine inBlock_normal ?_
        refine then_normal ?_
        refine rC (e' := [(3, pt b1), (4, pt b2), (5, pt b3), (6, bl false), (7, .slice (some ⟨k1, 0, none⟩) 4 4), (9, pt b4), (10, i64 st), (11, pt b5), (12, i64 (((j : Nat) : Int) + 1)), (37, i64 ((j : Nat) : Int)), (38, bl true), (39, i64 ((j : Nat) : Int)), (40, i64 (((j : Nat) : Int) + 1)), (41, i64 ((j : Nat) : Int)), (42, pf b3 1), (43, i64 a), (44, bl true), (45, bl true), (46, i64 ((j : Nat) : Int)), (47, pt b4), (48, .pointer (some ((⟨b4, 0, none⟩ : Addr).add j))), (49, i32 (R' j)), (50, i64 ((j : Nat) : Int)), (51, pt b1), (52, .pointer (some ((⟨b1, 0, none⟩ : Addr).add j))), (53, i32 (R j)), (54, bl false), (55, bl false)]) 3 hA [bl true] (cc ((inK_i64 (by omega) (by omega)) : inK .i64 (((j : Nat) : Int) + 1)) c0) ?_
        clear hA fr; intro fr hA
        refine then_normal ?_
        exact ⟨_, by omega, j + 1, rfl, (hA.sub (e' := [(3, pt b1), (4, pt b2), (5, pt b3), (6, bl false), (7, .slice (some ⟨k1, 0, none⟩) 4 4), (9, pt b4), (10, i64 st), (11, pt b5), (12, i64 (((j : Nat) : Int) + 1))]) [3, 4, 5, 6, 7, 9, 10, 11, 12] (by kernel_rfl)).cast (by kernel_rfl), hO.to, (by omega), trivial⟩
      ·
        replace hA := hA.bool (f := fun z => [(3, pt b1), (4, pt b2), (5, pt b3), (6, bl false), (7, .slice (some ⟨k1, 0, none⟩) 4 4), (9, pt b4), (10, i64 st), (11, pt b5), (12, i64 ((j : Nat) : Int)), (37, i64 ((j : Nat) : Int)), (38, bl true), (41, i64 ((j : Nat) : Int)), (42, pf b3 1), (43, i64 a), (44, .bool z), (45, .bool z)]) h2
        have h2p := eq_of_bne_false h2
        refine ckS (l := (rg 5 10)) (r := []) (e' := [(3, pt b1), (4, pt b2), (5, pt b3), (6, bl false), (7, .slice (some ⟨k1, 0, none⟩) 4 4), (9, pt b4), (10, i64 st), (11, pt b5), (12, i64 ((j : Nat) : Int)), (37, i64 ((j : Nat) : Int)), (38, bl true), (41, i64 ((j : Nat) : Int)), (42, pf b3 1), (43, i64 a), (44, bl false), (45, bl false), (46, .tuple #[]), (47, .tuple #[]), (48, .tuple #[]), (49, .tuple #[]), (50, .tuple #[]), (51, .tuple #[]), (52, .tuple #[]), (53, .tuple #[]), (54, .tuple #[]), (55, bl false)]) hA [] c0 ?_
        clear hA fr; intro fr hA
        refine end_plan ?_
        refine then_normal ?_
        refine cF hA ?_
        refine wp_skip ?_
        refine inBlock_normal ?_
        refine then_normal ?_
        refine rC (e' := [(3, pt b1), (4, pt b2), (5, pt b3), (6, bl false), (7, .slice (some ⟨k1, 0, none⟩) 4 4), (9, pt b4), (10, i64 st), (11, pt b5), (12, i64 (((j : Nat) : Int) + 1)), (37, i64 ((j : Nat) : Int)), (38, bl true), (39, i64 ((j : Nat) : Int)), (40, i64 (((j : Nat) : Int) + 1)), (41, i64 ((j : Nat) : Int)), (42, pf b3 1), (43, i64 a), (44, bl false), (45, bl false), (46, .tuple #[]), (47, .tuple #[]), (48, .tuple #[]), (49, .tuple #[]), (50, .tuple #[]), (51, .tuple #[]), (52, .tuple #[]), (53, .tuple #[]), (54, .tuple #[]), (55, bl false)]) 3 hA [bl true] (cc ((inK_i64 (by omega) (by omega)) : inK .i64 (((j : Nat) : Int) + 1)) c0) ?_
        clear hA fr; intro fr hA
        refine then_normal ?_
        exact ⟨_, by omega, j + 1, rfl, (hA.sub (e' := [(3, pt b1), (4, pt b2), (5, pt b3), (6, bl false), (7, .slice (some ⟨k1, 0, none⟩) 4 4), (9, pt b4), (10, i64 st), (11, pt b5), (12, i64 (((j : Nat) : Int) + 1))]) [3, 4, 5, 6, 7, 9, 10, 11, 12] (by kernel_rfl)).cast (by kernel_rfl), hO.to, (by omega), trivial⟩
    ·
      replace hA := hA.bool (f := fun z => [(3, pt b1), (4, pt b2), (5, pt b3), (6, bl false), (7, .slice (some ⟨k1, 0, none⟩) 4 4), (9, pt b4), (10, i64 st), (11, pt b5), (12, i64 ((j : Nat) : Int)), (37, i64 ((j : Nat) : Int)), (38, .bool z)]) h1
      have h1p := of_decide_eq_false h1
      refine cF hA ?_
      refine wp_exit ?_
      refine then_exit ?_
      refine then_exit ?_
      refine inBlock_exit ?_
      refine then_normal ?_
      refine wp_seq ?_
      refine sC (e' := [(3, pt b1), (4, pt b2), (5, pt b3), (6, bl false), (7, .slice (some ⟨k1, 0, none⟩) 4 4), (9, pt b4), (10, i64 st), (11, pt b5), (58, bl (o == 22))]) 3 hA [i64 o] (cc (hO.l1 3 0 3 (i64 o)) c0) ?_
      clear hA fr; intro fr hA
      replace hA := hA.bool (f := fun z => [(3, pt b1), (4, pt b2), (5, pt b3), (6, bl false), (7, .slice (some ⟨k1, 0, none⟩) 4 4), (9, pt b4), (10, i64 st), (11, pt b5), (58, .bool z)]) (beq_false_of_ne (by omega) : (o == 22) = false)
      refine cF hA ?_
      refine wp_skip ?_
      refine then_normal ?_
      refine sR (l := [0, 1, 2, 3]) ?_
      refine ck (l := [0, 1, 2]) (r := [3]) (e' := [(3, pt b1), (4, pt b2), (5, pt b3), (6, bl false), (7, .slice (some ⟨k1, 0, none⟩) 4 4), (9, pt b4), (10, i64 st), (11, pt b5), (65, i64 pc), (66, pf b2 16)]) hA [i64 pc] (cc (hO.l1 5 16 3 (i64 pc)) c0) ?_
      clear hA fr; intro fr hA
      refine wpOps_cons' (mSR (off := 16) (ad := ⟨b2, 16, none⟩) (vc := [i64 pc]) (l' := (regsL Q pc)) 4 hA hO rfl (by kernel_rfl) (by kernel_rfl) ?_)
      clear hO; intro w14 hO
      replace hA := hA.sb (e' := [(3, pt b1), (4, pt b2), (5, pt b3), (6, bl false), (7, .slice (some ⟨k1, 0, none⟩) 4 4), (9, pt b4), (10, i64 st), (11, pt b5)])
      refine end_ops ?_
      refine then_normal ?_
      refine wp_seq ?_
      have hS : Ow Tryd.prog none' w _ [(b5, 43, [i64 k, i64 p0, i64 p1, i64 p2, i64 p3, i64 p4, i64 p5]), (b4, 40, (regsL R' pc')), (k1, 5, [u8 (IntKind.u8.wrap o), u8 (IntKind.u8.wrap a), u8 (cond (opV o) (IntKind.u8.wrap (v / 256)) (IntKind.u8.wrap b)), u8 (cond (opV o) (IntKind.u8.wrap v) (IntKind.u8.wrap c))]), (b3, 29, [i64 o, i64 a, i64 b, i64 c, i64 v]), (b1, 38, (regsL R pc))] := hO.sub [0, 1, 2, 3, 5]
      refine rP [(0, true), (1, true), (2, true), (3, true), (4, true), (5, true), (6, true), (7, true), (8, true), (9, true), (10, true), (11, true), (12, true), (13, true), (14, true), (15, true), (17, true), (16, false), (18, true), (19, false)] hS ?_
      intro w15 ho; replace hO := hO.st ho; clear ho
      refine ckS (l := [0, 1, 2, 3, 4, 5, 6, 7, 8, 9, 10, 11, 12, 13, 14, 15, 17]) (r := [(16, false), (18, true), (19, false)]) (e' := [(3, pt b1), (4, pt b2), (5, pt b3), (6, bl false), (7, .slice (some ⟨k1, 0, none⟩) 4 4), (9, pt b4), (10, i64 st), (11, pt b5), (70, i64 b), (75, i32 (R ((a).toNat))), (80, i32 (R ((b).toNat))), (82, .pointer (some ((⟨b2, 0, none⟩ : Addr).add ((a).toNat)))), (83, pt b2)]) hA [i64 a, i64 b, i64 a, i32 (R ((a).toNat)), i64 b, i32 (R ((b).toNat))] (cc (hS.s1 3 1 3 (i64 a)) (cc (hS.s1 3 2 3 (i64 b)) (cc (hS.s1 3 1 3 (i64 a)) (cc (⟨by omega, by omega⟩ : (0 : Int) ≤ a ∧ a < ((16 : Nat) : Int)) (cc (hS.sx ((⟨b1, 0, none⟩ : Addr).add ((a).toNat)) 21 (i32 (R ((a).toNat))) fun _ hO => (ld_regs (hO.b 4) (by omega) (by kernel_rfl))) (cc (hS.s1 3 2 3 (i64 b)) (cc (⟨by omega, by omega⟩ : (0 : Int) ≤ b ∧ b < ((16 : Nat) : Int)) (cc (hS.sx ((⟨b1, 0, none⟩ : Addr).add ((b).toNat)) 21 (i32 (R ((b).toNat))) fun _ hO => (ld_regs (hO.b 4) (by omega) (by kernel_rfl))) (cc (⟨by omega, by omega⟩ : (0 : Int) ≤ a ∧ a < ((16 : Nat) : Int)) c0))))))))) ?_
      clear hA fr; intro fr hA
      refine plan_mem (mSR (off := (a).toNat) (ad := (⟨b2, 0, none⟩ : Addr).add ((a).toNat)) (vc := [i32 (R ((a).toNat))]) (l' := (regsL (upd Q ((a).toNat) (R ((a).toNat))) pc)) 4 hA hO (add_zero_off _ _) (regs_ble Q pc (by omega)) (setL_regs (by omega) _) ?_)
      clear hO; intro w16 hO
      refine ⟨(hO.sub [0, 1, 2, 3, 5]), ?_⟩
      replace hA := hA.sb (e' := [(3, pt b1), (4, pt b2), (5, pt b3), (6, bl false), (7, .slice (some ⟨k1, 0, none⟩) 4 4), (9, pt b4), (10, i64 st), (11, pt b5), (70, i64 b), (80, i32 (R ((b).toNat))), (83, pt b2)])
      refine ckS (l := [18]) (r := [(19, false)]) (e' := [(3, pt b1), (4, pt b2), (5, pt b3), (6, bl false), (7, .slice (some ⟨k1, 0, none⟩) 4 4), (9, pt b4), (10, i64 st), (11, pt b5), (80, i32 (R ((b).toNat))), (84, .pointer (some ((⟨b2, 0, none⟩ : Addr).add ((b).toNat))))]) hA [] (cc (⟨by omega, by omega⟩ : (0 : Int) ≤ b ∧ b < ((16 : Nat) : Int)) c0) ?_
      clear hA fr; intro fr hA
      refine plan_mem (mSR (off := (b).toNat) (ad := (⟨b2, 0, none⟩ : Addr).add ((b).toNat)) (vc := [i32 (R ((b).toNat))]) (l' := (regsL (upd (upd Q ((a).toNat) (R ((a).toNat))) ((b).toNat) (R ((b).toNat))) pc)) 4 hA hO (add_zero_off _ _) (regs_ble (upd Q ((a).toNat) (R ((a).toNat))) pc (by omega)) (setL_regs (by omega) _) ?_)
      clear hO; intro w17 hO
      refine ⟨(hO.sub [0, 1, 2, 3, 5]), ?_⟩
      replace hA := hA.sb (e' := [(3, pt b1), (4, pt b2), (5, pt b3), (6, bl false), (7, .slice (some ⟨k1, 0, none⟩) 4 4), (9, pt b4), (10, i64 st), (11, pt b5)])
      refine end_plan ?_
      refine then_normal ?_
      refine wp_seq ?_
      refine sR (l := (rg 0 8)) ?_
      refine ck (l := [0, 1, 2, 3]) (r := [4, 5, 6, 7]) (e' := [(3, pt b1), (4, pt b2), (5, pt b3), (6, bl false), (7, .slice (some ⟨k1, 0, none⟩) 4 4), (9, pt b4), (10, i64 st), (11, pt b5), (87, bl (decide (o ≥ 4))), (88, bl (decide (o ≥ 4)))]) hA [i64 o] (cc (hO.l1 3 0 3 (i64 o)) c0) ?_
      clear hA fr; intro fr hA
      replace hA := hA.bool (f := fun z => [(3, pt b1), (4, pt b2), (5, pt b3), (6, bl false), (7, .slice (some ⟨k1, 0, none⟩) 4 4), (9, pt b4), (10, i64 st), (11, pt b5), (87, .bool z), (88, .bool z)]) (decide_eq_true (by omega) : (decide (o ≥ 4)) = true)
      refine ck (l := [4, 5, 6, 7]) (r := []) (e' := [(3, pt b1), (4, pt b2), (5, pt b3), (6, bl false), (7, .slice (some ⟨k1, 0, none⟩) 4 4), (9, pt b4), (10, i64 st), (11, pt b5), (92, bl (decide (o ≤ 13)))]) hA [i64 o] (cc (hO.l1 3 0 3 (i64 o)) c0) ?_
      clear hA fr; intro fr hA
      refine end_ops ?_
      refine then_normal ?_
      replace hA := hA.bool (f := fun z => [(3, pt b1), (4, pt b2), (5, pt b3), (6, bl false), (7, .slice (some ⟨k1, 0, none⟩) 4 4), (9, pt b4), (10, i64 st), (11, pt b5), (92, .bool z)]) (decide_eq_true (by omega) : (decide (o ≤ 13)) = true)
      refine cT hA ?_
      have hS : Ow Tryd.prog none' w _ [(b5, 43, [i64 k, i64 p0, i64 p1, i64 p2, i64 p3, i64 p4, i64 p5]), (b4, 40, (regsL R' pc')), (k1, 5, [u8 (IntKind.u8.wrap o), u8 (IntKind.u8.wrap a), u8 (cond (opV o) (IntKind.u8.wrap (v / 256)) (IntKind.u8.wrap b)), u8 (cond (opV o) (IntKind.u8.wrap v) (IntKind.u8.wrap c))]), (b3, 29, [i64 o, i64 a, i64 b, i64 c, i64 v]), (b1, 38, (regsL R pc))] := hO.sub [0, 1, 2, 3, 5]
      refine rP [(0, true), (1, true), (2, true), (3, true), (4, true), (5, true), (6, true), (7, true), (8, true), (9, false)] hS ?_
      intro w18 ho; replace hO := hO.st ho; clear ho
      refine ckS (l := (rg 0 9)) (r := [(9, false)]) (e' := [(4, pt b2), (5, pt b3), (6, bl false), (7, .slice (some ⟨k1, 0, none⟩) 4 4), (9, pt b4), (10, i64 st), (11, pt b5), (99, i32 (R ((c).toNat))), (101, .pointer (some ((⟨b2, 0, none⟩ : Addr).add ((c).toNat))))]) hA [i64 c, i64 c, i32 (R ((c).toNat))] (cc (hS.s1 3 3 3 (i64 c)) (cc (hS.s1 3 3 3 (i64 c)) (cc (⟨by omega, by omega⟩ : (0 : Int) ≤ c ∧ c < ((16 : Nat) : Int)) (cc (hS.sx ((⟨b1, 0, none⟩ : Addr).add ((c).toNat)) 21 (i32 (R ((c).toNat))) fun _ hO => (ld_regs (hO.b 4) (by omega) (by kernel_rfl))) (cc (⟨by omega, by omega⟩ : (0 : Int) ≤ c ∧ c < ((16 : Nat) : Int)) c0))))) ?_
      clear hA fr; intro fr hA
      refine plan_mem (mSR (off := (c).toNat) (ad := (⟨b2, 0, none⟩ : Addr).add ((c).toNat)) (vc := [i32 (R ((c).toNat))]) (l' := (regsL (upd (upd (upd Q ((a).toNat) (R ((a).toNat))) ((b).toNat) (R ((b).toNat))) ((c).toNat) (R ((c).toNat))) pc)) 4 hA hO (add_zero_off _ _) (regs_ble (upd (upd Q ((a).toNat) (R ((a).toNat))) ((b).toNat) (R ((b).toNat))) pc (by omega)) (setL_regs (by omega) _) ?_)
      clear hO; intro w19 hO
      refine ⟨(hO.sub [0, 1, 2, 3, 5]), ?_⟩
      replace hA := hA.sb (e' := [(4, pt b2), (5, pt b3), (6, bl false), (7, .slice (some ⟨k1, 0, none⟩) 4 4), (9, pt b4), (10, i64 st), (11, pt b5)])
      refine end_plan ?_
      refine then_normal ?_
      refine sR (l := (rg 0 12)) ?_
      refine ck (l := [0, 1]) (r := (rg 2 10)) (e' := [(5, pt b3), (6, bl false), (9, pt b4), (10, i64 st), (11, pt b5), (103, .agg (List.toArray (regsL (upd (upd (upd Q ((a).toNat) (R ((a).toNat))) ((b).toNat) (R ((b).toNat))) ((c).toNat) (R ((c).toNat))) pc))), (104, .slice (some ⟨k1, 0, none⟩) 4 4)]) hA [.agg (List.toArray (regsL (upd (upd (upd Q ((a).toNat) (R ((a).toNat))) ((b).toNat) (R ((b).toNat))) ((c).toNat) (R ((c).toNat))) pc))] (cc (hO.ln 4 0 38 (regsL (upd (upd (upd Q ((a).toNat) (R ((a).toNat))) ((b).toNat) (R ((b).toNat))) ((c).toNat) (R ((c).toNat))) pc)) c0) ?_
      clear hA fr; intro fr hA
      refine wpOps_cons' (mK (f := 18) (args := [.agg (List.toArray (regsL (upd (upd (upd Q ((a).toNat) (R ((a).toNat))) ((b).toNat) (R ((b).toNat))) ((c).toNat) (R ((c).toNat))) pc)), .slice (some ⟨k1, 0, none⟩) 4 4, i64 5]) (d := (some 105)) (v := .tuple #[.agg (List.toArray (regsL Q' pc')), i64 st, .agg #[i64 k, i64 p0, i64 p1, i64 p2, i64 p3, i64 p4, i64 p5]]) hA hO Tryd.func18 (rs (exec_any (upd (upd (upd Q ((a).toNat) (R ((a).toNat))) ((b).toNat) (R ((b).toNat))) ((c).toNat) (R ((c).toNat))) pc 5 _ ([IntKind.u8.wrap o, IntKind.u8.wrap a, cond (opV o) (IntKind.u8.wrap (v / 256)) (IntKind.u8.wrap b), cond (opV o) (IntKind.u8.wrap v) (IntKind.u8.wrap c)]) _ (hT.keep hO.only (fun h => h)) (updOk (updOk (updOk hQ (hR _)) (hR _)) (hR _)) hp hp' ((hO.b 2).sl (xs := [IntKind.u8.wrap o, IntKind.u8.wrap a, cond (opV o) (IntKind.u8.wrap (v / 256)) (IntKind.u8.wrap b), cond (opV o) (IntKind.u8.wrap v) (IntKind.u8.wrap c)]) (U8s.cons (wrap_inK .u8 _) (U8s.cons (wrap_inK .u8 _) (U8s.cons (inK_cond (wrap_inK .u8 _) (wrap_inK .u8 _)) (U8s.cons (inK_cond (wrap_inK .u8 _) (wrap_inK .u8 _)) U8s.nil)))) rfl (by kernel_rfl))) ((execX_enc _ pc 5 hl).trans hx2)) ?_)
      clear hA hO fr; intro fr w20 hA hO
      replace hA := hA.sb (e' := [(5, pt b3), (6, bl false), (9, pt b4), (10, i64 st), (11, pt b5), (105, .tuple #[.agg (List.toArray (regsL Q' pc')), i64 st, .agg #[i64 k, i64 p0, i64 p1, i64 p2, i64 p3, i64 p4, i64 p5]])])
      refine ck (l := [3, 4, 5, 6]) (r := (rg 7 5)) (e' := [(5, pt b3), (6, bl false), (9, pt b4), (10, i64 st), (11, pt b5), (106, .agg (List.toArray (regsL Q' pc'))), (107, i64 st), (108, .agg #[i64 k, i64 p0, i64 p1, i64 p2, i64 p3, i64 p4, i64 p5])]) hA [] c0 ?_
      clear hA fr; intro fr hA
      refine wpOps_cons' (mN (l := [i32 0, i32 0, i32 0, i32 0, i32 0, i32 0, i32 0, i32 0, i32 0, i32 0, i32 0, i32 0, i32 0, i32 0, i32 0, i32 0, i64 0]) (t := 40) (v := pt) (d := 13) hA hO ?_)
      clear hA hO fr; intro fr w21 b6 hA hO
      refine wpOps_cons' (mN (l := [i64 0, i64 0, i64 0, i64 0, i64 0, i64 0, i64 0]) (t := 43) (v := pt) (d := 15) hA hO ?_)
      clear hA hO fr; intro fr w22 b7 hA hO
      refine wpOps_cons' (mS (off := 0) (vc := (regsL Q' pc')) 1 hA hO ?_)
      clear hO; intro w23 hO
      replace hA := hA.sb (e' := [(5, pt b3), (6, bl false), (9, pt b4), (10, i64 st), (11, pt b5), (13, pt b6), (15, pt b7), (107, i64 st), (108, .agg #[i64 k, i64 p0, i64 p1, i64 p2, i64 p3, i64 p4, i64 p5])])
      refine ck (l := [10]) (r := [11]) (e' := [(5, pt b3), (6, bl false), (9, pt b4), (10, i64 st), (11, pt b5), (13, pt b6), (14, i64 st), (15, pt b7), (108, .agg #[i64 k, i64 p0, i64 p1, i64 p2, i64 p3, i64 p4, i64 p5])]) hA [] c0 ?_
      clear hA fr; intro fr hA
      refine wpOps_cons' (mS (off := 0) (vc := [i64 k, i64 p0, i64 p1, i64 p2, i64 p3, i64 p4, i64 p5]) 0 hA hO ?_)
      clear hO; intro w24 hO
      replace hA := hA.sb (e' := [(5, pt b3), (6, bl false), (9, pt b4), (10, i64 st), (11, pt b5), (13, pt b6), (14, i64 st), (15, pt b7)])
      refine end_ops ?_
      refine then_normal ?_
      refine wp_seq ?_
      have hS := hO
      refine rP [(0, true), (1, true), (2, true), (3, true), (4, true), (5, true), (6, true), (7, true), (8, true), (9, true), (10, true), (11, true), (12, true), (13, true), (14, true), (15, true), (16, true), (17, true), (18, true), (19, true), (20, true), (21, true), (22, true), (23, true), (24, true), (25, true), (26, true), (27, true), (28, true)] hS ?_
      intro w25 ho; replace hO := hO.st ho; clear ho
      refine ckS (l := (rg 0 6)) (r := [(6, true), (7, true), (8, true), (9, true), (10, true), (11, true), (12, true), (13, true), (14, true), (15, true), (16, true), (17, true), (18, true), (19, true), (20, true), (21, true), (22, true), (23, true), (24, true), (25, true), (26, true), (27, true), (28, true)]) (e' := [(5, pt b3), (6, bl false), (9, pt b4), (10, i64 st), (11, pt b5), (13, pt b6), (14, i64 st), (15, pt b7), (113, bl (pc' == pc')), (114, bl (pc' == pc'))]) hA [i64 pc', i64 pc'] (cc (hS.s1 1 16 3 (i64 pc')) (cc (hS.s1 3 16 3 (i64 pc')) c0)) ?_
      clear hA fr; intro fr hA
      replace hA := hA.bool (f := fun z => [(5, pt b3), (6, bl false), (9, pt b4), (10, i64 st), (11, pt b5), (13, pt b6), (14, i64 st), (15, pt b7), (113, .bool z), (114, .bool z)]) (beq_self_eq_true _ : (pc' == pc') = true)
      refine ckS (l := (rg 6 13)) (r := [(19, true), (20, true), (21, true), (22, true), (23, true), (24, true), (25, true), (26, true), (27, true), (28, true)]) (e' := [(6, bl false), (10, i64 st), (11, pt b5), (14, i64 st), (15, pt b7), (125, bl ((Q' ((a).toNat)) == (R' ((a).toNat)))), (126, bl ((Q' ((a).toNat)) == (R' ((a).toNat)))), (127, bl ((Q' ((a).toNat)) == (R' ((a).toNat))))]) hA [i64 a, i32 (Q' ((a).toNat)), i64 a, i32 (R' ((a).toNat))] (cc (hS.s1 5 1 3 (i64 a)) (cc (⟨by omega, by omega⟩ : (0 : Int) ≤ a ∧ a < ((16 : Nat) : Int)) (cc (hS.sx ((⟨b6, 0, none⟩ : Addr).add ((a).toNat)) 21 (i32 (Q' ((a).toNat))) fun _ hO => (ld_regs (hO.b 1) (by omega) (by kernel_rfl))) (cc (hS.s1 5 1 3 (i64 a)) (cc (⟨by omega, by omega⟩ : (0 : Int) ≤ a ∧ a < ((16 : Nat) : Int)) (cc (hS.sx ((⟨b4, 0, none⟩ : Addr).add ((a).toNat)) 21 (i32 (R' ((a).toNat))) fun _ hO => (ld_regs (hO.b 3) (by omega) (by kernel_rfl))) c0)))))) ?_
      clear hA fr; intro fr hA
      replace hA := hA.bool (f := fun z => [(6, bl false), (10, i64 st), (11, pt b5), (14, i64 st), (15, pt b7), (125, .bool z), (126, .bool z), (127, .bool z)]) (beq_iff_eq.2 hq : ((Q' ((a).toNat)) == (R' ((a).toNat))) = true)
      refine ckS (l := (rg 19 5)) (r := [(24, true), (25, true), (26, true), (27, true), (28, true)]) (e' := [(6, bl false), (11, pt b5), (15, pt b7), (130, bl (st == st)), (131, bl (st == st)), (132, bl (st == st))]) hA [] c0 ?_
      clear hA fr; intro fr hA
      replace hA := hA.bool (f := fun z => [(6, bl false), (11, pt b5), (15, pt b7), (130, .bool z), (131, .bool z), (132, .bool z)]) (beq_self_eq_true _ : (st == st) = true)
      refine ckS (l := (rg 24 5)) (r := []) (e' := [(6, bl true)]) hA [.agg #[i64 k, i64 p0, i64 p1, i64 p2, i64 p3, i64 p4, i64 p5], .agg #[i64 k, i64 p0, i64 p1, i64 p2, i64 p3, i64 p4, i64 p5], bl true] (cc (hS.sn 0 0 43 [i64 k, i64 p0, i64 p1, i64 p2, i64 p3, i64 p4, i64 p5]) (cc (hS.sn 2 0 43 [i64 k, i64 p0, i64 p1, i64 p2, i64 p3, i64 p4, i64 p5]) (cc ((eqG_of (b := (k == k) && ((p0 == p0) && (((p1 == p1) && ((p2 == p2) && ((p3 == p3) && true))) && ((p4 == p4) && ((p5 == p5) && true))))) (by kernel_rfl) (by kernel_rfl)).cast (by simp) : EqG Tryd.prog 43 (.agg #[i64 k, i64 p0, i64 p1, i64 p2, i64 p3, i64 p4, i64 p5]) (.agg #[i64 k, i64 p0, i64 p1, i64 p2, i64 p3, i64 p4, i64 p5]) true) c0))) ?_
      clear hA fr; intro fr hA
      refine end_plan ?_
      refine then_normal ?_
      refine wp_ret ?_
      refine cR (cs := [none]) (us := [bl true]) hA [] trivial ?_
      have hF := hO.only; clear hA hO
      exact ⟨by first | rfl | simp [pack], hF⟩

theorem oth_n (R' Q' : Nat → Int) (R Q : Nat → Int) (pc qc pc' st k p0 p1 p2 p3 p4 p5 o a b c v : Int) (w : World) (hT : Tab w) (hR : RegsOk R) (hQ : RegsOk Q) (hl : legalB o a b c v = true) (hp : -1099511627776 < pc) (hp' : pc < 1099511627776) (hk : ¬ (4 ≤ o ∧ o ≤ 13)) (h22 : o ≠ 22) (hx : execV R pc 5 o a b c v = outV R' pc' st (trapL k p0 p1 p2 p3 p4 p5)) (hx2 : execV (upd (upd Q a.toNat (R a.toNat)) b.toNat (R b.toNat)) pc 5 o a b c v = outV Q' pc' st (trapL k p0 p1 p2 p3 p4 p5)) (hsame : ∀ j : Nat, j < 16 → (j : Int) ≠ a → R' j = R j) (hq : Q' a.toNat = R' a.toNat) :
    Calls Tryd.prog 4 #[.agg (List.toArray (regsL R pc)), .agg (List.toArray (regsL Q qc)), .agg #[i64 o, i64 a, i64 b, i64 c, i64 v]] w fun e w' => e = .returned (.bool true) ∧ Only none' w w' := by
  refine c_enter (args := [.agg (List.toArray (regsL R pc)), .agg (List.toArray (regsL Q qc)), .agg #[i64 o, i64 a, i64 b, i64 c, i64 v]]) (m := 134) (n := 137) Tryd.func4 rfl (by kernel_rfl) (by kernel_rfl) fun fr hA => ?_
  have hO := Ow.nil Tryd.prog none' w
  obtain ⟨ho_, ha_, hb_, hc_, hv_, hc2_⟩ := legal_spec hl
  refine sR (l := [0, 1, 2, 3]) ?_
  refine wpOps_cons' (mN (l := (regsL R pc)) (t := 38) (v := pt) (d := 3) hA hO ?_)
  clear hA hO fr; intro fr w1 b1 hA hO
  replace hA := hA.sb (e' := [(1, .agg (List.toArray (regsL Q qc))), (2, .agg #[i64 o, i64 a, i64 b, i64 c, i64 v]), (3, pt b1)])
  refine wpOps_cons' (mN (l := (regsL Q qc)) (t := 38) (v := pt) (d := 4) hA hO ?_)
  clear hA hO fr; intro fr w2 b2 hA hO
  replace hA := hA.sb (e' := [(2, .agg #[i64 o, i64 a, i64 b, i64 c, i64 v]), (3, pt b1), (4, pt b2)])
  refine wpOps_cons' (mN (l := [i64 o, i64 a, i64 b, i64 c, i64 v]) (t := 29) (v := pt) (d := 5) hA hO ?_)
  clear hA hO fr; intro fr w3 b3 hA hO
  replace hA := hA.sb (e' := [(3, pt b1), (4, pt b2), (5, pt b3)])
  refine ck (l := [3]) (r := []) (e' := [(3, pt b1), (4, pt b2), (5, pt b3), (6, bl false)]) hA [] c0 ?_
  clear hA fr; intro fr hA
  refine end_ops ?_
  refine then_normal ?_
  refine wp_seq ?_
  refine sR (l := [0, 1]) ?_
  refine wpOps_cons' (mK (f := 12) (args := []) (d := (some 16)) (v := bl true) hA hO Tryd.func12 (awake_any _ (hT.keep hO.only (fun h => h))) ?_)
  clear hA hO fr; intro fr w4 hA hO
  refine ck (l := [1]) (r := []) (e' := [(3, pt b1), (4, pt b2), (5, pt b3), (6, bl false), (17, bl false)]) hA [] c0 ?_
  clear hA fr; intro fr hA
  refine end_ops ?_
  refine then_normal ?_
  refine cF hA ?_
  refine wp_skip ?_
  refine then_normal ?_
  refine sR (l := (rg 0 7)) ?_
  refine ck (l := [0]) (r := (rg 1 6)) (e' := [(3, pt b1), (4, pt b2), (5, pt b3), (6, bl false), (19, .agg #[i64 o, i64 a, i64 b, i64 c, i64 v])]) hA [.agg #[i64 o, i64 a, i64 b, i64 c, i64 v]] (cc (hO.ln 0 0 29 [i64 o, i64 a, i64 b, i64 c, i64 v]) c0) ?_
  clear hA fr; intro fr hA
  refine wpOps_cons' (mC (f := 15) (args := [.agg #[i64 o, i64 a, i64 b, i64 c, i64 v]]) (d := (some 20)) hA Tryd.func15 ((encode_ok o a b c v _ (hT.keep hO.only (fun h => h)) hl).mono ?_))
  rintro en w5 ⟨k1, rfl, ho, hbk, hge⟩
  refine ⟨_, rfl, ?_⟩
  clear hA fr; intro fr hA
  replace hO := hO.add ho hbk hge; clear ho hbk hge
  replace hA := hA.sb (e' := [(3, pt b1), (4, pt b2), (5, pt b3), (6, bl false), (20, .tuple #[.slice (some ⟨k1, 0, none⟩) 4 4, i64 0])])
  refine ck (l := (rg 2 5)) (r := []) (e' := [(3, pt b1), (4, pt b2), (5, pt b3), (6, bl false), (7, .slice (some ⟨k1, 0, none⟩) 4 4), (8, i64 0)]) hA [] c0 ?_
  clear hA fr; intro fr hA
  refine end_ops ?_
  refine then_normal ?_
  refine wp_seq ?_
  refine sR (l := (rg 0 7)) ?_
  refine ck (l := [0, 1, 2, 3]) (r := [4, 5, 6]) (e' := [(3, pt b1), (4, pt b2), (5, pt b3), (6, bl false), (7, .slice (some ⟨k1, 0, none⟩) 4 4), (25, bl false), (26, .agg (List.toArray (regsL R pc)))]) hA [.agg (List.toArray (regsL R pc))] (cc (hO.ln 3 0 38 (regsL R pc)) c0) ?_
  clear hA fr; intro fr hA
  refine wpOps_cons' (mK (f := 17) (args := [.agg (List.toArray (regsL R pc))]) (d := (some 27)) (v := bl (decide (pc > -1099511627776) && decide (pc < 1099511627776))) hA hO Tryd.func17 (tame_any R pc _) ?_)
  clear hA hO fr; intro fr w6 hA hO
  replace hA := hA.sb (e' := [(3, pt b1), (4, pt b2), (5, pt b3), (6, bl false), (7, .slice (some ⟨k1, 0, none⟩) 4 4), (25, bl false), (27, bl (decide (pc > -1099511627776) && decide (pc < 1099511627776)))])
  refine ck (l := [5, 6]) (r := []) (e' := [(3, pt b1), (4, pt b2), (5, pt b3), (6, bl false), (7, .slice (some ⟨k1, 0, none⟩) 4 4), (29, bl (!(decide (pc > -1099511627776) && decide (pc < 1099511627776))))]) hA [] c0 ?_
  clear hA fr; intro fr hA
  refine end_ops ?_
  refine then_normal ?_
  replace hA := hA.bool (f := fun z => [(3, pt b1), (4, pt b2), (5, pt b3), (6, bl false), (7, .slice (some ⟨k1, 0, none⟩) 4 4), (29, .bool !z)]) (by simp; omega : (decide (pc > -1099511627776) && decide (pc < 1099511627776)) = true)
  refine cF hA ?_
  refine wp_skip ?_
  refine then_normal ?_
  refine sR (l := (rg 0 12)) ?_
  refine ck (l := [0, 1]) (r := (rg 2 10)) (e' := [(3, pt b1), (4, pt b2), (5, pt b3), (6, bl false), (7, .slice (some ⟨k1, 0, none⟩) 4 4), (31, .agg (List.toArray (regsL R pc))), (32, .slice (some ⟨k1, 0, none⟩) 4 4)]) hA [.agg (List.toArray (regsL R pc))] (cc (hO.ln 3 0 38 (regsL R pc)) c0) ?_
  clear hA fr; intro fr hA
  refine wpOps_cons' (mK (f := 18) (args := [.agg (List.toArray (regsL R pc)), .slice (some ⟨k1, 0, none⟩) 4 4, i64 5]) (d := (some 33)) (v := .tuple #[.agg (List.toArray (regsL R' pc')), i64 st, .agg #[i64 k, i64 p0, i64 p1, i64 p2, i64 p3, i64 p4, i64 p5]]) hA hO Tryd.func18 (rs (exec_any R pc 5 _ ([IntKind.u8.wrap o, IntKind.u8.wrap a, cond (opV o) (IntKind.u8.wrap (v / 256)) (IntKind.u8.wrap b), cond (opV o) (IntKind.u8.wrap v) (IntKind.u8.wrap c)]) _ (hT.keep hO.only (fun h => h)) hR hp hp' ((hO.b 0).sl (xs := [IntKind.u8.wrap o, IntKind.u8.wrap a, cond (opV o) (IntKind.u8.wrap (v / 256)) (IntKind.u8.wrap b), cond (opV o) (IntKind.u8.wrap v) (IntKind.u8.wrap c)]) (U8s.cons (wrap_inK .u8 _) (U8s.cons (wrap_inK .u8 _) (U8s.cons (inK_cond (wrap_inK .u8 _) (wrap_inK .u8 _)) (U8s.cons (inK_cond (wrap_inK .u8 _) (wrap_inK .u8 _)) U8s.nil)))) rfl (by kernel_rfl))) ((execX_enc R pc 5 hl).trans hx)) ?_)
  clear hA hO fr; intro fr w7 hA hO
  replace hA := hA.sb (e' := [(3, pt b1), (4, pt b2), (5, pt b3), (6, bl false), (7, .slice (some ⟨k1, 0, none⟩) 4 4), (33, .tuple #[.agg (List.toArray (regsL R' pc')), i64 st, .agg #[i64 k, i64 p0, i64 p1, i64 p2, i64 p3, i64 p4, i64 p5]])])
  refine ck (l := [3, 4, 5, 6]) (r := (rg 7 5)) (e' := [(3, pt b1), (4, pt b2), (5, pt b3), (6, bl false), (7, .slice (some ⟨k1, 0, none⟩) 4 4), (34, .agg (List.toArray (regsL R' pc'))), (35, i64 st), (36, .agg #[i64 k, i64 p0, i64 p1, i64 p2, i64 p3, i64 p4, i64 p5])]) hA [] c0 ?_
  clear hA fr; intro fr hA
  refine wpOps_cons' (mN (l := [i32 0, i32 0, i32 0, i32 0, i32 0, i32 0, i32 0, i32 0, i32 0, i32 0, i32 0, i32 0, i32 0, i32 0, i32 0, i32 0, i64 0]) (t := 40) (v := pt) (d := 9) hA hO ?_)
  clear hA hO fr; intro fr w8 b4 hA hO
  refine wpOps_cons' (mN (l := [i64 0, i64 0, i64 0, i64 0, i64 0, i64 0, i64 0]) (t := 43) (v := pt) (d := 11) hA hO ?_)
  clear hA hO fr; intro fr w9 b5 hA hO
  refine wpOps_cons' (mS (off := 0) (vc := (regsL R' pc')) 1 hA hO ?_)
  clear hO; intro w10 hO
  replace hA := hA.sb (e' := [(3, pt b1), (4, pt b2), (5, pt b3), (6, bl false), (7, .slice (some ⟨k1, 0, none⟩) 4 4), (9, pt b4), (11, pt b5), (35, i64 st), (36, .agg #[i64 k, i64 p0, i64 p1, i64 p2, i64 p3, i64 p4, i64 p5])])
  refine ck (l := [10]) (r := [11]) (e' := [(3, pt b1), (4, pt b2), (5, pt b3), (6, bl false), (7, .slice (some ⟨k1, 0, none⟩) 4 4), (9, pt b4), (10, i64 st), (11, pt b5), (36, .agg #[i64 k, i64 p0, i64 p1, i64 p2, i64 p3, i64 p4, i64 p5])]) hA [] c0 ?_
  clear hA fr; intro fr hA
  refine wpOps_cons' (mS (off := 0) (vc := [i64 k, i64 p0, i64 p1, i64 p2, i64 p3, i64 p4, i64 p5]) 0 hA hO ?_)
  clear hO; intro w11 hO
  replace hA := hA.sb (e' := [(3, pt b1), (4, pt b2), (5, pt b3), (6, bl false), (7, .slice (some ⟨k1, 0, none⟩) 4 4), (9, pt b4), (10, i64 st), (11, pt b5)])
  refine end_ops ?_
  refine then_normal ?_
  refine wp_seq ?_
  refine sC (e' := [(3, pt b1), (4, pt b2), (5, pt b3), (6, bl false), (7, .slice (some ⟨k1, 0, none⟩) 4 4), (9, pt b4), (10, i64 st), (11, pt b5), (12, i64 0)]) 1 hA [] c0 ?_
  clear hA fr; intro fr hA
  refine wp_block ?_
  refine c_loop (fun mm fr W => ∃ (j : Nat), mm = 16 - j ∧ Holds 137 [] fr [(3, pt b1), (4, pt b2), (5, pt b3), (6, bl false), (7, .slice (some ⟨k1, 0, none⟩) 4 4), (9, pt b4), (10, i64 st), (11, pt b5), (12, i64 ((j : Nat) : Int))] ∧ Ow Tryd.prog none' w W [(b5, 43, [i64 k, i64 p0, i64 p1, i64 p2, i64 p3, i64 p4, i64 p5]), (b4, 40, (regsL R' pc')), (k1, 5, [u8 (IntKind.u8.wrap o), u8 (IntKind.u8.wrap a), u8 (cond (opV o) (IntKind.u8.wrap (v / 256)) (IntKind.u8.wrap b)), u8 (cond (opV o) (IntKind.u8.wrap v) (IntKind.u8.wrap c))]), (b3, 29, [i64 o, i64 a, i64 b, i64 c, i64 v]), (b2, 38, (regsL Q qc)), (b1, 38, (regsL R pc))] ∧ j ≤ 16 ∧ True) ?_ ?_
  · exact ⟨_, 0, rfl, (hA.sub (e' := [(3, pt b1), (4, pt b2), (5, pt b3), (6, bl false), (7, .slice (some ⟨k1, 0, none⟩) 4 4), (9, pt b4), (10, i64 st), (11, pt b5), (12, i64 0)]) [3, 4, 5, 6, 7, 9, 10, 11, 12] (by kernel_rfl)).cast (by kernel_rfl), hO.to, (by omega), trivial⟩
  · rintro _ fr w12 ⟨j, rfl, hA, hO, hj, -⟩
    refine wp_seq ?_
    refine sC (e' := [(3, pt b1), (4, pt b2), (5, pt b3), (6, bl false), (7, .slice (some ⟨k1, 0, none⟩) 4 4), (9, pt b4), (10, i64 st), (11, pt b5), (12, i64 ((j : Nat) : Int)), (37, i64 ((j : Nat) : Int)), (38, bl (decide (((j : Nat) : Int) < 16)))]) 2 hA [] c0 ?_
    clear hA fr; intro fr hA
    rcases Bool.eq_false_or_eq_true (decide (((j : Nat) : Int) < 16)) with h1 | h1
    ·
      replace hA := hA.bool (f := fun z => [(3, pt b1), (4, pt b2), (5, pt b3), (6, bl false), (7, .slice (some ⟨k1, 0, none⟩) 4 4), (9, pt b4), (10, i64 st), (11, pt b5), (12, i64 ((j : Nat) : Int)), (37, i64 ((j : Nat) : Int)), (38, .bool z)]) h1
      have h1p := of_decide_eq_true h1
      refine cT hA ?_
      refine wp_skip ?_
      refine then_normal ?_
      refine wp_seq ?_
      refine wp_block ?_
      refine wp_seq ?_
      have hS := hO
      refine rP [(0, true), (1, true), (2, true), (3, true), (4, true), (5, true), (6, true), (7, true), (8, true), (9, true), (10, true), (11, true), (12, true), (13, true), (14, true)] hS ?_
      intro w13 ho; replace hO := hO.st ho; clear ho
      refine ckS (l := (rg 0 5)) (r := [(5, true), (6, true), (7, true), (8, true), (9, true), (10, true), (11, true), (12, true), (13, true), (14, true)]) (e' := [(3, pt b1), (4, pt b2), (5, pt b3), (6, bl false), (7, .slice (some ⟨k1, 0, none⟩) 4 4), (9, pt b4), (10, i64 st), (11, pt b5), (12, i64 ((j : Nat) : Int)), (37, i64 ((j : Nat) : Int)), (38, bl true), (41, i64 ((j : Nat) : Int)), (42, pf b3 1), (43, i64 a), (44, bl (((j : Nat) : Int) != a)), (45, bl (((j : Nat) : Int) != a))]) hA [i64 a] (cc (hS.s1 3 1 3 (i64 a)) c0) ?_
      clear hA fr; intro fr hA
      rcases Bool.eq_false_or_eq_true (((j : Nat) : Int) != a) with h2 | h2
      ·
        replace hA := hA.bool (f := fun z => [(3, pt b1), (4, pt b2), (5, pt b3), (6, bl false), (7, .slice (some ⟨k1, 0, none⟩) 4 4), (9, pt b4), (10, i64 st), (11, pt b5), (12, i64 ((j : Nat) : Int)), (37, i64 ((j : Nat) : Int)), (38, bl true), (41, i64 ((j : Nat) : Int)), (42, pf b3 1), (43, i64 a), (44, .bool z), (45, .bool z)]) h2
        have h2p := ne_of_bne h2
        refine ckS (l := (rg 5 10)) (r := []) (e' := [(3, pt b1), (4, pt b2), (5, pt b3), (6, bl false), (7, .slice (some ⟨k1, 0, none⟩) 4 4), (9, pt b4), (10, i64 st), (11, pt b5), (12, i64 ((j : Nat) : Int)), (37, i64 ((j : Nat) : Int)), (38, bl true), (41, i64 ((j : Nat) : Int)), (42, pf b3 1), (43, i64 a), (44, bl true), (45, bl true), (46, i64 ((j : Nat) : Int)), (47, pt b4), (48, .pointer (some ((⟨b4, 0, none⟩ : Addr).add j))), (49, i32 (R' j)), (50, i64 ((j : Nat) : Int)), (51, pt b1), (52, .pointer (some ((⟨b1, 0, none⟩ : Addr).add j))), (53, i32 (R j)), (54, bl ((R' j) != (R j))), (55, bl ((R' j) != (R j)))]) hA [i32 (R' j), i32 (R j)] (cc (⟨by omega, by omega⟩ : (0 : Int) ≤ ((j : Nat) : Int) ∧ ((j : Nat) : Int) < ((16 : Nat) : Int)) (cc (hS.sx ((⟨b4, 0, none⟩ : Addr).add j) 21 (i32 (R' j)) fun _ hO => (ld_regs (hO.b 1) (by omega) (by kernel_rfl))) (cc (⟨by omega, by omega⟩ : (0 : Int) ≤ ((j : Nat) : Int) ∧ ((j : Nat) : Int) < ((16 : Nat) : Int)) (cc (hS.sx ((⟨b1, 0, none⟩ : Addr).add j) 21 (i32 (R j)) fun _ hO => (ld_regs (hO.b 5) (by omega) (by kernel_rfl))) c0)))) ?_
        clear hA fr; intro fr hA
        refine end_plan ?_
        refine then_normal ?_
        replace hA := hA.bool (f := fun z => [(3, pt b1), (4, pt b2), (5, pt b3), (6, bl false), (7, .slice (some ⟨k1, 0, none⟩) 4 4), (9, pt b4), (10, i64 st), (11, pt b5), (12, i64 ((j : Nat) : Int)), (37, i64 ((j : Nat) : Int)), (38, bl true), (41, i64 ((j : Nat) : Int)), (42, pf b3 1), (43, i64 a), (44, bl true), (45, bl true), (46, i64 ((j : Nat) : Int)), (47, pt b4), (48, .pointer (some ((⟨b4, 0, none⟩ : Addr).add j))), (49, i32 (R' j)), (50, i64 ((j : Nat) : Int)), (51, pt b1), (52, .pointer (some ((⟨b1, 0, none⟩ : Addr).add j))), (53, i32 (R j)), (54, .bool z), (55, .bool z)]) ((by rw [hsame j (by omega) (by omega)]; simp) : ((R' j) != (R j)) = false)
        refine cF hA ?_
        refine wp_skip ?_
        refine inBlock_normal ?_
        refine then_normal ?_
        refine rC (e' := [(3, pt b1), (4, pt b2), (5, pt b3), (6, bl false), (7, .slice (some ⟨k1, 0, none⟩) 4 4), (9, pt b4), (10, i64 st), (11, pt b5), (12, i64 (((j : Nat) : Int) + 1)), (37, i64 ((j : Nat) : Int)), (38, bl true), (39, i64 ((j : Nat) : Int)), (40, i64 (((j : Nat) : Int) + 1)), (41, i64 ((j : Nat) : Int)), (42, pf b3 1), (43, i64 a), (44, bl true), (45, bl true), (46, i64 ((j : Nat) : Int)), (47, pt b4), (48, .pointer (some ((⟨b4, 0, none⟩ : Addr).add j))), (49, i32 (R' j)), (50, i64 ((j : Nat) : Int)), (51, pt b1), (52, .pointer (some ((⟨b1, 0, none⟩ : Addr).add j))), (53, i32 (R j)), (54, bl false), (55, bl false)]) 3 hA [bl true] (cc ((inK_i64 (by omega) (by omega)) : inK .i64 (((j : Nat) : Int) + 1)) c0) ?_
        clear hA fr; intro fr hA
        refine then_normal ?_
        exact ⟨_, by omega, j + 1, rfl, (hA.sub (e' := [(3, pt b1), (4, pt b2), (5, pt b3), (6, bl false), (7, .slice (some ⟨k1, 0, none⟩) 4 4), (9, pt b4), (10, i64 st), (11, pt b5), (12, i64 (((j : Nat) : Int) + 1))]) [3, 4, 5, 6, 7, 9, 10, 11, 12] (by kernel_rfl)).cast (by kernel_rfl), hO.to, (by omega), trivial⟩
      ·
        replace hA := hA.bool (f := fun z => [(3, pt b1), (4, pt b2), (5, pt b3), (6, bl false), (7, .slice (some ⟨k1, 0, none⟩) 4 4), (9, pt b4), (10, i64 st), (11, pt b5), (12, i64 ((j : Nat) : Int)), (37, i64 ((j : Nat) : Int)), (38, bl true), (41, i64 ((j : Nat) : Int)), (42, pf b3 1), (43, i64 a), (44, .bool z), (45, .bool z)]) h2
        have h2p := eq_of_bne_false h2
        refine ckS (l := (rg 5 10)) (r := []) (e' := [(3, pt b1), (4, pt b2), (5, pt b3), (6, bl false), (7, .slice (some ⟨k1, 0, none⟩) 4 4), (9, pt b4), (10, i64 st), (11, pt b5), (12, i64 ((j : Nat) : Int)), (37, i64 ((j : Nat) : Int)), (38, bl true), (41, i64 ((j : Nat) : Int)), (42, pf b3 1), (43, i64 a), (44, bl false), (45, bl false), (46, .tuple #[]), (47, .tuple #[]), (48, .tuple #[]), (49, .tuple #[]), (50, .tuple #[]), (51, .tuple #[]), (52, .tuple #[]), (53, .tuple #[]), (54, .tuple #[]), (55, bl false)]) hA [] c0 ?_
        clear hA fr; intro fr hA
        refine end_plan ?_
        refine then_normal ?_
        refine cF hA ?_
        refine wp_skip ?_
        refine inBlock_normal ?_
        refine then_normal ?_
        refine rC (e' := [(3, pt b1), (4, pt b2), (5, pt b3), (6, bl false), (7, .slice (some ⟨k1, 0, none⟩) 4 4), (9, pt b4), (10, i64 st), (11, pt b5), (12, i64 (((j : Nat) : Int) + 1)), (37, i64 ((j : Nat) : Int)), (38, bl true), (39, i64 ((j : Nat) : Int)), (40, i64 (((j : Nat) : Int) + 1)), (41, i64 ((j : Nat) : Int)), (42, pf b3 1), (43, i64 a), (44, bl false), (45, bl false), (46, .tuple #[]), (47, .tuple #[]), (48, .tuple #[]), (49, .tuple #[]), (50, .tuple #[]), (51, .tuple #[]), (52, .tuple #[]), (53, .tuple #[]), (54, .tuple #[]), (55, bl false)]) 3 hA [bl true] (cc ((inK_i64 (by omega) (by omega)) : inK .i64 (((j : Nat) : Int) + 1)) c0) ?_
        clear hA fr; intro fr hA
        refine then_normal ?_
        exact ⟨_, by omega, j + 1, rfl, (hA.sub (e' := [(3, pt b1), (4, pt b2), (5, pt b3), (6, bl false), (7, .slice (some ⟨k1, 0, none⟩) 4 4), (9, pt b4), (10, i64 st), (11, pt b5), (12, i64 (((j : Nat) : Int) + 1))]) [3, 4, 5, 6, 7, 9, 10, 11, 12] (by kernel_rfl)).cast (by kernel_rfl), hO.to, (by omega), trivial⟩
    ·
      replace hA := hA.bool (f := fun z => [(3, pt b1), (4, pt b2), (5, pt b3), (6, bl false), (7, .slice (some ⟨k1, 0, none⟩) 4 4), (9, pt b4), (10, i64 st), (11, pt b5), (12, i64 ((j : Nat) : Int)), (37, i64 ((j : Nat) : Int)), (38, .bool z)]) h1
      have h1p := of_decide_eq_false h1
      refine cF hA ?_
      refine wp_exit ?_
      refine then_exit ?_
      refine then_exit ?_
      refine inBlock_exit ?_
      refine then_normal ?_
      refine wp_seq ?_
      refine sC (e' := [(3, pt b1), (4, pt b2), (5, pt b3), (6, bl false), (7, .slice (some ⟨k1, 0, none⟩) 4 4), (9, pt b4), (10, i64 st), (11, pt b5), (58, bl (o == 22))]) 3 hA [i64 o] (cc (hO.l1 3 0 3 (i64 o)) c0) ?_
      clear hA fr; intro fr hA
      replace hA := hA.bool (f := fun z => [(3, pt b1), (4, pt b2), (5, pt b3), (6, bl false), (7, .slice (some ⟨k1, 0, none⟩) 4 4), (9, pt b4), (10, i64 st), (11, pt b5), (58, .bool z)]) (beq_false_of_ne (by omega) : (o == 22) = false)
      refine cF hA ?_
      refine wp_skip ?_
      refine then_normal ?_
      refine sR (l := [0, 1, 2, 3]) ?_
      refine ck (l := [0, 1, 2]) (r := [3]) (e' := [(3, pt b1), (4, pt b2), (5, pt b3), (6, bl false), (7, .slice (some ⟨k1, 0, none⟩) 4 4), (9, pt b4), (10, i64 st), (11, pt b5), (65, i64 pc), (66, pf b2 16)]) hA [i64 pc] (cc (hO.l1 5 16 3 (i64 pc)) c0) ?_
      clear hA fr; intro fr hA
      refine wpOps_cons' (mSR (off := 16) (ad := ⟨b2, 16, none⟩) (vc := [i64 pc]) (l' := (regsL Q pc)) 4 hA hO rfl (by kernel_rfl) (by kernel_rfl) ?_)
      clear hO; intro w14 hO
      replace hA := hA.sb (e' := [(3, pt b1), (4, pt b2), (5, pt b3), (6, bl false), (7, .slice (some ⟨k1, 0, none⟩) 4 4), (9, pt b4), (10, i64 st), (11, pt b5)])
      refine end_ops ?_
      refine then_normal ?_
      refine wp_seq ?_
      have hS : Ow Tryd.prog none' w _ [(b5, 43, [i64 k, i64 p0, i64 p1, i64 p2, i64 p3, i64 p4, i64 p5]), (b4, 40, (regsL R' pc')), (k1, 5, [u8 (IntKind.u8.wrap o), u8 (IntKind.u8.wrap a), u8 (cond (opV o) (IntKind.u8.wrap (v / 256)) (IntKind.u8.wrap b)), u8 (cond (opV o) (IntKind.u8.wrap v) (IntKind.u8.wrap c))]), (b3, 29, [i64 o, i64 a, i64 b, i64 c, i64 v]), (b1, 38, (regsL R pc))] := hO.sub [0, 1, 2, 3, 5]
      refine rP [(0, true), (1, true), (2, true), (3, true), (4, true), (5, true), (6, true), (7, true), (8, true), (9, true), (10, true), (11, true), (12, true), (13, true), (14, true), (15, true), (17, true), (16, false), (18, true), (19, false)] hS ?_
      intro w15 ho; replace hO := hO.st ho; clear ho
      refine ckS (l := [0, 1, 2, 3, 4, 5, 6, 7, 8, 9, 10, 11, 12, 13, 14, 15, 17]) (r := [(16, false), (18, true), (19, false)]) (e' := [(3, pt b1), (4, pt b2), (5, pt b3), (6, bl false), (7, .slice (some ⟨k1, 0, none⟩) 4 4), (9, pt b4), (10, i64 st), (11, pt b5), (70, i64 b), (75, i32 (R ((a).toNat))), (80, i32 (R ((b).toNat))), (82, .pointer (some ((⟨b2, 0, none⟩ : Addr).add ((a).toNat)))), (83, pt b2)]) hA [i64 a, i64 b, i64 a, i32 (R ((a).toNat)), i64 b, i32 (R ((b).toNat))] (cc (hS.s1 3 1 3 (i64 a)) (cc (hS.s1 3 2 3 (i64 b)) (cc (hS.s1 3 1 3 (i64 a)) (cc (⟨by omega, by omega⟩ : (0 : Int) ≤ a ∧ a < ((16 : Nat) : Int)) (cc (hS.sx ((⟨b1, 0, none⟩ : Addr).add ((a).toNat)) 21 (i32 (R ((a).toNat))) fun _ hO => (ld_regs (hO.b 4) (by omega) (by kernel_rfl))) (cc (hS.s1 3 2 3 (i64 b)) (cc (⟨by omega, by omega⟩ : (0 : Int) ≤ b ∧ b < ((16 : Nat) : Int)) (cc (hS.sx ((⟨b1, 0, none⟩ : Addr).add ((b).toNat)) 21 (i32 (R ((b).toNat))) fun _ hO => (ld_regs (hO.b 4) (by omega) (by kernel_rfl))) (cc (⟨by omega, by omega⟩ : (0 : Int) ≤ a ∧ a < ((16 : Nat) : Int)) c0))))))))) ?_
      clear hA fr; intro fr hA
      refine plan_mem (mSR (off := (a).toNat) (ad := (⟨b2, 0, none⟩ : Addr).add ((a).toNat)) (vc := [i32 (R ((a).toNat))]) (l' := (regsL (upd Q ((a).toNat) (R ((a).toNat))) pc)) 4 hA hO (add_zero_off _ _) (regs_ble Q pc (by omega)) (setL_regs (by omega) _) ?_)
      clear hO; intro w16 hO
      refine ⟨(hO.sub [0, 1, 2, 3, 5]), ?_⟩
      replace hA := hA.sb (e' := [(3, pt b1), (4, pt b2), (5, pt b3), (6, bl false), (7, .slice (some ⟨k1, 0, none⟩) 4 4), (9, pt b4), (10, i64 st), (11, pt b5), (70, i64 b), (80, i32 (R ((b).toNat))), (83, pt b2)])
      refine ckS (l := [18]) (r := [(19, false)]) (e' := [(3, pt b1), (4, pt b2), (5, pt b3), (6, bl false), (7, .slice (some ⟨k1, 0, none⟩) 4 4), (9, pt b4), (10, i64 st), (11, pt b5), (80, i32 (R ((b).toNat))), (84, .pointer (some ((⟨b2, 0, none⟩ : Addr).add ((b).toNat))))]) hA [] (cc (⟨by omega, by omega⟩ : (0 : Int) ≤ b ∧ b < ((16 : Nat) : Int)) c0) ?_
      clear hA fr; intro fr hA
      refine plan_mem (mSR (off := (b).toNat) (ad := (⟨b2, 0, none⟩ : Addr).add ((b).toNat)) (vc := [i32 (R ((b).toNat))]) (l' := (regsL (upd (upd Q ((a).toNat) (R ((a).toNat))) ((b).toNat) (R ((b).toNat))) pc)) 4 hA hO (add_zero_off _ _) (regs_ble (upd Q ((a).toNat) (R ((a).toNat))) pc (by omega)) (setL_regs (by omega) _) ?_)
      clear hO; intro w17 hO
      refine ⟨(hO.sub [0, 1, 2, 3, 5]), ?_⟩
      replace hA := hA.sb (e' := [(3, pt b1), (4, pt b2), (5, pt b3), (6, bl false), (7, .slice (some ⟨k1, 0, none⟩) 4 4), (9, pt b4), (10, i64 st), (11, pt b5)])
      refine end_plan ?_
      refine then_normal ?_
      refine wp_seq ?_
      refine sR (l := (rg 0 8)) ?_
      refine ck (l := [0, 1, 2, 3]) (r := [4, 5, 6, 7]) (e' := [(3, pt b1), (4, pt b2), (5, pt b3), (6, bl false), (7, .slice (some ⟨k1, 0, none⟩) 4 4), (9, pt b4), (10, i64 st), (11, pt b5), (87, bl (decide (o ≥ 4))), (88, bl (decide (o ≥ 4)))]) hA [i64 o] (cc (hO.l1 3 0 3 (i64 o)) c0) ?_
      clear hA fr; intro fr hA
      rcases Bool.eq_false_or_eq_true (decide (o ≥ 4)) with h3 | h3
      ·
        replace hA := hA.bool (f := fun z => [(3, pt b1), (4, pt b2), (5, pt b3), (6, bl false), (7, .slice (some ⟨k1, 0, none⟩) 4 4), (9, pt b4), (10, i64 st), (11, pt b5), (87, .bool z), (88, .bool z)]) h3
        have h3p := of_decide_eq_true h3
        refine ck (l := [4, 5, 6, 7]) (r := []) (e' := [(3, pt b1), (4, pt b2), (5, pt b3), (6, bl false), (7, .slice (some ⟨k1, 0, none⟩) 4 4), (9, pt b4), (10, i64 st), (11, pt b5), (92, bl (decide (o ≤ 13)))]) hA [i64 o] (cc (hO.l1 3 0 3 (i64 o)) c0) ?_
        clear hA fr; intro fr hA
        refine end_ops ?_
        refine then_normal ?_
        replace hA := hA.bool (f := fun z => [(3, pt b1), (4, pt b2), (5, pt b3), (6, bl false), (7, .slice (some ⟨k1, 0, none⟩) 4 4), (9, pt b4), (10, i64 st), (11, pt b5), (92, .bool z)]) (decide_eq_false (by omega) : (decide (o ≤ 13)) = false)
        refine cF hA ?_
        refine wp_skip ?_
        refine then_normal ?_
        refine sR (l := (rg 0 12)) ?_
        refine ck (l := [0, 1]) (r := (rg 2 10)) (e' := [(5, pt b3), (6, bl false), (9, pt b4), (10, i64 st), (11, pt b5), (103, .agg (List.toArray (regsL (upd (upd Q ((a).toNat) (R ((a).toNat))) ((b).toNat) (R ((b).toNat))) pc))), (104, .slice (some ⟨k1, 0, none⟩) 4 4)]) hA [.agg (List.toArray (regsL (upd (upd Q ((a).toNat) (R ((a).toNat))) ((b).toNat) (R ((b).toNat))) pc))] (cc (hO.ln 4 0 38 (regsL (upd (upd Q ((a).toNat) (R ((a).toNat))) ((b).toNat) (R ((b).toNat))) pc)) c0) ?_
        clear hA fr; intro fr hA
        refine wpOps_cons' (mK (f := 18) (args := [.agg (List.toArray (regsL (upd (upd Q ((a).toNat) (R ((a).toNat))) ((b).toNat) (R ((b).toNat))) pc)), .slice (some ⟨k1, 0, none⟩) 4 4, i64 5]) (d := (some 105)) (v := .tuple #[.agg (List.toArray (regsL Q' pc')), i64 st, .agg #[i64 k, i64 p0, i64 p1, i64 p2, i64 p3, i64 p4, i64 p5]]) hA hO Tryd.func18 (rs (exec_any (upd (upd Q ((a).toNat) (R ((a).toNat))) ((b).toNat) (R ((b).toNat))) pc 5 _ ([IntKind.u8.wrap o, IntKind.u8.wrap a, cond (opV o) (IntKind.u8.wrap (v / 256)) (IntKind.u8.wrap b), cond (opV o) (IntKind.u8.wrap v) (IntKind.u8.wrap c)]) _ (hT.keep hO.only (fun h => h)) (updOk (updOk hQ (hR _)) (hR _)) hp hp' ((hO.b 2).sl (xs := [IntKind.u8.wrap o, IntKind.u8.wrap a, cond (opV o) (IntKind.u8.wrap (v / 256)) (IntKind.u8.wrap b), cond (opV o) (IntKind.u8.wrap v) (IntKind.u8.wrap c)]) (U8s.cons (wrap_inK .u8 _) (U8s.cons (wrap_inK .u8 _) (U8s.cons (inK_cond (wrap_inK .u8 _) (wrap_inK .u8 _)) (U8s.cons (inK_cond (wrap_inK .u8 _) (wrap_inK .u8 _)) U8s.nil)))) rfl (by kernel_rfl))) ((execX_enc _ pc 5 hl).trans hx2)) ?_)
        clear hA hO fr; intro fr w18 hA hO
        replace hA := hA.sb (e' := [(5, pt b3), (6, bl false), (9, pt b4), (10, i64 st), (11, pt b5), (105, .tuple #[.agg (List.toArray (regsL Q' pc')), i64 st, .agg #[i64 k, i64 p0, i64 p1, i64 p2, i64 p3, i64 p4, i64 p5]])])
        refine ck (l := [3, 4, 5, 6]) (r := (rg 7 5)) (e' := [(5, pt b3), (6, bl false), (9, pt b4), (10, i64 st), (11, pt b5), (106, .agg (List.toArray (regsL Q' pc'))), (107, i64 st), (108, .agg #[i64 k, i64 p0, i64 p1, i64 p2, i64 p3, i64 p4, i64 p5])]) hA [] c0 ?_
        clear hA fr; intro fr hA
        refine wpOps_cons' (mN (l := [i32 0, i32 0, i32 0, i32 0, i32 0, i32 0, i32 0, i32 0, i32 0, i32 0, i32 0, i32 0, i32 0, i32 0, i32 0, i32 0, i64 0]) (t := 40) (v := pt) (d := 13) hA hO ?_)
        clear hA hO fr; intro fr w19 b6 hA hO
        refine wpOps_cons' (mN (l := [i64 0, i64 0, i64 0, i64 0, i64 0, i64 0, i64 0]) (t := 43) (v := pt) (d := 15) hA hO ?_)
        clear hA hO fr; intro fr w20 b7 hA hO
        refine wpOps_cons' (mS (off := 0) (vc := (regsL Q' pc')) 1 hA hO ?_)
        clear hO; intro w21 hO
        replace hA := hA.sb (e' := [(5, pt b3), (6, bl false), (9, pt b4), (10, i64 st), (11, pt b5), (13, pt b6), (15, pt b7), (107, i64 st), (108, .agg #[i64 k, i64 p0, i64 p1, i64 p2, i64 p3, i64 p4, i64 p5])])
        refine ck (l := [10]) (r := [11]) (e' := [(5, pt b3), (6, bl false), (9, pt b4), (10, i64 st), (11, pt b5), (13, pt b6), (14, i64 st), (15, pt b7), (108, .agg #[i64 k, i64 p0, i64 p1, i64 p2, i64 p3, i64 p4, i64 p5])]) hA [] c0 ?_
        clear hA fr; intro fr hA
        refine wpOps_cons' (mS (off := 0) (vc := [i64 k, i64 p0, i64 p1, i64 p2, i64 p3, i64 p4, i64 p5]) 0 hA hO ?_)
        clear hO; intro w22 hO
        replace hA := hA.sb (e' := [(5, pt b3), (6, bl false), (9, pt b4), (10, i64 st), (11, pt b5), (13, pt b6), (14, i64 st), (15, pt b7)])
        refine end_ops ?_
        refine then_normal ?_
        refine wp_seq ?_
        have hS := hO
        refine rP [(0, true), (1, true), (2, true), (3, true), (4, true), (5, true), (6, true), (7, true), (8, true), (9, true), (10, true), (11, true), (12, true), (13, true), (14, true), (15, true), (16, true), (17, true), (18, true), (19, true), (20, true), (21, true), (22, true), (23, true), (24, true), (25, true), (26, true), (27, true), (28, true)] hS ?_
        intro w23 ho; replace hO := hO.st ho; clear ho
        refine ckS (l := (rg 0 6)) (r := [(6, true), (7, true), (8, true), (9, true), (10, true), (11, true), (12, true), (13, true), (14, true), (15, true), (16, true), (17, true), (18, true), (19, true), (20, true), (21, true), (22, true), (23, true), (24, true), (25, true), (26, true), (27, true), (28, true)]) (e' := [(5, pt b3), (6, bl false), (9, pt b4), (10, i64 st), (11, pt b5), (13, pt b6), (14, i64 st), (15, pt b7), (113, bl (pc' == pc')), (114, bl (pc' == pc'))]) hA [i64 pc', i64 pc'] (cc (hS.s1 1 16 3 (i64 pc')) (cc (hS.s1 3 16 3 (i64 pc')) c0)) ?_
        clear hA fr; intro fr hA
        replace hA := hA.bool (f := fun z => [(5, pt b3), (6, bl false), (9, pt b4), (10, i64 st), (11, pt b5), (13, pt b6), (14, i64 st), (15, pt b7), (113, .bool z), (114, .bool z)]) (beq_self_eq_true _ : (pc' == pc') = true)
        refine ckS (l := (rg 6 13)) (r := [(19, true), (20, true), (21, true), (22, true), (23, true), (24, true), (25, true), (26, true), (27, true), (28, true)]) (e' := [(6, bl false), (10, i64 st), (11, pt b5), (14, i64 st), (15, pt b7), (125, bl ((Q' ((a).toNat)) == (R' ((a).toNat)))), (126, bl ((Q' ((a).toNat)) == (R' ((a).toNat)))), (127, bl ((Q' ((a).toNat)) == (R' ((a).toNat))))]) hA [i64 a, i32 (Q' ((a).toNat)), i64 a, i32 (R' ((a).toNat))] (cc (hS.s1 5 1 3 (i64 a)) (cc (⟨by omega, by omega⟩ : (0 : Int) ≤ a ∧ a < ((16 : Nat) : Int)) (cc (hS.sx ((⟨b6, 0, none⟩ : Addr).add ((a).toNat)) 21 (i32 (Q' ((a).toNat))) fun _ hO => (ld_regs (hO.b 1) (by omega) (by kernel_rfl))) (cc (hS.s1 5 1 3 (i64 a)) (cc (⟨by omega, by omega⟩ : (0 : Int) ≤ a ∧ a < ((16 : Nat) : Int)) (cc (hS.sx ((⟨b4, 0, none⟩ : Addr).add ((a).toNat)) 21 (i32 (R' ((a).toNat))) fun _ hO => (ld_regs (hO.b 3) (by omega) (by kernel_rfl))) c0)))))) ?_
        clear hA fr; intro fr hA
        replace hA := hA.bool (f := fun z => [(6, bl false), (10, i64 st), (11, pt b5), (14, i64 st), (15, pt b7), (125, .bool z), (126, .bool z), (127, .bool z)]) (beq_iff_eq.2 hq : ((Q' ((a).toNat)) == (R' ((a).toNat))) = true)
        refine ckS (l := (rg 19 5)) (r := [(24, true), (25, true), (26, true), (27, true), (28, true)]) (e' := [(6, bl false), (11, pt b5), (15, pt b7), (130, bl (st == st)), (131, bl (st == st)), (132, bl (st == st))]) hA [] c0 ?_
        clear hA fr; intro fr hA
        replace hA := hA.bool (f := fun z => [(6, bl false), (11, pt b5), (15, pt b7), (130, .bool z), (131, .bool z), (132, .bool z)]) (beq_self_eq_true _ : (st == st) = true)
        refine ckS (l := (rg 24 5)) (r := []) (e' := [(6, bl true)]) hA [.agg #[i64 k, i64 p0, i64 p1, i64 p2, i64 p3, i64 p4, i64 p5], .agg #[i64 k, i64 p0, i64 p1, i64 p2, i64 p3, i64 p4, i64 p5], bl true] (cc (hS.sn 0 0 43 [i64 k, i64 p0, i64 p1, i64 p2, i64 p3, i64 p4, i64 p5]) (cc (hS.sn 2 0 43 [i64 k, i64 p0, i64 p1, i64 p2, i64 p3, i64 p4, i64 p5]) (cc ((eqG_of (b := (k == k) && ((p0 == p0) && (((p1 == p1) && ((p2 == p2) && ((p3 == p3) && true))) && ((p4 == p4) && ((p5 == p5) && true))))) (by kernel_rfl) (by kernel_rfl)).cast (by simp) : EqG Tryd.prog 43 (.agg #[i64 k, i64 p0, i64 p1, i64 p2, i64 p3, i64 p4, i64 p5]) (.agg #[i64 k, i64 p0, i64 p1, i64 p2, i64 p3, i64 p4, i64 p5]) true) c0))) ?_
        clear hA fr; intro fr hA
        refine end_plan ?_
        refine then_normal ?_
        refine wp_ret ?_
        refine cR (cs := [none]) (us := [bl true]) hA [] trivial ?_
        have hF := hO.only; clear hA hO
        exact ⟨by first | rfl | simp [pack], hF⟩
      ·
        replace hA := hA.bool (f := fun z => [(3, pt b1), (4, pt b2), (5, pt b3), (6, bl false), (7, .slice (some ⟨k1, 0, none⟩) 4 4), (9, pt b4), (10, i64 st), (11, pt b5), (87, .bool z), (88, .bool z)]) h3
        have h3p := of_decide_eq_false h3
        refine ck (l := [4, 5, 6, 7]) (r := []) (e' := [(3, pt b1), (4, pt b2), (5, pt b3), (6, bl false), (7, .slice (some ⟨k1, 0, none⟩) 4 4), (9, pt b4), (10, i64 st), (11, pt b5), (92, bl false)]) hA [] c0 ?_
        clear hA fr; intro fr hA
        refine end_ops ?_
        refine then_normal ?_
        refine cF hA ?_
        refine wp_skip ?_
        refine then_normal ?_
        refine sR (l := (rg 0 12)) ?_
        refine ck (l := [0, 1]) (r := (rg 2 10)) (e' := [(5, pt b3), (6, bl false), (9, pt b4), (10, i64 st), (11, pt b5), (103, .agg (List.toArray (regsL (upd (upd Q ((a).toNat) (R ((a).toNat))) ((b).toNat) (R ((b).toNat))) pc))), (104, .slice (some ⟨k1, 0, none⟩) 4 4)]) hA [.agg (List.toArray (regsL (upd (upd Q ((a).toNat) (R ((a).toNat))) ((b).toNat) (R ((b).toNat))) pc))] (cc (hO.ln 4 0 38 (regsL (upd (upd Q ((a).toNat) (R ((a).toNat))) ((b).toNat) (R ((b).toNat))) pc)) c0) ?_
        clear hA fr; intro fr hA
        refine wpOps_cons' (mK (f := 18) (args := [.agg (List.toArray (regsL (upd (upd Q ((a).toNat) (R ((a).toNat))) ((b).toNat) (R ((b).toNat))) pc)), .slice (some ⟨k1, 0, none⟩) 4 4, i64 5]) (d := (some 105)) (v := .tuple #[.agg (List.toArray (regsL Q' pc')), i64 st, .agg #[i64 k, i64 p0, i64 p1, i64 p2, i64 p3, i64 p4, i64 p5]]) hA hO Tryd.func18 (rs (exec_any (upd (upd Q ((a).toNat) (R ((a).toNat))) ((b).toNat) (R ((b).toNat))) pc 5 _ ([IntKind.u8.wrap o, IntKind.u8.wrap a, cond (opV o) (IntKind.u8.wrap (v / 256)) (IntKind.u8.wrap b), cond (opV o) (IntKind.u8.wrap v) (IntKind.u8.wrap c)]) _ (hT.keep hO.only (fun h => h)) (updOk (updOk hQ (hR _)) (hR _)) hp hp' ((hO.b 2).sl (xs := [IntKind.u8.wrap o, IntKind.u8.wrap a, cond (opV o) (IntKind.u8.wrap (v / 256)) (IntKind.u8.wrap b), cond (opV o) (IntKind.u8.wrap v) (IntKind.u8.wrap c)]) (U8s.cons (wrap_inK .u8 _) (U8s.cons (wrap_inK .u8 _) (U8s.cons (inK_cond (wrap_inK .u8 _) (wrap_inK .u8 _)) (U8s.cons (inK_cond (wrap_inK .u8 _) (wrap_inK .u8 _)) U8s.nil)))) rfl (by kernel_rfl))) ((execX_enc _ pc 5 hl).trans hx2)) ?_)
        clear hA hO fr; intro fr w24 hA hO
        replace hA := hA.sb (e' := [(5, pt b3), (6, bl false), (9, pt b4), (10, i64 st), (11, pt b5), (105, .tuple #[.agg (List.toArray (regsL Q' pc')), i64 st, .agg #[i64 k, i64 p0, i64 p1, i64 p2, i64 p3, i64 p4, i64 p5]])])
        refine ck (l := [3, 4, 5, 6]) (r := (rg 7 5)) (e' := [(5, pt b3), (6, bl false), (9, pt b4), (10, i64 st), (11, pt b5), (106, .agg (List.toArray (regsL Q' pc'))), (107, i64 st), (108, .agg #[i64 k, i64 p0, i64 p1, i64 p2, i64 p3, i64 p4, i64 p5])]) hA [] c0 ?_
        clear hA fr; intro fr hA
        refine wpOps_cons' (mN (l := [i32 0, i32 0, i32 0, i32 0, i32 0, i32 0, i32 0, i32 0, i32 0, i32 0, i32 0, i32 0, i32 0, i32 0, i32 0, i32 0, i64 0]) (t := 40) (v := pt) (d := 13) hA hO ?_)
        clear hA hO fr; intro fr w25 b8 hA hO
        refine wpOps_cons' (mN (l := [i64 0, i64 0, i64 0, i64 0, i64 0, i64 0, i64 0]) (t := 43) (v := pt) (d := 15) hA hO ?_)
        clear hA hO fr; intro fr w26 b9 hA hO
        refine wpOps_cons' (mS (off := 0) (vc := (regsL Q' pc')) 1 hA hO ?_)
        clear hO; intro w27 hO
        replace hA := hA.sb (e' := [(5, pt b3), (6, bl false), (9, pt b4), (10, i64 st), (11, pt b5), (13, pt b8), (15, pt b9), (107, i64 st), (108, .agg #[i64 k, i64 p0, i64 p1, i64 p2, i64 p3, i64 p4, i64 p5])])
        refine ck (l := [10]) (r := [11]) (e' := [(5, pt b3), (6, bl false), (9, pt b4), (10, i64 st), (11, pt b5), (13, pt b8), (14, i64 st), (15, pt b9), (108, .agg #[i64 k, i64 p0, i64 p1, i64 p2, i64 p3, i64 p4, i64 p5])]) hA [] c0 ?_
        clear hA fr; intro fr hA
        refine wpOps_cons' (mS (off := 0) (vc := [i64 k, i64 p0, i64 p1, i64 p2, i64 p3, i64 p4, i64 p5]) 0 hA hO ?_)
        clear hO; intro w28 hO
        replace hA := hA.sb (e' := [(5, pt b3), (6, bl false), (9, pt b4), (10, i64 st), (11, pt b5), (13, pt b8), (14, i64 st), (15, pt b9)])
        refine end_ops ?_
        refine then_normal ?_
        refine wp_seq ?_
        have hS := hO
        refine rP [(0, true), (1, true), (2, true), (3, true), (4, true), (5, true), (6, true), (7, true), (8, true), (9, true), (10, true), (11, true), (12, true), (13, true), (14, true), (15, true), (16, true), (17, true), (18, true), (19, true), (20, true), (21, true), (22, true), (23, true), (24, true), (25, true), (26, true), (27, true), (28, true)] hS ?_
        intro w29 ho; replace hO := hO.st ho; clear ho
        refine ckS (l := (rg 0 6)) (r := [(6, true), (7, true), (8, true), (9, true), (10, true), (11, true), (12, true), (13, true), (14, true), (15, true), (16, true), (17, true), (18, true), (19, true), (20, true), (21, true), (22, true), (23, true), (24, true), (25, true), (26, true), (27, true), (28, true)]) (e' := [(5, pt b3), (6, bl false), (9, pt b4), (10, i64 st), (11, pt b5), (13, pt b8), (14, i64 st), (15, pt b9), (113, bl (pc' == pc')), (114, bl (pc' == pc'))]) hA [i64 pc', i64 pc'] (cc (hS.s1 1 16 3 (i64 pc')) (cc (hS.s1 3 16 3 (i64 pc')) c0)) ?_
        clear hA fr; intro fr hA
        replace hA := hA.bool (f := fun z => [(5, pt b3), (6, bl false), (9, pt b4), (10, i64 st), (11, pt b5), (13, pt b8), (14, i64 st), (15, pt b9), (113, .bool z), (114, .bool z)]) (beq_self_eq_true _ : (pc' == pc') = true)
        refine ckS (l := (rg 6 13)) (r := [(19, true), (20, true), (21, true), (22, true), (23, true), (24, true), (25, true), (26, true), (27, true), (28, true)]) (e' := [(6, bl false), (10, i64 st), (11, pt b5), (14, i64 st), (15, pt b9), (125, bl ((Q' ((a).toNat)) == (R' ((a).toNat)))), (126, bl ((Q' ((a).toNat)) == (R' ((a).toNat)))), (127, bl ((Q' ((a).toNat)) == (R' ((a).toNat))))]) hA [i64 a, i32 (Q' ((a).toNat)), i64 a, i32 (R' ((a).toNat))] (cc (hS.s1 5 1 3 (i64 a)) (cc (⟨by omega, by omega⟩ : (0 : Int) ≤ a ∧ a < ((16 : Nat) : Int)) (cc (hS.sx ((⟨b8, 0, none⟩ : Addr).add ((a).toNat)) 21 (i32 (Q' ((a).toNat))) fun _ hO => (ld_regs (hO.b 1) (by omega) (by kernel_rfl))) (cc (hS.s1 5 1 3 (i64 a)) (cc (⟨by omega, by omega⟩ : (0 : Int) ≤ a ∧ a < ((16 : Nat) : Int)) (cc (hS.sx ((⟨b4, 0, none⟩ : Addr).add ((a).toNat)) 21 (i32 (R' ((a).toNat))) fun _ hO => (ld_regs (hO.b 3) (by omega) (by kernel_rfl))) c0)))))) ?_
        clear hA fr; intro fr hA
        replace hA := hA.bool (f := fun z => [(6, bl false), (10, i64 st), (11, pt b5), (14, i64 st), (15, pt b9), (125, .bool z), (126, .bool z), (127, .bool z)]) (beq_iff_eq.2 hq : ((Q' ((a).toNat)) == (R' ((a).toNat))) = true)
        refine ckS (l := (rg 19 5)) (r := [(24, true), (25, true), (26, true), (27, true), (28, true)]) (e' := [(6, bl false), (11, pt b5), (15, pt b9), (130, bl (st == st)), (131, bl (st == st)), (132, bl (st == st))]) hA [] c0 ?_
        clear hA fr; intro fr hA
        replace hA := hA.bool (f := fun z => [(6, bl false), (11, pt b5), (15, pt b9), (130, .bool z), (131, .bool z), (132, .bool z)]) (beq_self_eq_true _ : (st == st) = true)
        refine ckS (l := (rg 24 5)) (r := []) (e' := [(6, bl true)]) hA [.agg #[i64 k, i64 p0, i64 p1, i64 p2, i64 p3, i64 p4, i64 p5], .agg #[i64 k, i64 p0, i64 p1, i64 p2, i64 p3, i64 p4, i64 p5], bl true] (cc (hS.sn 0 0 43 [i64 k, i64 p0, i64 p1, i64 p2, i64 p3, i64 p4, i64 p5]) (cc (hS.sn 2 0 43 [i64 k, i64 p0, i64 p1, i64 p2, i64 p3, i64 p4, i64 p5]) (cc ((eqG_of (b := (k == k) && ((p0 == p0) && (((p1 == p1) && ((p2 == p2) && ((p3 == p3) && true))) && ((p4 == p4) && ((p5 == p5) && true))))) (by kernel_rfl) (by kernel_rfl)).cast (by simp) : EqG Tryd.prog 43 (.agg #[i64 k, i64 p0, i64 p1, i64 p2, i64 p3, i64 p4, i64 p5]) (.agg #[i64 k, i64 p0, i64 p1, i64 p2, i64 p3, i64 p4, i64 p5]) true) c0))) ?_
        clear hA fr; intro fr hA
        refine end_plan ?_
        refine then_normal ?_
        refine wp_ret ?_
        refine cR (cs := [none]) (us := [bl true]) hA [] trivial ?_
        have hF := hO.only; clear hA hO
        exact ⟨by first | rfl | simp [pack], hF⟩

theorem upd_same (R : Nat → Int) (k : Nat) (v : Int) : upd R k v k = v := by simp [upd]
theorem upd_other (R : Nat → Int) {k j : Nat} (v : Int) (h : j ≠ k) : upd R k v j = R j := by simp [upd, h]
theorem exec_two (R S : Nat → Int) (pc o a b c v : Int) (h22 : o ≠ 22) (ha0 : 0 ≤ a) (hA : S a.toNat = R a.toNat) (hB : S b.toNat = R b.toNat) (hC : 4 ≤ o ∧ o ≤ 13 → S c.toNat = R c.toNat) (ho : 1 ≤ o ∧ o ≤ 22) :
    ∃ (R' Q' : Nat → Int) (pc' st k p0 p1 p2 p3 p4 p5 : Int), execV R pc 5 o a b c v = outV R' pc' st (trapL k p0 p1 p2 p3 p4 p5) ∧ execV S pc 5 o a b c v = outV Q' pc' st (trapL k p0 p1 p2 p3 p4 p5) ∧
      (∀ j : Nat, j < 16 → (j : Int) ≠ a → R' j = R j) ∧ Q' a.toNat = R' a.toNat := by
  have hne : ∀ (x : Int) (j : Nat), j < 16 → (j : Int) ≠ a → upd R a.toNat x j = R j := fun x j _ hj => upd_other R x (by omega)
  have heq : ∀ x : Int, upd S a.toNat x a.toNat = upd R a.toNat x a.toNat := fun x => by rw [upd_same, upd_same]
  have hid : ∀ j : Nat, j < 16 → (j : Int) ≠ a → R j = R j := fun _ _ _ => rfl
  simp only [execV, hA, hB]
  by_cases e1 : o = 1
  · simp only [if_pos e1]; exact ⟨_, _, _, _, _, _, _, _, _, _, _, rfl, rfl, hne _, heq _⟩
  by_cases e2 : o = 2
  · simp only [if_neg e1, if_pos e2]; exact ⟨_, _, _, _, _, _, _, _, _, _, _, rfl, rfl, hne _, heq _⟩
  by_cases e3 : o = 3
  · simp only [if_neg e1, if_neg e2, if_pos e3]; exact ⟨_, _, _, _, _, _, _, _, _, _, _, rfl, rfl, hne _, heq _⟩
  simp only [if_neg e1, if_neg e2, if_neg e3]
  by_cases e14 : o = 14
  · simp only [if_pos e14]
    by_cases hm : (R b.toNat + c).tmod 4 = 0
    · simp only [if_pos hm]; exact ⟨_, _, _, _, _, _, _, _, _, _, _, rfl, rfl, hne _, heq _⟩
    · simp only [if_neg hm]; exact ⟨_, _, _, _, _, _, _, _, _, _, _, rfl, rfl, hid, hA⟩
  by_cases e15 : o = 15
  · simp only [if_neg e14, if_pos e15]
    by_cases hm : (R b.toNat + c).tmod 4 = 0
    · simp only [if_pos hm]; exact ⟨_, _, _, _, _, _, _, _, _, _, _, rfl, rfl, hid, hA⟩
    · simp only [if_neg hm]; exact ⟨_, _, _, _, _, _, _, _, _, _, _, rfl, rfl, hid, hA⟩
  by_cases e16 : o = 16
  · simp only [if_neg e14, if_neg e15, if_pos e16]; exact ⟨_, _, _, _, _, _, _, _, _, _, _, rfl, rfl, hne _, heq _⟩
  by_cases e17 : o = 17
  · simp only [if_neg e14, if_neg e15, if_neg e16, if_pos e17]; exact ⟨_, _, _, _, _, _, _, _, _, _, _, rfl, rfl, hid, hA⟩
  simp only [if_neg e14, if_neg e15, if_neg e16, if_neg e17]
  by_cases e18 : o = 18
  · simp only [if_pos e18]; exact ⟨_, _, _, _, _, _, _, _, _, _, _, rfl, rfl, hid, hA⟩
  by_cases e19 : o = 19
  · simp only [if_neg e18, if_pos e19]; exact ⟨_, _, _, _, _, _, _, _, _, _, _, rfl, rfl, hid, hA⟩
  by_cases e20 : o = 20
  · simp only [if_neg e18, if_neg e19, if_pos e20]; exact ⟨_, _, _, _, _, _, _, _, _, _, _, rfl, rfl, hne _, heq _⟩
  by_cases e21 : o = 21
  · simp only [if_neg e18, if_neg e19, if_neg e20, if_pos e21]; exact ⟨_, _, _, _, _, _, _, _, _, _, _, rfl, rfl, hid, hA⟩
  simp only [if_neg e18, if_neg e19, if_neg e20, if_neg e21, if_neg h22, hC (by omega)]
  by_cases hd : (o = 7 ∨ o = 8) ∧ R c.toNat = 0
  · simp only [if_pos hd]; exact ⟨_, _, _, _, _, _, _, _, _, _, _, rfl, rfl, hid, hA⟩
  · simp only [if_neg hd]; exact ⟨_, _, _, _, _, _, _, _, _, _, _, rfl, rfl, hne _, heq _⟩
theorem law_other (R Q : Nat → Int) (pc qc o a b c v : Int) (w : World) (hT : Tab w) (hR : RegsOk R) (hQ : RegsOk Q) : Calls Tryd.prog 4 #[.agg (regsL R pc).toArray, .agg (regsL Q qc).toArray, insV o a b c v] w fun e w' => e = .returned (.bool true) ∧ Only none' w w' := by
  cases hl : legalB o a b c v with
  | false => exact oth_bad R Q pc qc o a b c v w hT hR hQ hl
  | true =>
    by_cases hp : -1099511627776 < pc ∧ pc < 1099511627776
    · by_cases h22 : o = 22
      · subst h22; exact oth_22 R Q pc qc a b c v w hT hR hQ hl hp.1 hp.2
      · obtain ⟨ho, ha, hb, hc, hv, hc2⟩ := legal_spec hl
        have g1 : ∀ x y : Nat, upd (upd Q x (R x)) y (R y) x = R x := fun x y => by
          by_cases h : x = y
          · subst h; exact upd_same _ _ _
          · rw [upd_other _ _ h, upd_same]
        by_cases hk : 4 ≤ o ∧ o ≤ 13
        · have gA : upd (upd (upd Q a.toNat (R a.toNat)) b.toNat (R b.toNat)) c.toNat (R c.toNat) a.toNat = R a.toNat := by
            by_cases h : a.toNat = c.toNat
            · rw [← h, upd_same]
            · rw [upd_other _ _ h]; exact g1 _ _
          have gB : upd (upd (upd Q a.toNat (R a.toNat)) b.toNat (R b.toNat)) c.toNat (R c.toNat) b.toNat = R b.toNat := by
            by_cases h : b.toNat = c.toNat
            · rw [← h, upd_same]
            · rw [upd_other _ _ h, upd_same]
          obtain ⟨R', Q', pc', st, k, p0, p1, p2, p3, p4, p5, x1, x2, x3, x4⟩ := exec_two R _ pc o a b c v h22 ha.1 gA gB (fun _ => upd_same _ _ _) ho
          exact oth_c R' Q' R Q pc qc pc' st k p0 p1 p2 p3 p4 p5 o a b c v w hT hR hQ hl hp.1 hp.2 hk x1 x2 x3 x4
        · obtain ⟨R', Q', pc', st, k, p0, p1, p2, p3, p4, p5, x1, x2, x3, x4⟩ := exec_two R _ pc o a b c v h22 ha.1 (g1 _ _) (upd_same _ _ _) (fun h => absurd h hk) ho
          exact oth_n R' Q' R Q pc qc pc' st k p0 p1 p2 p3 p4 p5 o a b c v w hT hR hQ hl hp.1 hp.2 hk h22 x1 x2 x3 x4
    · exact oth_wild R Q pc qc o a b c v w hT hR hQ hl hp

end Go.Proofs.YtcaokjdihhbkjaaDoor
