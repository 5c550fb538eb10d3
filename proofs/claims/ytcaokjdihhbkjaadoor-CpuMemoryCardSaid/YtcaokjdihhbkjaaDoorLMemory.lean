/- The layer cpu: walks of Word and Put, the law CpuMemory. -/
import Derived.Test.YtcaokjdihhbkjaaDoorPutword
set_option linter.unusedVariables false
set_option linter.unusedSimpArgs false
set_option maxRecDepth 10000
namespace Go.Proofs.YtcaokjdihhbkjaaDoor
open Go Go.RowKit Go.Proofs.Sx

theorem upd_same' (R : Nat → Int) (k : Nat) (v : Int) : upd R k v k = v := by simp [upd]
theorem updOk2 {R : Nat → Int} {k : Nat} {v : Int} (h : RegsOk R) (hv : inK .i32 v) : RegsOk (upd R k v) := fun i => by
  unfold upd; split
  · exact hv
  · exact h i

theorem tame_two (R : Nat → Int) (pc : Int) (w : World) :
    Calls Tryd.prog 17 #[.agg (List.toArray (regsL R pc))] w fun e w' => e = .returned (.bool (decide (pc > -1099511627776) && decide (pc < 1099511627776))) ∧ Only none' w w' := by
  refine c_enter (args := [.agg (List.toArray (regsL R pc))]) (m := 10) (n := 11) Tryd.func17 rfl (by kernel_rfl) (by kernel_rfl) fun fr hA => ?_
  have hO := Ow.nil Tryd.prog none' w
  refine sR (l := [0, 1]) ?_
  refine wpOps_cons' (mN (l := (regsL R pc)) (t := 38) (v := pt) (d := 1) hA hO ?_)
  clear hA hO fr; intro fr w1 b1 hA hO
  replace hA := hA.sb (e' := [(1, pt b1)])
  refine ck (l := [1]) (r := []) (e' := [(1, pt b1), (2, bl false)]) hA [] c0 ?_
  clear hA fr; intro fr hA
  refine end_ops ?_
  refine then_normal ?_
  refine sR (l := (rg 0 9)) ?_
  refine ck (l := [0, 1, 2, 3]) (r := (rg 4 5)) (e' := [(1, pt b1), (2, bl false), (5, bl (decide (pc > (-1099511627776)))), (6, bl (decide (pc > (-1099511627776))))]) hA [i64 pc] (cc (hO.l1 0 16 3 (i64 pc)) c0) ?_
  clear hA fr; intro fr hA
  rcases Bool.eq_false_or_eq_true (decide (pc > (-1099511627776))) with h1 | h1
  ·
    replace hA := hA.bool (f := fun z => [(1, pt b1), (2, bl false), (5, .bool z), (6, .bool z)]) h1
    have h1p := of_decide_eq_true h1
    refine ck (l := (rg 4 5)) (r := []) (e' := [(2, bl (decide (pc < 1099511627776)))]) hA [i64 pc] (cc (hO.l1 0 16 3 (i64 pc)) c0) ?_
    clear hA fr; intro fr hA
    refine end_ops ?_
    refine then_normal ?_
    refine wp_ret ?_
    refine cR (cs := [none]) (us := [bl (decide (pc < 1099511627776))]) hA [] trivial ?_
    have hF := hO.only; clear hA hO
    exact ⟨by simp_all [pack] <;> omega, hF⟩
  ·
    replace hA := hA.bool (f := fun z => [(1, pt b1), (2, bl false), (5, .bool z), (6, .bool z)]) h1
    have h1p := of_decide_eq_false h1
    refine ck (l := (rg 4 5)) (r := []) (e' := [(2, bl false)]) hA [] c0 ?_
    clear hA fr; intro fr hA
    refine end_ops ?_
    refine then_normal ?_
    refine wp_ret ?_
    refine cR (cs := [none]) (us := [bl false]) hA [] trivial ?_
    have hF := hO.only; clear hA hO
    exact ⟨by simp_all [pack] <;> omega, hF⟩

theorem mem_wild (R : Nat → Int) (pc o a b c v ld : Int) (w : World) (hT : Tab w) (hR : RegsOk R) (hld : inK .i32 ld) (hp : ¬ (-1099511627776 < pc ∧ pc < 1099511627776)) :
    Calls Tryd.prog 10 #[.agg (List.toArray (regsL R pc)), .agg #[i64 o, i64 a, i64 b, i64 c, i64 v], i32 ld] w fun e w' => e = .returned (.bool true) ∧ Only none' w w' := by
  refine c_enter (args := [.agg (List.toArray (regsL R pc)), .agg #[i64 o, i64 a, i64 b, i64 c, i64 v], i32 ld]) (m := 176) (n := 179) Tryd.func10 rfl (by kernel_rfl) (by kernel_rfl) fun fr hA => ?_
  have hO := Ow.nil Tryd.prog none' w
  have hld1 : -2147483648 ≤ ld ∧ ld ≤ 2147483647 := hld
  refine sR (l := [0, 1, 2]) ?_
  refine wpOps_cons' (mN (l := (regsL R pc)) (t := 38) (v := pt) (d := 3) hA hO ?_)
  clear hA hO fr; intro fr w1 b1 hA hO
  replace hA := hA.sb (e' := [(1, .agg #[i64 o, i64 a, i64 b, i64 c, i64 v]), (2, i32 ld), (3, pt b1)])
  refine wpOps_cons' (mN (l := [i64 o, i64 a, i64 b, i64 c, i64 v]) (t := 29) (v := pt) (d := 4) hA hO ?_)
  clear hA hO fr; intro fr w2 b2 hA hO
  replace hA := hA.sb (e' := [(2, i32 ld), (3, pt b1), (4, pt b2)])
  refine ck (l := [2]) (r := []) (e' := [(2, i32 ld), (3, pt b1), (4, pt b2), (6, bl false)]) hA [] c0 ?_
  clear hA fr; intro fr hA
  refine end_ops ?_
  refine then_normal ?_
  refine wp_seq ?_
  refine sR (l := [0, 1]) ?_
  refine wpOps_cons' (mK (f := 12) (args := []) (d := (some 19)) (v := bl true) hA hO Tryd.func12 (awake_any _ (hT.keep hO.only (fun h => h))) ?_)
  clear hA hO fr; intro fr w3 hA hO
  refine ck (l := [1]) (r := []) (e' := [(2, i32 ld), (3, pt b1), (4, pt b2), (6, bl false), (20, bl false)]) hA [] c0 ?_
  clear hA fr; intro fr hA
  refine end_ops ?_
  refine then_normal ?_
  refine cF hA ?_
  refine wp_skip ?_
  refine then_normal ?_
  refine sR (l := (rg 0 9)) ?_
  refine ck (l := [0, 1]) (r := (rg 2 7)) (e' := [(2, i32 ld), (3, pt b1), (4, pt b2), (6, bl false), (23, i64 ld)]) hA [bl true] (cc ((inK_i64 (by omega) (by omega)) : inK .i64 ld) c0) ?_
  clear hA fr; intro fr hA
  refine wpOps_cons' (mC (f := 28) (args := [i64 ld]) (d := (some 24)) hA Tryd.func28 ((put_any ld _).mono ?_))
  rintro en w4 ⟨k1, rfl, ho, hbk, hge⟩
  refine ⟨_, rfl, ?_⟩
  clear hA fr; intro fr hA
  replace hO := hO.add ho hbk hge; clear ho hbk hge
  replace hA := hA.sb (e' := [(2, i32 ld), (3, pt b1), (4, pt b2), (6, bl false), (24, .slice (some ⟨k1, 0, none⟩) 4 4)])
  refine wpOps_cons' (mK (f := 27) (args := [.slice (some ⟨k1, 0, none⟩) 4 4]) (d := (some 25)) (v := .tuple #[i64 ld, i64 0]) hA hO Tryd.func27 (rs (cword_any _ _ _ _ _ _ ((hO.b 0).sl (xs := [IntKind.u8.wrap ld, IntKind.u8.wrap (ld / 256), IntKind.u8.wrap (ld / 65536), IntKind.u8.wrap (ld / 16777216)]) (U8s.cons (wrap_inK .u8 _) (U8s.cons (wrap_inK .u8 _) (U8s.cons (wrap_inK .u8 _) (U8s.cons (wrap_inK .u8 _) U8s.nil)))) rfl (by kernel_rfl))) (congrArg (fun z => Value.tuple #[.int .i64 z, .int .i64 0]) (put_word hld))) ?_)
  clear hA hO fr; intro fr w5 hA hO
  replace hA := hA.sb (e' := [(2, i32 ld), (3, pt b1), (4, pt b2), (6, bl false), (25, .tuple #[i64 ld, i64 0])])
  refine ck (l := (rg 4 5)) (r := []) (e' := [(2, i32 ld), (3, pt b1), (4, pt b2), (6, bl false), (7, i64 ld), (8, i64 0)]) hA [] c0 ?_
  clear hA fr; intro fr hA
  refine end_ops ?_
  refine then_normal ?_
  refine wp_seq ?_
  refine sR (l := (rg 0 13)) ?_
  refine ck (l := (rg 0 9)) (r := [9, 10, 11, 12]) (e' := [(2, i32 ld), (3, pt b1), (4, pt b2), (6, bl false), (7, i64 ld), (8, i64 0), (34, bl (ld != ld)), (35, bl (ld != ld)), (36, bl (ld != ld))]) hA [bl true] (cc ((inK_i64 (by omega) (by omega)) : inK .i64 ld) c0) ?_
  clear hA fr; intro fr hA
  replace hA := hA.bool (f := fun z => [(2, i32 ld), (3, pt b1), (4, pt b2), (6, bl false), (7, i64 ld), (8, i64 0), (34, .bool z), (35, .bool z), (36, .bool z)]) (by simp : (ld != ld) = false)
  refine ck (l := [9]) (r := [10, 11, 12]) (e' := [(2, i32 ld), (3, pt b1), (4, pt b2), (6, bl false), (7, i64 ld), (8, i64 0), (36, bl false), (37, .agg (List.toArray (regsL R pc)))]) hA [.agg (List.toArray (regsL R pc))] (cc (hO.ln 2 0 38 (regsL R pc)) c0) ?_
  clear hA fr; intro fr hA
  refine wpOps_cons' (mK (f := 17) (args := [.agg (List.toArray (regsL R pc))]) (d := (some 38)) (v := bl (decide (pc > -1099511627776) && decide (pc < 1099511627776))) hA hO Tryd.func17 (tame_two R pc _) ?_)
  clear hA hO fr; intro fr w6 hA hO
  replace hA := hA.sb (e' := [(2, i32 ld), (3, pt b1), (4, pt b2), (6, bl false), (7, i64 ld), (8, i64 0), (36, bl false), (38, bl (decide (pc > -1099511627776) && decide (pc < 1099511627776)))])
  refine ck (l := [11, 12]) (r := []) (e' := [(2, i32 ld), (3, pt b1), (4, pt b2), (6, bl false), (7, i64 ld), (8, i64 0), (40, bl (!(decide (pc > -1099511627776) && decide (pc < 1099511627776))))]) hA [] c0 ?_
  clear hA fr; intro fr hA
  refine end_ops ?_
  refine then_normal ?_
  replace hA := hA.bool (f := fun z => [(2, i32 ld), (3, pt b1), (4, pt b2), (6, bl false), (7, i64 ld), (8, i64 0), (40, .bool !z)]) (by simp; omega : (decide (pc > -1099511627776) && decide (pc < 1099511627776)) = false)
  refine cT hA ?_
  refine sC (e' := [(2, i32 ld), (3, pt b1), (4, pt b2), (6, bl (ld == ld))]) 9 hA [bl true] (cc ((inK_i64 (by omega) (by omega)) : inK .i64 ld) c0) ?_
  clear hA fr; intro fr hA
  refine wp_ret ?_
  refine then_ret ?_
  refine cR (cs := [none]) (us := [bl (ld == ld)]) hA [] trivial ?_
  have hF := hO.only; clear hA hO
  exact ⟨by first | rfl | (simp [pack]; done) | (simp [pack]; omega), hF⟩

theorem mem_bad (R : Nat → Int) (pc o a b c v ld : Int) (w : World) (hT : Tab w) (hR : RegsOk R) (hld : inK .i32 ld) (hl : legalB o a b c v = false) (hp : -1099511627776 < pc) (hp' : pc < 1099511627776) :
    Calls Tryd.prog 10 #[.agg (List.toArray (regsL R pc)), .agg #[i64 o, i64 a, i64 b, i64 c, i64 v], i32 ld] w fun e w' => e = .returned (.bool true) ∧ Only none' w w' := by
  refine c_enter (args := [.agg (List.toArray (regsL R pc)), .agg #[i64 o, i64 a, i64 b, i64 c, i64 v], i32 ld]) (m := 176) (n := 179) Tryd.func10 rfl (by kernel_rfl) (by kernel_rfl) fun fr hA => ?_
  have hO := Ow.nil Tryd.prog none' w
  have hld1 : -2147483648 ≤ ld ∧ ld ≤ 2147483647 := hld
  refine sR (l := [0, 1, 2]) ?_
  refine wpOps_cons' (mN (l := (regsL R pc)) (t := 38) (v := pt) (d := 3) hA hO ?_)
  clear hA hO fr; intro fr w1 b1 hA hO
  replace hA := hA.sb (e' := [(1, .agg #[i64 o, i64 a, i64 b, i64 c, i64 v]), (2, i32 ld), (3, pt b1)])
  refine wpOps_cons' (mN (l := [i64 o, i64 a, i64 b, i64 c, i64 v]) (t := 29) (v := pt) (d := 4) hA hO ?_)
  clear hA hO fr; intro fr w2 b2 hA hO
  replace hA := hA.sb (e' := [(2, i32 ld), (3, pt b1), (4, pt b2)])
  refine ck (l := [2]) (r := []) (e' := [(2, i32 ld), (3, pt b1), (4, pt b2), (6, bl false)]) hA [] c0 ?_
  clear hA fr; intro fr hA
  refine end_ops ?_
  refine then_normal ?_
  refine wp_seq ?_
  refine sR (l := [0, 1]) ?_
  refine wpOps_cons' (mK (f := 12) (args := []) (d := (some 19)) (v := bl true) hA hO Tryd.func12 (awake_any _ (hT.keep hO.only (fun h => h))) ?_)
  clear hA hO fr; intro fr w3 hA hO
  refine ck (l := [1]) (r := []) (e' := [(2, i32 ld), (3, pt b1), (4, pt b2), (6, bl false), (20, bl false)]) hA [] c0 ?_
  clear hA fr; intro fr hA
  refine end_ops ?_
  refine then_normal ?_
  refine cF hA ?_
  refine wp_skip ?_
  refine then_normal ?_
  refine sR (l := (rg 0 9)) ?_
  refine ck (l := [0, 1]) (r := (rg 2 7)) (e' := [(2, i32 ld), (3, pt b1), (4, pt b2), (6, bl false), (23, i64 ld)]) hA [bl true] (cc ((inK_i64 (by omega) (by omega)) : inK .i64 ld) c0) ?_
  clear hA fr; intro fr hA
  refine wpOps_cons' (mC (f := 28) (args := [i64 ld]) (d := (some 24)) hA Tryd.func28 ((put_any ld _).mono ?_))
  rintro en w4 ⟨k1, rfl, ho, hbk, hge⟩
  refine ⟨_, rfl, ?_⟩
  clear hA fr; intro fr hA
  replace hO := hO.add ho hbk hge; clear ho hbk hge
  replace hA := hA.sb (e' := [(2, i32 ld), (3, pt b1), (4, pt b2), (6, bl false), (24, .slice (some ⟨k1, 0, none⟩) 4 4)])
  refine wpOps_cons' (mK (f := 27) (args := [.slice (some ⟨k1, 0, none⟩) 4 4]) (d := (some 25)) (v := .tuple #[i64 ld, i64 0]) hA hO Tryd.func27 (rs (cword_any _ _ _ _ _ _ ((hO.b 0).sl (xs := [IntKind.u8.wrap ld, IntKind.u8.wrap (ld / 256), IntKind.u8.wrap (ld / 65536), IntKind.u8.wrap (ld / 16777216)]) (U8s.cons (wrap_inK .u8 _) (U8s.cons (wrap_inK .u8 _) (U8s.cons (wrap_inK .u8 _) (U8s.cons (wrap_inK .u8 _) U8s.nil)))) rfl (by kernel_rfl))) (congrArg (fun z => Value.tuple #[.int .i64 z, .int .i64 0]) (put_word hld))) ?_)
  clear hA hO fr; intro fr w5 hA hO
  replace hA := hA.sb (e' := [(2, i32 ld), (3, pt b1), (4, pt b2), (6, bl false), (25, .tuple #[i64 ld, i64 0])])
  refine ck (l := (rg 4 5)) (r := []) (e' := [(2, i32 ld), (3, pt b1), (4, pt b2), (6, bl false), (7, i64 ld), (8, i64 0)]) hA [] c0 ?_
  clear hA fr; intro fr hA
  refine end_ops ?_
  refine then_normal ?_
  refine wp_seq ?_
  refine sR (l := (rg 0 13)) ?_
  refine ck (l := (rg 0 9)) (r := [9, 10, 11, 12]) (e' := [(2, i32 ld), (3, pt b1), (4, pt b2), (6, bl false), (7, i64 ld), (8, i64 0), (34, bl (ld != ld)), (35, bl (ld != ld)), (36, bl (ld != ld))]) hA [bl true] (cc ((inK_i64 (by omega) (by omega)) : inK .i64 ld) c0) ?_
  clear hA fr; intro fr hA
  replace hA := hA.bool (f := fun z => [(2, i32 ld), (3, pt b1), (4, pt b2), (6, bl false), (7, i64 ld), (8, i64 0), (34, .bool z), (35, .bool z), (36, .bool z)]) (by simp : (ld != ld) = false)
  refine ck (l := [9]) (r := [10, 11, 12]) (e' := [(2, i32 ld), (3, pt b1), (4, pt b2), (6, bl false), (7, i64 ld), (8, i64 0), (36, bl false), (37, .agg (List.toArray (regsL R pc)))]) hA [.agg (List.toArray (regsL R pc))] (cc (hO.ln 2 0 38 (regsL R pc)) c0) ?_
  clear hA fr; intro fr hA
  refine wpOps_cons' (mK (f := 17) (args := [.agg (List.toArray (regsL R pc))]) (d := (some 38)) (v := bl (decide (pc > -1099511627776) && decide (pc < 1099511627776))) hA hO Tryd.func17 (tame_two R pc _) ?_)
  clear hA hO fr; intro fr w6 hA hO
  replace hA := hA.sb (e' := [(2, i32 ld), (3, pt b1), (4, pt b2), (6, bl false), (7, i64 ld), (8, i64 0), (36, bl false), (38, bl (decide (pc > -1099511627776) && decide (pc < 1099511627776)))])
  refine ck (l := [11, 12]) (r := []) (e' := [(2, i32 ld), (3, pt b1), (4, pt b2), (6, bl false), (7, i64 ld), (8, i64 0), (40, bl (!(decide (pc > -1099511627776) && decide (pc < 1099511627776))))]) hA [] c0 ?_
  clear hA fr; intro fr hA
  refine end_ops ?_
  refine then_normal ?_
  replace hA := hA.bool (f := fun z => [(2, i32 ld), (3, pt b1), (4, pt b2), (6, bl false), (7, i64 ld), (8, i64 0), (40, .bool !z)]) (by simp; omega : (decide (pc > -1099511627776) && decide (pc < 1099511627776)) = true)
  refine cF hA ?_
  refine wp_skip ?_
  refine then_normal ?_
  refine sR (l := (rg 0 7)) ?_
  refine ck (l := [0]) (r := (rg 1 6)) (e' := [(2, i32 ld), (3, pt b1), (4, pt b2), (6, bl false), (50, .agg #[i64 o, i64 a, i64 b, i64 c, i64 v])]) hA [.agg #[i64 o, i64 a, i64 b, i64 c, i64 v]] (cc (hO.ln 1 0 29 [i64 o, i64 a, i64 b, i64 c, i64 v]) c0) ?_
  clear hA fr; intro fr hA
  refine wpOps_cons' (mK (f := 15) (args := [.agg #[i64 o, i64 a, i64 b, i64 c, i64 v]]) (d := (some 51)) (v := .tuple #[.slice none 0 0, i64 1]) hA hO Tryd.func15 (encode_bad o a b c v _ (hT.keep hO.only (fun h => h)) hl) ?_)
  clear hA hO fr; intro fr w7 hA hO
  replace hA := hA.sb (e' := [(2, i32 ld), (3, pt b1), (4, pt b2), (6, bl false), (51, .tuple #[.slice none 0 0, i64 1])])
  refine ck (l := (rg 2 5)) (r := []) (e' := [(2, i32 ld), (3, pt b1), (4, pt b2), (6, bl false), (9, .slice none 0 0), (10, i64 1)]) hA [] c0 ?_
  clear hA fr; intro fr hA
  refine end_ops ?_
  refine then_normal ?_
  refine wp_seq ?_
  refine sC (e' := [(2, i32 ld), (3, pt b1), (4, pt b2), (6, bl false), (9, .slice none 0 0), (55, bl true)]) 2 hA [] c0 ?_
  clear hA fr; intro fr hA
  refine cT hA ?_
  refine sC (e' := [(2, i32 ld), (3, pt b1), (4, pt b2), (6, bl true), (9, .slice none 0 0)]) 1 hA [] c0 ?_
  clear hA fr; intro fr hA
  refine wp_ret ?_
  refine then_ret ?_
  refine cR (cs := [none]) (us := [bl true]) hA [] trivial ?_
  have hF := hO.only; clear hA hO
  exact ⟨by first | rfl | (simp [pack]; done) | (simp [pack]; omega), hF⟩

theorem mem_other (R' : Nat → Int) (R : Nat → Int) (pc pc' k p0 p1 p2 p3 p4 p5 o a b c v ld : Int) (w : World) (hT : Tab w) (hR : RegsOk R) (hld : inK .i32 ld) (hl : legalB o a b c v = true) (hp : -1099511627776 < pc) (hp' : pc < 1099511627776) (hn : ¬ (14 ≤ o ∧ o ≤ 17)) (hx : execV R pc ld o a b c v = outV R' pc' 0 (trapL k p0 p1 p2 p3 p4 p5)) :
    Calls Tryd.prog 10 #[.agg (List.toArray (regsL R pc)), .agg #[i64 o, i64 a, i64 b, i64 c, i64 v], i32 ld] w fun e w' => e = .returned (.bool true) ∧ Only none' w w' := by
  refine c_enter (args := [.agg (List.toArray (regsL R pc)), .agg #[i64 o, i64 a, i64 b, i64 c, i64 v], i32 ld]) (m := 176) (n := 179) Tryd.func10 rfl (by kernel_rfl) (by kernel_rfl) fun fr hA => ?_
  have hO := Ow.nil Tryd.prog none' w
  have hld1 : -2147483648 ≤ ld ∧ ld ≤ 2147483647 := hld
  obtain ⟨ho_, ha_, hb_, hc_, hv_, hc2_⟩ := legal_spec hl; have hRa_ := hR a.toNat; have hRb_ := hR b.toNat; simp only [inK] at hRa_ hRb_
  have wi32 : -2147483648 ≤ IntKind.i32.wrap ld ∧ IntKind.i32.wrap ld ≤ 2147483647 := wrap_inK .i32 ld; have wu8 : 0 ≤ IntKind.u8.wrap ld ∧ IntKind.u8.wrap ld ≤ 255 := wrap_inK .u8 ld; have wu9 : 0 ≤ IntKind.u8.wrap (R a.toNat) ∧ IntKind.u8.wrap (R a.toNat) ≤ 255 := wrap_inK .u8 _; have hU1 := upd_same' R a.toNat (IntKind.i32.wrap ld); have hU2 := upd_same' R a.toNat (IntKind.u8.wrap ld)
  refine sR (l := [0, 1, 2]) ?_
  refine wpOps_cons' (mN (l := (regsL R pc)) (t := 38) (v := pt) (d := 3) hA hO ?_)
  clear hA hO fr; intro fr w1 b1 hA hO
  replace hA := hA.sb (e' := [(1, .agg #[i64 o, i64 a, i64 b, i64 c, i64 v]), (2, i32 ld), (3, pt b1)])
  refine wpOps_cons' (mN (l := [i64 o, i64 a, i64 b, i64 c, i64 v]) (t := 29) (v := pt) (d := 4) hA hO ?_)
  clear hA hO fr; intro fr w2 b2 hA hO
  replace hA := hA.sb (e' := [(2, i32 ld), (3, pt b1), (4, pt b2)])
  refine ck (l := [2]) (r := []) (e' := [(2, i32 ld), (3, pt b1), (4, pt b2), (6, bl false)]) hA [] c0 ?_
  clear hA fr; intro fr hA
  refine end_ops ?_
  refine then_normal ?_
  refine wp_seq ?_
  refine sR (l := [0, 1]) ?_
  refine wpOps_cons' (mK (f := 12) (args := []) (d := (some 19)) (v := bl true) hA hO Tryd.func12 (awake_any _ (hT.keep hO.only (fun h => h))) ?_)
  clear hA hO fr; intro fr w3 hA hO
  refine ck (l := [1]) (r := []) (e' := [(2, i32 ld), (3, pt b1), (4, pt b2), (6, bl false), (20, bl false)]) hA [] c0 ?_
  clear hA fr; intro fr hA
  refine end_ops ?_
  refine then_normal ?_
  refine cF hA ?_
  refine wp_skip ?_
  refine then_normal ?_
  refine sR (l := (rg 0 9)) ?_
  refine ck (l := [0, 1]) (r := (rg 2 7)) (e' := [(2, i32 ld), (3, pt b1), (4, pt b2), (6, bl false), (23, i64 ld)]) hA [bl true] (cc ((inK_i64 (by omega) (by omega)) : inK .i64 ld) c0) ?_
  clear hA fr; intro fr hA
  refine wpOps_cons' (mC (f := 28) (args := [i64 ld]) (d := (some 24)) hA Tryd.func28 ((put_any ld _).mono ?_))
  rintro en w4 ⟨k1, rfl, ho, hbk, hge⟩
  refine ⟨_, rfl, ?_⟩
  clear hA fr; intro fr hA
  replace hO := hO.add ho hbk hge; clear ho hbk hge
  replace hA := hA.sb (e' := [(2, i32 ld), (3, pt b1), (4, pt b2), (6, bl false), (24, .slice (some ⟨k1, 0, none⟩) 4 4)])
  refine wpOps_cons' (mK (f := 27) (args := [.slice (some ⟨k1, 0, none⟩) 4 4]) (d := (some 25)) (v := .tuple #[i64 ld, i64 0]) hA hO Tryd.func27 (rs (cword_any _ _ _ _ _ _ ((hO.b 0).sl (xs := [IntKind.u8.wrap ld, IntKind.u8.wrap (ld / 256), IntKind.u8.wrap (ld / 65536), IntKind.u8.wrap (ld / 16777216)]) (U8s.cons (wrap_inK .u8 _) (U8s.cons (wrap_inK .u8 _) (U8s.cons (wrap_inK .u8 _) (U8s.cons (wrap_inK .u8 _) U8s.nil)))) rfl (by kernel_rfl))) (congrArg (fun z => Value.tuple #[.int .i64 z, .int .i64 0]) (put_word hld))) ?_)
  clear hA hO fr; intro fr w5 hA hO
  replace hA := hA.sb (e' := [(2, i32 ld), (3, pt b1), (4, pt b2), (6, bl false), (25, .tuple #[i64 ld, i64 0])])
  refine ck (l := (rg 4 5)) (r := []) (e' := [(2, i32 ld), (3, pt b1), (4, pt b2), (6, bl false), (7, i64 ld), (8, i64 0)]) hA [] c0 ?_
  clear hA fr; intro fr hA
  refine end_ops ?_
  refine then_normal ?_
  refine wp_seq ?_
  refine sR (l := (rg 0 13)) ?_
  refine ck (l := (rg 0 9)) (r := [9, 10, 11, 12]) (e' := [(2, i32 ld), (3, pt b1), (4, pt b2), (6, bl false), (7, i64 ld), (8, i64 0), (34, bl (ld != ld)), (35, bl (ld != ld)), (36, bl (ld != ld))]) hA [bl true] (cc ((inK_i64 (by omega) (by omega)) : inK .i64 ld) c0) ?_
  clear hA fr; intro fr hA
  replace hA := hA.bool (f := fun z => [(2, i32 ld), (3, pt b1), (4, pt b2), (6, bl false), (7, i64 ld), (8, i64 0), (34, .bool z), (35, .bool z), (36, .bool z)]) (by simp : (ld != ld) = false)
  refine ck (l := [9]) (r := [10, 11, 12]) (e' := [(2, i32 ld), (3, pt b1), (4, pt b2), (6, bl false), (7, i64 ld), (8, i64 0), (36, bl false), (37, .agg (List.toArray (regsL R pc)))]) hA [.agg (List.toArray (regsL R pc))] (cc (hO.ln 2 0 38 (regsL R pc)) c0) ?_
  clear hA fr; intro fr hA
  refine wpOps_cons' (mK (f := 17) (args := [.agg (List.toArray (regsL R pc))]) (d := (some 38)) (v := bl (decide (pc > -1099511627776) && decide (pc < 1099511627776))) hA hO Tryd.func17 (tame_two R pc _) ?_)
  clear hA hO fr; intro fr w6 hA hO
  replace hA := hA.sb (e' := [(2, i32 ld), (3, pt b1), (4, pt b2), (6, bl false), (7, i64 ld), (8, i64 0), (36, bl false), (38, bl (decide (pc > -1099511627776) && decide (pc < 1099511627776)))])
  refine ck (l := [11, 12]) (r := []) (e' := [(2, i32 ld), (3, pt b1), (4, pt b2), (6, bl false), (7, i64 ld), (8, i64 0), (40, bl (!(decide (pc > -1099511627776) && decide (pc < 1099511627776))))]) hA [] c0 ?_
  clear hA fr; intro fr hA
  refine end_ops ?_
  refine then_normal ?_
  replace hA := hA.bool (f := fun z => [(2, i32 ld), (3, pt b1), (4, pt b2), (6, bl false), (7, i64 ld), (8, i64 0), (40, .bool !z)]) (by simp; omega : (decide (pc > -1099511627776) && decide (pc < 1099511627776)) = true)
  refine cF hA ?_
  refine wp_skip ?_
  refine then_normal ?_
  refine sR (l := (rg 0 7)) ?_
  refine ck (l := [0]) (r := (rg 1 6)) (e' := [(2, i32 ld), (3, pt b1), (4, pt b2), (6, bl false), (50, .agg #[i64 o, i64 a, i64 b, i64 c, i64 v])]) hA [.agg #[i64 o, i64 a, i64 b, i64 c, i64 v]] (cc (hO.ln 1 0 29 [i64 o, i64 a, i64 b, i64 c, i64 v]) c0) ?_
  clear hA fr; intro fr hA
  refine wpOps_cons' (mC (f := 15) (args := [.agg #[i64 o, i64 a, i64 b, i64 c, i64 v]]) (d := (some 51)) hA Tryd.func15 ((encode_ok o a b c v _ (hT.keep hO.only (fun h => h)) hl).mono ?_))
  rintro en w7 ⟨k2, rfl, ho, hbk, hge⟩
  refine ⟨_, rfl, ?_⟩
  clear hA fr; intro fr hA
  replace hO := hO.add ho hbk hge; clear ho hbk hge
  replace hA := hA.sb (e' := [(2, i32 ld), (3, pt b1), (4, pt b2), (6, bl false), (51, .tuple #[.slice (some ⟨k2, 0, none⟩) 4 4, i64 0])])
  refine ck (l := (rg 2 5)) (r := []) (e' := [(2, i32 ld), (3, pt b1), (4, pt b2), (6, bl false), (9, .slice (some ⟨k2, 0, none⟩) 4 4), (10, i64 0)]) hA [] c0 ?_
  clear hA fr; intro fr hA
  refine end_ops ?_
  refine then_normal ?_
  refine wp_seq ?_
  refine sC (e' := [(2, i32 ld), (3, pt b1), (4, pt b2), (6, bl false), (9, .slice (some ⟨k2, 0, none⟩) 4 4), (55, bl false)]) 2 hA [] c0 ?_
  clear hA fr; intro fr hA
  refine cF hA ?_
  refine wp_skip ?_
  refine then_normal ?_
  refine sR (l := (rg 0 12)) ?_
  refine ck (l := [0, 1]) (r := (rg 2 10)) (e' := [(2, i32 ld), (3, pt b1), (4, pt b2), (6, bl false), (9, .slice (some ⟨k2, 0, none⟩) 4 4), (57, .agg (List.toArray (regsL R pc))), (58, .slice (some ⟨k2, 0, none⟩) 4 4)]) hA [.agg (List.toArray (regsL R pc))] (cc (hO.ln 3 0 38 (regsL R pc)) c0) ?_
  clear hA fr; intro fr hA
  refine wpOps_cons' (mK (f := 24) (args := [.agg (List.toArray (regsL R pc)), .slice (some ⟨k2, 0, none⟩) 4 4]) (d := (some 59)) (v := .tuple #[i64 0, i64 0, bl false, bl false]) hA hO Tryd.func24 (rs (acc_any R pc _ ([IntKind.u8.wrap o, IntKind.u8.wrap a, cond (opV o) (IntKind.u8.wrap (v / 256)) (IntKind.u8.wrap b), cond (opV o) (IntKind.u8.wrap v) (IntKind.u8.wrap c)]) _ (hT.keep hO.only (fun h => h)) hR ((hO.b 0).sl (xs := [IntKind.u8.wrap o, IntKind.u8.wrap a, cond (opV o) (IntKind.u8.wrap (v / 256)) (IntKind.u8.wrap b), cond (opV o) (IntKind.u8.wrap v) (IntKind.u8.wrap c)]) (U8s.cons (wrap_inK .u8 _) (U8s.cons (wrap_inK .u8 _) (U8s.cons (inK_cond (wrap_inK .u8 _) (wrap_inK .u8 _)) (U8s.cons (inK_cond (wrap_inK .u8 _) (wrap_inK .u8 _)) U8s.nil)))) rfl (by kernel_rfl))) ((accX_enc R hl).trans (acc_out0 R o b c hn))) ?_)
  clear hA hO fr; intro fr w8 hA hO
  replace hA := hA.sb (e' := [(2, i32 ld), (3, pt b1), (4, pt b2), (6, bl false), (9, .slice (some ⟨k2, 0, none⟩) 4 4), (59, .tuple #[i64 0, i64 0, bl false, bl false])])
  refine ck (l := (rg 3 9)) (r := []) (e' := [(2, i32 ld), (3, pt b1), (4, pt b2), (6, bl false), (9, .slice (some ⟨k2, 0, none⟩) 4 4), (11, i64 0), (12, i64 0), (13, bl false), (14, bl false)]) hA [] c0 ?_
  clear hA fr; intro fr hA
  refine end_ops ?_
  refine then_normal ?_
  refine sR (l := (rg 0 14)) ?_
  refine ck (l := [0, 1, 2, 3]) (r := (rg 4 10)) (e' := [(2, i32 ld), (3, pt b1), (4, pt b2), (6, bl false), (11, i64 0), (12, i64 0), (13, bl false), (14, bl false), (65, .agg (List.toArray (regsL R pc))), (66, .slice (some ⟨k2, 0, none⟩) 4 4), (68, i64 ld)]) hA [.agg (List.toArray (regsL R pc)), bl true] (cc (hO.ln 3 0 38 (regsL R pc)) (cc ((inK_i64 (by omega) (by omega)) : inK .i64 ld) c0)) ?_
  clear hA fr; intro fr hA
  refine wpOps_cons' (mK (f := 18) (args := [.agg (List.toArray (regsL R pc)), .slice (some ⟨k2, 0, none⟩) 4 4, i64 ld]) (d := (some 69)) (v := .tuple #[.agg (List.toArray (regsL R' pc')), i64 0, .agg #[i64 k, i64 p0, i64 p1, i64 p2, i64 p3, i64 p4, i64 p5]]) hA hO Tryd.func18 (rs (exec_any R pc ld _ ([IntKind.u8.wrap o, IntKind.u8.wrap a, cond (opV o) (IntKind.u8.wrap (v / 256)) (IntKind.u8.wrap b), cond (opV o) (IntKind.u8.wrap v) (IntKind.u8.wrap c)]) _ (hT.keep hO.only (fun h => h)) hR hp hp' ((hO.b 0).sl (xs := [IntKind.u8.wrap o, IntKind.u8.wrap a, cond (opV o) (IntKind.u8.wrap (v / 256)) (IntKind.u8.wrap b), cond (opV o) (IntKind.u8.wrap v) (IntKind.u8.wrap c)]) (U8s.cons (wrap_inK .u8 _) (U8s.cons (wrap_inK .u8 _) (U8s.cons (inK_cond (wrap_inK .u8 _) (wrap_inK .u8 _)) (U8s.cons (inK_cond (wrap_inK .u8 _) (wrap_inK .u8 _)) U8s.nil)))) rfl (by kernel_rfl))) ((execX_enc R pc ld hl).trans hx)) ?_)
  clear hA hO fr; intro fr w9 hA hO
  replace hA := hA.sb (e' := [(2, i32 ld), (3, pt b1), (4, pt b2), (6, bl false), (11, i64 0), (12, i64 0), (13, bl false), (14, bl false), (69, .tuple #[.agg (List.toArray (regsL R' pc')), i64 0, .agg #[i64 k, i64 p0, i64 p1, i64 p2, i64 p3, i64 p4, i64 p5]])])
  refine ck (l := [5, 6, 7, 8]) (r := (rg 9 5)) (e' := [(2, i32 ld), (3, pt b1), (4, pt b2), (6, bl false), (11, i64 0), (12, i64 0), (13, bl false), (14, bl false), (70, .agg (List.toArray (regsL R' pc'))), (71, i64 0), (72, .agg #[i64 k, i64 p0, i64 p1, i64 p2, i64 p3, i64 p4, i64 p5])]) hA [] c0 ?_
  clear hA fr; intro fr hA
  refine wpOps_cons' (mN (l := [i32 0, i32 0, i32 0, i32 0, i32 0, i32 0, i32 0, i32 0, i32 0, i32 0, i32 0, i32 0, i32 0, i32 0, i32 0, i32 0, i64 0]) (t := 40) (v := pt) (d := 15) hA hO ?_)
  clear hA hO fr; intro fr w10 b3 hA hO
  refine wpOps_cons' (mN (l := [i64 0, i64 0, i64 0, i64 0, i64 0, i64 0, i64 0]) (t := 43) (v := pt) (d := 17) hA hO ?_)
  clear hA hO fr; intro fr w11 b4 hA hO
  refine wpOps_cons' (mS (off := 0) (vc := (regsL R' pc')) 1 hA hO ?_)
  clear hO; intro w12 hO
  replace hA := hA.sb (e' := [(2, i32 ld), (3, pt b1), (4, pt b2), (6, bl false), (11, i64 0), (12, i64 0), (13, bl false), (14, bl false), (15, pt b3), (17, pt b4), (71, i64 0), (72, .agg #[i64 k, i64 p0, i64 p1, i64 p2, i64 p3, i64 p4, i64 p5])])
  refine ck (l := [12]) (r := [13]) (e' := [(2, i32 ld), (3, pt b1), (4, pt b2), (6, bl false), (11, i64 0), (12, i64 0), (13, bl false), (14, bl false), (15, pt b3), (16, i64 0), (17, pt b4), (72, .agg #[i64 k, i64 p0, i64 p1, i64 p2, i64 p3, i64 p4, i64 p5])]) hA [] c0 ?_
  clear hA fr; intro fr hA
  refine wpOps_cons' (mS (off := 0) (vc := [i64 k, i64 p0, i64 p1, i64 p2, i64 p3, i64 p4, i64 p5]) 0 hA hO ?_)
  clear hO; intro w13 hO
  replace hA := hA.sb (e' := [(2, i32 ld), (3, pt b1), (4, pt b2), (6, bl false), (11, i64 0), (12, i64 0), (13, bl false), (14, bl false), (15, pt b3), (16, i64 0), (17, pt b4)])
  refine end_ops ?_
  refine then_normal ?_
  refine sR (l := (rg 0 9)) ?_
  refine ck (l := [0, 1, 2, 3]) (r := (rg 4 5)) (e' := [(2, i32 ld), (3, pt b1), (4, pt b2), (6, bl false), (11, i64 0), (12, i64 0), (13, bl false), (14, bl false), (15, pt b3), (16, i64 0), (17, pt b4), (75, bl (decide (o ≥ 14))), (76, bl (decide (o ≥ 14)))]) hA [i64 o] (cc (hO.l1 4 0 3 (i64 o)) c0) ?_
  clear hA fr; intro fr hA
  rcases Bool.eq_false_or_eq_true (decide (o ≥ 14)) with h1 | h1
  ·
    replace hA := hA.bool (f := fun z => [(2, i32 ld), (3, pt b1), (4, pt b2), (6, bl false), (11, i64 0), (12, i64 0), (13, bl false), (14, bl false), (15, pt b3), (16, i64 0), (17, pt b4), (75, .bool z), (76, .bool z)]) h1
    have h1p := of_decide_eq_true h1
    refine ck (l := (rg 4 5)) (r := []) (e' := [(2, i32 ld), (3, pt b1), (4, pt b2), (6, bl false), (11, i64 0), (12, i64 0), (13, bl false), (14, bl false), (15, pt b3), (16, i64 0), (17, pt b4), (18, bl (decide (o ≤ 17)))]) hA [i64 o] (cc (hO.l1 4 0 3 (i64 o)) c0) ?_
    clear hA fr; intro fr hA
    refine end_ops ?_
    refine then_normal ?_
    refine wp_seq ?_
    refine sC (e' := [(2, i32 ld), (3, pt b1), (4, pt b2), (6, bl false), (11, i64 0), (12, i64 0), (13, bl false), (15, pt b3), (16, i64 0), (17, pt b4), (18, bl (decide (o ≤ 17))), (82, bl true)]) 2 hA [] c0 ?_
    clear hA fr; intro fr hA
    refine cT hA ?_
    refine sR (l := (rg 0 12)) ?_
    refine ck (l := (rg 0 6)) (r := (rg 6 6)) (e' := [(2, i32 ld), (3, pt b1), (4, pt b2), (6, bl false), (11, i64 0), (12, i64 0), (13, bl false), (15, pt b3), (16, i64 0), (17, pt b4), (18, bl (decide (o ≤ 17))), (85, bl true), (87, bl (!(decide (o ≤ 17)))), (88, bl (!(decide (o ≤ 17))))]) hA [] c0 ?_
    clear hA fr; intro fr hA
    rcases Bool.eq_false_or_eq_true (decide (o ≤ 17)) with h2 | h2
    ·
      exfalso; have q_ := of_decide_eq_true h2; omega
    ·
      replace hA := hA.bool (f := fun z => [(2, i32 ld), (3, pt b1), (4, pt b2), (6, bl false), (11, i64 0), (12, i64 0), (13, bl false), (15, pt b3), (16, i64 0), (17, pt b4), (18, .bool z), (85, bl true), (87, .bool !z), (88, .bool !z)]) h2
      have h2p := of_decide_eq_false h2
      refine ck (l := (rg 6 6)) (r := []) (e' := [(2, i32 ld), (3, pt b1), (4, pt b2), (6, bl true), (11, i64 0), (12, i64 0), (13, bl false), (15, pt b3), (16, i64 0), (17, pt b4), (18, bl false)]) hA [] c0 ?_
      clear hA fr; intro fr hA
      refine end_ops ?_
      refine then_normal ?_
      refine wp_ret ?_
      refine then_ret ?_
      refine cR (cs := [none]) (us := [bl true]) hA [] trivial ?_
      have hF := hO.only; clear hA hO
      exact ⟨by first | rfl | (simp [pack]; done) | (simp [pack]; omega), hF⟩
  ·
    replace hA := hA.bool (f := fun z => [(2, i32 ld), (3, pt b1), (4, pt b2), (6, bl false), (11, i64 0), (12, i64 0), (13, bl false), (14, bl false), (15, pt b3), (16, i64 0), (17, pt b4), (75, .bool z), (76, .bool z)]) h1
    have h1p := of_decide_eq_false h1
    refine ck (l := (rg 4 5)) (r := []) (e' := [(2, i32 ld), (3, pt b1), (4, pt b2), (6, bl false), (11, i64 0), (12, i64 0), (13, bl false), (14, bl false), (15, pt b3), (16, i64 0), (17, pt b4), (18, bl false)]) hA [] c0 ?_
    clear hA fr; intro fr hA
    refine end_ops ?_
    refine then_normal ?_
    refine wp_seq ?_
    refine sC (e' := [(2, i32 ld), (3, pt b1), (4, pt b2), (6, bl false), (11, i64 0), (12, i64 0), (13, bl false), (15, pt b3), (16, i64 0), (17, pt b4), (18, bl false), (82, bl true)]) 2 hA [] c0 ?_
    clear hA fr; intro fr hA
    refine cT hA ?_
    refine sC (e' := [(2, i32 ld), (3, pt b1), (4, pt b2), (6, bl true), (11, i64 0), (12, i64 0), (13, bl false), (15, pt b3), (16, i64 0), (17, pt b4), (18, bl false)]) 12 hA [] c0 ?_
    clear hA fr; intro fr hA
    refine wp_ret ?_
    refine then_ret ?_
    refine cR (cs := [none]) (us := [bl true]) hA [] trivial ?_
    have hF := hO.only; clear hA hO
    exact ⟨by first | rfl | (simp [pack]; done) | (simp [pack]; omega), hF⟩

theorem mem_un14 (R : Nat → Int) (pc a b c v ld : Int) (w : World) (hT : Tab w) (hR : RegsOk R) (hld : inK .i32 ld) (hl : legalB 14 a b c v = true) (hp : -1099511627776 < pc) (hp' : pc < 1099511627776) (hm : ¬ (R b.toNat + c).tmod 4 = 0) :
    Calls Tryd.prog 10 #[.agg (List.toArray (regsL R pc)), .agg #[i64 14, i64 a, i64 b, i64 c, i64 v], i32 ld] w fun e w' => e = .returned (.bool true) ∧ Only none' w w' := by
  refine c_enter (args := [.agg (List.toArray (regsL R pc)), .agg #[i64 14, i64 a, i64 b, i64 c, i64 v], i32 ld]) (m := 176) (n := 179) Tryd.func10 rfl (by kernel_rfl) (by kernel_rfl) fun fr hA => ?_
  have hO := Ow.nil Tryd.prog none' w
  have hld1 : -2147483648 ≤ ld ∧ ld ≤ 2147483647 := hld
  obtain ⟨ho_, ha_, hb_, hc_, hv_, hc2_⟩ := legal_spec hl; have hRa_ := hR a.toNat; have hRb_ := hR b.toNat; simp only [inK] at hRa_ hRb_
  have wi32 : -2147483648 ≤ IntKind.i32.wrap ld ∧ IntKind.i32.wrap ld ≤ 2147483647 := wrap_inK .i32 ld; have wu8 : 0 ≤ IntKind.u8.wrap ld ∧ IntKind.u8.wrap ld ≤ 255 := wrap_inK .u8 ld; have wu9 : 0 ≤ IntKind.u8.wrap (R a.toNat) ∧ IntKind.u8.wrap (R a.toNat) ≤ 255 := wrap_inK .u8 _; have hU1 := upd_same' R a.toNat (IntKind.i32.wrap ld); have hU2 := upd_same' R a.toNat (IntKind.u8.wrap ld)
  refine sR (l := [0, 1, 2]) ?_
  refine wpOps_cons' (mN (l := (regsL R pc)) (t := 38) (v := pt) (d := 3) hA hO ?_)
  clear hA hO fr; intro fr w1 b1 hA hO
  replace hA := hA.sb (e' := [(1, .agg #[i64 14, i64 a, i64 b, i64 c, i64 v]), (2, i32 ld), (3, pt b1)])
  refine wpOps_cons' (mN (l := [i64 14, i64 a, i64 b, i64 c, i64 v]) (t := 29) (v := pt) (d := 4) hA hO ?_)
  clear hA hO fr; intro fr w2 b2 hA hO
  replace hA := hA.sb (e' := [(2, i32 ld), (3, pt b1), (4, pt b2)])
  refine ck (l := [2]) (r := []) (e' := [(2, i32 ld), (3, pt b1), (4, pt b2), (6, bl false)]) hA [] c0 ?_
  clear hA fr; intro fr hA
  refine end_ops ?_
  refine then_normal ?_
  refine wp_seq ?_
  refine sR (l := [0, 1]) ?_
  refine wpOps_cons' (mK (f := 12) (args := []) (d := (some 19)) (v := bl true) hA hO Tryd.func12 (awake_any _ (hT.keep hO.only (fun h => h))) ?_)
  clear hA hO fr; intro fr w3 hA hO
  refine ck (l := [1]) (r := []) (e' := [(2, i32 ld), (3, pt b1), (4, pt b2), (6, bl false), (20, bl false)]) hA [] c0 ?_
  clear hA fr; intro fr hA
  refine end_ops ?_
  refine then_normal ?_
  refine cF hA ?_
  refine wp_skip ?_
  refine then_normal ?_
  refine sR (l := (rg 0 9)) ?_
  refine ck (l := [0, 1]) (r := (rg 2 7)) (e' := [(2, i32 ld), (3, pt b1), (4, pt b2), (6, bl false), (23, i64 ld)]) hA [bl true] (cc ((inK_i64 (by omega) (by omega)) : inK .i64 ld) c0) ?_
  clear hA fr; intro fr hA
  refine wpOps_cons' (mC (f := 28) (args := [i64 ld]) (d := (some 24)) hA Tryd.func28 ((put_any ld _).mono ?_))
  rintro en w4 ⟨k1, rfl, ho, hbk, hge⟩
  refine ⟨_, rfl, ?_⟩
  clear hA fr; intro fr hA
  replace hO := hO.add ho hbk hge; clear ho hbk hge
  replace hA := hA.sb (e' := [(2, i32 ld), (3, pt b1), (4, pt b2), (6, bl false), (24, .slice (some ⟨k1, 0, none⟩) 4 4)])
  refine wpOps_cons' (mK (f := 27) (args := [.slice (some ⟨k1, 0, none⟩) 4 4]) (d := (some 25)) (v := .tuple #[i64 ld, i64 0]) hA hO Tryd.func27 (rs (cword_any _ _ _ _ _ _ ((hO.b 0).sl (xs := [IntKind.u8.wrap ld, IntKind.u8.wrap (ld / 256), IntKind.u8.wrap (ld / 65536), IntKind.u8.wrap (ld / 16777216)]) (U8s.cons (wrap_inK .u8 _) (U8s.cons (wrap_inK .u8 _) (U8s.cons (wrap_inK .u8 _) (U8s.cons (wrap_inK .u8 _) U8s.nil)))) rfl (by kernel_rfl))) (congrArg (fun z => Value.tuple #[.int .i64 z, .int .i64 0]) (put_word hld))) ?_)
  clear hA hO fr; intro fr w5 hA hO
  replace hA := hA.sb (e' := [(2, i32 ld), (3, pt b1), (4, pt b2), (6, bl false), (25, .tuple #[i64 ld, i64 0])])
  refine ck (l := (rg 4 5)) (r := []) (e' := [(2, i32 ld), (3, pt b1), (4, pt b2), (6, bl false), (7, i64 ld), (8, i64 0)]) hA [] c0 ?_
  clear hA fr; intro fr hA
  refine end_ops ?_
  refine then_normal ?_
  refine wp_seq ?_
  refine sR (l := (rg 0 13)) ?_
  refine ck (l := (rg 0 9)) (r := [9, 10, 11, 12]) (e' := [(2, i32 ld), (3, pt b1), (4, pt b2), (6, bl false), (7, i64 ld), (8, i64 0), (34, bl (ld != ld)), (35, bl (ld != ld)), (36, bl (ld != ld))]) hA [bl true] (cc ((inK_i64 (by omega) (by omega)) : inK .i64 ld) c0) ?_
  clear hA fr; intro fr hA
  replace hA := hA.bool (f := fun z => [(2, i32 ld), (3, pt b1), (4, pt b2), (6, bl false), (7, i64 ld), (8, i64 0), (34, .bool z), (35, .bool z), (36, .bool z)]) (by simp : (ld != ld) = false)
  refine ck (l := [9]) (r := [10, 11, 12]) (e' := [(2, i32 ld), (3, pt b1), (4, pt b2), (6, bl false), (7, i64 ld), (8, i64 0), (36, bl false), (37, .agg (List.toArray (regsL R pc)))]) hA [.agg (List.toArray (regsL R pc))] (cc (hO.ln 2 0 38 (regsL R pc)) c0) ?_
  clear hA fr; intro fr hA
  refine wpOps_cons' (mK (f := 17) (args := [.agg (List.toArray (regsL R pc))]) (d := (some 38)) (v := bl (decide (pc > -1099511627776) && decide (pc < 1099511627776))) hA hO Tryd.func17 (tame_two R pc _) ?_)
  clear hA hO fr; intro fr w6 hA hO
  replace hA := hA.sb (e' := [(2, i32 ld), (3, pt b1), (4, pt b2), (6, bl false), (7, i64 ld), (8, i64 0), (36, bl false), (38, bl (decide (pc > -1099511627776) && decide (pc < 1099511627776)))])
  refine ck (l := [11, 12]) (r := []) (e' := [(2, i32 ld), (3, pt b1), (4, pt b2), (6, bl false), (7, i64 ld), (8, i64 0), (40, bl (!(decide (pc > -1099511627776) && decide (pc < 1099511627776))))]) hA [] c0 ?_
  clear hA fr; intro fr hA
  refine end_ops ?_
  refine then_normal ?_
  replace hA := hA.bool (f := fun z => [(2, i32 ld), (3, pt b1), (4, pt b2), (6, bl false), (7, i64 ld), (8, i64 0), (40, .bool !z)]) (by simp; omega : (decide (pc > -1099511627776) && decide (pc < 1099511627776)) = true)
  refine cF hA ?_
  refine wp_skip ?_
  refine then_normal ?_
  refine sR (l := (rg 0 7)) ?_
  refine ck (l := [0]) (r := (rg 1 6)) (e' := [(2, i32 ld), (3, pt b1), (4, pt b2), (6, bl false), (50, .agg #[i64 14, i64 a, i64 b, i64 c, i64 v])]) hA [.agg #[i64 14, i64 a, i64 b, i64 c, i64 v]] (cc (hO.ln 1 0 29 [i64 14, i64 a, i64 b, i64 c, i64 v]) c0) ?_
  clear hA fr; intro fr hA
  refine wpOps_cons' (mC (f := 15) (args := [.agg #[i64 14, i64 a, i64 b, i64 c, i64 v]]) (d := (some 51)) hA Tryd.func15 ((encode_ok 14 a b c v _ (hT.keep hO.only (fun h => h)) hl).mono ?_))
  rintro en w7 ⟨k2, rfl, ho, hbk, hge⟩
  refine ⟨_, rfl, ?_⟩
  clear hA fr; intro fr hA
  replace hO := hO.add ho hbk hge; clear ho hbk hge
  replace hA := hA.sb (e' := [(2, i32 ld), (3, pt b1), (4, pt b2), (6, bl false), (51, .tuple #[.slice (some ⟨k2, 0, none⟩) 4 4, i64 0])])
  refine ck (l := (rg 2 5)) (r := []) (e' := [(2, i32 ld), (3, pt b1), (4, pt b2), (6, bl false), (9, .slice (some ⟨k2, 0, none⟩) 4 4), (10, i64 0)]) hA [] c0 ?_
  clear hA fr; intro fr hA
  refine end_ops ?_
  refine then_normal ?_
  refine wp_seq ?_
  refine sC (e' := [(2, i32 ld), (3, pt b1), (4, pt b2), (6, bl false), (9, .slice (some ⟨k2, 0, none⟩) 4 4), (55, bl false)]) 2 hA [] c0 ?_
  clear hA fr; intro fr hA
  refine cF hA ?_
  refine wp_skip ?_
  refine then_normal ?_
  refine sR (l := (rg 0 12)) ?_
  refine ck (l := [0, 1]) (r := (rg 2 10)) (e' := [(2, i32 ld), (3, pt b1), (4, pt b2), (6, bl false), (9, .slice (some ⟨k2, 0, none⟩) 4 4), (57, .agg (List.toArray (regsL R pc))), (58, .slice (some ⟨k2, 0, none⟩) 4 4)]) hA [.agg (List.toArray (regsL R pc))] (cc (hO.ln 3 0 38 (regsL R pc)) c0) ?_
  clear hA fr; intro fr hA
  refine wpOps_cons' (mK (f := 24) (args := [.agg (List.toArray (regsL R pc)), .slice (some ⟨k2, 0, none⟩) 4 4]) (d := (some 59)) (v := .tuple #[i64 0, i64 0, bl false, bl false]) hA hO Tryd.func24 (rs (acc_any R pc _ ([IntKind.u8.wrap 14, IntKind.u8.wrap a, cond (opV 14) (IntKind.u8.wrap (v / 256)) (IntKind.u8.wrap b), cond (opV 14) (IntKind.u8.wrap v) (IntKind.u8.wrap c)]) _ (hT.keep hO.only (fun h => h)) hR ((hO.b 0).sl (xs := [IntKind.u8.wrap 14, IntKind.u8.wrap a, cond (opV 14) (IntKind.u8.wrap (v / 256)) (IntKind.u8.wrap b), cond (opV 14) (IntKind.u8.wrap v) (IntKind.u8.wrap c)]) (U8s.cons (wrap_inK .u8 _) (U8s.cons (wrap_inK .u8 _) (U8s.cons (inK_cond (wrap_inK .u8 _) (wrap_inK .u8 _)) (U8s.cons (inK_cond (wrap_inK .u8 _) (wrap_inK .u8 _)) U8s.nil)))) rfl (by kernel_rfl))) ((accX_enc R hl).trans (if_neg hm))) ?_)
  clear hA hO fr; intro fr w8 hA hO
  replace hA := hA.sb (e' := [(2, i32 ld), (3, pt b1), (4, pt b2), (6, bl false), (9, .slice (some ⟨k2, 0, none⟩) 4 4), (59, .tuple #[i64 0, i64 0, bl false, bl false])])
  refine ck (l := (rg 3 9)) (r := []) (e' := [(2, i32 ld), (3, pt b1), (4, pt b2), (6, bl false), (9, .slice (some ⟨k2, 0, none⟩) 4 4), (11, i64 0), (12, i64 0), (13, bl false), (14, bl false)]) hA [] c0 ?_
  clear hA fr; intro fr hA
  refine end_ops ?_
  refine then_normal ?_
  refine sR (l := (rg 0 14)) ?_
  refine ck (l := [0, 1, 2, 3]) (r := (rg 4 10)) (e' := [(2, i32 ld), (3, pt b1), (4, pt b2), (6, bl false), (11, i64 0), (12, i64 0), (13, bl false), (14, bl false), (65, .agg (List.toArray (regsL R pc))), (66, .slice (some ⟨k2, 0, none⟩) 4 4), (68, i64 ld)]) hA [.agg (List.toArray (regsL R pc)), bl true] (cc (hO.ln 3 0 38 (regsL R pc)) (cc ((inK_i64 (by omega) (by omega)) : inK .i64 ld) c0)) ?_
  clear hA fr; intro fr hA
  refine wpOps_cons' (mK (f := 18) (args := [.agg (List.toArray (regsL R pc)), .slice (some ⟨k2, 0, none⟩) 4 4, i64 ld]) (d := (some 69)) (v := .tuple #[.agg (List.toArray (regsL R pc)), i64 0, .agg #[i64 2, i64 3, i64 0, i64 0, i64 0, i64 0, i64 0]]) hA hO Tryd.func18 (rs (exec_any R pc ld _ ([IntKind.u8.wrap 14, IntKind.u8.wrap a, cond (opV 14) (IntKind.u8.wrap (v / 256)) (IntKind.u8.wrap b), cond (opV 14) (IntKind.u8.wrap v) (IntKind.u8.wrap c)]) _ (hT.keep hO.only (fun h => h)) hR hp hp' ((hO.b 0).sl (xs := [IntKind.u8.wrap 14, IntKind.u8.wrap a, cond (opV 14) (IntKind.u8.wrap (v / 256)) (IntKind.u8.wrap b), cond (opV 14) (IntKind.u8.wrap v) (IntKind.u8.wrap c)]) (U8s.cons (wrap_inK .u8 _) (U8s.cons (wrap_inK .u8 _) (U8s.cons (inK_cond (wrap_inK .u8 _) (wrap_inK .u8 _)) (U8s.cons (inK_cond (wrap_inK .u8 _) (wrap_inK .u8 _)) U8s.nil)))) rfl (by kernel_rfl))) ((execX_enc R pc ld hl).trans (if_neg hm))) ?_)
  clear hA hO fr; intro fr w9 hA hO
  replace hA := hA.sb (e' := [(2, i32 ld), (3, pt b1), (4, pt b2), (6, bl false), (11, i64 0), (12, i64 0), (13, bl false), (14, bl false), (69, .tuple #[.agg (List.toArray (regsL R pc)), i64 0, .agg #[i64 2, i64 3, i64 0, i64 0, i64 0, i64 0, i64 0]])])
  refine ck (l := [5, 6, 7, 8]) (r := (rg 9 5)) (e' := [(2, i32 ld), (3, pt b1), (4, pt b2), (6, bl false), (11, i64 0), (12, i64 0), (13, bl false), (14, bl false), (70, .agg (List.toArray (regsL R pc))), (71, i64 0), (72, .agg #[i64 2, i64 3, i64 0, i64 0, i64 0, i64 0, i64 0])]) hA [] c0 ?_
  clear hA fr; intro fr hA
  refine wpOps_cons' (mN (l := [i32 0, i32 0, i32 0, i32 0, i32 0, i32 0, i32 0, i32 0, i32 0, i32 0, i32 0, i32 0, i32 0, i32 0, i32 0, i32 0, i64 0]) (t := 40) (v := pt) (d := 15) hA hO ?_)
  clear hA hO fr; intro fr w10 b3 hA hO
  refine wpOps_cons' (mN (l := [i64 0, i64 0, i64 0, i64 0, i64 0, i64 0, i64 0]) (t := 43) (v := pt) (d := 17) hA hO ?_)
  clear hA hO fr; intro fr w11 b4 hA hO
  refine wpOps_cons' (mS (off := 0) (vc := (regsL R pc)) 1 hA hO ?_)
  clear hO; intro w12 hO
  replace hA := hA.sb (e' := [(2, i32 ld), (3, pt b1), (4, pt b2), (6, bl false), (11, i64 0), (12, i64 0), (13, bl false), (14, bl false), (15, pt b3), (17, pt b4), (71, i64 0), (72, .agg #[i64 2, i64 3, i64 0, i64 0, i64 0, i64 0, i64 0])])
  refine ck (l := [12]) (r := [13]) (e' := [(2, i32 ld), (3, pt b1), (4, pt b2), (6, bl false), (11, i64 0), (12, i64 0), (13, bl false), (14, bl false), (15, pt b3), (16, i64 0), (17, pt b4), (72, .agg #[i64 2, i64 3, i64 0, i64 0, i64 0, i64 0, i64 0])]) hA [] c0 ?_
  clear hA fr; intro fr hA
  refine wpOps_cons' (mS (off := 0) (vc := [i64 2, i64 3, i64 0, i64 0, i64 0, i64 0, i64 0]) 0 hA hO ?_)
  clear hO; intro w13 hO
  replace hA := hA.sb (e' := [(2, i32 ld), (3, pt b1), (4, pt b2), (6, bl false), (11, i64 0), (12, i64 0), (13, bl false), (14, bl false), (15, pt b3), (16, i64 0), (17, pt b4)])
  refine end_ops ?_
  refine then_normal ?_
  refine sC (e' := [(2, i32 ld), (3, pt b1), (4, pt b2), (6, bl false), (11, i64 0), (12, i64 0), (13, bl false), (14, bl false), (15, pt b3), (16, i64 0), (17, pt b4), (18, bl true)]) 9 hA [i64 14, i64 14] (cc (hO.l1 4 0 3 (i64 14)) (cc (hO.l1 4 0 3 (i64 14)) c0)) ?_
  clear hA fr; intro fr hA
  refine wp_seq ?_
  refine sC (e' := [(2, i32 ld), (3, pt b1), (4, pt b2), (6, bl false), (11, i64 0), (12, i64 0), (13, bl false), (15, pt b3), (16, i64 0), (17, pt b4), (18, bl true), (82, bl true)]) 2 hA [] c0 ?_
  clear hA fr; intro fr hA
  refine cT hA ?_
  refine sC (e' := [(2, i32 ld), (3, pt b1), (4, pt b2), (6, bl true), (11, i64 0), (12, i64 0), (13, bl false), (15, pt b3), (16, i64 0), (17, pt b4), (18, bl true)]) 12 hA [.agg #[i64 2, i64 3, i64 0, i64 0, i64 0, i64 0, i64 0], bl true] (cc (hO.ln 0 0 43 [i64 2, i64 3, i64 0, i64 0, i64 0, i64 0, i64 0]) (cc ((eqG_of (by kernel_rfl) (by kernel_rfl)) : EqG Tryd.prog 43 (.agg #[i64 2, i64 3, i64 0, i64 0, i64 0, i64 0, i64 0]) (.agg #[i64 2, i64 3, i64 0, i64 0, i64 0, i64 0, i64 0]) true) c0)) ?_
  clear hA fr; intro fr hA
  refine wp_ret ?_
  refine then_ret ?_
  refine cR (cs := [none]) (us := [bl true]) hA [] trivial ?_
  have hF := hO.only; clear hA hO
  exact ⟨by first | rfl | (simp [pack]; done) | (simp [pack]; omega), hF⟩

theorem mem_un15 (R : Nat → Int) (pc a b c v ld : Int) (w : World) (hT : Tab w) (hR : RegsOk R) (hld : inK .i32 ld) (hl : legalB 15 a b c v = true) (hp : -1099511627776 < pc) (hp' : pc < 1099511627776) (hm : ¬ (R b.toNat + c).tmod 4 = 0) :
    Calls Tryd.prog 10 #[.agg (List.toArray (regsL R pc)), .agg #[i64 15, i64 a, i64 b, i64 c, i64 v], i32 ld] w fun e w' => e = .returned (.bool true) ∧ Only none' w w' := by
  refine c_enter (args := [.agg (List.toArray (regsL R pc)), .agg #[i64 15, i64 a, i64 b, i64 c, i64 v], i32 ld]) (m := 176) (n := 179) Tryd.func10 rfl (by kernel_rfl) (by kernel_rfl) fun fr hA => ?_
  have hO := Ow.nil Tryd.prog none' w
  have hld1 : -2147483648 ≤ ld ∧ ld ≤ 2147483647 := hld
  obtain ⟨ho_, ha_, hb_, hc_, hv_, hc2_⟩ := legal_spec hl; have hRa_ := hR a.toNat; have hRb_ := hR b.toNat; simp only [inK] at hRa_ hRb_
  have wi32 : -2147483648 ≤ IntKind.i32.wrap ld ∧ IntKind.i32.wrap ld ≤ 2147483647 := wrap_inK .i32 ld; have wu8 : 0 ≤ IntKind.u8.wrap ld ∧ IntKind.u8.wrap ld ≤ 255 := wrap_inK .u8 ld; have wu9 : 0 ≤ IntKind.u8.wrap (R a.toNat) ∧ IntKind.u8.wrap (R a.toNat) ≤ 255 := wrap_inK .u8 _; have hU1 := upd_same' R a.toNat (IntKind.i32.wrap ld); have hU2 := upd_same' R a.toNat (IntKind.u8.wrap ld)
  refine sR (l := [0, 1, 2]) ?_
  refine wpOps_cons' (mN (l := (regsL R pc)) (t := 38) (v := pt) (d := 3) hA hO ?_)
  clear hA hO fr; intro fr w1 b1 hA hO
  replace hA := hA.sb (e' := [(1, .agg #[i64 15, i64 a, i64 b, i64 c, i64 v]), (2, i32 ld), (3, pt b1)])
  refine wpOps_cons' (mN (l := [i64 15, i64 a, i64 b, i64 c, i64 v]) (t := 29) (v := pt) (d := 4) hA hO ?_)
  clear hA hO fr; intro fr w2 b2 hA hO
  replace hA := hA.sb (e' := [(2, i32 ld), (3, pt b1), (4, pt b2)])
  refine ck (l := [2]) (r := []) (e' := [(2, i32 ld), (3, pt b1), (4, pt b2), (6, bl false)]) hA [] c0 ?_
  clear hA fr; intro fr hA
  refine end_ops ?_
  refine then_normal ?_
  refine wp_seq ?_
  refine sR (l := [0, 1]) ?_
  refine wpOps_cons' (mK (f := 12) (args := []) (d := (some 19)) (v := bl true) hA hO Tryd.func12 (awake_any _ (hT.keep hO.only (fun h => h))) ?_)
  clear hA hO fr; intro fr w3 hA hO
  refine ck (l := [1]) (r := []) (e' := [(2, i32 ld), (3, pt b1), (4, pt b2), (6, bl false), (20, bl false)]) hA [] c0 ?_
  clear hA fr; intro fr hA
  refine end_ops ?_
  refine then_normal ?_
  refine cF hA ?_
  refine wp_skip ?_
  refine then_normal ?_
  refine sR (l := (rg 0 9)) ?_
  refine ck (l := [0, 1]) (r := (rg 2 7)) (e' := [(2, i32 ld), (3, pt b1), (4, pt b2), (6, bl false), (23, i64 ld)]) hA [bl true] (cc ((inK_i64 (by omega) (by omega)) : inK .i64 ld) c0) ?_
  clear hA fr; intro fr hA
  refine wpOps_cons' (mC (f := 28) (args := [i64 ld]) (d := (some 24)) hA Tryd.func28 ((put_any ld _).mono ?_))
  rintro en w4 ⟨k1, rfl, ho, hbk, hge⟩
  refine ⟨_, rfl, ?_⟩
  clear hA fr; intro fr hA
  replace hO := hO.add ho hbk hge; clear ho hbk hge
  replace hA := hA.sb (e' := [(2, i32 ld), (3, pt b1), (4, pt b2), (6, bl false), (24, .slice (some ⟨k1, 0, none⟩) 4 4)])
  refine wpOps_cons' (mK (f := 27) (args := [.slice (some ⟨k1, 0, none⟩) 4 4]) (d := (some 25)) (v := .tuple #[i64 ld, i64 0]) hA hO Tryd.func27 (rs (cword_any _ _ _ _ _ _ ((hO.b 0).sl (xs := [IntKind.u8.wrap ld, IntKind.u8.wrap (ld / 256), IntKind.u8.wrap (ld / 65536), IntKind.u8.wrap (ld / 16777216)]) (U8s.cons (wrap_inK .u8 _) (U8s.cons (wrap_inK .u8 _) (U8s.cons (wrap_inK .u8 _) (U8s.cons (wrap_inK .u8 _) U8s.nil)))) rfl (by kernel_rfl))) (congrArg (fun z => Value.tuple #[.int .i64 z, .int .i64 0]) (put_word hld))) ?_)
  clear hA hO fr; intro fr w5 hA hO
  replace hA := hA.sb (e' := [(2, i32 ld), (3, pt b1), (4, pt b2), (6, bl false), (25, .tuple #[i64 ld, i64 0])])
  refine ck (l := (rg 4 5)) (r := []) (e' := [(2, i32 ld), (3, pt b1), (4, pt b2), (6, bl false), (7, i64 ld), (8, i64 0)]) hA [] c0 ?_
  clear hA fr; intro fr hA
  refine end_ops ?_
  refine then_normal ?_
  refine wp_seq ?_
  refine sR (l := (rg 0 13)) ?_
  refine ck (l := (rg 0 9)) (r := [9, 10, 11, 12]) (e' := [(2, i32 ld), (3, pt b1), (4, pt b2), (6, bl false), (7, i64 ld), (8, i64 0), (34, bl (ld != ld)), (35, bl (ld != ld)), (36, bl (ld != ld))]) hA [bl true] (cc ((inK_i64 (by omega) (by omega)) : inK .i64 ld) c0) ?_
  clear hA fr; intro fr hA
  replace hA := hA.bool (f := fun z => [(2, i32 ld), (3, pt b1), (4, pt b2), (6, bl false), (7, i64 ld), (8, i64 0), (34, .bool z), (35, .bool z), (36, .bool z)]) (by simp : (ld != ld) = false)
  refine ck (l := [9]) (r := [10, 11, 12]) (e' := [(2, i32 ld), (3, pt b1), (4, pt b2), (6, bl false), (7, i64 ld), (8, i64 0), (36, bl false), (37, .agg (List.toArray (regsL R pc)))]) hA [.agg (List.toArray (regsL R pc))] (cc (hO.ln 2 0 38 (regsL R pc)) c0) ?_
  clear hA fr; intro fr hA
  refine wpOps_cons' (mK (f := 17) (args := [.agg (List.toArray (regsL R pc))]) (d := (some 38)) (v := bl (decide (pc > -1099511627776) && decide (pc < 1099511627776))) hA hO Tryd.func17 (tame_two R pc _) ?_)
  clear hA hO fr; intro fr w6 hA hO
  replace hA := hA.sb (e' := [(2, i32 ld), (3, pt b1), (4, pt b2), (6, bl false), (7, i64 ld), (8, i64 0), (36, bl false), (38, bl (decide (pc > -1099511627776) && decide (pc < 1099511627776)))])
  refine ck (l := [11, 12]) (r := []) (e' := [(2, i32 ld), (3, pt b1), (4, pt b2), (6, bl false), (7, i64 ld), (8, i64 0), (40, bl (!(decide (pc > -1099511627776) && decide (pc < 1099511627776))))]) hA [] c0 ?_
  clear hA fr; intro fr hA
  refine end_ops ?_
  refine then_normal ?_
  replace hA := hA.bool (f := fun z => [(2, i32 ld), (3, pt b1), (4, pt b2), (6, bl false), (7, i64 ld), (8, i64 0), (40, .bool !z)]) (by simp; omega : (decide (pc > -1099511627776) && decide (pc < 1099511627776)) = true)
  refine cF hA ?_
  refine wp_skip ?_
  refine then_normal ?_
  refine sR (l := (rg 0 7)) ?_
  refine ck (l := [0]) (r := (rg 1 6)) (e' := [(2, i32 ld), (3, pt b1), (4, pt b2), (6, bl false), (50, .agg #[i64 15, i64 a, i64 b, i64 c, i64 v])]) hA [.agg #[i64 15, i64 a, i64 b, i64 c, i64 v]] (cc (hO.ln 1 0 29 [i64 15, i64 a, i64 b, i64 c, i64 v]) c0) ?_
  clear hA fr; intro fr hA
  refine wpOps_cons' (mC (f := 15) (args := [.agg #[i64 15, i64 a, i64 b, i64 c, i64 v]]) (d := (some 51)) hA Tryd.func15 ((encode_ok 15 a b c v _ (hT.keep hO.only (fun h => h)) hl).mono ?_))
  rintro en w7 ⟨k2, rfl, ho, hbk, hge⟩
  refine ⟨_, rfl, ?_⟩
  clear hA fr; intro fr hA
  replace hO := hO.add ho hbk hge; clear ho hbk hge
  replace hA := hA.sb (e' := [(2, i32 ld), (3, pt b1), (4, pt b2), (6, bl false), (51, .tuple #[.slice (some ⟨k2, 0, none⟩) 4 4, i64 0])])
  refine ck (l := (rg 2 5)) (r := []) (e' := [(2, i32 ld), (3, pt b1), (4, pt b2), (6, bl false), (9, .slice (some ⟨k2, 0, none⟩) 4 4), (10, i64 0)]) hA [] c0 ?_
  clear hA fr; intro fr hA
  refine end_ops ?_
  refine then_normal ?_
  refine wp_seq ?_
  refine sC (e' := [(2, i32 ld), (3, pt b1), (4, pt b2), (6, bl false), (9, .slice (some ⟨k2, 0, none⟩) 4 4), (55, bl false)]) 2 hA [] c0 ?_
  clear hA fr; intro fr hA
  refine cF hA ?_
  refine wp_skip ?_
  refine then_normal ?_
  refine sR (l := (rg 0 12)) ?_
  refine ck (l := [0, 1]) (r := (rg 2 10)) (e' := [(2, i32 ld), (3, pt b1), (4, pt b2), (6, bl false), (9, .slice (some ⟨k2, 0, none⟩) 4 4), (57, .agg (List.toArray (regsL R pc))), (58, .slice (some ⟨k2, 0, none⟩) 4 4)]) hA [.agg (List.toArray (regsL R pc))] (cc (hO.ln 3 0 38 (regsL R pc)) c0) ?_
  clear hA fr; intro fr hA
  refine wpOps_cons' (mK (f := 24) (args := [.agg (List.toArray (regsL R pc)), .slice (some ⟨k2, 0, none⟩) 4 4]) (d := (some 59)) (v := .tuple #[i64 0, i64 0, bl false, bl false]) hA hO Tryd.func24 (rs (acc_any R pc _ ([IntKind.u8.wrap 15, IntKind.u8.wrap a, cond (opV 15) (IntKind.u8.wrap (v / 256)) (IntKind.u8.wrap b), cond (opV 15) (IntKind.u8.wrap v) (IntKind.u8.wrap c)]) _ (hT.keep hO.only (fun h => h)) hR ((hO.b 0).sl (xs := [IntKind.u8.wrap 15, IntKind.u8.wrap a, cond (opV 15) (IntKind.u8.wrap (v / 256)) (IntKind.u8.wrap b), cond (opV 15) (IntKind.u8.wrap v) (IntKind.u8.wrap c)]) (U8s.cons (wrap_inK .u8 _) (U8s.cons (wrap_inK .u8 _) (U8s.cons (inK_cond (wrap_inK .u8 _) (wrap_inK .u8 _)) (U8s.cons (inK_cond (wrap_inK .u8 _) (wrap_inK .u8 _)) U8s.nil)))) rfl (by kernel_rfl))) ((accX_enc R hl).trans (if_neg hm))) ?_)
  clear hA hO fr; intro fr w8 hA hO
  replace hA := hA.sb (e' := [(2, i32 ld), (3, pt b1), (4, pt b2), (6, bl false), (9, .slice (some ⟨k2, 0, none⟩) 4 4), (59, .tuple #[i64 0, i64 0, bl false, bl false])])
  refine ck (l := (rg 3 9)) (r := []) (e' := [(2, i32 ld), (3, pt b1), (4, pt b2), (6, bl false), (9, .slice (some ⟨k2, 0, none⟩) 4 4), (11, i64 0), (12, i64 0), (13, bl false), (14, bl false)]) hA [] c0 ?_
  clear hA fr; intro fr hA
  refine end_ops ?_
  refine then_normal ?_
  refine sR (l := (rg 0 14)) ?_
  refine ck (l := [0, 1, 2, 3]) (r := (rg 4 10)) (e' := [(2, i32 ld), (3, pt b1), (4, pt b2), (6, bl false), (11, i64 0), (12, i64 0), (13, bl false), (14, bl false), (65, .agg (List.toArray (regsL R pc))), (66, .slice (some ⟨k2, 0, none⟩) 4 4), (68, i64 ld)]) hA [.agg (List.toArray (regsL R pc)), bl true] (cc (hO.ln 3 0 38 (regsL R pc)) (cc ((inK_i64 (by omega) (by omega)) : inK .i64 ld) c0)) ?_
  clear hA fr; intro fr hA
  refine wpOps_cons' (mK (f := 18) (args := [.agg (List.toArray (regsL R pc)), .slice (some ⟨k2, 0, none⟩) 4 4, i64 ld]) (d := (some 69)) (v := .tuple #[.agg (List.toArray (regsL R pc)), i64 0, .agg #[i64 2, i64 3, i64 0, i64 0, i64 0, i64 0, i64 0]]) hA hO Tryd.func18 (rs (exec_any R pc ld _ ([IntKind.u8.wrap 15, IntKind.u8.wrap a, cond (opV 15) (IntKind.u8.wrap (v / 256)) (IntKind.u8.wrap b), cond (opV 15) (IntKind.u8.wrap v) (IntKind.u8.wrap c)]) _ (hT.keep hO.only (fun h => h)) hR hp hp' ((hO.b 0).sl (xs := [IntKind.u8.wrap 15, IntKind.u8.wrap a, cond (opV 15) (IntKind.u8.wrap (v / 256)) (IntKind.u8.wrap b), cond (opV 15) (IntKind.u8.wrap v) (IntKind.u8.wrap c)]) (U8s.cons (wrap_inK .u8 _) (U8s.cons (wrap_inK .u8 _) (U8s.cons (inK_cond (wrap_inK .u8 _) (wrap_inK .u8 _)) (U8s.cons (inK_cond (wrap_inK .u8 _) (wrap_inK .u8 _)) U8s.nil)))) rfl (by kernel_rfl))) ((execX_enc R pc ld hl).trans (if_neg hm))) ?_)
  clear hA hO fr; intro fr w9 hA hO
  replace hA := hA.sb (e' := [(2, i32 ld), (3, pt b1), (4, pt b2), (6, bl false), (11, i64 0), (12, i64 0), (13, bl false), (14, bl false), (69, .tuple #[.agg (List.toArray (regsL R pc)), i64 0, .agg #[i64 2, i64 3, i64 0, i64 0, i64 0, i64 0, i64 0]])])
  refine ck (l := [5, 6, 7, 8]) (r := (rg 9 5)) (e' := [(2, i32 ld), (3, pt b1), (4, pt b2), (6, bl false), (11, i64 0), (12, i64 0), (13, bl false), (14, bl false), (70, .agg (List.toArray (regsL R pc))), (71, i64 0), (72, .agg #[i64 2, i64 3, i64 0, i64 0, i64 0, i64 0, i64 0])]) hA [] c0 ?_
  clear hA fr; intro fr hA
  refine wpOps_cons' (mN (l := [i32 0, i32 0, i32 0, i32 0, i32 0, i32 0, i32 0, i32 0, i32 0, i32 0, i32 0, i32 0, i32 0, i32 0, i32 0, i32 0, i64 0]) (t := 40) (v := pt) (d := 15) hA hO ?_)
  clear hA hO fr; intro fr w10 b3 hA hO
  refine wpOps_cons' (mN (l := [i64 0, i64 0, i64 0, i64 0, i64 0, i64 0, i64 0]) (t := 43) (v := pt) (d := 17) hA hO ?_)
  clear hA hO fr; intro fr w11 b4 hA hO
  refine wpOps_cons' (mS (off := 0) (vc := (regsL R pc)) 1 hA hO ?_)
  clear hO; intro w12 hO
  replace hA := hA.sb (e' := [(2, i32 ld), (3, pt b1), (4, pt b2), (6, bl false), (11, i64 0), (12, i64 0), (13, bl false), (14, bl false), (15, pt b3), (17, pt b4), (71, i64 0), (72, .agg #[i64 2, i64 3, i64 0, i64 0, i64 0, i64 0, i64 0])])
  refine ck (l := [12]) (r := [13]) (e' := [(2, i32 ld), (3, pt b1), (4, pt b2), (6, bl false), (11, i64 0), (12, i64 0), (13, bl false), (14, bl false), (15, pt b3), (16, i64 0), (17, pt b4), (72, .agg #[i64 2, i64 3, i64 0, i64 0, i64 0, i64 0, i64 0])]) hA [] c0 ?_
  clear hA fr; intro fr hA
  refine wpOps_cons' (mS (off := 0) (vc := [i64 2, i64 3, i64 0, i64 0, i64 0, i64 0, i64 0]) 0 hA hO ?_)
  clear hO; intro w13 hO
  replace hA := hA.sb (e' := [(2, i32 ld), (3, pt b1), (4, pt b2), (6, bl false), (11, i64 0), (12, i64 0), (13, bl false), (14, bl false), (15, pt b3), (16, i64 0), (17, pt b4)])
  refine end_ops ?_
  refine then_normal ?_
  refine sC (e' := [(2, i32 ld), (3, pt b1), (4, pt b2), (6, bl false), (11, i64 0), (12, i64 0), (13, bl false), (14, bl false), (15, pt b3), (16, i64 0), (17, pt b4), (18, bl true)]) 9 hA [i64 15, i64 15] (cc (hO.l1 4 0 3 (i64 15)) (cc (hO.l1 4 0 3 (i64 15)) c0)) ?_
  clear hA fr; intro fr hA
  refine wp_seq ?_
  refine sC (e' := [(2, i32 ld), (3, pt b1), (4, pt b2), (6, bl false), (11, i64 0), (12, i64 0), (13, bl false), (15, pt b3), (16, i64 0), (17, pt b4), (18, bl true), (82, bl true)]) 2 hA [] c0 ?_
  clear hA fr; intro fr hA
  refine cT hA ?_
  refine sC (e' := [(2, i32 ld), (3, pt b1), (4, pt b2), (6, bl true), (11, i64 0), (12, i64 0), (13, bl false), (15, pt b3), (16, i64 0), (17, pt b4), (18, bl true)]) 12 hA [.agg #[i64 2, i64 3, i64 0, i64 0, i64 0, i64 0, i64 0], bl true] (cc (hO.ln 0 0 43 [i64 2, i64 3, i64 0, i64 0, i64 0, i64 0, i64 0]) (cc ((eqG_of (by kernel_rfl) (by kernel_rfl)) : EqG Tryd.prog 43 (.agg #[i64 2, i64 3, i64 0, i64 0, i64 0, i64 0, i64 0]) (.agg #[i64 2, i64 3, i64 0, i64 0, i64 0, i64 0, i64 0]) true) c0)) ?_
  clear hA fr; intro fr hA
  refine wp_ret ?_
  refine then_ret ?_
  refine cR (cs := [none]) (us := [bl true]) hA [] trivial ?_
  have hF := hO.only; clear hA hO
  exact ⟨by first | rfl | (simp [pack]; done) | (simp [pack]; omega), hF⟩

theorem mem_14 (R : Nat → Int) (pc a b c v ld : Int) (w : World) (hT : Tab w) (hR : RegsOk R) (hld : inK .i32 ld) (hl : legalB 14 a b c v = true) (hp : -1099511627776 < pc) (hp' : pc < 1099511627776) (hm : (R b.toNat + c).tmod 4 = 0) :
    Calls Tryd.prog 10 #[.agg (List.toArray (regsL R pc)), .agg #[i64 14, i64 a, i64 b, i64 c, i64 v], i32 ld] w fun e w' => e = .returned (.bool true) ∧ Only none' w w' := by
  refine c_enter (args := [.agg (List.toArray (regsL R pc)), .agg #[i64 14, i64 a, i64 b, i64 c, i64 v], i32 ld]) (m := 176) (n := 179) Tryd.func10 rfl (by kernel_rfl) (by kernel_rfl) fun fr hA => ?_
  have hO := Ow.nil Tryd.prog none' w
  have hld1 : -2147483648 ≤ ld ∧ ld ≤ 2147483647 := hld
  obtain ⟨ho_, ha_, hb_, hc_, hv_, hc2_⟩ := legal_spec hl; have hRa_ := hR a.toNat; have hRb_ := hR b.toNat; simp only [inK] at hRa_ hRb_
  have wi32 : -2147483648 ≤ IntKind.i32.wrap ld ∧ IntKind.i32.wrap ld ≤ 2147483647 := wrap_inK .i32 ld; have wu8 : 0 ≤ IntKind.u8.wrap ld ∧ IntKind.u8.wrap ld ≤ 255 := wrap_inK .u8 ld; have wu9 : 0 ≤ IntKind.u8.wrap (R a.toNat) ∧ IntKind.u8.wrap (R a.toNat) ≤ 255 := wrap_inK .u8 _; have hU1 := upd_same' R a.toNat (IntKind.i32.wrap ld); have hU2 := upd_same' R a.toNat (IntKind.u8.wrap ld)
  refine sR (l := [0, 1, 2]) ?_
  refine wpOps_cons' (mN (l := (regsL R pc)) (t := 38) (v := pt) (d := 3) hA hO ?_)
  clear hA hO fr; intro fr w1 b1 hA hO
  replace hA := hA.sb (e' := [(1, .agg #[i64 14, i64 a, i64 b, i64 c, i64 v]), (2, i32 ld), (3, pt b1)])
  refine wpOps_cons' (mN (l := [i64 14, i64 a, i64 b, i64 c, i64 v]) (t := 29) (v := pt) (d := 4) hA hO ?_)
  clear hA hO fr; intro fr w2 b2 hA hO
  replace hA := hA.sb (e' := [(2, i32 ld), (3, pt b1), (4, pt b2)])
  refine ck (l := [2]) (r := []) (e' := [(2, i32 ld), (3, pt b1), (4, pt b2), (6, bl false)]) hA [] c0 ?_
  clear hA fr; intro fr hA
  refine end_ops ?_
  refine then_normal ?_
  refine wp_seq ?_
  refine sR (l := [0, 1]) ?_
  refine wpOps_cons' (mK (f := 12) (args := []) (d := (some 19)) (v := bl true) hA hO Tryd.func12 (awake_any _ (hT.keep hO.only (fun h => h))) ?_)
  clear hA hO fr; intro fr w3 hA hO
  refine ck (l := [1]) (r := []) (e' := [(2, i32 ld), (3, pt b1), (4, pt b2), (6, bl false), (20, bl false)]) hA [] c0 ?_
  clear hA fr; intro fr hA
  refine end_ops ?_
  refine then_normal ?_
  refine cF hA ?_
  refine wp_skip ?_
  refine then_normal ?_
  refine sR (l := (rg 0 9)) ?_
  refine ck (l := [0, 1]) (r := (rg 2 7)) (e' := [(2, i32 ld), (3, pt b1), (4, pt b2), (6, bl false), (23, i64 ld)]) hA [bl true] (cc ((inK_i64 (by omega) (by omega)) : inK .i64 ld) c0) ?_
  clear hA fr; intro fr hA
  refine wpOps_cons' (mC (f := 28) (args := [i64 ld]) (d := (some 24)) hA Tryd.func28 ((put_any ld _).mono ?_))
  rintro en w4 ⟨k1, rfl, ho, hbk, hge⟩
  refine ⟨_, rfl, ?_⟩
  clear hA fr; intro fr hA
  replace hO := hO.add ho hbk hge; clear ho hbk hge
  replace hA := hA.sb (e' := [(2, i32 ld), (3, pt b1), (4, pt b2), (6, bl false), (24, .slice (some ⟨k1, 0, none⟩) 4 4)])
  refine wpOps_cons' (mK (f := 27) (args := [.slice (some ⟨k1, 0, none⟩) 4 4]) (d := (some 25)) (v := .tuple #[i64 ld, i64 0]) hA hO Tryd.func27 (rs (cword_any _ _ _ _ _ _ ((hO.b 0).sl (xs := [IntKind.u8.wrap ld, IntKind.u8.wrap (ld / 256), IntKind.u8.wrap (ld / 65536), IntKind.u8.wrap (ld / 16777216)]) (U8s.cons (wrap_inK .u8 _) (U8s.cons (wrap_inK .u8 _) (U8s.cons (wrap_inK .u8 _) (U8s.cons (wrap_inK .u8 _) U8s.nil)))) rfl (by kernel_rfl))) (congrArg (fun z => Value.tuple #[.int .i64 z, .int .i64 0]) (put_word hld))) ?_)
  clear hA hO fr; intro fr w5 hA hO
  replace hA := hA.sb (e' := [(2, i32 ld), (3, pt b1), (4, pt b2), (6, bl false), (25, .tuple #[i64 ld, i64 0])])
  refine ck (l := (rg 4 5)) (r := []) (e' := [(2, i32 ld), (3, pt b1), (4, pt b2), (6, bl false), (7, i64 ld), (8, i64 0)]) hA [] c0 ?_
  clear hA fr; intro fr hA
  refine end_ops ?_
  refine then_normal ?_
  refine wp_seq ?_
  refine sR (l := (rg 0 13)) ?_
  refine ck (l := (rg 0 9)) (r := [9, 10, 11, 12]) (e' := [(2, i32 ld), (3, pt b1), (4, pt b2), (6, bl false), (7, i64 ld), (8, i64 0), (34, bl (ld != ld)), (35, bl (ld != ld)), (36, bl (ld != ld))]) hA [bl true] (cc ((inK_i64 (by omega) (by omega)) : inK .i64 ld) c0) ?_
  clear hA fr; intro fr hA
  replace hA := hA.bool (f := fun z => [(2, i32 ld), (3, pt b1), (4, pt b2), (6, bl false), (7, i64 ld), (8, i64 0), (34, .bool z), (35, .bool z), (36, .bool z)]) (by simp : (ld != ld) = false)
  refine ck (l := [9]) (r := [10, 11, 12]) (e' := [(2, i32 ld), (3, pt b1), (4, pt b2), (6, bl false), (7, i64 ld), (8, i64 0), (36, bl false), (37, .agg (List.toArray (regsL R pc)))]) hA [.agg (List.toArray (regsL R pc))] (cc (hO.ln 2 0 38 (regsL R pc)) c0) ?_
  clear hA fr; intro fr hA
  refine wpOps_cons' (mK (f := 17) (args := [.agg (List.toArray (regsL R pc))]) (d := (some 38)) (v := bl (decide (pc > -1099511627776) && decide (pc < 1099511627776))) hA hO Tryd.func17 (tame_two R pc _) ?_)
  clear hA hO fr; intro fr w6 hA hO
  replace hA := hA.sb (e' := [(2, i32 ld), (3, pt b1), (4, pt b2), (6, bl false), (7, i64 ld), (8, i64 0), (36, bl false), (38, bl (decide (pc > -1099511627776) && decide (pc < 1099511627776)))])
  refine ck (l := [11, 12]) (r := []) (e' := [(2, i32 ld), (3, pt b1), (4, pt b2), (6, bl false), (7, i64 ld), (8, i64 0), (40, bl (!(decide (pc > -1099511627776) && decide (pc < 1099511627776))))]) hA [] c0 ?_
  clear hA fr; intro fr hA
  refine end_ops ?_
  refine then_normal ?_
  replace hA := hA.bool (f := fun z => [(2, i32 ld), (3, pt b1), (4, pt b2), (6, bl false), (7, i64 ld), (8, i64 0), (40, .bool !z)]) (by simp; omega : (decide (pc > -1099511627776) && decide (pc < 1099511627776)) = true)
  refine cF hA ?_
  refine wp_skip ?_
  refine then_normal ?_
  refine sR (l := (rg 0 7)) ?_
  refine ck (l := [0]) (r := (rg 1 6)) (e' := [(2, i32 ld), (3, pt b1), (4, pt b2), (6, bl false), (50, .agg #[i64 14, i64 a, i64 b, i64 c, i64 v])]) hA [.agg #[i64 14, i64 a, i64 b, i64 c, i64 v]] (cc (hO.ln 1 0 29 [i64 14, i64 a, i64 b, i64 c, i64 v]) c0) ?_
  clear hA fr; intro fr hA
  refine wpOps_cons' (mC (f := 15) (args := [.agg #[i64 14, i64 a, i64 b, i64 c, i64 v]]) (d := (some 51)) hA Tryd.func15 ((encode_ok 14 a b c v _ (hT.keep hO.only (fun h => h)) hl).mono ?_))
  rintro en w7 ⟨k2, rfl, ho, hbk, hge⟩
  refine ⟨_, rfl, ?_⟩
  clear hA fr; intro fr hA
  replace hO := hO.add ho hbk hge; clear ho hbk hge
  replace hA := hA.sb (e' := [(2, i32 ld), (3, pt b1), (4, pt b2), (6, bl false), (51, .tuple #[.slice (some ⟨k2, 0, none⟩) 4 4, i64 0])])
  refine ck (l := (rg 2 5)) (r := []) (e' := [(2, i32 ld), (3, pt b1), (4, pt b2), (6, bl false), (9, .slice (some ⟨k2, 0, none⟩) 4 4), (10, i64 0)]) hA [] c0 ?_
  clear hA fr; intro fr hA
  refine end_ops ?_
  refine then_normal ?_
  refine wp_seq ?_
  refine sC (e' := [(2, i32 ld), (3, pt b1), (4, pt b2), (6, bl false), (9, .slice (some ⟨k2, 0, none⟩) 4 4), (55, bl false)]) 2 hA [] c0 ?_
  clear hA fr; intro fr hA
  refine cF hA ?_
  refine wp_skip ?_
  refine then_normal ?_
  refine sR (l := (rg 0 12)) ?_
  refine ck (l := [0, 1]) (r := (rg 2 10)) (e' := [(2, i32 ld), (3, pt b1), (4, pt b2), (6, bl false), (9, .slice (some ⟨k2, 0, none⟩) 4 4), (57, .agg (List.toArray (regsL R pc))), (58, .slice (some ⟨k2, 0, none⟩) 4 4)]) hA [.agg (List.toArray (regsL R pc))] (cc (hO.ln 3 0 38 (regsL R pc)) c0) ?_
  clear hA fr; intro fr hA
  refine wpOps_cons' (mK (f := 24) (args := [.agg (List.toArray (regsL R pc)), .slice (some ⟨k2, 0, none⟩) 4 4]) (d := (some 59)) (v := .tuple #[i64 (R b.toNat + c), i64 4, bl false, bl true]) hA hO Tryd.func24 (rs (acc_any R pc _ ([IntKind.u8.wrap 14, IntKind.u8.wrap a, cond (opV 14) (IntKind.u8.wrap (v / 256)) (IntKind.u8.wrap b), cond (opV 14) (IntKind.u8.wrap v) (IntKind.u8.wrap c)]) _ (hT.keep hO.only (fun h => h)) hR ((hO.b 0).sl (xs := [IntKind.u8.wrap 14, IntKind.u8.wrap a, cond (opV 14) (IntKind.u8.wrap (v / 256)) (IntKind.u8.wrap b), cond (opV 14) (IntKind.u8.wrap v) (IntKind.u8.wrap c)]) (U8s.cons (wrap_inK .u8 _) (U8s.cons (wrap_inK .u8 _) (U8s.cons (inK_cond (wrap_inK .u8 _) (wrap_inK .u8 _)) (U8s.cons (inK_cond (wrap_inK .u8 _) (wrap_inK .u8 _)) U8s.nil)))) rfl (by kernel_rfl))) ((accX_enc R hl).trans (if_pos hm))) ?_)
  clear hA hO fr; intro fr w8 hA hO
  replace hA := hA.sb (e' := [(2, i32 ld), (3, pt b1), (4, pt b2), (6, bl false), (9, .slice (some ⟨k2, 0, none⟩) 4 4), (59, .tuple #[i64 (R b.toNat + c), i64 4, bl false, bl true])])
  refine ck (l := (rg 3 9)) (r := []) (e' := [(2, i32 ld), (3, pt b1), (4, pt b2), (6, bl false), (9, .slice (some ⟨k2, 0, none⟩) 4 4), (11, i64 (R b.toNat + c)), (12, i64 4), (13, bl false), (14, bl true)]) hA [] c0 ?_
  clear hA fr; intro fr hA
  refine end_ops ?_
  refine then_normal ?_
  refine sR (l := (rg 0 14)) ?_
  refine ck (l := [0, 1, 2, 3]) (r := (rg 4 10)) (e' := [(2, i32 ld), (3, pt b1), (4, pt b2), (6, bl false), (11, i64 (R b.toNat + c)), (12, i64 4), (13, bl false), (14, bl true), (65, .agg (List.toArray (regsL R pc))), (66, .slice (some ⟨k2, 0, none⟩) 4 4), (68, i64 ld)]) hA [.agg (List.toArray (regsL R pc)), bl true] (cc (hO.ln 3 0 38 (regsL R pc)) (cc ((inK_i64 (by omega) (by omega)) : inK .i64 ld) c0)) ?_
  clear hA fr; intro fr hA
  refine wpOps_cons' (mK (f := 18) (args := [.agg (List.toArray (regsL R pc)), .slice (some ⟨k2, 0, none⟩) 4 4, i64 ld]) (d := (some 69)) (v := .tuple #[.agg (List.toArray (regsL (upd R a.toNat (IntKind.i32.wrap ld)) (pc + 4))), i64 0, .agg #[i64 0, i64 0, i64 0, i64 0, i64 0, i64 0, i64 0]]) hA hO Tryd.func18 (rs (exec_any R pc ld _ ([IntKind.u8.wrap 14, IntKind.u8.wrap a, cond (opV 14) (IntKind.u8.wrap (v / 256)) (IntKind.u8.wrap b), cond (opV 14) (IntKind.u8.wrap v) (IntKind.u8.wrap c)]) _ (hT.keep hO.only (fun h => h)) hR hp hp' ((hO.b 0).sl (xs := [IntKind.u8.wrap 14, IntKind.u8.wrap a, cond (opV 14) (IntKind.u8.wrap (v / 256)) (IntKind.u8.wrap b), cond (opV 14) (IntKind.u8.wrap v) (IntKind.u8.wrap c)]) (U8s.cons (wrap_inK .u8 _) (U8s.cons (wrap_inK .u8 _) (U8s.cons (inK_cond (wrap_inK .u8 _) (wrap_inK .u8 _)) (U8s.cons (inK_cond (wrap_inK .u8 _) (wrap_inK .u8 _)) U8s.nil)))) rfl (by kernel_rfl))) ((execX_enc R pc ld hl).trans (if_pos hm))) ?_)
  clear hA hO fr; intro fr w9 hA hO
  replace hA := hA.sb (e' := [(2, i32 ld), (3, pt b1), (4, pt b2), (6, bl false), (11, i64 (R b.toNat + c)), (12, i64 4), (13, bl false), (14, bl true), (69, .tuple #[.agg (List.toArray (regsL (upd R a.toNat (IntKind.i32.wrap ld)) (pc + 4))), i64 0, .agg #[i64 0, i64 0, i64 0, i64 0, i64 0, i64 0, i64 0]])])
  refine ck (l := [5, 6, 7, 8]) (r := (rg 9 5)) (e' := [(2, i32 ld), (3, pt b1), (4, pt b2), (6, bl false), (11, i64 (R b.toNat + c)), (12, i64 4), (13, bl false), (14, bl true), (70, .agg (List.toArray (regsL (upd R a.toNat (IntKind.i32.wrap ld)) (pc + 4)))), (71, i64 0), (72, .agg #[i64 0, i64 0, i64 0, i64 0, i64 0, i64 0, i64 0])]) hA [] c0 ?_
  clear hA fr; intro fr hA
  refine wpOps_cons' (mN (l := [i32 0, i32 0, i32 0, i32 0, i32 0, i32 0, i32 0, i32 0, i32 0, i32 0, i32 0, i32 0, i32 0, i32 0, i32 0, i32 0, i64 0]) (t := 40) (v := pt) (d := 15) hA hO ?_)
  clear hA hO fr; intro fr w10 b3 hA hO
  refine wpOps_cons' (mN (l := [i64 0, i64 0, i64 0, i64 0, i64 0, i64 0, i64 0]) (t := 43) (v := pt) (d := 17) hA hO ?_)
  clear hA hO fr; intro fr w11 b4 hA hO
  refine wpOps_cons' (mS (off := 0) (vc := (regsL (upd R a.toNat (IntKind.i32.wrap ld)) (pc + 4))) 1 hA hO ?_)
  clear hO; intro w12 hO
  replace hA := hA.sb (e' := [(2, i32 ld), (3, pt b1), (4, pt b2), (6, bl false), (11, i64 (R b.toNat + c)), (12, i64 4), (13, bl false), (14, bl true), (15, pt b3), (17, pt b4), (71, i64 0), (72, .agg #[i64 0, i64 0, i64 0, i64 0, i64 0, i64 0, i64 0])])
  refine ck (l := [12]) (r := [13]) (e' := [(2, i32 ld), (3, pt b1), (4, pt b2), (6, bl false), (11, i64 (R b.toNat + c)), (12, i64 4), (13, bl false), (14, bl true), (15, pt b3), (16, i64 0), (17, pt b4), (72, .agg #[i64 0, i64 0, i64 0, i64 0, i64 0, i64 0, i64 0])]) hA [] c0 ?_
  clear hA fr; intro fr hA
  refine wpOps_cons' (mS (off := 0) (vc := [i64 0, i64 0, i64 0, i64 0, i64 0, i64 0, i64 0]) 0 hA hO ?_)
  clear hO; intro w13 hO
  replace hA := hA.sb (e' := [(2, i32 ld), (3, pt b1), (4, pt b2), (6, bl false), (11, i64 (R b.toNat + c)), (12, i64 4), (13, bl false), (14, bl true), (15, pt b3), (16, i64 0), (17, pt b4)])
  refine end_ops ?_
  refine then_normal ?_
  refine sC (e' := [(2, i32 ld), (3, pt b1), (4, pt b2), (6, bl false), (11, i64 (R b.toNat + c)), (12, i64 4), (13, bl false), (14, bl true), (15, pt b3), (16, i64 0), (17, pt b4), (18, bl true)]) 9 hA [i64 14, i64 14] (cc (hO.l1 4 0 3 (i64 14)) (cc (hO.l1 4 0 3 (i64 14)) c0)) ?_
  clear hA fr; intro fr hA
  refine wp_seq ?_
  refine sC (e' := [(2, i32 ld), (3, pt b1), (4, pt b2), (6, bl false), (11, i64 (R b.toNat + c)), (12, i64 4), (13, bl false), (15, pt b3), (16, i64 0), (17, pt b4), (18, bl true), (82, bl false)]) 2 hA [] c0 ?_
  clear hA fr; intro fr hA
  refine cF hA ?_
  refine wp_skip ?_
  refine then_normal ?_
  refine wp_seq ?_
  refine wp_seq ?_
  have hS := hO
  refine rP [(0, true), (1, true), (2, true), (3, true), (4, true), (5, true), (6, true), (7, true), (8, true), (9, true), (10, true), (11, true), (12, true), (13, true), (14, true), (15, true), (16, true), (17, true), (18, true), (19, true), (20, true), (21, true), (22, true), (23, true), (24, true), (25, true)] hS ?_
  intro w14 ho; replace hO := hO.st ho; clear ho
  refine ckS (l := (rg 0 16)) (r := [(16, true), (17, true), (18, true), (19, true), (20, true), (21, true), (22, true), (23, true), (24, true), (25, true)]) (e' := [(2, i32 ld), (3, pt b1), (4, pt b2), (6, bl false), (11, i64 (R b.toNat + c)), (12, i64 4), (13, bl false), (15, pt b3), (16, i64 0), (17, pt b4), (107, bl ((R b.toNat + c) != ((R ((b).toNat)) + c))), (108, bl ((R b.toNat + c) != ((R ((b).toNat)) + c))), (109, bl ((R b.toNat + c) != ((R ((b).toNat)) + c)))]) hA [i64 b, i32 (R ((b).toNat)), bl true, i64 c, bl true] (cc (hS.s1 4 2 3 (i64 b)) (cc (⟨by omega, by omega⟩ : (0 : Int) ≤ b ∧ b < ((16 : Nat) : Int)) (cc (hS.sx ((⟨b1, 0, none⟩ : Addr).add ((b).toNat)) 21 (i32 (R ((b).toNat))) fun _ hO => (ld_regs (hO.b 5) (by omega) (by kernel_rfl))) (cc ((inK_up (by kernel_rfl) (hR _)) : inK .i64 (R ((b).toNat))) (cc (hS.s1 4 3 3 (i64 c)) (cc ((inK_i64 (by omega) (by omega)) : inK .i64 ((R ((b).toNat)) + c)) c0)))))) ?_
  clear hA fr; intro fr hA
  replace hA := hA.bool (f := fun z => [(2, i32 ld), (3, pt b1), (4, pt b2), (6, bl false), (11, i64 (R b.toNat + c)), (12, i64 4), (13, bl false), (15, pt b3), (16, i64 0), (17, pt b4), (107, .bool z), (108, .bool z), (109, .bool z)]) (by simp : ((R b.toNat + c) != ((R ((b).toNat)) + c)) = false)
  refine ckS (l := (rg 16 6)) (r := [(22, true), (23, true), (24, true), (25, true)]) (e' := [(2, i32 ld), (3, pt b1), (4, pt b2), (6, bl false), (12, i64 4), (13, bl false), (15, pt b3), (16, i64 0), (17, pt b4), (113, bl (((R b.toNat + c).tmod 4) != 0)), (114, bl (((R b.toNat + c).tmod 4) != 0)), (115, bl (((R b.toNat + c).tmod 4) != 0))]) hA [bl false] (cc (by omega : 4 ≠ (0 : Int)) c0) ?_
  clear hA fr; intro fr hA
  replace hA := hA.bool (f := fun z => [(2, i32 ld), (3, pt b1), (4, pt b2), (6, bl false), (12, i64 4), (13, bl false), (15, pt b3), (16, i64 0), (17, pt b4), (113, .bool z), (114, .bool z), (115, .bool z)]) (by rw [hm]; rfl : (((R b.toNat + c).tmod 4) != 0) = false)
  refine ckS (l := [22, 23, 24, 25]) (r := []) (e' := [(2, i32 ld), (3, pt b1), (4, pt b2), (6, bl false), (12, i64 4), (13, bl false), (15, pt b3), (16, i64 0), (119, bl false)]) hA [.agg #[i64 0, i64 0, i64 0, i64 0, i64 0, i64 0, i64 0], bl true] (cc (hS.sn 0 0 43 [i64 0, i64 0, i64 0, i64 0, i64 0, i64 0, i64 0]) (cc ((eqG_of (by kernel_rfl) (by kernel_rfl)) : EqG Tryd.prog 43 (.agg #[i64 0, i64 0, i64 0, i64 0, i64 0, i64 0, i64 0]) (.agg #[i64 0, i64 0, i64 0, i64 0, i64 0, i64 0, i64 0]) true) c0)) ?_
  clear hA fr; intro fr hA
  refine end_plan ?_
  refine then_normal ?_
  refine cF hA ?_
  refine wp_skip ?_
  refine then_normal ?_
  refine wp_seq ?_
  refine sC (e' := [(2, i32 ld), (3, pt b1), (4, pt b2), (6, bl false), (12, i64 4), (15, pt b3), (16, i64 0), (120, bl false)]) 1 hA [] c0 ?_
  clear hA fr; intro fr hA
  refine cF hA ?_
  refine wp_skip ?_
  refine then_normal ?_
  refine wp_seq ?_
  have hS := hO
  refine rP [(0, true), (1, true), (2, true), (3, true), (4, true), (5, true), (6, true), (7, true), (8, true), (9, true), (10, true), (11, true), (12, true), (13, true), (14, true), (15, true), (16, true), (17, true), (18, true), (19, true), (20, true), (21, true), (22, true), (23, true), (24, true), (25, true), (26, true), (27, true), (28, true), (29, true), (30, true), (31, true), (32, true), (33, true), (34, true), (35, true), (36, true), (37, true), (38, true)] hS ?_
  intro w15 ho; replace hO := hO.st ho; clear ho
  refine ckS (l := (rg 0 19)) (r := [(19, true), (20, true), (21, true), (22, true), (23, true), (24, true), (25, true), (26, true), (27, true), (28, true), (29, true), (30, true), (31, true), (32, true), (33, true), (34, true), (35, true), (36, true), (37, true), (38, true)]) (e' := [(4, pt b2), (6, bl false), (12, i64 4), (15, pt b3), (157, bl (((((upd R a.toNat (IntKind.i32.wrap ld)) ((a).toNat)) - ld).tmod 4294967296) == 0)), (158, bl (((((upd R a.toNat (IntKind.i32.wrap ld)) ((a).toNat)) - ld).tmod 4294967296) == 0)), (159, bl (((((upd R a.toNat (IntKind.i32.wrap ld)) ((a).toNat)) - ld).tmod 4294967296) == 0))]) hA [i64 a, i32 ((upd R a.toNat (IntKind.i32.wrap ld)) ((a).toNat)), bl true, bl true, bl true, bl false, bl false, bl false] (cc (hS.s1 4 1 3 (i64 a)) (cc (⟨by omega, by omega⟩ : (0 : Int) ≤ a ∧ a < ((16 : Nat) : Int)) (cc (hS.sx ((⟨b3, 0, none⟩ : Addr).add ((a).toNat)) 21 (i32 ((upd R a.toNat (IntKind.i32.wrap ld)) ((a).toNat))) fun _ hO => (ld_regs (hO.b 1) (by omega) (by kernel_rfl))) (cc ((inK_up (by kernel_rfl) (updOk2 hR (wrap_inK .i32 _) _)) : inK .i64 ((upd R a.toNat (IntKind.i32.wrap ld)) ((a).toNat))) (cc ((inK_i64 (by omega) (by omega)) : inK .i64 ld) (cc ((inK_i64 (by omega) (by omega)) : inK .i64 (((upd R a.toNat (IntKind.i32.wrap ld)) ((a).toNat)) - ld)) (cc (by omega : (0 : Int) ≤ 32) (cc (by omega : 4294967296 ≠ (0 : Int)) c0)))))))) ?_
  clear hA fr; intro fr hA
  replace hA := hA.bool (f := fun z => [(4, pt b2), (6, bl false), (12, i64 4), (15, pt b3), (157, .bool z), (158, .bool z), (159, .bool z)]) (by first | exact mem_z _ (by rw [upd_same']; exact i32_q' _) | exact mem_z _ (by rw [upd_same']; exact u8_q _) : (((((upd R a.toNat (IntKind.i32.wrap ld)) ((a).toNat)) - ld).tmod 4294967296) == 0) = true)
  refine ckS (l := (rg 19 20)) (r := []) (e' := [(6, bl true)]) hA [] c0 ?_
  clear hA fr; intro fr hA
  refine end_plan ?_
  refine then_normal ?_
  refine wp_ret ?_
  refine cR (cs := [none]) (us := [bl true]) hA [] trivial ?_
  have hF := hO.only; clear hA hO
  exact ⟨by first | rfl | (simp [pack]; done) | (simp [pack]; omega), hF⟩

theorem mem_15 (R : Nat → Int) (pc a b c v ld : Int) (w : World) (hT : Tab w) (hR : RegsOk R) (hld : inK .i32 ld) (hl : legalB 15 a b c v = true) (hp : -1099511627776 < pc) (hp' : pc < 1099511627776) (hm : (R b.toNat + c).tmod 4 = 0) :
    Calls Tryd.prog 10 #[.agg (List.toArray (regsL R pc)), .agg #[i64 15, i64 a, i64 b, i64 c, i64 v], i32 ld] w fun e w' => e = .returned (.bool true) ∧ Only none' w w' := by
  refine c_enter (args := [.agg (List.toArray (regsL R pc)), .agg #[i64 15, i64 a, i64 b, i64 c, i64 v], i32 ld]) (m := 176) (n := 179) Tryd.func10 rfl (by kernel_rfl) (by kernel_rfl) fun fr hA => ?_
  have hO := Ow.nil Tryd.prog none' w
  have hld1 : -2147483648 ≤ ld ∧ ld ≤ 2147483647 := hld
  obtain ⟨ho_, ha_, hb_, hc_, hv_, hc2_⟩ := legal_spec hl; have hRa_ := hR a.toNat; have hRb_ := hR b.toNat; simp only [inK] at hRa_ hRb_
  have wi32 : -2147483648 ≤ IntKind.i32.wrap ld ∧ IntKind.i32.wrap ld ≤ 2147483647 := wrap_inK .i32 ld; have wu8 : 0 ≤ IntKind.u8.wrap ld ∧ IntKind.u8.wrap ld ≤ 255 := wrap_inK .u8 ld; have wu9 : 0 ≤ IntKind.u8.wrap (R a.toNat) ∧ IntKind.u8.wrap (R a.toNat) ≤ 255 := wrap_inK .u8 _; have hU1 := upd_same' R a.toNat (IntKind.i32.wrap ld); have hU2 := upd_same' R a.toNat (IntKind.u8.wrap ld)
  refine sR (l := [0, 1, 2]) ?_
  refine wpOps_cons' (mN (l := (regsL R pc)) (t := 38) (v := pt) (d := 3) hA hO ?_)
  clear hA hO fr; intro fr w1 b1 hA hO
  replace hA := hA.sb (e' := [(1, .agg #[i64 15, i64 a, i64 b, i64 c, i64 v]), (2, i32 ld), (3, pt b1)])
  refine wpOps_cons' (mN (l := [i64 15, i64 a, i64 b, i64 c, i64 v]) (t := 29) (v := pt) (d := 4) hA hO ?_)
  clear hA hO fr; intro fr w2 b2 hA hO
  replace hA := hA.sb (e' := [(2, i32 ld), (3, pt b1), (4, pt b2)])
  refine ck (l := [2]) (r := []) (e' := [(2, i32 ld), (3, pt b1), (4, pt b2), (6, bl false)]) hA [] c0 ?_
  clear hA fr; intro fr hA
  refine end_ops ?_
  refine then_normal ?_
  refine wp_seq ?_
  refine sR (l := [0, 1]) ?_
  refine wpOps_cons' (mK (f := 12) (args := []) (d := (some 19)) (v := bl true) hA hO Tryd.func12 (awake_any _ (hT.keep hO.only (fun h => h))) ?_)
  clear hA hO fr; intro fr w3 hA hO
  refine ck (l := [1]) (r := []) (e' := [(2, i32 ld), (3, pt b1), (4, pt b2), (6, bl false), (20, bl false)]) hA [] c0 ?_
  clear hA fr; intro fr hA
  refine end_ops ?_
  refine then_normal ?_
  refine cF hA ?_
  refine wp_skip ?_
  refine then_normal ?_
  refine sR (l := (rg 0 9)) ?_
  refine ck (l := [0, 1]) (r := (rg 2 7)) (e' := [(2, i32 ld), (3, pt b1), (4, pt b2), (6, bl false), (23, i64 ld)]) hA [bl true] (cc ((inK_i64 (by omega) (by omega)) : inK .i64 ld) c0) ?_
  clear hA fr; intro fr hA
  refine wpOps_cons' (mC (f := 28) (args := [i64 ld]) (d := (some 24)) hA Tryd.func28 ((put_any ld _).mono ?_))
  rintro en w4 ⟨k1, rfl, ho, hbk, hge⟩
  refine ⟨_, rfl, ?_⟩
  clear hA fr; intro fr hA
  replace hO := hO.add ho hbk hge; clear ho hbk hge
  replace hA := hA.sb (e' := [(2, i32 ld), (3, pt b1), (4, pt b2), (6, bl false), (24, .slice (some ⟨k1, 0, none⟩) 4 4)])
  refine wpOps_cons' (mK (f := 27) (args := [.slice (some ⟨k1, 0, none⟩) 4 4]) (d := (some 25)) (v := .tuple #[i64 ld, i64 0]) hA hO Tryd.func27 (rs (cword_any _ _ _ _ _ _ ((hO.b 0).sl (xs := [IntKind.u8.wrap ld, IntKind.u8.wrap (ld / 256), IntKind.u8.wrap (ld / 65536), IntKind.u8.wrap (ld / 16777216)]) (U8s.cons (wrap_inK .u8 _) (U8s.cons (wrap_inK .u8 _) (U8s.cons (wrap_inK .u8 _) (U8s.cons (wrap_inK .u8 _) U8s.nil)))) rfl (by kernel_rfl))) (congrArg (fun z => Value.tuple #[.int .i64 z, .int .i64 0]) (put_word hld))) ?_)
  clear hA hO fr; intro fr w5 hA hO
  replace hA := hA.sb (e' := [(2, i32 ld), (3, pt b1), (4, pt b2), (6, bl false), (25, .tuple #[i64 ld, i64 0])])
  refine ck (l := (rg 4 5)) (r := []) (e' := [(2, i32 ld), (3, pt b1), (4, pt b2), (6, bl false), (7, i64 ld), (8, i64 0)]) hA [] c0 ?_
  clear hA fr; intro fr hA
  refine end_ops ?_
  refine then_normal ?_
  refine wp_seq ?_
  refine sR (l := (rg 0 13)) ?_
  refine ck (l := (rg 0 9)) (r := [9, 10, 11, 12]) (e' := [(2, i32 ld), (3, pt b1), (4, pt b2), (6, bl false), (7, i64 ld), (8, i64 0), (34, bl (ld != ld)), (35, bl (ld != ld)), (36, bl (ld != ld))]) hA [bl true] (cc ((inK_i64 (by omega) (by omega)) : inK .i64 ld) c0) ?_
  clear hA fr; intro fr hA
  replace hA := hA.bool (f := fun z => [(2, i32 ld), (3, pt b1), (4, pt b2), (6, bl false), (7, i64 ld), (8, i64 0), (34, .bool z), (35, .bool z), (36, .bool z)]) (by simp : (ld != ld) = false)
  refine ck (l := [9]) (r := [10, 11, 12]) (e' := [(2, i32 ld), (3, pt b1), (4, pt b2), (6, bl false), (7, i64 ld), (8, i64 0), (36, bl false), (37, .agg (List.toArray (regsL R pc)))]) hA [.agg (List.toArray (regsL R pc))] (cc (hO.ln 2 0 38 (regsL R pc)) c0) ?_
  clear hA fr; intro fr hA
  refine wpOps_cons' (mK (f := 17) (args := [.agg (List.toArray (regsL R pc))]) (d := (some 38)) (v := bl (decide (pc > -1099511627776) && decide (pc < 1099511627776))) hA hO Tryd.func17 (tame_two R pc _) ?_)
  clear hA hO fr; intro fr w6 hA hO
  replace hA := hA.sb (e' := [(2, i32 ld), (3, pt b1), (4, pt b2), (6, bl false), (7, i64 ld), (8, i64 0), (36, bl false), (38, bl (decide (pc > -1099511627776) && decide (pc < 1099511627776)))])
  refine ck (l := [11, 12]) (r := []) (e' := [(2, i32 ld), (3, pt b1), (4, pt b2), (6, bl false), (7, i64 ld), (8, i64 0), (40, bl (!(decide (pc > -1099511627776) && decide (pc < 1099511627776))))]) hA [] c0 ?_
  clear hA fr; intro fr hA
  refine end_ops ?_
  refine then_normal ?_
  replace hA := hA.bool (f := fun z => [(2, i32 ld), (3, pt b1), (4, pt b2), (6, bl false), (7, i64 ld), (8, i64 0), (40, .bool !z)]) (by simp; omega : (decide (pc > -1099511627776) && decide (pc < 1099511627776)) = true)
  refine cF hA ?_
  refine wp_skip ?_
  refine then_normal ?_
  refine sR (l := (rg 0 7)) ?_
  refine ck (l := [0]) (r := (rg 1 6)) (e' := [(2, i32 ld), (3, pt b1), (4, pt b2), (6, bl false), (50, .agg #[i64 15, i64 a, i64 b, i64 c, i64 v])]) hA [.agg #[i64 15, i64 a, i64 b, i64 c, i64 v]] (cc (hO.ln 1 0 29 [i64 15, i64 a, i64 b, i64 c, i64 v]) c0) ?_
  clear hA fr; intro fr hA
  refine wpOps_cons' (mC (f := 15) (args := [.agg #[i64 15, i64 a, i64 b, i64 c, i64 v]]) (d := (some 51)) hA Tryd.func15 ((encode_ok 15 a b c v _ (hT.keep hO.only (fun h => h)) hl).mono ?_))
  rintro en w7 ⟨k2, rfl, ho, hbk, hge⟩
  refine ⟨_, rfl, ?_⟩
  clear hA fr; intro fr hA
  replace hO := hO.add ho hbk hge; clear ho hbk hge
  replace hA := hA.sb (e' := [(2, i32 ld), (3, pt b1), (4, pt b2), (6, bl false), (51, .tuple #[.slice (some ⟨k2, 0, none⟩) 4 4, i64 0])])
  refine ck (l := (rg 2 5)) (r := []) (e' := [(2, i32 ld), (3, pt b1), (4, pt b2), (6, bl false), (9, .slice (some ⟨k2, 0, none⟩) 4 4), (10, i64 0)]) hA [] c0 ?_
  clear hA fr; intro fr hA
  refine end_ops ?_
  refine then_normal ?_
  refine wp_seq ?_
  refine sC (e' := [(2, i32 ld), (3, pt b1), (4, pt b2), (6, bl false), (9, .slice (some ⟨k2, 0, none⟩) 4 4), (55, bl false)]) 2 hA [] c0 ?_
  clear hA fr; intro fr hA
  refine cF hA ?_
  refine wp_skip ?_
  refine then_normal ?_
  refine sR (l := (rg 0 12)) ?_
  refine ck (l := [0, 1]) (r := (rg 2 10)) (e' := [(2, i32 ld), (3, pt b1), (4, pt b2), (6, bl false), (9, .slice (some ⟨k2, 0, none⟩) 4 4), (57, .agg (List.toArray (regsL R pc))), (58, .slice (some ⟨k2, 0, none⟩) 4 4)]) hA [.agg (List.toArray (regsL R pc))] (cc (hO.ln 3 0 38 (regsL R pc)) c0) ?_
  clear hA fr; intro fr hA
  refine wpOps_cons' (mK (f := 24) (args := [.agg (List.toArray (regsL R pc)), .slice (some ⟨k2, 0, none⟩) 4 4]) (d := (some 59)) (v := .tuple #[i64 (R b.toNat + c), i64 4, bl true, bl true]) hA hO Tryd.func24 (rs (acc_any R pc _ ([IntKind.u8.wrap 15, IntKind.u8.wrap a, cond (opV 15) (IntKind.u8.wrap (v / 256)) (IntKind.u8.wrap b), cond (opV 15) (IntKind.u8.wrap v) (IntKind.u8.wrap c)]) _ (hT.keep hO.only (fun h => h)) hR ((hO.b 0).sl (xs := [IntKind.u8.wrap 15, IntKind.u8.wrap a, cond (opV 15) (IntKind.u8.wrap (v / 256)) (IntKind.u8.wrap b), cond (opV 15) (IntKind.u8.wrap v) (IntKind.u8.wrap c)]) (U8s.cons (wrap_inK .u8 _) (U8s.cons (wrap_inK .u8 _) (U8s.cons (inK_cond (wrap_inK .u8 _) (wrap_inK .u8 _)) (U8s.cons (inK_cond (wrap_inK .u8 _) (wrap_inK .u8 _)) U8s.nil)))) rfl (by kernel_rfl))) ((accX_enc R hl).trans (if_pos hm))) ?_)
  clear hA hO fr; intro fr w8 hA hO
  replace hA := hA.sb (e' := [(2, i32 ld), (3, pt b1), (4, pt b2), (6, bl false), (9, .slice (some ⟨k2, 0, none⟩) 4 4), (59, .tuple #[i64 (R b.toNat + c), i64 4, bl true, bl true])])
  refine ck (l := (rg 3 9)) (r := []) (e' := [(2, i32 ld), (3, pt b1), (4, pt b2), (6, bl false), (9, .slice (some ⟨k2, 0, none⟩) 4 4), (11, i64 (R b.toNat + c)), (12, i64 4), (13, bl true), (14, bl true)]) hA [] c0 ?_
  clear hA fr; intro fr hA
  refine end_ops ?_
  refine then_normal ?_
  refine sR (l := (rg 0 14)) ?_
  refine ck (l := [0, 1, 2, 3]) (r := (rg 4 10)) (e' := [(2, i32 ld), (3, pt b1), (4, pt b2), (6, bl false), (11, i64 (R b.toNat + c)), (12, i64 4), (13, bl true), (14, bl true), (65, .agg (List.toArray (regsL R pc))), (66, .slice (some ⟨k2, 0, none⟩) 4 4), (68, i64 ld)]) hA [.agg (List.toArray (regsL R pc)), bl true] (cc (hO.ln 3 0 38 (regsL R pc)) (cc ((inK_i64 (by omega) (by omega)) : inK .i64 ld) c0)) ?_
  clear hA fr; intro fr hA
  refine wpOps_cons' (mK (f := 18) (args := [.agg (List.toArray (regsL R pc)), .slice (some ⟨k2, 0, none⟩) 4 4, i64 ld]) (d := (some 69)) (v := .tuple #[.agg (List.toArray (regsL R (pc + 4))), i64 (R a.toNat), .agg #[i64 0, i64 0, i64 0, i64 0, i64 0, i64 0, i64 0]]) hA hO Tryd.func18 (rs (exec_any R pc ld _ ([IntKind.u8.wrap 15, IntKind.u8.wrap a, cond (opV 15) (IntKind.u8.wrap (v / 256)) (IntKind.u8.wrap b), cond (opV 15) (IntKind.u8.wrap v) (IntKind.u8.wrap c)]) _ (hT.keep hO.only (fun h => h)) hR hp hp' ((hO.b 0).sl (xs := [IntKind.u8.wrap 15, IntKind.u8.wrap a, cond (opV 15) (IntKind.u8.wrap (v / 256)) (IntKind.u8.wrap b), cond (opV 15) (IntKind.u8.wrap v) (IntKind.u8.wrap c)]) (U8s.cons (wrap_inK .u8 _) (U8s.cons (wrap_inK .u8 _) (U8s.cons (inK_cond (wrap_inK .u8 _) (wrap_inK .u8 _)) (U8s.cons (inK_cond (wrap_inK .u8 _) (wrap_inK .u8 _)) U8s.nil)))) rfl (by kernel_rfl))) ((execX_enc R pc ld hl).trans (if_pos hm))) ?_)
  clear hA hO fr; intro fr w9 hA hO
  replace hA := hA.sb (e' := [(2, i32 ld), (3, pt b1), (4, pt b2), (6, bl false), (11, i64 (R b.toNat + c)), (12, i64 4), (13, bl true), (14, bl true), (69, .tuple #[.agg (List.toArray (regsL R (pc + 4))), i64 (R a.toNat), .agg #[i64 0, i64 0, i64 0, i64 0, i64 0, i64 0, i64 0]])])
  refine ck (l := [5, 6, 7, 8]) (r := (rg 9 5)) (e' := [(2, i32 ld), (3, pt b1), (4, pt b2), (6, bl false), (11, i64 (R b.toNat + c)), (12, i64 4), (13, bl true), (14, bl true), (70, .agg (List.toArray (regsL R (pc + 4)))), (71, i64 (R a.toNat)), (72, .agg #[i64 0, i64 0, i64 0, i64 0, i64 0, i64 0, i64 0])]) hA [] c0 ?_
  clear hA fr; intro fr hA
  refine wpOps_cons' (mN (l := [i32 0, i32 0, i32 0, i32 0, i32 0, i32 0, i32 0, i32 0, i32 0, i32 0, i32 0, i32 0, i32 0, i32 0, i32 0, i32 0, i64 0]) (t := 40) (v := pt) (d := 15) hA hO ?_)
  clear hA hO fr; intro fr w10 b3 hA hO
  refine wpOps_cons' (mN (l := [i64 0, i64 0, i64 0, i64 0, i64 0, i64 0, i64 0]) (t := 43) (v := pt) (d := 17) hA hO ?_)
  clear hA hO fr; intro fr w11 b4 hA hO
  refine wpOps_cons' (mS (off := 0) (vc := (regsL R (pc + 4))) 1 hA hO ?_)
  clear hO; intro w12 hO
  replace hA := hA.sb (e' := [(2, i32 ld), (3, pt b1), (4, pt b2), (6, bl false), (11, i64 (R b.toNat + c)), (12, i64 4), (13, bl true), (14, bl true), (15, pt b3), (17, pt b4), (71, i64 (R a.toNat)), (72, .agg #[i64 0, i64 0, i64 0, i64 0, i64 0, i64 0, i64 0])])
  refine ck (l := [12]) (r := [13]) (e' := [(2, i32 ld), (3, pt b1), (4, pt b2), (6, bl false), (11, i64 (R b.toNat + c)), (12, i64 4), (13, bl true), (14, bl true), (15, pt b3), (16, i64 (R a.toNat)), (17, pt b4), (72, .agg #[i64 0, i64 0, i64 0, i64 0, i64 0, i64 0, i64 0])]) hA [] c0 ?_
  clear hA fr; intro fr hA
  refine wpOps_cons' (mS (off := 0) (vc := [i64 0, i64 0, i64 0, i64 0, i64 0, i64 0, i64 0]) 0 hA hO ?_)
  clear hO; intro w13 hO
  replace hA := hA.sb (e' := [(2, i32 ld), (3, pt b1), (4, pt b2), (6, bl false), (11, i64 (R b.toNat + c)), (12, i64 4), (13, bl true), (14, bl true), (15, pt b3), (16, i64 (R a.toNat)), (17, pt b4)])
  refine end_ops ?_
  refine then_normal ?_
  refine sC (e' := [(2, i32 ld), (3, pt b1), (4, pt b2), (6, bl false), (11, i64 (R b.toNat + c)), (12, i64 4), (13, bl true), (14, bl true), (15, pt b3), (16, i64 (R a.toNat)), (17, pt b4), (18, bl true)]) 9 hA [i64 15, i64 15] (cc (hO.l1 4 0 3 (i64 15)) (cc (hO.l1 4 0 3 (i64 15)) c0)) ?_
  clear hA fr; intro fr hA
  refine wp_seq ?_
  refine sC (e' := [(2, i32 ld), (3, pt b1), (4, pt b2), (6, bl false), (11, i64 (R b.toNat + c)), (12, i64 4), (13, bl true), (15, pt b3), (16, i64 (R a.toNat)), (17, pt b4), (18, bl true), (82, bl false)]) 2 hA [] c0 ?_
  clear hA fr; intro fr hA
  refine cF hA ?_
  refine wp_skip ?_
  refine then_normal ?_
  refine wp_seq ?_
  refine wp_seq ?_
  have hS := hO
  refine rP [(0, true), (1, true), (2, true), (3, true), (4, true), (5, true), (6, true), (7, true), (8, true), (9, true), (10, true), (11, true), (12, true), (13, true), (14, true), (15, true), (16, true), (17, true), (18, true), (19, true), (20, true), (21, true), (22, true), (23, true), (24, true), (25, true)] hS ?_
  intro w14 ho; replace hO := hO.st ho; clear ho
  refine ckS (l := (rg 0 16)) (r := [(16, true), (17, true), (18, true), (19, true), (20, true), (21, true), (22, true), (23, true), (24, true), (25, true)]) (e' := [(2, i32 ld), (3, pt b1), (4, pt b2), (6, bl false), (11, i64 (R b.toNat + c)), (12, i64 4), (13, bl true), (15, pt b3), (16, i64 (R a.toNat)), (17, pt b4), (107, bl ((R b.toNat + c) != ((R ((b).toNat)) + c))), (108, bl ((R b.toNat + c) != ((R ((b).toNat)) + c))), (109, bl ((R b.toNat + c) != ((R ((b).toNat)) + c)))]) hA [i64 b, i32 (R ((b).toNat)), bl true, i64 c, bl true] (cc (hS.s1 4 2 3 (i64 b)) (cc (⟨by omega, by omega⟩ : (0 : Int) ≤ b ∧ b < ((16 : Nat) : Int)) (cc (hS.sx ((⟨b1, 0, none⟩ : Addr).add ((b).toNat)) 21 (i32 (R ((b).toNat))) fun _ hO => (ld_regs (hO.b 5) (by omega) (by kernel_rfl))) (cc ((inK_up (by kernel_rfl) (hR _)) : inK .i64 (R ((b).toNat))) (cc (hS.s1 4 3 3 (i64 c)) (cc ((inK_i64 (by omega) (by omega)) : inK .i64 ((R ((b).toNat)) + c)) c0)))))) ?_
  clear hA fr; intro fr hA
  replace hA := hA.bool (f := fun z => [(2, i32 ld), (3, pt b1), (4, pt b2), (6, bl false), (11, i64 (R b.toNat + c)), (12, i64 4), (13, bl true), (15, pt b3), (16, i64 (R a.toNat)), (17, pt b4), (107, .bool z), (108, .bool z), (109, .bool z)]) (by simp : ((R b.toNat + c) != ((R ((b).toNat)) + c)) = false)
  refine ckS (l := (rg 16 6)) (r := [(22, true), (23, true), (24, true), (25, true)]) (e' := [(2, i32 ld), (3, pt b1), (4, pt b2), (6, bl false), (12, i64 4), (13, bl true), (15, pt b3), (16, i64 (R a.toNat)), (17, pt b4), (113, bl (((R b.toNat + c).tmod 4) != 0)), (114, bl (((R b.toNat + c).tmod 4) != 0)), (115, bl (((R b.toNat + c).tmod 4) != 0))]) hA [bl false] (cc (by omega : 4 ≠ (0 : Int)) c0) ?_
  clear hA fr; intro fr hA
  replace hA := hA.bool (f := fun z => [(2, i32 ld), (3, pt b1), (4, pt b2), (6, bl false), (12, i64 4), (13, bl true), (15, pt b3), (16, i64 (R a.toNat)), (17, pt b4), (113, .bool z), (114, .bool z), (115, .bool z)]) (by rw [hm]; rfl : (((R b.toNat + c).tmod 4) != 0) = false)
  refine ckS (l := [22, 23, 24, 25]) (r := []) (e' := [(2, i32 ld), (3, pt b1), (4, pt b2), (6, bl false), (12, i64 4), (13, bl true), (15, pt b3), (16, i64 (R a.toNat)), (119, bl false)]) hA [.agg #[i64 0, i64 0, i64 0, i64 0, i64 0, i64 0, i64 0], bl true] (cc (hS.sn 0 0 43 [i64 0, i64 0, i64 0, i64 0, i64 0, i64 0, i64 0]) (cc ((eqG_of (by kernel_rfl) (by kernel_rfl)) : EqG Tryd.prog 43 (.agg #[i64 0, i64 0, i64 0, i64 0, i64 0, i64 0, i64 0]) (.agg #[i64 0, i64 0, i64 0, i64 0, i64 0, i64 0, i64 0]) true) c0)) ?_
  clear hA fr; intro fr hA
  refine end_plan ?_
  refine then_normal ?_
  refine cF hA ?_
  refine wp_skip ?_
  refine then_normal ?_
  refine wp_seq ?_
  refine sC (e' := [(2, i32 ld), (3, pt b1), (4, pt b2), (6, bl false), (12, i64 4), (15, pt b3), (16, i64 (R a.toNat)), (120, bl true)]) 1 hA [] c0 ?_
  clear hA fr; intro fr hA
  refine cT hA ?_
  refine wp_seq ?_
  have hS := hO
  refine rP [(0, true), (1, true), (2, true), (3, true), (4, true), (5, true), (6, true), (7, true), (8, true), (9, true), (10, true), (11, true), (12, true), (13, true), (14, true), (15, true), (16, true), (17, true), (18, true), (19, true), (20, true)] hS ?_
  intro w15 ho; replace hO := hO.st ho; clear ho
  refine ckS (l := (rg 0 14)) (r := [(14, true), (15, true), (16, true), (17, true), (18, true), (19, true), (20, true)]) (e' := [(2, i32 ld), (3, pt b1), (4, pt b2), (6, bl false), (12, i64 4), (15, pt b3), (16, i64 (R a.toNat)), (133, bl ((((R a.toNat) - (R ((a).toNat))).tmod 4294967296) == 0)), (134, bl ((((R a.toNat) - (R ((a).toNat))).tmod 4294967296) == 0))]) hA [i64 a, i32 (R ((a).toNat)), bl true, bl true, bl false, bl false, bl false] (cc (hS.s1 4 1 3 (i64 a)) (cc (⟨by omega, by omega⟩ : (0 : Int) ≤ a ∧ a < ((16 : Nat) : Int)) (cc (hS.sx ((⟨b1, 0, none⟩ : Addr).add ((a).toNat)) 21 (i32 (R ((a).toNat))) fun _ hO => (ld_regs (hO.b 5) (by omega) (by kernel_rfl))) (cc ((inK_up (by kernel_rfl) (hR _)) : inK .i64 (R ((a).toNat))) (cc ((inK_i64 (by omega) (by omega)) : inK .i64 ((R a.toNat) - (R ((a).toNat)))) (cc (by omega : (0 : Int) ≤ 32) (cc (by omega : 4294967296 ≠ (0 : Int)) c0))))))) ?_
  clear hA fr; intro fr hA
  replace hA := hA.bool (f := fun z => [(2, i32 ld), (3, pt b1), (4, pt b2), (6, bl false), (12, i64 4), (15, pt b3), (16, i64 (R a.toNat)), (133, .bool z), (134, .bool z)]) (by first | exact mem_z _ ⟨0, by omega⟩ | exact mem_z _ (u8_q _) : ((((R a.toNat) - (R ((a).toNat))).tmod 4294967296) == 0) = true)
  refine ckS (l := (rg 14 7)) (r := []) (e' := [(2, i32 ld), (4, pt b2), (6, bl true), (12, i64 4), (15, pt b3), (16, i64 (R a.toNat))]) hA [.agg (List.toArray (regsL R (pc + 4))), .agg (List.toArray (regsA R)), bl true] (cc (hS.sn 1 0 40 (regsL R (pc + 4))) (cc (hS.sn 5 0 36 (regsA R)) (cc ((eqG_of (b := ((R 0) == (R 0)) && (((R 1) == (R 1)) && (((R 2) == (R 2)) && (((R 3) == (R 3)) && (((R 4) == (R 4)) && (((R 5) == (R 5)) && (((R 6) == (R 6)) && (((R 7) == (R 7)) && (((R 8) == (R 8)) && (((R 9) == (R 9)) && (((R 10) == (R 10)) && (((R 11) == (R 11)) && (((R 12) == (R 12)) && (((R 13) == (R 13)) && (((R 14) == (R 14)) && (((R 15) == (R 15)) && true)))))))))))))))) (by kernel_rfl) (by kernel_rfl)).cast (by simp) : EqG Tryd.prog 36 (.agg (List.toArray (regsA R))) (.agg (List.toArray (regsA R))) true) c0))) ?_
  clear hA fr; intro fr hA
  refine end_plan ?_
  refine then_normal ?_
  refine wp_ret ?_
  refine then_ret ?_
  refine cR (cs := [none]) (us := [bl true]) hA [] trivial ?_
  have hF := hO.only; clear hA hO
  exact ⟨by first | rfl | (simp [pack]; done) | (simp [pack]; omega), hF⟩

theorem mem_16 (R : Nat → Int) (pc a b c v ld : Int) (w : World) (hT : Tab w) (hR : RegsOk R) (hld : inK .i32 ld) (hl : legalB 16 a b c v = true) (hp : -1099511627776 < pc) (hp' : pc < 1099511627776) :
    Calls Tryd.prog 10 #[.agg (List.toArray (regsL R pc)), .agg #[i64 16, i64 a, i64 b, i64 c, i64 v], i32 ld] w fun e w' => e = .returned (.bool true) ∧ Only none' w w' := by
  refine c_enter (args := [.agg (List.toArray (regsL R pc)), .agg #[i64 16, i64 a, i64 b, i64 c, i64 v], i32 ld]) (m := 176) (n := 179) Tryd.func10 rfl (by kernel_rfl) (by kernel_rfl) fun fr hA => ?_
  have hO := Ow.nil Tryd.prog none' w
  have hld1 : -2147483648 ≤ ld ∧ ld ≤ 2147483647 := hld
  obtain ⟨ho_, ha_, hb_, hc_, hv_, hc2_⟩ := legal_spec hl; have hRa_ := hR a.toNat; have hRb_ := hR b.toNat; simp only [inK] at hRa_ hRb_
  have wi32 : -2147483648 ≤ IntKind.i32.wrap ld ∧ IntKind.i32.wrap ld ≤ 2147483647 := wrap_inK .i32 ld; have wu8 : 0 ≤ IntKind.u8.wrap ld ∧ IntKind.u8.wrap ld ≤ 255 := wrap_inK .u8 ld; have wu9 : 0 ≤ IntKind.u8.wrap (R a.toNat) ∧ IntKind.u8.wrap (R a.toNat) ≤ 255 := wrap_inK .u8 _; have hU1 := upd_same' R a.toNat (IntKind.i32.wrap ld); have hU2 := upd_same' R a.toNat (IntKind.u8.wrap ld)
  refine sR (l := [0, 1, 2]) ?_
  refine wpOps_cons' (mN (l := (regsL R pc)) (t := 38) (v := pt) (d := 3) hA hO ?_)
  clear hA hO fr; intro fr w1 b1 hA hO
  replace hA := hA.sb (e' := [(1, .agg #[i64 16, i64 a, i64 b, i64 c, i64 v]), (2, i32 ld), (3, pt b1)])
  refine wpOps_cons' (mN (l := [i64 16, i64 a, i64 b, i64 c, i64 v]) (t := 29) (v := pt) (d := 4) hA hO ?_)
  clear hA hO fr; intro fr w2 b2 hA hO
  replace hA := hA.sb (e' := [(2, i32 ld), (3, pt b1), (4, pt b2)])
  refine ck (l := [2]) (r := []) (e' := [(2, i32 ld), (3, pt b1), (4, pt b2), (6, bl false)]) hA [] c0 ?_
  clear hA fr; intro fr hA
  refine end_ops ?_
  refine then_normal ?_
  refine wp_seq ?_
  refine sR (l := [0, 1]) ?_
  refine wpOps_cons' (mK (f := 12) (args := []) (d := (some 19)) (v := bl true) hA hO Tryd.func12 (awake_any _ (hT.keep hO.only (fun h => h))) ?_)
  clear hA hO fr; intro fr w3 hA hO
  refine ck (l := [1]) (r := []) (e' := [(2, i32 ld), (3, pt b1), (4, pt b2), (6, bl false), (20, bl false)]) hA [] c0 ?_
  clear hA fr; intro fr hA
  refine end_ops ?_
  refine then_normal ?_
  refine cF hA ?_
  refine wp_skip ?_
  refine then_normal ?_
  refine sR (l := (rg 0 9)) ?_
  refine ck (l := [0, 1]) (r := (rg 2 7)) (e' := [(2, i32 ld), (3, pt b1), (4, pt b2), (6, bl false), (23, i64 ld)]) hA [bl true] (cc ((inK_i64 (by omega) (by omega)) : inK .i64 ld) c0) ?_
  clear hA fr; intro fr hA
  refine wpOps_cons' (mC (f := 28) (args := [i64 ld]) (d := (some 24)) hA Tryd.func28 ((put_any ld _).mono ?_))
  rintro en w4 ⟨k1, rfl, ho, hbk, hge⟩
  refine ⟨_, rfl, ?_⟩
  clear hA fr; intro fr hA
  replace hO := hO.add ho hbk hge; clear ho hbk hge
  replace hA := hA.sb (e' := [(2, i32 ld), (3, pt b1), (4, pt b2), (6, bl false), (24, .slice (some ⟨k1, 0, none⟩) 4 4)])
  refine wpOps_cons' (mK (f := 27) (args := [.slice (some ⟨k1, 0, none⟩) 4 4]) (d := (some 25)) (v := .tuple #[i64 ld, i64 0]) hA hO Tryd.func27 (rs (cword_any _ _ _ _ _ _ ((hO.b 0).sl (xs := [IntKind.u8.wrap ld, IntKind.u8.wrap (ld / 256), IntKind.u8.wrap (ld / 65536), IntKind.u8.wrap (ld / 16777216)]) (U8s.cons (wrap_inK .u8 _) (U8s.cons (wrap_inK .u8 _) (U8s.cons (wrap_inK .u8 _) (U8s.cons (wrap_inK .u8 _) U8s.nil)))) rfl (by kernel_rfl))) (congrArg (fun z => Value.tuple #[.int .i64 z, .int .i64 0]) (put_word hld))) ?_)
  clear hA hO fr; intro fr w5 hA hO
  replace hA := hA.sb (e' := [(2, i32 ld), (3, pt b1), (4, pt b2), (6, bl false), (25, .tuple #[i64 ld, i64 0])])
  refine ck (l := (rg 4 5)) (r := []) (e' := [(2, i32 ld), (3, pt b1), (4, pt b2), (6, bl false), (7, i64 ld), (8, i64 0)]) hA [] c0 ?_
  clear hA fr; intro fr hA
  refine end_ops ?_
  refine then_normal ?_
  refine wp_seq ?_
  refine sR (l := (rg 0 13)) ?_
  refine ck (l := (rg 0 9)) (r := [9, 10, 11, 12]) (e' := [(2, i32 ld), (3, pt b1), (4, pt b2), (6, bl false), (7, i64 ld), (8, i64 0), (34, bl (ld != ld)), (35, bl (ld != ld)), (36, bl (ld != ld))]) hA [bl true] (cc ((inK_i64 (by omega) (by omega)) : inK .i64 ld) c0) ?_
  clear hA fr; intro fr hA
  replace hA := hA.bool (f := fun z => [(2, i32 ld), (3, pt b1), (4, pt b2), (6, bl false), (7, i64 ld), (8, i64 0), (34, .bool z), (35, .bool z), (36, .bool z)]) (by simp : (ld != ld) = false)
  refine ck (l := [9]) (r := [10, 11, 12]) (e' := [(2, i32 ld), (3, pt b1), (4, pt b2), (6, bl false), (7, i64 ld), (8, i64 0), (36, bl false), (37, .agg (List.toArray (regsL R pc)))]) hA [.agg (List.toArray (regsL R pc))] (cc (hO.ln 2 0 38 (regsL R pc)) c0) ?_
  clear hA fr; intro fr hA
  refine wpOps_cons' (mK (f := 17) (args := [.agg (List.toArray (regsL R pc))]) (d := (some 38)) (v := bl (decide (pc > -1099511627776) && decide (pc < 1099511627776))) hA hO Tryd.func17 (tame_two R pc _) ?_)
  clear hA hO fr; intro fr w6 hA hO
  replace hA := hA.sb (e' := [(2, i32 ld), (3, pt b1), (4, pt b2), (6, bl false), (7, i64 ld), (8, i64 0), (36, bl false), (38, bl (decide (pc > -1099511627776) && decide (pc < 1099511627776)))])
  refine ck (l := [11, 12]) (r := []) (e' := [(2, i32 ld), (3, pt b1), (4, pt b2), (6, bl false), (7, i64 ld), (8, i64 0), (40, bl (!(decide (pc > -1099511627776) && decide (pc < 1099511627776))))]) hA [] c0 ?_
  clear hA fr; intro fr hA
  refine end_ops ?_
  refine then_normal ?_
  replace hA := hA.bool (f := fun z => [(2, i32 ld), (3, pt b1), (4, pt b2), (6, bl false), (7, i64 ld), (8, i64 0), (40, .bool !z)]) (by simp; omega : (decide (pc > -1099511627776) && decide (pc < 1099511627776)) = true)
  refine cF hA ?_
  refine wp_skip ?_
  refine then_normal ?_
  refine sR (l := (rg 0 7)) ?_
  refine ck (l := [0]) (r := (rg 1 6)) (e' := [(2, i32 ld), (3, pt b1), (4, pt b2), (6, bl false), (50, .agg #[i64 16, i64 a, i64 b, i64 c, i64 v])]) hA [.agg #[i64 16, i64 a, i64 b, i64 c, i64 v]] (cc (hO.ln 1 0 29 [i64 16, i64 a, i64 b, i64 c, i64 v]) c0) ?_
  clear hA fr; intro fr hA
  refine wpOps_cons' (mC (f := 15) (args := [.agg #[i64 16, i64 a, i64 b, i64 c, i64 v]]) (d := (some 51)) hA Tryd.func15 ((encode_ok 16 a b c v _ (hT.keep hO.only (fun h => h)) hl).mono ?_))
  rintro en w7 ⟨k2, rfl, ho, hbk, hge⟩
  refine ⟨_, rfl, ?_⟩
  clear hA fr; intro fr hA
  replace hO := hO.add ho hbk hge; clear ho hbk hge
  replace hA := hA.sb (e' := [(2, i32 ld), (3, pt b1), (4, pt b2), (6, bl false), (51, .tuple #[.slice (some ⟨k2, 0, none⟩) 4 4, i64 0])])
  refine ck (l := (rg 2 5)) (r := []) (e' := [(2, i32 ld), (3, pt b1), (4, pt b2), (6, bl false), (9, .slice (some ⟨k2, 0, none⟩) 4 4), (10, i64 0)]) hA [] c0 ?_
  clear hA fr; intro fr hA
  refine end_ops ?_
  refine then_normal ?_
  refine wp_seq ?_
  refine sC (e' := [(2, i32 ld), (3, pt b1), (4, pt b2), (6, bl false), (9, .slice (some ⟨k2, 0, none⟩) 4 4), (55, bl false)]) 2 hA [] c0 ?_
  clear hA fr; intro fr hA
  refine cF hA ?_
  refine wp_skip ?_
  refine then_normal ?_
  refine sR (l := (rg 0 12)) ?_
  refine ck (l := [0, 1]) (r := (rg 2 10)) (e' := [(2, i32 ld), (3, pt b1), (4, pt b2), (6, bl false), (9, .slice (some ⟨k2, 0, none⟩) 4 4), (57, .agg (List.toArray (regsL R pc))), (58, .slice (some ⟨k2, 0, none⟩) 4 4)]) hA [.agg (List.toArray (regsL R pc))] (cc (hO.ln 3 0 38 (regsL R pc)) c0) ?_
  clear hA fr; intro fr hA
  refine wpOps_cons' (mK (f := 24) (args := [.agg (List.toArray (regsL R pc)), .slice (some ⟨k2, 0, none⟩) 4 4]) (d := (some 59)) (v := .tuple #[i64 (R b.toNat + c), i64 1, bl false, bl true]) hA hO Tryd.func24 (rs (acc_any R pc _ ([IntKind.u8.wrap 16, IntKind.u8.wrap a, cond (opV 16) (IntKind.u8.wrap (v / 256)) (IntKind.u8.wrap b), cond (opV 16) (IntKind.u8.wrap v) (IntKind.u8.wrap c)]) _ (hT.keep hO.only (fun h => h)) hR ((hO.b 0).sl (xs := [IntKind.u8.wrap 16, IntKind.u8.wrap a, cond (opV 16) (IntKind.u8.wrap (v / 256)) (IntKind.u8.wrap b), cond (opV 16) (IntKind.u8.wrap v) (IntKind.u8.wrap c)]) (U8s.cons (wrap_inK .u8 _) (U8s.cons (wrap_inK .u8 _) (U8s.cons (inK_cond (wrap_inK .u8 _) (wrap_inK .u8 _)) (U8s.cons (inK_cond (wrap_inK .u8 _) (wrap_inK .u8 _)) U8s.nil)))) rfl (by kernel_rfl))) ((accX_enc R hl).trans (if_pos (Int.tmod_one _)))) ?_)
  clear hA hO fr; intro fr w8 hA hO
  replace hA := hA.sb (e' := [(2, i32 ld), (3, pt b1), (4, pt b2), (6, bl false), (9, .slice (some ⟨k2, 0, none⟩) 4 4), (59, .tuple #[i64 (R b.toNat + c), i64 1, bl false, bl true])])
  refine ck (l := (rg 3 9)) (r := []) (e' := [(2, i32 ld), (3, pt b1), (4, pt b2), (6, bl false), (9, .slice (some ⟨k2, 0, none⟩) 4 4), (11, i64 (R b.toNat + c)), (12, i64 1), (13, bl false), (14, bl true)]) hA [] c0 ?_
  clear hA fr; intro fr hA
  refine end_ops ?_
  refine then_normal ?_
  refine sR (l := (rg 0 14)) ?_
  refine ck (l := [0, 1, 2, 3]) (r := (rg 4 10)) (e' := [(2, i32 ld), (3, pt b1), (4, pt b2), (6, bl false), (11, i64 (R b.toNat + c)), (12, i64 1), (13, bl false), (14, bl true), (65, .agg (List.toArray (regsL R pc))), (66, .slice (some ⟨k2, 0, none⟩) 4 4), (68, i64 ld)]) hA [.agg (List.toArray (regsL R pc)), bl true] (cc (hO.ln 3 0 38 (regsL R pc)) (cc ((inK_i64 (by omega) (by omega)) : inK .i64 ld) c0)) ?_
  clear hA fr; intro fr hA
  refine wpOps_cons' (mK (f := 18) (args := [.agg (List.toArray (regsL R pc)), .slice (some ⟨k2, 0, none⟩) 4 4, i64 ld]) (d := (some 69)) (v := .tuple #[.agg (List.toArray (regsL (upd R a.toNat (IntKind.u8.wrap ld)) (pc + 4))), i64 0, .agg #[i64 0, i64 0, i64 0, i64 0, i64 0, i64 0, i64 0]]) hA hO Tryd.func18 (rs (exec_any R pc ld _ ([IntKind.u8.wrap 16, IntKind.u8.wrap a, cond (opV 16) (IntKind.u8.wrap (v / 256)) (IntKind.u8.wrap b), cond (opV 16) (IntKind.u8.wrap v) (IntKind.u8.wrap c)]) _ (hT.keep hO.only (fun h => h)) hR hp hp' ((hO.b 0).sl (xs := [IntKind.u8.wrap 16, IntKind.u8.wrap a, cond (opV 16) (IntKind.u8.wrap (v / 256)) (IntKind.u8.wrap b), cond (opV 16) (IntKind.u8.wrap v) (IntKind.u8.wrap c)]) (U8s.cons (wrap_inK .u8 _) (U8s.cons (wrap_inK .u8 _) (U8s.cons (inK_cond (wrap_inK .u8 _) (wrap_inK .u8 _)) (U8s.cons (inK_cond (wrap_inK .u8 _) (wrap_inK .u8 _)) U8s.nil)))) rfl (by kernel_rfl))) ((execX_enc R pc ld hl).trans (by kernel_rfl))) ?_)
  clear hA hO fr; intro fr w9 hA hO
  replace hA := hA.sb (e' := [(2, i32 ld), (3, pt b1), (4, pt b2), (6, bl false), (11, i64 (R b.toNat + c)), (12, i64 1), (13, bl false), (14, bl true), (69, .tuple #[.agg (List.toArray (regsL (upd R a.toNat (IntKind.u8.wrap ld)) (pc + 4))), i64 0, .agg #[i64 0, i64 0, i64 0, i64 0, i64 0, i64 0, i64 0]])])
  refine ck (l := [5, 6, 7, 8]) (r := (rg 9 5)) (e' := [(2, i32 ld), (3, pt b1), (4, pt b2), (6, bl false), (11, i64 (R b.toNat + c)), (12, i64 1), (13, bl false), (14, bl true), (70, .agg (List.toArray (regsL (upd R a.toNat (IntKind.u8.wrap ld)) (pc + 4)))), (71, i64 0), (72, .agg #[i64 0, i64 0, i64 0, i64 0, i64 0, i64 0, i64 0])]) hA [] c0 ?_
  clear hA fr; intro fr hA
  refine wpOps_cons' (mN (l := [i32 0, i32 0, i32 0, i32 0, i32 0, i32 0, i32 0, i32 0, i32 0, i32 0, i32 0, i32 0, i32 0, i32 0, i32 0, i32 0, i64 0]) (t := 40) (v := pt) (d := 15) hA hO ?_)
  clear hA hO fr; intro fr w10 b3 hA hO
  refine wpOps_cons' (mN (l := [i64 0, i64 0, i64 0, i64 0, i64 0, i64 0, i64 0]) (t := 43) (v := pt) (d := 17) hA hO ?_)
  clear hA hO fr; intro fr w11 b4 hA hO
  refine wpOps_cons' (mS (off := 0) (vc := (regsL (upd R a.toNat (IntKind.u8.wrap ld)) (pc + 4))) 1 hA hO ?_)
  clear hO; intro w12 hO
  replace hA := hA.sb (e' := [(2, i32 ld), (3, pt b1), (4, pt b2), (6, bl false), (11, i64 (R b.toNat + c)), (12, i64 1), (13, bl false), (14, bl true), (15, pt b3), (17, pt b4), (71, i64 0), (72, .agg #[i64 0, i64 0, i64 0, i64 0, i64 0, i64 0, i64 0])])
  refine ck (l := [12]) (r := [13]) (e' := [(2, i32 ld), (3, pt b1), (4, pt b2), (6, bl false), (11, i64 (R b.toNat + c)), (12, i64 1), (13, bl false), (14, bl true), (15, pt b3), (16, i64 0), (17, pt b4), (72, .agg #[i64 0, i64 0, i64 0, i64 0, i64 0, i64 0, i64 0])]) hA [] c0 ?_
  clear hA fr; intro fr hA
  refine wpOps_cons' (mS (off := 0) (vc := [i64 0, i64 0, i64 0, i64 0, i64 0, i64 0, i64 0]) 0 hA hO ?_)
  clear hO; intro w13 hO
  replace hA := hA.sb (e' := [(2, i32 ld), (3, pt b1), (4, pt b2), (6, bl false), (11, i64 (R b.toNat + c)), (12, i64 1), (13, bl false), (14, bl true), (15, pt b3), (16, i64 0), (17, pt b4)])
  refine end_ops ?_
  refine then_normal ?_
  refine sC (e' := [(2, i32 ld), (3, pt b1), (4, pt b2), (6, bl false), (11, i64 (R b.toNat + c)), (12, i64 1), (13, bl false), (14, bl true), (15, pt b3), (16, i64 0), (17, pt b4), (18, bl true)]) 9 hA [i64 16, i64 16] (cc (hO.l1 4 0 3 (i64 16)) (cc (hO.l1 4 0 3 (i64 16)) c0)) ?_
  clear hA fr; intro fr hA
  refine wp_seq ?_
  refine sC (e' := [(2, i32 ld), (3, pt b1), (4, pt b2), (6, bl false), (11, i64 (R b.toNat + c)), (12, i64 1), (13, bl false), (15, pt b3), (16, i64 0), (17, pt b4), (18, bl true), (82, bl false)]) 2 hA [] c0 ?_
  clear hA fr; intro fr hA
  refine cF hA ?_
  refine wp_skip ?_
  refine then_normal ?_
  refine wp_seq ?_
  refine wp_seq ?_
  have hS := hO
  refine rP [(0, true), (1, true), (2, true), (3, true), (4, true), (5, true), (6, true), (7, true), (8, true), (9, true), (10, true), (11, true), (12, true), (13, true), (14, true), (15, true), (16, true), (17, true), (18, true), (19, true), (20, true), (21, true), (22, true), (23, true), (24, true), (25, true)] hS ?_
  intro w14 ho; replace hO := hO.st ho; clear ho
  refine ckS (l := (rg 0 16)) (r := [(16, true), (17, true), (18, true), (19, true), (20, true), (21, true), (22, true), (23, true), (24, true), (25, true)]) (e' := [(2, i32 ld), (3, pt b1), (4, pt b2), (6, bl false), (11, i64 (R b.toNat + c)), (12, i64 1), (13, bl false), (15, pt b3), (16, i64 0), (17, pt b4), (107, bl ((R b.toNat + c) != ((R ((b).toNat)) + c))), (108, bl ((R b.toNat + c) != ((R ((b).toNat)) + c))), (109, bl ((R b.toNat + c) != ((R ((b).toNat)) + c)))]) hA [i64 b, i32 (R ((b).toNat)), bl true, i64 c, bl true] (cc (hS.s1 4 2 3 (i64 b)) (cc (⟨by omega, by omega⟩ : (0 : Int) ≤ b ∧ b < ((16 : Nat) : Int)) (cc (hS.sx ((⟨b1, 0, none⟩ : Addr).add ((b).toNat)) 21 (i32 (R ((b).toNat))) fun _ hO => (ld_regs (hO.b 5) (by omega) (by kernel_rfl))) (cc ((inK_up (by kernel_rfl) (hR _)) : inK .i64 (R ((b).toNat))) (cc (hS.s1 4 3 3 (i64 c)) (cc ((inK_i64 (by omega) (by omega)) : inK .i64 ((R ((b).toNat)) + c)) c0)))))) ?_
  clear hA fr; intro fr hA
  replace hA := hA.bool (f := fun z => [(2, i32 ld), (3, pt b1), (4, pt b2), (6, bl false), (11, i64 (R b.toNat + c)), (12, i64 1), (13, bl false), (15, pt b3), (16, i64 0), (17, pt b4), (107, .bool z), (108, .bool z), (109, .bool z)]) (by simp : ((R b.toNat + c) != ((R ((b).toNat)) + c)) = false)
  refine ckS (l := (rg 16 6)) (r := [(22, true), (23, true), (24, true), (25, true)]) (e' := [(2, i32 ld), (3, pt b1), (4, pt b2), (6, bl false), (12, i64 1), (13, bl false), (15, pt b3), (16, i64 0), (17, pt b4), (113, bl (((R b.toNat + c).tmod 1) != 0)), (114, bl (((R b.toNat + c).tmod 1) != 0)), (115, bl (((R b.toNat + c).tmod 1) != 0))]) hA [bl false] (cc (by omega : 1 ≠ (0 : Int)) c0) ?_
  clear hA fr; intro fr hA
  replace hA := hA.bool (f := fun z => [(2, i32 ld), (3, pt b1), (4, pt b2), (6, bl false), (12, i64 1), (13, bl false), (15, pt b3), (16, i64 0), (17, pt b4), (113, .bool z), (114, .bool z), (115, .bool z)]) (by rw [Int.tmod_one]; rfl : (((R b.toNat + c).tmod 1) != 0) = false)
  refine ckS (l := [22, 23, 24, 25]) (r := []) (e' := [(2, i32 ld), (3, pt b1), (4, pt b2), (6, bl false), (12, i64 1), (13, bl false), (15, pt b3), (16, i64 0), (119, bl false)]) hA [.agg #[i64 0, i64 0, i64 0, i64 0, i64 0, i64 0, i64 0], bl true] (cc (hS.sn 0 0 43 [i64 0, i64 0, i64 0, i64 0, i64 0, i64 0, i64 0]) (cc ((eqG_of (by kernel_rfl) (by kernel_rfl)) : EqG Tryd.prog 43 (.agg #[i64 0, i64 0, i64 0, i64 0, i64 0, i64 0, i64 0]) (.agg #[i64 0, i64 0, i64 0, i64 0, i64 0, i64 0, i64 0]) true) c0)) ?_
  clear hA fr; intro fr hA
  refine end_plan ?_
  refine then_normal ?_
  refine cF hA ?_
  refine wp_skip ?_
  refine then_normal ?_
  refine wp_seq ?_
  refine sC (e' := [(2, i32 ld), (3, pt b1), (4, pt b2), (6, bl false), (12, i64 1), (15, pt b3), (16, i64 0), (120, bl false)]) 1 hA [] c0 ?_
  clear hA fr; intro fr hA
  refine cF hA ?_
  refine wp_skip ?_
  refine then_normal ?_
  refine wp_seq ?_
  have hS := hO
  refine rP [(0, true), (1, true), (2, true), (3, true), (4, true), (5, true), (6, true), (7, true), (8, true), (9, true), (10, true), (11, true), (12, true), (13, true), (14, true), (15, true), (16, true), (17, true), (18, true), (19, true), (20, true), (21, true), (22, true), (23, true), (24, true), (25, true), (26, true), (27, true), (28, true), (29, true), (30, true), (31, true), (32, true), (33, true), (34, true), (35, true), (36, true), (37, true), (38, true)] hS ?_
  intro w15 ho; replace hO := hO.st ho; clear ho
  refine ckS (l := (rg 0 19)) (r := [(19, true), (20, true), (21, true), (22, true), (23, true), (24, true), (25, true), (26, true), (27, true), (28, true), (29, true), (30, true), (31, true), (32, true), (33, true), (34, true), (35, true), (36, true), (37, true), (38, true)]) (e' := [(4, pt b2), (6, bl false), (12, i64 1), (15, pt b3), (157, bl (((((upd R a.toNat (IntKind.u8.wrap ld)) ((a).toNat)) - ld).tmod 256) == 0)), (158, bl (((((upd R a.toNat (IntKind.u8.wrap ld)) ((a).toNat)) - ld).tmod 256) == 0)), (159, bl (((((upd R a.toNat (IntKind.u8.wrap ld)) ((a).toNat)) - ld).tmod 256) == 0))]) hA [i64 a, i32 ((upd R a.toNat (IntKind.u8.wrap ld)) ((a).toNat)), bl true, bl true, bl true, bl false, bl false, bl false] (cc (hS.s1 4 1 3 (i64 a)) (cc (⟨by omega, by omega⟩ : (0 : Int) ≤ a ∧ a < ((16 : Nat) : Int)) (cc (hS.sx ((⟨b3, 0, none⟩ : Addr).add ((a).toNat)) 21 (i32 ((upd R a.toNat (IntKind.u8.wrap ld)) ((a).toNat))) fun _ hO => (ld_regs (hO.b 1) (by omega) (by kernel_rfl))) (cc ((inK_up (by kernel_rfl) (updOk2 hR (inK_up (by kernel_rfl) (wrap_inK .u8 _)) _)) : inK .i64 ((upd R a.toNat (IntKind.u8.wrap ld)) ((a).toNat))) (cc ((inK_i64 (by omega) (by omega)) : inK .i64 ld) (cc ((inK_i64 (by omega) (by omega)) : inK .i64 (((upd R a.toNat (IntKind.u8.wrap ld)) ((a).toNat)) - ld)) (cc (by omega : (0 : Int) ≤ 8) (cc (by omega : 256 ≠ (0 : Int)) c0)))))))) ?_
  clear hA fr; intro fr hA
  replace hA := hA.bool (f := fun z => [(4, pt b2), (6, bl false), (12, i64 1), (15, pt b3), (157, .bool z), (158, .bool z), (159, .bool z)]) (by first | exact mem_z _ (by rw [upd_same']; exact i32_q' _) | exact mem_z _ (by rw [upd_same']; exact u8_q _) : (((((upd R a.toNat (IntKind.u8.wrap ld)) ((a).toNat)) - ld).tmod 256) == 0) = true)
  refine ckS (l := (rg 19 10)) (r := [(29, true), (30, true), (31, true), (32, true), (33, true), (34, true), (35, true), (36, true), (37, true), (38, true)]) (e' := [(4, pt b2), (6, bl false), (15, pt b3), (159, bl true), (162, bl false), (168, bl (decide (((upd R a.toNat (IntKind.u8.wrap ld)) ((a).toNat)) ≥ 0))), (169, bl (decide (((upd R a.toNat (IntKind.u8.wrap ld)) ((a).toNat)) ≥ 0)))]) hA [i64 a, i32 ((upd R a.toNat (IntKind.u8.wrap ld)) ((a).toNat))] (cc (hS.s1 4 1 3 (i64 a)) (cc (⟨by omega, by omega⟩ : (0 : Int) ≤ a ∧ a < ((16 : Nat) : Int)) (cc (hS.sx ((⟨b3, 0, none⟩ : Addr).add ((a).toNat)) 21 (i32 ((upd R a.toNat (IntKind.u8.wrap ld)) ((a).toNat))) fun _ hO => (ld_regs (hO.b 1) (by omega) (by kernel_rfl))) c0))) ?_
  clear hA fr; intro fr hA
  replace hA := hA.bool (f := fun z => [(4, pt b2), (6, bl false), (15, pt b3), (159, bl true), (162, bl false), (168, .bool z), (169, .bool z)]) (by rw [upd_same']; exact decide_eq_true (by omega) : (decide (((upd R a.toNat (IntKind.u8.wrap ld)) ((a).toNat)) ≥ 0)) = true)
  refine ckS (l := (rg 29 10)) (r := []) (e' := [(6, bl (decide (((upd R a.toNat (IntKind.u8.wrap ld)) ((a).toNat)) < 256)))]) hA [i64 a, i32 ((upd R a.toNat (IntKind.u8.wrap ld)) ((a).toNat))] (cc (hS.s1 4 1 3 (i64 a)) (cc (⟨by omega, by omega⟩ : (0 : Int) ≤ a ∧ a < ((16 : Nat) : Int)) (cc (hS.sx ((⟨b3, 0, none⟩ : Addr).add ((a).toNat)) 21 (i32 ((upd R a.toNat (IntKind.u8.wrap ld)) ((a).toNat))) fun _ hO => (ld_regs (hO.b 1) (by omega) (by kernel_rfl))) c0))) ?_
  clear hA fr; intro fr hA
  refine end_plan ?_
  refine then_normal ?_
  refine wp_ret ?_
  refine cR (cs := [none]) (us := [bl (decide (((upd R a.toNat (IntKind.u8.wrap ld)) ((a).toNat)) < 256))]) hA [] trivial ?_
  have hF := hO.only; clear hA hO
  exact ⟨by first | rfl | (simp [pack]; done) | (simp [pack]; omega), hF⟩

theorem mem_17 (R : Nat → Int) (pc a b c v ld : Int) (w : World) (hT : Tab w) (hR : RegsOk R) (hld : inK .i32 ld) (hl : legalB 17 a b c v = true) (hp : -1099511627776 < pc) (hp' : pc < 1099511627776) :
    Calls Tryd.prog 10 #[.agg (List.toArray (regsL R pc)), .agg #[i64 17, i64 a, i64 b, i64 c, i64 v], i32 ld] w fun e w' => e = .returned (.bool true) ∧ Only none' w w' := by
  refine c_enter (args := [.agg (List.toArray (regsL R pc)), .agg #[i64 17, i64 a, i64 b, i64 c, i64 v], i32 ld]) (m := 176) (n := 179) Tryd.func10 rfl (by kernel_rfl) (by kernel_rfl) fun fr hA => ?_
  have hO := Ow.nil Tryd.prog none' w
  have hld1 : -2147483648 ≤ ld ∧ ld ≤ 2147483647 := hld
  obtain ⟨ho_, ha_, hb_, hc_, hv_, hc2_⟩ := legal_spec hl; have hRa_ := hR a.toNat; have hRb_ := hR b.toNat; simp only [inK] at hRa_ hRb_
  have wi32 : -2147483648 ≤ IntKind.i32.wrap ld ∧ IntKind.i32.wrap ld ≤ 2147483647 := wrap_inK .i32 ld; have wu8 : 0 ≤ IntKind.u8.wrap ld ∧ IntKind.u8.wrap ld ≤ 255 := wrap_inK .u8 ld; have wu9 : 0 ≤ IntKind.u8.wrap (R a.toNat) ∧ IntKind.u8.wrap (R a.toNat) ≤ 255 := wrap_inK .u8 _; have hU1 := upd_same' R a.toNat (IntKind.i32.wrap ld); have hU2 := upd_same' R a.toNat (IntKind.u8.wrap ld)
  refine sR (l := [0, 1, 2]) ?_
  refine wpOps_cons' (mN (l := (regsL R pc)) (t := 38) (v := pt) (d := 3) hA hO ?_)
  clear hA hO fr; intro fr w1 b1 hA hO
  replace hA := hA.sb (e' := [(1, .agg #[i64 17, i64 a, i64 b, i64 c, i64 v]), (2, i32 ld), (3, pt b1)])
  refine wpOps_cons' (mN (l := [i64 17, i64 a, i64 b, i64 c, i64 v]) (t := 29) (v := pt) (d := 4) hA hO ?_)
  clear hA hO fr; intro fr w2 b2 hA hO
  replace hA := hA.sb (e' := [(2, i32 ld), (3, pt b1), (4, pt b2)])
  refine ck (l := [2]) (r := []) (e' := [(2, i32 ld), (3, pt b1), (4, pt b2), (6, bl false)]) hA [] c0 ?_
  clear hA fr; intro fr hA
  refine end_ops ?_
  refine then_normal ?_
  refine wp_seq ?_
  refine sR (l := [0, 1]) ?_
  refine wpOps_cons' (mK (f := 12) (args := []) (d := (some 19)) (v := bl true) hA hO Tryd.func12 (awake_any _ (hT.keep hO.only (fun h => h))) ?_)
  clear hA hO fr; intro fr w3 hA hO
  refine ck (l := [1]) (r := []) (e' := [(2, i32 ld), (3, pt b1), (4, pt b2), (6, bl false), (20, bl false)]) hA [] c0 ?_
  clear hA fr; intro fr hA
  refine end_ops ?_
  refine then_normal ?_
  refine cF hA ?_
  refine wp_skip ?_
  refine then_normal ?_
  refine sR (l := (rg 0 9)) ?_
  refine ck (l := [0, 1]) (r := (rg 2 7)) (e' := [(2, i32 ld), (3, pt b1), (4, pt b2), (6, bl false), (23, i64 ld)]) hA [bl true] (cc ((inK_i64 (by omega) (by omega)) : inK .i64 ld) c0) ?_
  clear hA fr; intro fr hA
  refine wpOps_cons' (mC (f := 28) (args := [i64 ld]) (d := (some 24)) hA Tryd.func28 ((put_any ld _).mono ?_))
  rintro en w4 ⟨k1, rfl, ho, hbk, hge⟩
  refine ⟨_, rfl, ?_⟩
  clear hA fr; intro fr hA
  replace hO := hO.add ho hbk hge; clear ho hbk hge
  replace hA := hA.sb (e' := [(2, i32 ld), (3, pt b1), (4, pt b2), (6, bl false), (24, .slice (some ⟨k1, 0, none⟩) 4 4)])
  refine wpOps_cons' (mK (f := 27) (args := [.slice (some ⟨k1, 0, none⟩) 4 4]) (d := (some 25)) (v := .tuple #[i64 ld, i64 0]) hA hO Tryd.func27 (rs (cword_any _ _ _ _ _ _ ((hO.b 0).sl (xs := [IntKind.u8.wrap ld, IntKind.u8.wrap (ld / 256), IntKind.u8.wrap (ld / 65536), IntKind.u8.wrap (ld / 16777216)]) (U8s.cons (wrap_inK .u8 _) (U8s.cons (wrap_inK .u8 _) (U8s.cons (wrap_inK .u8 _) (U8s.cons (wrap_inK .u8 _) U8s.nil)))) rfl (by kernel_rfl))) (congrArg (fun z => Value.tuple #[.int .i64 z, .int .i64 0]) (put_word hld))) ?_)
  clear hA hO fr; intro fr w5 hA hO
  replace hA := hA.sb (e' := [(2, i32 ld), (3, pt b1), (4, pt b2), (6, bl false), (25, .tuple #[i64 ld, i64 0])])
  refine ck (l := (rg 4 5)) (r := []) (e' := [(2, i32 ld), (3, pt b1), (4, pt b2), (6, bl false), (7, i64 ld), (8, i64 0)]) hA [] c0 ?_
  clear hA fr; intro fr hA
  refine end_ops ?_
  refine then_normal ?_
  refine wp_seq ?_
  refine sR (l := (rg 0 13)) ?_
  refine ck (l := (rg 0 9)) (r := [9, 10, 11, 12]) (e' := [(2, i32 ld), (3, pt b1), (4, pt b2), (6, bl false), (7, i64 ld), (8, i64 0), (34, bl (ld != ld)), (35, bl (ld != ld)), (36, bl (ld != ld))]) hA [bl true] (cc ((inK_i64 (by omega) (by omega)) : inK .i64 ld) c0) ?_
  clear hA fr; intro fr hA
  replace hA := hA.bool (f := fun z => [(2, i32 ld), (3, pt b1), (4, pt b2), (6, bl false), (7, i64 ld), (8, i64 0), (34, .bool z), (35, .bool z), (36, .bool z)]) (by simp : (ld != ld) = false)
  refine ck (l := [9]) (r := [10, 11, 12]) (e' := [(2, i32 ld), (3, pt b1), (4, pt b2), (6, bl false), (7, i64 ld), (8, i64 0), (36, bl false), (37, .agg (List.toArray (regsL R pc)))]) hA [.agg (List.toArray (regsL R pc))] (cc (hO.ln 2 0 38 (regsL R pc)) c0) ?_
  clear hA fr; intro fr hA
  refine wpOps_cons' (mK (f := 17) (args := [.agg (List.toArray (regsL R pc))]) (d := (some 38)) (v := bl (decide (pc > -1099511627776) && decide (pc < 1099511627776))) hA hO Tryd.func17 (tame_two R pc _) ?_)
  clear hA hO fr; intro fr w6 hA hO
  replace hA := hA.sb (e' := [(2, i32 ld), (3, pt b1), (4, pt b2), (6, bl false), (7, i64 ld), (8, i64 0), (36, bl false), (38, bl (decide (pc > -1099511627776) && decide (pc < 1099511627776)))])
  refine ck (l := [11, 12]) (r := []) (e' := [(2, i32 ld), (3, pt b1), (4, pt b2), (6, bl false), (7, i64 ld), (8, i64 0), (40, bl (!(decide (pc > -1099511627776) && decide (pc < 1099511627776))))]) hA [] c0 ?_
  clear hA fr; intro fr hA
  refine end_ops ?_
  refine then_normal ?_
  replace hA := hA.bool (f := fun z => [(2, i32 ld), (3, pt b1), (4, pt b2), (6, bl false), (7, i64 ld), (8, i64 0), (40, .bool !z)]) (by simp; omega : (decide (pc > -1099511627776) && decide (pc < 1099511627776)) = true)
  refine cF hA ?_
  refine wp_skip ?_
  refine then_normal ?_
  refine sR (l := (rg 0 7)) ?_
  refine ck (l := [0]) (r := (rg 1 6)) (e' := [(2, i32 ld), (3, pt b1), (4, pt b2), (6, bl false), (50, .agg #[i64 17, i64 a, i64 b, i64 c, i64 v])]) hA [.agg #[i64 17, i64 a, i64 b, i64 c, i64 v]] (cc (hO.ln 1 0 29 [i64 17, i64 a, i64 b, i64 c, i64 v]) c0) ?_
  clear hA fr; intro fr hA
  refine wpOps_cons' (mC (f := 15) (args := [.agg #[i64 17, i64 a, i64 b, i64 c, i64 v]]) (d := (some 51)) hA Tryd.func15 ((encode_ok 17 a b c v _ (hT.keep hO.only (fun h => h)) hl).mono ?_))
  rintro en w7 ⟨k2, rfl, ho, hbk, hge⟩
  refine ⟨_, rfl, ?_⟩
  clear hA fr; intro fr hA
  replace hO := hO.add ho hbk hge; clear ho hbk hge
  replace hA := hA.sb (e' := [(2, i32 ld), (3, pt b1), (4, pt b2), (6, bl false), (51, .tuple #[.slice (some ⟨k2, 0, none⟩) 4 4, i64 0])])
  refine ck (l := (rg 2 5)) (r := []) (e' := [(2, i32 ld), (3, pt b1), (4, pt b2), (6, bl false), (9, .slice (some ⟨k2, 0, none⟩) 4 4), (10, i64 0)]) hA [] c0 ?_
  clear hA fr; intro fr hA
  refine end_ops ?_
  refine then_normal ?_
  refine wp_seq ?_
  refine sC (e' := [(2, i32 ld), (3, pt b1), (4, pt b2), (6, bl false), (9, .slice (some ⟨k2, 0, none⟩) 4 4), (55, bl false)]) 2 hA [] c0 ?_
  clear hA fr; intro fr hA
  refine cF hA ?_
  refine wp_skip ?_
  refine then_normal ?_
  refine sR (l := (rg 0 12)) ?_
  refine ck (l := [0, 1]) (r := (rg 2 10)) (e' := [(2, i32 ld), (3, pt b1), (4, pt b2), (6, bl false), (9, .slice (some ⟨k2, 0, none⟩) 4 4), (57, .agg (List.toArray (regsL R pc))), (58, .slice (some ⟨k2, 0, none⟩) 4 4)]) hA [.agg (List.toArray (regsL R pc))] (cc (hO.ln 3 0 38 (regsL R pc)) c0) ?_
  clear hA fr; intro fr hA
  refine wpOps_cons' (mK (f := 24) (args := [.agg (List.toArray (regsL R pc)), .slice (some ⟨k2, 0, none⟩) 4 4]) (d := (some 59)) (v := .tuple #[i64 (R b.toNat + c), i64 1, bl true, bl true]) hA hO Tryd.func24 (rs (acc_any R pc _ ([IntKind.u8.wrap 17, IntKind.u8.wrap a, cond (opV 17) (IntKind.u8.wrap (v / 256)) (IntKind.u8.wrap b), cond (opV 17) (IntKind.u8.wrap v) (IntKind.u8.wrap c)]) _ (hT.keep hO.only (fun h => h)) hR ((hO.b 0).sl (xs := [IntKind.u8.wrap 17, IntKind.u8.wrap a, cond (opV 17) (IntKind.u8.wrap (v / 256)) (IntKind.u8.wrap b), cond (opV 17) (IntKind.u8.wrap v) (IntKind.u8.wrap c)]) (U8s.cons (wrap_inK .u8 _) (U8s.cons (wrap_inK .u8 _) (U8s.cons (inK_cond (wrap_inK .u8 _) (wrap_inK .u8 _)) (U8s.cons (inK_cond (wrap_inK .u8 _) (wrap_inK .u8 _)) U8s.nil)))) rfl (by kernel_rfl))) ((accX_enc R hl).trans (if_pos (Int.tmod_one _)))) ?_)
  clear hA hO fr; intro fr w8 hA hO
  replace hA := hA.sb (e' := [(2, i32 ld), (3, pt b1), (4, pt b2), (6, bl false), (9, .slice (some ⟨k2, 0, none⟩) 4 4), (59, .tuple #[i64 (R b.toNat + c), i64 1, bl true, bl true])])
  refine ck (l := (rg 3 9)) (r := []) (e' := [(2, i32 ld), (3, pt b1), (4, pt b2), (6, bl false), (9, .slice (some ⟨k2, 0, none⟩) 4 4), (11, i64 (R b.toNat + c)), (12, i64 1), (13, bl true), (14, bl true)]) hA [] c0 ?_
  clear hA fr; intro fr hA
  refine end_ops ?_
  refine then_normal ?_
  refine sR (l := (rg 0 14)) ?_
  refine ck (l := [0, 1, 2, 3]) (r := (rg 4 10)) (e' := [(2, i32 ld), (3, pt b1), (4, pt b2), (6, bl false), (11, i64 (R b.toNat + c)), (12, i64 1), (13, bl true), (14, bl true), (65, .agg (List.toArray (regsL R pc))), (66, .slice (some ⟨k2, 0, none⟩) 4 4), (68, i64 ld)]) hA [.agg (List.toArray (regsL R pc)), bl true] (cc (hO.ln 3 0 38 (regsL R pc)) (cc ((inK_i64 (by omega) (by omega)) : inK .i64 ld) c0)) ?_
  clear hA fr; intro fr hA
  refine wpOps_cons' (mK (f := 18) (args := [.agg (List.toArray (regsL R pc)), .slice (some ⟨k2, 0, none⟩) 4 4, i64 ld]) (d := (some 69)) (v := .tuple #[.agg (List.toArray (regsL R (pc + 4))), i64 (IntKind.u8.wrap (R a.toNat)), .agg #[i64 0, i64 0, i64 0, i64 0, i64 0, i64 0, i64 0]]) hA hO Tryd.func18 (rs (exec_any R pc ld _ ([IntKind.u8.wrap 17, IntKind.u8.wrap a, cond (opV 17) (IntKind.u8.wrap (v / 256)) (IntKind.u8.wrap b), cond (opV 17) (IntKind.u8.wrap v) (IntKind.u8.wrap c)]) _ (hT.keep hO.only (fun h => h)) hR hp hp' ((hO.b 0).sl (xs := [IntKind.u8.wrap 17, IntKind.u8.wrap a, cond (opV 17) (IntKind.u8.wrap (v / 256)) (IntKind.u8.wrap b), cond (opV 17) (IntKind.u8.wrap v) (IntKind.u8.wrap c)]) (U8s.cons (wrap_inK .u8 _) (U8s.cons (wrap_inK .u8 _) (U8s.cons (inK_cond (wrap_inK .u8 _) (wrap_inK .u8 _)) (U8s.cons (inK_cond (wrap_inK .u8 _) (wrap_inK .u8 _)) U8s.nil)))) rfl (by kernel_rfl))) ((execX_enc R pc ld hl).trans (by kernel_rfl))) ?_)
  clear hA hO fr; intro fr w9 hA hO
  replace hA := hA.sb (e' := [(2, i32 ld), (3, pt b1), (4, pt b2), (6, bl false), (11, i64 (R b.toNat + c)), (12, i64 1), (13, bl true), (14, bl true), (69, .tuple #[.agg (List.toArray (regsL R (pc + 4))), i64 (IntKind.u8.wrap (R a.toNat)), .agg #[i64 0, i64 0, i64 0, i64 0, i64 0, i64 0, i64 0]])])
  refine ck (l := [5, 6, 7, 8]) (r := (rg 9 5)) (e' := [(2, i32 ld), (3, pt b1), (4, pt b2), (6, bl false), (11, i64 (R b.toNat + c)), (12, i64 1), (13, bl true), (14, bl true), (70, .agg (List.toArray (regsL R (pc + 4)))), (71, i64 (IntKind.u8.wrap (R a.toNat))), (72, .agg #[i64 0, i64 0, i64 0, i64 0, i64 0, i64 0, i64 0])]) hA [] c0 ?_
  clear hA fr; intro fr hA
  refine wpOps_cons' (mN (l := [i32 0, i32 0, i32 0, i32 0, i32 0, i32 0, i32 0, i32 0, i32 0, i32 0, i32 0, i32 0, i32 0, i32 0, i32 0, i32 0, i64 0]) (t := 40) (v := pt) (d := 15) hA hO ?_)
  clear hA hO fr; intro fr w10 b3 hA hO
  refine wpOps_cons' (mN (l := [i64 0, i64 0, i64 0, i64 0, i64 0, i64 0, i64 0]) (t := 43) (v := pt) (d := 17) hA hO ?_)
  clear hA hO fr; intro fr w11 b4 hA hO
  refine wpOps_cons' (mS (off := 0) (vc := (regsL R (pc + 4))) 1 hA hO ?_)
  clear hO; intro w12 hO
  replace hA := hA.sb (e' := [(2, i32 ld), (3, pt b1), (4, pt b2), (6, bl false), (11, i64 (R b.toNat + c)), (12, i64 1), (13, bl true), (14, bl true), (15, pt b3), (17, pt b4), (71, i64 (IntKind.u8.wrap (R a.toNat))), (72, .agg #[i64 0, i64 0, i64 0, i64 0, i64 0, i64 0, i64 0])])
  refine ck (l := [12]) (r := [13]) (e' := [(2, i32 ld), (3, pt b1), (4, pt b2), (6, bl false), (11, i64 (R b.toNat + c)), (12, i64 1), (13, bl true), (14, bl true), (15, pt b3), (16, i64 (IntKind.u8.wrap (R a.toNat))), (17, pt b4), (72, .agg #[i64 0, i64 0, i64 0, i64 0, i64 0, i64 0, i64 0])]) hA [] c0 ?_
  clear hA fr; intro fr hA
  refine wpOps_cons' (mS (off := 0) (vc := [i64 0, i64 0, i64 0, i64 0, i64 0, i64 0, i64 0]) 0 hA hO ?_)
  clear hO; intro w13 hO
  replace hA := hA.sb (e' := [(2, i32 ld), (3, pt b1), (4, pt b2), (6, bl false), (11, i64 (R b.toNat + c)), (12, i64 1), (13, bl true), (14, bl true), (15, pt b3), (16, i64 (IntKind.u8.wrap (R a.toNat))), (17, pt b4)])
  refine end_ops ?_
  refine then_normal ?_
  refine sC (e' := [(2, i32 ld), (3, pt b1), (4, pt b2), (6, bl false), (11, i64 (R b.toNat + c)), (12, i64 1), (13, bl true), (14, bl true), (15, pt b3), (16, i64 (IntKind.u8.wrap (R a.toNat))), (17, pt b4), (18, bl true)]) 9 hA [i64 17, i64 17] (cc (hO.l1 4 0 3 (i64 17)) (cc (hO.l1 4 0 3 (i64 17)) c0)) ?_
  clear hA fr; intro fr hA
  refine wp_seq ?_
  refine sC (e' := [(2, i32 ld), (3, pt b1), (4, pt b2), (6, bl false), (11, i64 (R b.toNat + c)), (12, i64 1), (13, bl true), (15, pt b3), (16, i64 (IntKind.u8.wrap (R a.toNat))), (17, pt b4), (18, bl true), (82, bl false)]) 2 hA [] c0 ?_
  clear hA fr; intro fr hA
  refine cF hA ?_
  refine wp_skip ?_
  refine then_normal ?_
  refine wp_seq ?_
  refine wp_seq ?_
  have hS := hO
  refine rP [(0, true), (1, true), (2, true), (3, true), (4, true), (5, true), (6, true), (7, true), (8, true), (9, true), (10, true), (11, true), (12, true), (13, true), (14, true), (15, true), (16, true), (17, true), (18, true), (19, true), (20, true), (21, true), (22, true), (23, true), (24, true), (25, true)] hS ?_
  intro w14 ho; replace hO := hO.st ho; clear ho
  refine ckS (l := (rg 0 16)) (r := [(16, true), (17, true), (18, true), (19, true), (20, true), (21, true), (22, true), (23, true), (24, true), (25, true)]) (e' := [(2, i32 ld), (3, pt b1), (4, pt b2), (6, bl false), (11, i64 (R b.toNat + c)), (12, i64 1), (13, bl true), (15, pt b3), (16, i64 (IntKind.u8.wrap (R a.toNat))), (17, pt b4), (107, bl ((R b.toNat + c) != ((R ((b).toNat)) + c))), (108, bl ((R b.toNat + c) != ((R ((b).toNat)) + c))), (109, bl ((R b.toNat + c) != ((R ((b).toNat)) + c)))]) hA [i64 b, i32 (R ((b).toNat)), bl true, i64 c, bl true] (cc (hS.s1 4 2 3 (i64 b)) (cc (⟨by omega, by omega⟩ : (0 : Int) ≤ b ∧ b < ((16 : Nat) : Int)) (cc (hS.sx ((⟨b1, 0, none⟩ : Addr).add ((b).toNat)) 21 (i32 (R ((b).toNat))) fun _ hO => (ld_regs (hO.b 5) (by omega) (by kernel_rfl))) (cc ((inK_up (by kernel_rfl) (hR _)) : inK .i64 (R ((b).toNat))) (cc (hS.s1 4 3 3 (i64 c)) (cc ((inK_i64 (by omega) (by omega)) : inK .i64 ((R ((b).toNat)) + c)) c0)))))) ?_
  clear hA fr; intro fr hA
  replace hA := hA.bool (f := fun z => [(2, i32 ld), (3, pt b1), (4, pt b2), (6, bl false), (11, i64 (R b.toNat + c)), (12, i64 1), (13, bl true), (15, pt b3), (16, i64 (IntKind.u8.wrap (R a.toNat))), (17, pt b4), (107, .bool z), (108, .bool z), (109, .bool z)]) (by simp : ((R b.toNat + c) != ((R ((b).toNat)) + c)) = false)
  refine ckS (l := (rg 16 6)) (r := [(22, true), (23, true), (24, true), (25, true)]) (e' := [(2, i32 ld), (3, pt b1), (4, pt b2), (6, bl false), (12, i64 1), (13, bl true), (15, pt b3), (16, i64 (IntKind.u8.wrap (R a.toNat))), (17, pt b4), (113, bl (((R b.toNat + c).tmod 1) != 0)), (114, bl (((R b.toNat + c).tmod 1) != 0)), (115, bl (((R b.toNat + c).tmod 1) != 0))]) hA [bl false] (cc (by omega : 1 ≠ (0 : Int)) c0) ?_
  clear hA fr; intro fr hA
  replace hA := hA.bool (f := fun z => [(2, i32 ld), (3, pt b1), (4, pt b2), (6, bl false), (12, i64 1), (13, bl true), (15, pt b3), (16, i64 (IntKind.u8.wrap (R a.toNat))), (17, pt b4), (113, .bool z), (114, .bool z), (115, .bool z)]) (by rw [Int.tmod_one]; rfl : (((R b.toNat + c).tmod 1) != 0) = false)
  refine ckS (l := [22, 23, 24, 25]) (r := []) (e' := [(2, i32 ld), (3, pt b1), (4, pt b2), (6, bl false), (12, i64 1), (13, bl true), (15, pt b3), (16, i64 (IntKind.u8.wrap (R a.toNat))), (119, bl false)]) hA [.agg #[i64 0, i64 0, i64 0, i64 0, i64 0, i64 0, i64 0], bl true] (cc (hS.sn 0 0 43 [i64 0, i64 0, i64 0, i64 0, i64 0, i64 0, i64 0]) (cc ((eqG_of (by kernel_rfl) (by kernel_rfl)) : EqG Tryd.prog 43 (.agg #[i64 0, i64 0, i64 0, i64 0, i64 0, i64 0, i64 0]) (.agg #[i64 0, i64 0, i64 0, i64 0, i64 0, i64 0, i64 0]) true) c0)) ?_
  clear hA fr; intro fr hA
  refine end_plan ?_
  refine then_normal ?_
  refine cF hA ?_
  refine wp_skip ?_
  refine then_normal ?_
  refine wp_seq ?_
  refine sC (e' := [(2, i32 ld), (3, pt b1), (4, pt b2), (6, bl false), (12, i64 1), (15, pt b3), (16, i64 (IntKind.u8.wrap (R a.toNat))), (120, bl true)]) 1 hA [] c0 ?_
  clear hA fr; intro fr hA
  refine cT hA ?_
  refine wp_seq ?_
  have hS := hO
  refine rP [(0, true), (1, true), (2, true), (3, true), (4, true), (5, true), (6, true), (7, true), (8, true), (9, true), (10, true), (11, true), (12, true), (13, true), (14, true), (15, true), (16, true), (17, true), (18, true), (19, true), (20, true)] hS ?_
  intro w15 ho; replace hO := hO.st ho; clear ho
  refine ckS (l := (rg 0 14)) (r := [(14, true), (15, true), (16, true), (17, true), (18, true), (19, true), (20, true)]) (e' := [(2, i32 ld), (3, pt b1), (4, pt b2), (6, bl false), (12, i64 1), (15, pt b3), (16, i64 (IntKind.u8.wrap (R a.toNat))), (133, bl ((((IntKind.u8.wrap (R a.toNat)) - (R ((a).toNat))).tmod 256) == 0)), (134, bl ((((IntKind.u8.wrap (R a.toNat)) - (R ((a).toNat))).tmod 256) == 0))]) hA [i64 a, i32 (R ((a).toNat)), bl true, bl true, bl false, bl false, bl false] (cc (hS.s1 4 1 3 (i64 a)) (cc (⟨by omega, by omega⟩ : (0 : Int) ≤ a ∧ a < ((16 : Nat) : Int)) (cc (hS.sx ((⟨b1, 0, none⟩ : Addr).add ((a).toNat)) 21 (i32 (R ((a).toNat))) fun _ hO => (ld_regs (hO.b 5) (by omega) (by kernel_rfl))) (cc ((inK_up (by kernel_rfl) (hR _)) : inK .i64 (R ((a).toNat))) (cc ((inK_i64 (by omega) (by omega)) : inK .i64 ((IntKind.u8.wrap (R a.toNat)) - (R ((a).toNat)))) (cc (by omega : (0 : Int) ≤ 8) (cc (by omega : 256 ≠ (0 : Int)) c0))))))) ?_
  clear hA fr; intro fr hA
  replace hA := hA.bool (f := fun z => [(2, i32 ld), (3, pt b1), (4, pt b2), (6, bl false), (12, i64 1), (15, pt b3), (16, i64 (IntKind.u8.wrap (R a.toNat))), (133, .bool z), (134, .bool z)]) (by first | exact mem_z _ ⟨0, by omega⟩ | exact mem_z _ (u8_q _) : ((((IntKind.u8.wrap (R a.toNat)) - (R ((a).toNat))).tmod 256) == 0) = true)
  refine ckS (l := (rg 14 7)) (r := []) (e' := [(2, i32 ld), (4, pt b2), (6, bl true), (12, i64 1), (15, pt b3), (16, i64 (IntKind.u8.wrap (R a.toNat)))]) hA [.agg (List.toArray (regsL R (pc + 4))), .agg (List.toArray (regsA R)), bl true] (cc (hS.sn 1 0 40 (regsL R (pc + 4))) (cc (hS.sn 5 0 36 (regsA R)) (cc ((eqG_of (b := ((R 0) == (R 0)) && (((R 1) == (R 1)) && (((R 2) == (R 2)) && (((R 3) == (R 3)) && (((R 4) == (R 4)) && (((R 5) == (R 5)) && (((R 6) == (R 6)) && (((R 7) == (R 7)) && (((R 8) == (R 8)) && (((R 9) == (R 9)) && (((R 10) == (R 10)) && (((R 11) == (R 11)) && (((R 12) == (R 12)) && (((R 13) == (R 13)) && (((R 14) == (R 14)) && (((R 15) == (R 15)) && true)))))))))))))))) (by kernel_rfl) (by kernel_rfl)).cast (by simp) : EqG Tryd.prog 36 (.agg (List.toArray (regsA R))) (.agg (List.toArray (regsA R))) true) c0))) ?_
  clear hA fr; intro fr hA
  refine end_plan ?_
  refine then_normal ?_
  refine wp_ret ?_
  refine then_ret ?_
  refine cR (cs := [none]) (us := [bl true]) hA [] trivial ?_
  have hF := hO.only; clear hA hO
  exact ⟨by first | rfl | (simp [pack]; done) | (simp [pack]; omega), hF⟩

theorem law_memory (R : Nat → Int) (pc o a b c v ld : Int) (w : World) (hT : Tab w) (hR : RegsOk R) (hld : inK .i32 ld) : Calls Tryd.prog 10 #[.agg (regsL R pc).toArray, insV o a b c v, .int .i32 ld] w fun e w' => e = .returned (.bool true) ∧ Only none' w w' := by
  by_cases hp : -1099511627776 < pc ∧ pc < 1099511627776
  · cases hl : legalB o a b c v with
    | false => exact mem_bad R pc o a b c v ld w hT hR hld hl hp.1 hp.2
    | true =>
      by_cases e14 : o = 14
      · subst e14
        by_cases hm : (R b.toNat + c).tmod 4 = 0
        · exact mem_14 R pc a b c v ld w hT hR hld hl hp.1 hp.2 hm
        · exact mem_un14 R pc a b c v ld w hT hR hld hl hp.1 hp.2 hm
      by_cases e15 : o = 15
      · subst e15
        by_cases hm : (R b.toNat + c).tmod 4 = 0
        · exact mem_15 R pc a b c v ld w hT hR hld hl hp.1 hp.2 hm
        · exact mem_un15 R pc a b c v ld w hT hR hld hl hp.1 hp.2 hm
      by_cases e16 : o = 16
      · subst e16; exact mem_16 R pc a b c v ld w hT hR hld hl hp.1 hp.2
      by_cases e17 : o = 17
      · subst e17; exact mem_17 R pc a b c v ld w hT hR hld hl hp.1 hp.2
      have hn : ¬ (14 ≤ o ∧ o ≤ 17) := by omega
      obtain ⟨R', pc', k, p0, p1, p2, p3, p4, p5, hx⟩ := exec_out0 R pc ld o a b c v hn
      exact mem_other R' R pc pc' k p0 p1 p2 p3 p4 p5 o a b c v ld w hT hR hld hl hp.1 hp.2 hn hx
  · exact mem_wild R pc o a b c v ld w hT hR hld hp

end Go.Proofs.YtcaokjdihhbkjaaDoor
