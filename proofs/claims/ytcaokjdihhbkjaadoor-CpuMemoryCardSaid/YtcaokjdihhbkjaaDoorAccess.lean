/- The layer cpu: walks of Access. -/
import Derived.Test.YtcaokjdihhbkjaaDoorEncdec
import Derived.Test.YtcaokjdihhbkjaaDoorWord
set_option linter.unusedVariables false
set_option linter.unusedSimpArgs false
set_option maxRecDepth 10000
namespace Go.Proofs.YtcaokjdihhbkjaaDoor
open Go Go.RowKit Go.Proofs.Sx

def acc0 : Value := .tuple #[.int .i64 0, .int .i64 0, .bool false, .bool false]
/-- What Access returns for a legal instruction. -/
def accV (R : Nat → Int) (o b c : Int) : Value := if placeN o = 0 then acc0 else if (R b.toNat + c).tmod (placeN o) = 0 then .tuple #[.int .i64 (R b.toNat + c), .int .i64 (placeN o), .bool (o == 15 || o == 17), .bool true] else acc0
def accX (R : Nat → Int) (xs : List Int) : Value := match decX xs with
  | some (o, _, b, c, _) => accV R o b c
  | none => acc0
theorem acc_form (R : Nat → Int) (xs : List Int) : ∃ at_ n wr ok, accX R xs = .tuple #[.int .i64 at_, .int .i64 n, .bool wr, .bool ok] := by
  unfold accX
  rcases decX xs with _ | ⟨o, a, b, c, v⟩
  · exact ⟨_, _, _, _, rfl⟩
  · simp only [accV]
    by_cases h : placeN o = 0
    · rw [if_pos h]; exact ⟨_, _, _, _, rfl⟩
    · rw [if_neg h]
      by_cases h2 : (R b.toNat + c).tmod (placeN o) = 0
      · rw [if_pos h2]; exact ⟨_, _, _, _, rfl⟩
      · rw [if_neg h2]; exact ⟨_, _, _, _, rfl⟩
def IsOut (x : Value) : Prop := ∃ (R' : Nat → Int) (pc' st k p0 p1 p2 p3 p4 p5 : Int), x = outV R' pc' st (trapL k p0 p1 p2 p3 p4 p5)
theorem IsOut.ite {p : Prop} [Decidable p] {x y : Value} (h : IsOut x) (h' : IsOut y) : IsOut (if p then x else y) := by split <;> assumption
theorem IsOut.mk (R : Nat → Int) (pc st k p0 p1 p2 p3 p4 p5 : Int) : IsOut (outV R pc st (trapL k p0 p1 p2 p3 p4 p5)) := ⟨_, _, _, _, _, _, _, _, _, _, rfl⟩
theorem exec_form (R : Nat → Int) (pc ld : Int) (xs : List Int) : IsOut (execX R pc ld xs) := by
  unfold execX
  rcases decX xs with _ | ⟨o, a, b, c, v⟩
  · exact .mk ..
  · simp only [execV]
    repeat' refine IsOut.ite ?_ ?_
    all_goals exact .mk ..

theorem acc_14 (R : Nat → Int) (pc a b c v : Int) (sl : Value) (w : World) (hT : Tab w) (hR : RegsOk R) (ha : 0 ≤ a) (ha' : a ≤ 15) (hb : 0 ≤ b) (hb' : b ≤ 15) (hc : -128 ≤ c) (hc' : c ≤ 127) (hdec : ∀ w', Only none' w w' → Calls Tryd.prog 13 #[sl] w' fun e w2 => e = .returned (.tuple #[insV 14 a b c v, .int .i64 0]) ∧ Only none' w' w2) :
    Calls Tryd.prog 24 #[.agg (List.toArray (regsL R pc)), sl] w fun e w' => e = .returned (accV R 14 b c) ∧ Only none' w w' := by
  refine c_enter (args := [.agg (List.toArray (regsL R pc)), sl]) (m := 41) (n := 43) Tryd.func24 rfl (by kernel_rfl) (by kernel_rfl) fun fr hA => ?_
  have hO := Ow.nil Tryd.prog none' w
  have hRb := hR b.toNat; simp only [inK] at hRb
  refine sR (l := [0, 1, 2, 3, 4]) ?_
  refine wpOps_cons' (mN (l := (regsL R pc)) (t := 40) (v := pt) (d := 2) hA hO ?_)
  clear hA hO fr; intro fr w1 b1 hA hO
  replace hA := hA.sb (e' := [(1, sl), (2, pt b1)])
  refine ck (l := [1, 2, 3, 4]) (r := []) (e' := [(1, sl), (2, pt b1), (4, i64 0), (5, i64 0), (6, bl false), (7, bl false)]) hA [] c0 ?_
  clear hA fr; intro fr hA
  refine end_ops ?_
  refine then_normal ?_
  refine sR (l := (rg 0 8)) ?_
  refine ck (l := [0]) (r := (rg 1 7)) (e' := [(2, pt b1), (4, i64 0), (5, i64 0), (6, bl false), (7, bl false), (13, sl)]) hA [] c0 ?_
  clear hA fr; intro fr hA
  refine wpOps_cons' (mK (f := 13) (args := [sl]) (d := (some 14)) (v := .tuple #[.agg #[i64 14, i64 a, i64 b, i64 c, i64 v], i64 0]) hA hO Tryd.func13 (hdec _ hO.only) ?_)
  clear hA hO fr; intro fr w2 hA hO
  replace hA := hA.sb (e' := [(2, pt b1), (4, i64 0), (5, i64 0), (6, bl false), (7, bl false), (14, .tuple #[.agg #[i64 14, i64 a, i64 b, i64 c, i64 v], i64 0])])
  refine ck (l := [2, 3, 4]) (r := [5, 6, 7]) (e' := [(2, pt b1), (4, i64 0), (5, i64 0), (6, bl false), (7, bl false), (15, .agg #[i64 14, i64 a, i64 b, i64 c, i64 v]), (16, i64 0)]) hA [] c0 ?_
  clear hA fr; intro fr hA
  refine wpOps_cons' (mN (l := [i64 0, i64 0, i64 0, i64 0, i64 0]) (t := 25) (v := pt) (d := 8) hA hO ?_)
  clear hA hO fr; intro fr w3 b2 hA hO
  refine wpOps_cons' (mS (off := 0) (vc := [i64 14, i64 a, i64 b, i64 c, i64 v]) 0 hA hO ?_)
  clear hO; intro w4 hO
  replace hA := hA.sb (e' := [(2, pt b1), (4, i64 0), (5, i64 0), (6, bl false), (7, bl false), (8, pt b2), (16, i64 0)])
  refine ck (l := [7]) (r := []) (e' := [(2, pt b1), (4, i64 0), (5, i64 0), (6, bl false), (7, bl false), (8, pt b2), (9, i64 0)]) hA [] c0 ?_
  clear hA fr; intro fr hA
  refine end_ops ?_
  refine then_normal ?_
  refine wp_seq ?_
  refine sC (e' := [(2, pt b1), (4, i64 0), (5, i64 0), (6, bl false), (7, bl false), (8, pt b2), (18, bl false)]) 2 hA [] c0 ?_
  clear hA fr; intro fr hA
  refine cF hA ?_
  refine wp_skip ?_
  refine then_normal ?_
  refine sR (l := (rg 0 8)) ?_
  refine ck (l := [0, 1]) (r := (rg 2 6)) (e' := [(4, i64 0), (5, i64 0), (6, bl false), (7, bl false), (8, pt b2), (20, .agg (List.toArray (regsL R pc))), (21, .agg #[i64 14, i64 a, i64 b, i64 c, i64 v])]) hA [.agg (List.toArray (regsL R pc)), .agg #[i64 14, i64 a, i64 b, i64 c, i64 v]] (cc (hO.ln 1 0 40 (regsL R pc)) (cc (hO.ln 0 0 25 [i64 14, i64 a, i64 b, i64 c, i64 v]) c0)) ?_
  clear hA fr; intro fr hA
  refine wpOps_cons' (mK (f := 36) (args := [.agg (List.toArray (regsL R pc)), .agg #[i64 14, i64 a, i64 b, i64 c, i64 v]]) (d := (some 22)) (v := .tuple #[i64 (R b.toNat + c), i64 4]) hA hO Tryd.func36 (place_any R pc 14 a b c v _ hR hb hb' (by omega) (by omega)) ?_)
  clear hA hO fr; intro fr w5 hA hO
  replace hA := hA.sb (e' := [(4, i64 0), (5, i64 0), (6, bl false), (7, bl false), (8, pt b2), (22, .tuple #[i64 (R b.toNat + c), i64 4])])
  refine ck (l := (rg 3 5)) (r := []) (e' := [(4, i64 0), (5, i64 0), (6, bl false), (7, bl false), (8, pt b2), (10, i64 (R b.toNat + c)), (11, i64 4)]) hA [] c0 ?_
  clear hA fr; intro fr hA
  refine end_ops ?_
  refine then_normal ?_
  refine wp_seq ?_
  refine sC (e' := [(4, i64 0), (5, i64 0), (6, bl false), (7, bl false), (8, pt b2), (10, i64 (R b.toNat + c)), (11, i64 4), (32, bl (((R b.toNat + c).tmod 4) != 0))]) 8 hA [bl false] (cc (by omega : 4 ≠ (0 : Int)) c0) ?_
  clear hA fr; intro fr hA
  rcases Bool.eq_false_or_eq_true (((R b.toNat + c).tmod 4) != 0) with h1 | h1
  ·
    replace hA := hA.bool (f := fun z => [(4, i64 0), (5, i64 0), (6, bl false), (7, bl false), (8, pt b2), (10, i64 (R b.toNat + c)), (11, i64 4), (32, .bool z)]) h1
    have h1p := ne_of_bne h1
    refine cT hA ?_
    refine sC (e' := [(4, i64 0), (5, i64 0), (6, bl false), (7, bl false), (8, pt b2), (10, i64 (R b.toNat + c)), (11, i64 4)]) 4 hA [] c0 ?_
    clear hA fr; intro fr hA
    refine wp_ret ?_
    refine then_ret ?_
    refine cR (cs := [none, none, none, none]) (us := [i64 0, i64 0, bl false, bl false]) hA [] trivial ?_
    have hF := hO.only; clear hA hO
    exact ⟨by simp_all [pack, accV, acc0, placeN], hF⟩
  ·
    replace hA := hA.bool (f := fun z => [(4, i64 0), (5, i64 0), (6, bl false), (7, bl false), (8, pt b2), (10, i64 (R b.toNat + c)), (11, i64 4), (32, .bool z)]) h1
    have h1p := eq_of_bne_false h1
    refine cF hA ?_
    refine wp_skip ?_
    refine then_normal ?_
    refine wp_seq ?_
    have hS := hO
    refine rP [(0, true), (1, true), (2, true), (3, true), (4, true), (5, true), (6, true), (7, true), (8, true), (9, true), (10, true), (11, true), (12, true), (13, true)] hS ?_
    intro w6 ho; replace hO := hO.st ho; clear ho
    refine ckS (l := (rg 0 14)) (r := []) (e' := [(4, i64 (R b.toNat + c)), (5, i64 4), (6, bl false), (7, bl true)]) hA [i64 14, i64 14] (cc (hS.s1 0 0 3 (i64 14)) (cc (hS.s1 0 0 3 (i64 14)) c0)) ?_
    clear hA fr; intro fr hA
    refine end_plan ?_
    refine then_normal ?_
    refine wp_ret ?_
    refine cR (cs := [none, none, none, none]) (us := [i64 (R b.toNat + c), i64 4, bl false, bl true]) hA [] trivial ?_
    have hF := hO.only; clear hA hO
    exact ⟨by simp_all [pack, accV, acc0, placeN], hF⟩

theorem acc_15 (R : Nat → Int) (pc a b c v : Int) (sl : Value) (w : World) (hT : Tab w) (hR : RegsOk R) (ha : 0 ≤ a) (ha' : a ≤ 15) (hb : 0 ≤ b) (hb' : b ≤ 15) (hc : -128 ≤ c) (hc' : c ≤ 127) (hdec : ∀ w', Only none' w w' → Calls Tryd.prog 13 #[sl] w' fun e w2 => e = .returned (.tuple #[insV 15 a b c v, .int .i64 0]) ∧ Only none' w' w2) :
    Calls Tryd.prog 24 #[.agg (List.toArray (regsL R pc)), sl] w fun e w' => e = .returned (accV R 15 b c) ∧ Only none' w w' := by
  refine c_enter (args := [.agg (List.toArray (regsL R pc)), sl]) (m := 41) (n := 43) Tryd.func24 rfl (by kernel_rfl) (by kernel_rfl) fun fr hA => ?_
  have hO := Ow.nil Tryd.prog none' w
  have hRb := hR b.toNat; simp only [inK] at hRb
  refine sR (l := [0, 1, 2, 3, 4]) ?_
  refine wpOps_cons' (mN (l := (regsL R pc)) (t := 40) (v := pt) (d := 2) hA hO ?_)
  clear hA hO fr; intro fr w1 b1 hA hO
  replace hA := hA.sb (e' := [(1, sl), (2, pt b1)])
  refine ck (l := [1, 2, 3, 4]) (r := []) (e' := [(1, sl), (2, pt b1), (4, i64 0), (5, i64 0), (6, bl false), (7, bl false)]) hA [] c0 ?_
  clear hA fr; intro fr hA
  refine end_ops ?_
  refine then_normal ?_
  refine sR (l := (rg 0 8)) ?_
  refine ck (l := [0]) (r := (rg 1 7)) (e' := [(2, pt b1), (4, i64 0), (5, i64 0), (6, bl false), (7, bl false), (13, sl)]) hA [] c0 ?_
  clear hA fr; intro fr hA
  refine wpOps_cons' (mK (f := 13) (args := [sl]) (d := (some 14)) (v := .tuple #[.agg #[i64 15, i64 a, i64 b, i64 c, i64 v], i64 0]) hA hO Tryd.func13 (hdec _ hO.only) ?_)
  clear hA hO fr; intro fr w2 hA hO
  replace hA := hA.sb (e' := [(2, pt b1), (4, i64 0), (5, i64 0), (6, bl false), (7, bl false), (14, .tuple #[.agg #[i64 15, i64 a, i64 b, i64 c, i64 v], i64 0])])
  refine ck (l := [2, 3, 4]) (r := [5, 6, 7]) (e' := [(2, pt b1), (4, i64 0), (5, i64 0), (6, bl false), (7, bl false), (15, .agg #[i64 15, i64 a, i64 b, i64 c, i64 v]), (16, i64 0)]) hA [] c0 ?_
  clear hA fr; intro fr hA
  refine wpOps_cons' (mN (l := [i64 0, i64 0, i64 0, i64 0, i64 0]) (t := 25) (v := pt) (d := 8) hA hO ?_)
  clear hA hO fr; intro fr w3 b2 hA hO
  refine wpOps_cons' (mS (off := 0) (vc := [i64 15, i64 a, i64 b, i64 c, i64 v]) 0 hA hO ?_)
  clear hO; intro w4 hO
  replace hA := hA.sb (e' := [(2, pt b1), (4, i64 0), (5, i64 0), (6, bl false), (7, bl false), (8, pt b2), (16, i64 0)])
  refine ck (l := [7]) (r := []) (e' := [(2, pt b1), (4, i64 0), (5, i64 0), (6, bl false), (7, bl false), (8, pt b2), (9, i64 0)]) hA [] c0 ?_
  clear hA fr; intro fr hA
  refine end_ops ?_
  refine then_normal ?_
  refine wp_seq ?_
  refine sC (e' := [(2, pt b1), (4, i64 0), (5, i64 0), (6, bl false), (7, bl false), (8, pt b2), (18, bl false)]) 2 hA [] c0 ?_
  clear hA fr; intro fr hA
  refine cF hA ?_
  refine wp_skip ?_
  refine then_normal ?_
  refine sR (l := (rg 0 8)) ?_
  refine ck (l := [0, 1]) (r := (rg 2 6)) (e' := [(4, i64 0), (5, i64 0), (6, bl false), (7, bl false), (8, pt b2), (20, .agg (List.toArray (regsL R pc))), (21, .agg #[i64 15, i64 a, i64 b, i64 c, i64 v])]) hA [.agg (List.toArray (regsL R pc)), .agg #[i64 15, i64 a, i64 b, i64 c, i64 v]] (cc (hO.ln 1 0 40 (regsL R pc)) (cc (hO.ln 0 0 25 [i64 15, i64 a, i64 b, i64 c, i64 v]) c0)) ?_
  clear hA fr; intro fr hA
  refine wpOps_cons' (mK (f := 36) (args := [.agg (List.toArray (regsL R pc)), .agg #[i64 15, i64 a, i64 b, i64 c, i64 v]]) (d := (some 22)) (v := .tuple #[i64 (R b.toNat + c), i64 4]) hA hO Tryd.func36 (place_any R pc 15 a b c v _ hR hb hb' (by omega) (by omega)) ?_)
  clear hA hO fr; intro fr w5 hA hO
  replace hA := hA.sb (e' := [(4, i64 0), (5, i64 0), (6, bl false), (7, bl false), (8, pt b2), (22, .tuple #[i64 (R b.toNat + c), i64 4])])
  refine ck (l := (rg 3 5)) (r := []) (e' := [(4, i64 0), (5, i64 0), (6, bl false), (7, bl false), (8, pt b2), (10, i64 (R b.toNat + c)), (11, i64 4)]) hA [] c0 ?_
  clear hA fr; intro fr hA
  refine end_ops ?_
  refine then_normal ?_
  refine wp_seq ?_
  refine sC (e' := [(4, i64 0), (5, i64 0), (6, bl false), (7, bl false), (8, pt b2), (10, i64 (R b.toNat + c)), (11, i64 4), (32, bl (((R b.toNat + c).tmod 4) != 0))]) 8 hA [bl false] (cc (by omega : 4 ≠ (0 : Int)) c0) ?_
  clear hA fr; intro fr hA
  rcases Bool.eq_false_or_eq_true (((R b.toNat + c).tmod 4) != 0) with h1 | h1
  ·
    replace hA := hA.bool (f := fun z => [(4, i64 0), (5, i64 0), (6, bl false), (7, bl false), (8, pt b2), (10, i64 (R b.toNat + c)), (11, i64 4), (32, .bool z)]) h1
    have h1p := ne_of_bne h1
    refine cT hA ?_
    refine sC (e' := [(4, i64 0), (5, i64 0), (6, bl false), (7, bl false), (8, pt b2), (10, i64 (R b.toNat + c)), (11, i64 4)]) 4 hA [] c0 ?_
    clear hA fr; intro fr hA
    refine wp_ret ?_
    refine then_ret ?_
    refine cR (cs := [none, none, none, none]) (us := [i64 0, i64 0, bl false, bl false]) hA [] trivial ?_
    have hF := hO.only; clear hA hO
    exact ⟨by simp_all [pack, accV, acc0, placeN], hF⟩
  ·
    replace hA := hA.bool (f := fun z => [(4, i64 0), (5, i64 0), (6, bl false), (7, bl false), (8, pt b2), (10, i64 (R b.toNat + c)), (11, i64 4), (32, .bool z)]) h1
    have h1p := eq_of_bne_false h1
    refine cF hA ?_
    refine wp_skip ?_
    refine then_normal ?_
    refine wp_seq ?_
    have hS := hO
    refine rP [(0, true), (1, true), (2, true), (3, true), (4, true), (5, true), (6, true), (7, true), (8, true), (9, true), (10, true), (11, true), (12, true), (13, true)] hS ?_
    intro w6 ho; replace hO := hO.st ho; clear ho
    refine ckS (l := (rg 0 14)) (r := []) (e' := [(4, i64 (R b.toNat + c)), (5, i64 4), (6, bl true), (7, bl true)]) hA [i64 15] (cc (hS.s1 0 0 3 (i64 15)) c0) ?_
    clear hA fr; intro fr hA
    refine end_plan ?_
    refine then_normal ?_
    refine wp_ret ?_
    refine cR (cs := [none, none, none, none]) (us := [i64 (R b.toNat + c), i64 4, bl true, bl true]) hA [] trivial ?_
    have hF := hO.only; clear hA hO
    exact ⟨by simp_all [pack, accV, acc0, placeN], hF⟩

theorem acc_16 (R : Nat → Int) (pc a b c v : Int) (sl : Value) (w : World) (hT : Tab w) (hR : RegsOk R) (ha : 0 ≤ a) (ha' : a ≤ 15) (hb : 0 ≤ b) (hb' : b ≤ 15) (hc : -128 ≤ c) (hc' : c ≤ 127) (hdec : ∀ w', Only none' w w' → Calls Tryd.prog 13 #[sl] w' fun e w2 => e = .returned (.tuple #[insV 16 a b c v, .int .i64 0]) ∧ Only none' w' w2) :
    Calls Tryd.prog 24 #[.agg (List.toArray (regsL R pc)), sl] w fun e w' => e = .returned (accV R 16 b c) ∧ Only none' w w' := by
  refine c_enter (args := [.agg (List.toArray (regsL R pc)), sl]) (m := 41) (n := 43) Tryd.func24 rfl (by kernel_rfl) (by kernel_rfl) fun fr hA => ?_
  have hO := Ow.nil Tryd.prog none' w
  have hRb := hR b.toNat; simp only [inK] at hRb
  refine sR (l := [0, 1, 2, 3, 4]) ?_
  refine wpOps_cons' (mN (l := (regsL R pc)) (t := 40) (v := pt) (d := 2) hA hO ?_)
  clear hA hO fr; intro fr w1 b1 hA hO
  replace hA := hA.sb (e' := [(1, sl), (2, pt b1)])
  refine ck (l := [1, 2, 3, 4]) (r := []) (e' := [(1, sl), (2, pt b1), (4, i64 0), (5, i64 0), (6, bl false), (7, bl false)]) hA [] c0 ?_
  clear hA fr; intro fr hA
  refine end_ops ?_
  refine then_normal ?_
  refine sR (l := (rg 0 8)) ?_
  refine ck (l := [0]) (r := (rg 1 7)) (e' := [(2, pt b1), (4, i64 0), (5, i64 0), (6, bl false), (7, bl false), (13, sl)]) hA [] c0 ?_
  clear hA fr; intro fr hA
  refine wpOps_cons' (mK (f := 13) (args := [sl]) (d := (some 14)) (v := .tuple #[.agg #[i64 16, i64 a, i64 b, i64 c, i64 v], i64 0]) hA hO Tryd.func13 (hdec _ hO.only) ?_)
  clear hA hO fr; intro fr w2 hA hO
  replace hA := hA.sb (e' := [(2, pt b1), (4, i64 0), (5, i64 0), (6, bl false), (7, bl false), (14, .tuple #[.agg #[i64 16, i64 a, i64 b, i64 c, i64 v], i64 0])])
  refine ck (l := [2, 3, 4]) (r := [5, 6, 7]) (e' := [(2, pt b1), (4, i64 0), (5, i64 0), (6, bl false), (7, bl false), (15, .agg #[i64 16, i64 a, i64 b, i64 c, i64 v]), (16, i64 0)]) hA [] c0 ?_
  clear hA fr; intro fr hA
  refine wpOps_cons' (mN (l := [i64 0, i64 0, i64 0, i64 0, i64 0]) (t := 25) (v := pt) (d := 8) hA hO ?_)
  clear hA hO fr; intro fr w3 b2 hA hO
  refine wpOps_cons' (mS (off := 0) (vc := [i64 16, i64 a, i64 b, i64 c, i64 v]) 0 hA hO ?_)
  clear hO; intro w4 hO
  replace hA := hA.sb (e' := [(2, pt b1), (4, i64 0), (5, i64 0), (6, bl false), (7, bl false), (8, pt b2), (16, i64 0)])
  refine ck (l := [7]) (r := []) (e' := [(2, pt b1), (4, i64 0), (5, i64 0), (6, bl false), (7, bl false), (8, pt b2), (9, i64 0)]) hA [] c0 ?_
  clear hA fr; intro fr hA
  refine end_ops ?_
  refine then_normal ?_
  refine wp_seq ?_
  refine sC (e' := [(2, pt b1), (4, i64 0), (5, i64 0), (6, bl false), (7, bl false), (8, pt b2), (18, bl false)]) 2 hA [] c0 ?_
  clear hA fr; intro fr hA
  refine cF hA ?_
  refine wp_skip ?_
  refine then_normal ?_
  refine sR (l := (rg 0 8)) ?_
  refine ck (l := [0, 1]) (r := (rg 2 6)) (e' := [(4, i64 0), (5, i64 0), (6, bl false), (7, bl false), (8, pt b2), (20, .agg (List.toArray (regsL R pc))), (21, .agg #[i64 16, i64 a, i64 b, i64 c, i64 v])]) hA [.agg (List.toArray (regsL R pc)), .agg #[i64 16, i64 a, i64 b, i64 c, i64 v]] (cc (hO.ln 1 0 40 (regsL R pc)) (cc (hO.ln 0 0 25 [i64 16, i64 a, i64 b, i64 c, i64 v]) c0)) ?_
  clear hA fr; intro fr hA
  refine wpOps_cons' (mK (f := 36) (args := [.agg (List.toArray (regsL R pc)), .agg #[i64 16, i64 a, i64 b, i64 c, i64 v]]) (d := (some 22)) (v := .tuple #[i64 (R b.toNat + c), i64 1]) hA hO Tryd.func36 (place_any R pc 16 a b c v _ hR hb hb' (by omega) (by omega)) ?_)
  clear hA hO fr; intro fr w5 hA hO
  replace hA := hA.sb (e' := [(4, i64 0), (5, i64 0), (6, bl false), (7, bl false), (8, pt b2), (22, .tuple #[i64 (R b.toNat + c), i64 1])])
  refine ck (l := (rg 3 5)) (r := []) (e' := [(4, i64 0), (5, i64 0), (6, bl false), (7, bl false), (8, pt b2), (10, i64 (R b.toNat + c)), (11, i64 1)]) hA [] c0 ?_
  clear hA fr; intro fr hA
  refine end_ops ?_
  refine then_normal ?_
  refine wp_seq ?_
  refine sC (e' := [(4, i64 0), (5, i64 0), (6, bl false), (7, bl false), (8, pt b2), (10, i64 (R b.toNat + c)), (11, i64 1), (32, bl (((R b.toNat + c).tmod 1) != 0))]) 8 hA [bl false] (cc (by omega : 1 ≠ (0 : Int)) c0) ?_
  clear hA fr; intro fr hA
  rcases Bool.eq_false_or_eq_true (((R b.toNat + c).tmod 1) != 0) with h1 | h1
  ·
    replace hA := hA.bool (f := fun z => [(4, i64 0), (5, i64 0), (6, bl false), (7, bl false), (8, pt b2), (10, i64 (R b.toNat + c)), (11, i64 1), (32, .bool z)]) h1
    have h1p := ne_of_bne h1
    refine cT hA ?_
    refine sC (e' := [(4, i64 0), (5, i64 0), (6, bl false), (7, bl false), (8, pt b2), (10, i64 (R b.toNat + c)), (11, i64 1)]) 4 hA [] c0 ?_
    clear hA fr; intro fr hA
    refine wp_ret ?_
    refine then_ret ?_
    refine cR (cs := [none, none, none, none]) (us := [i64 0, i64 0, bl false, bl false]) hA [] trivial ?_
    have hF := hO.only; clear hA hO
    exact ⟨by simp_all [pack, accV, acc0, placeN], hF⟩
  ·
    replace hA := hA.bool (f := fun z => [(4, i64 0), (5, i64 0), (6, bl false), (7, bl false), (8, pt b2), (10, i64 (R b.toNat + c)), (11, i64 1), (32, .bool z)]) h1
    have h1p := eq_of_bne_false h1
    refine cF hA ?_
    refine wp_skip ?_
    refine then_normal ?_
    refine wp_seq ?_
    have hS := hO
    refine rP [(0, true), (1, true), (2, true), (3, true), (4, true), (5, true), (6, true), (7, true), (8, true), (9, true), (10, true), (11, true), (12, true), (13, true)] hS ?_
    intro w6 ho; replace hO := hO.st ho; clear ho
    refine ckS (l := (rg 0 14)) (r := []) (e' := [(4, i64 (R b.toNat + c)), (5, i64 1), (6, bl false), (7, bl true)]) hA [i64 16, i64 16] (cc (hS.s1 0 0 3 (i64 16)) (cc (hS.s1 0 0 3 (i64 16)) c0)) ?_
    clear hA fr; intro fr hA
    refine end_plan ?_
    refine then_normal ?_
    refine wp_ret ?_
    refine cR (cs := [none, none, none, none]) (us := [i64 (R b.toNat + c), i64 1, bl false, bl true]) hA [] trivial ?_
    have hF := hO.only; clear hA hO
    exact ⟨by simp_all [pack, accV, acc0, placeN], hF⟩

theorem acc_17 (R : Nat → Int) (pc a b c v : Int) (sl : Value) (w : World) (hT : Tab w) (hR : RegsOk R) (ha : 0 ≤ a) (ha' : a ≤ 15) (hb : 0 ≤ b) (hb' : b ≤ 15) (hc : -128 ≤ c) (hc' : c ≤ 127) (hdec : ∀ w', Only none' w w' → Calls Tryd.prog 13 #[sl] w' fun e w2 => e = .returned (.tuple #[insV 17 a b c v, .int .i64 0]) ∧ Only none' w' w2) :
    Calls Tryd.prog 24 #[.agg (List.toArray (regsL R pc)), sl] w fun e w' => e = .returned (accV R 17 b c) ∧ Only none' w w' := by
  refine c_enter (args := [.agg (List.toArray (regsL R pc)), sl]) (m := 41) (n := 43) Tryd.func24 rfl (by kernel_rfl) (by kernel_rfl) fun fr hA => ?_
  have hO := Ow.nil Tryd.prog none' w
  have hRb := hR b.toNat; simp only [inK] at hRb
  refine sR (l := [0, 1, 2, 3, 4]) ?_
  refine wpOps_cons' (mN (l := (regsL R pc)) (t := 40) (v := pt) (d := 2) hA hO ?_)
  clear hA hO fr; intro fr w1 b1 hA hO
  replace hA := hA.sb (e' := [(1, sl), (2, pt b1)])
  refine ck (l := [1, 2, 3, 4]) (r := []) (e' := [(1, sl), (2, pt b1), (4, i64 0), (5, i64 0), (6, bl false), (7, bl false)]) hA [] c0 ?_
  clear hA fr; intro fr hA
  refine end_ops ?_
  refine then_normal ?_
  refine sR (l := (rg 0 8)) ?_
  refine ck (l := [0]) (r := (rg 1 7)) (e' := [(2, pt b1), (4, i64 0), (5, i64 0), (6, bl false), (7, bl false), (13, sl)]) hA [] c0 ?_
  clear hA fr; intro fr hA
  refine wpOps_cons' (mK (f := 13) (args := [sl]) (d := (some 14)) (v := .tuple #[.agg #[i64 17, i64 a, i64 b, i64 c, i64 v], i64 0]) hA hO Tryd.func13 (hdec _ hO.only) ?_)
  clear hA hO fr; intro fr w2 hA hO
  replace hA := hA.sb (e' := [(2, pt b1), (4, i64 0), (5, i64 0), (6, bl false), (7, bl false), (14, .tuple #[.agg #[i64 17, i64 a, i64 b, i64 c, i64 v], i64 0])])
  refine ck (l := [2, 3, 4]) (r := [5, 6, 7]) (e' := [(2, pt b1), (4, i64 0), (5, i64 0), (6, bl false), (7, bl false), (15, .agg #[i64 17, i64 a, i64 b, i64 c, i64 v]), (16, i64 0)]) hA [] c0 ?_
  clear hA fr; intro fr hA
  refine wpOps_cons' (mN (l := [i64 0, i64 0, i64 0, i64 0, i64 0]) (t := 25) (v := pt) (d := 8) hA hO ?_)
  clear hA hO fr; intro fr w3 b2 hA hO
  refine wpOps_cons' (mS (off := 0) (vc := [i64 17, i64 a, i64 b, i64 c, i64 v]) 0 hA hO ?_)
  clear hO; intro w4 hO
  replace hA := hA.sb (e' := [(2, pt b1), (4, i64 0), (5, i64 0), (6, bl false), (7, bl false), (8, pt b2), (16, i64 0)])
  refine ck (l := [7]) (r := []) (e' := [(2, pt b1), (4, i64 0), (5, i64 0), (6, bl false), (7, bl false), (8, pt b2), (9, i64 0)]) hA [] c0 ?_
  clear hA fr; intro fr hA
  refine end_ops ?_
  refine then_normal ?_
  refine wp_seq ?_
  refine sC (e' := [(2, pt b1), (4, i64 0), (5, i64 0), (6, bl false), (7, bl false), (8, pt b2), (18, bl false)]) 2 hA [] c0 ?_
  clear hA fr; intro fr hA
  refine cF hA ?_
  refine wp_skip ?_
  refine then_normal ?_
  refine sR (l := (rg 0 8)) ?_
  refine ck (l := [0, 1]) (r := (rg 2 6)) (e' := [(4, i64 0), (5, i64 0), (6, bl false), (7, bl false), (8, pt b2), (20, .agg (List.toArray (regsL R pc))), (21, .agg #[i64 17, i64 a, i64 b, i64 c, i64 v])]) hA [.agg (List.toArray (regsL R pc)), .agg #[i64 17, i64 a, i64 b, i64 c, i64 v]] (cc (hO.ln 1 0 40 (regsL R pc)) (cc (hO.ln 0 0 25 [i64 17, i64 a, i64 b, i64 c, i64 v]) c0)) ?_
  clear hA fr; intro fr hA
  refine wpOps_cons' (mK (f := 36) (args := [.agg (List.toArray (regsL R pc)), .agg #[i64 17, i64 a, i64 b, i64 c, i64 v]]) (d := (some 22)) (v := .tuple #[i64 (R b.toNat + c), i64 1]) hA hO Tryd.func36 (place_any R pc 17 a b c v _ hR hb hb' (by omega) (by omega)) ?_)
  clear hA hO fr; intro fr w5 hA hO
  replace hA := hA.sb (e' := [(4, i64 0), (5, i64 0), (6, bl false), (7, bl false), (8, pt b2), (22, .tuple #[i64 (R b.toNat + c), i64 1])])
  refine ck (l := (rg 3 5)) (r := []) (e' := [(4, i64 0), (5, i64 0), (6, bl false), (7, bl false), (8, pt b2), (10, i64 (R b.toNat + c)), (11, i64 1)]) hA [] c0 ?_
  clear hA fr; intro fr hA
  refine end_ops ?_
  refine then_normal ?_
  refine wp_seq ?_
  refine sC (e' := [(4, i64 0), (5, i64 0), (6, bl false), (7, bl false), (8, pt b2), (10, i64 (R b.toNat + c)), (11, i64 1), (32, bl (((R b.toNat + c).tmod 1) != 0))]) 8 hA [bl false] (cc (by omega : 1 ≠ (0 : Int)) c0) ?_
  clear hA fr; intro fr hA
  rcases Bool.eq_false_or_eq_true (((R b.toNat + c).tmod 1) != 0) with h1 | h1
  ·
    replace hA := hA.bool (f := fun z => [(4, i64 0), (5, i64 0), (6, bl false), (7, bl false), (8, pt b2), (10, i64 (R b.toNat + c)), (11, i64 1), (32, .bool z)]) h1
    have h1p := ne_of_bne h1
    refine cT hA ?_
    refine sC (e' := [(4, i64 0), (5, i64 0), (6, bl false), (7, bl false), (8, pt b2), (10, i64 (R b.toNat + c)), (11, i64 1)]) 4 hA [] c0 ?_
    clear hA fr; intro fr hA
    refine wp_ret ?_
    refine then_ret ?_
    refine cR (cs := [none, none, none, none]) (us := [i64 0, i64 0, bl false, bl false]) hA [] trivial ?_
    have hF := hO.only; clear hA hO
    exact ⟨by simp_all [pack, accV, acc0, placeN], hF⟩
  ·
    replace hA := hA.bool (f := fun z => [(4, i64 0), (5, i64 0), (6, bl false), (7, bl false), (8, pt b2), (10, i64 (R b.toNat + c)), (11, i64 1), (32, .bool z)]) h1
    have h1p := eq_of_bne_false h1
    refine cF hA ?_
    refine wp_skip ?_
    refine then_normal ?_
    refine wp_seq ?_
    have hS := hO
    refine rP [(0, true), (1, true), (2, true), (3, true), (4, true), (5, true), (6, true), (7, true), (8, true), (9, true), (10, true), (11, true), (12, true), (13, true)] hS ?_
    intro w6 ho; replace hO := hO.st ho; clear ho
    refine ckS (l := (rg 0 14)) (r := []) (e' := [(4, i64 (R b.toNat + c)), (5, i64 1), (6, bl true), (7, bl true)]) hA [i64 17, i64 17] (cc (hS.s1 0 0 3 (i64 17)) (cc (hS.s1 0 0 3 (i64 17)) c0)) ?_
    clear hA fr; intro fr hA
    refine end_plan ?_
    refine then_normal ?_
    refine wp_ret ?_
    refine cR (cs := [none, none, none, none]) (us := [i64 (R b.toNat + c), i64 1, bl true, bl true]) hA [] trivial ?_
    have hF := hO.only; clear hA hO
    exact ⟨by simp_all [pack, accV, acc0, placeN], hF⟩

theorem acc_0 (R : Nat → Int) (pc o a b c v : Int) (sl : Value) (w : World) (hT : Tab w) (hR : RegsOk R) (ha : 0 ≤ a) (ha' : a ≤ 15) (hb : 0 ≤ b) (hb' : b ≤ 15) (hc : -128 ≤ c) (hc' : c ≤ 127) (hn : placeN o = 0) (hdec : ∀ w', Only none' w w' → Calls Tryd.prog 13 #[sl] w' fun e w2 => e = .returned (.tuple #[insV o a b c v, .int .i64 0]) ∧ Only none' w' w2) :
    Calls Tryd.prog 24 #[.agg (List.toArray (regsL R pc)), sl] w fun e w' => e = .returned (accV R o b c) ∧ Only none' w w' := by
  refine c_enter (args := [.agg (List.toArray (regsL R pc)), sl]) (m := 41) (n := 43) Tryd.func24 rfl (by kernel_rfl) (by kernel_rfl) fun fr hA => ?_
  have hO := Ow.nil Tryd.prog none' w
  have hRb := hR b.toNat; simp only [inK] at hRb
  refine sR (l := [0, 1, 2, 3, 4]) ?_
  refine wpOps_cons' (mN (l := (regsL R pc)) (t := 40) (v := pt) (d := 2) hA hO ?_)
  clear hA hO fr; intro fr w1 b1 hA hO
  replace hA := hA.sb (e' := [(1, sl), (2, pt b1)])
  refine ck (l := [1, 2, 3, 4]) (r := []) (e' := [(1, sl), (2, pt b1), (4, i64 0), (5, i64 0), (6, bl false), (7, bl false)]) hA [] c0 ?_
  clear hA fr; intro fr hA
  refine end_ops ?_
  refine then_normal ?_
  refine sR (l := (rg 0 8)) ?_
  refine ck (l := [0]) (r := (rg 1 7)) (e' := [(2, pt b1), (4, i64 0), (5, i64 0), (6, bl false), (7, bl false), (13, sl)]) hA [] c0 ?_
  clear hA fr; intro fr hA
  refine wpOps_cons' (mK (f := 13) (args := [sl]) (d := (some 14)) (v := .tuple #[.agg #[i64 o, i64 a, i64 b, i64 c, i64 v], i64 0]) hA hO Tryd.func13 (hdec _ hO.only) ?_)
  clear hA hO fr; intro fr w2 hA hO
  replace hA := hA.sb (e' := [(2, pt b1), (4, i64 0), (5, i64 0), (6, bl false), (7, bl false), (14, .tuple #[.agg #[i64 o, i64 a, i64 b, i64 c, i64 v], i64 0])])
  refine ck (l := [2, 3, 4]) (r := [5, 6, 7]) (e' := [(2, pt b1), (4, i64 0), (5, i64 0), (6, bl false), (7, bl false), (15, .agg #[i64 o, i64 a, i64 b, i64 c, i64 v]), (16, i64 0)]) hA [] c0 ?_
  clear hA fr; intro fr hA
  refine wpOps_cons' (mN (l := [i64 0, i64 0, i64 0, i64 0, i64 0]) (t := 25) (v := pt) (d := 8) hA hO ?_)
  clear hA hO fr; intro fr w3 b2 hA hO
  refine wpOps_cons' (mS (off := 0) (vc := [i64 o, i64 a, i64 b, i64 c, i64 v]) 0 hA hO ?_)
  clear hO; intro w4 hO
  replace hA := hA.sb (e' := [(2, pt b1), (4, i64 0), (5, i64 0), (6, bl false), (7, bl false), (8, pt b2), (16, i64 0)])
  refine ck (l := [7]) (r := []) (e' := [(2, pt b1), (4, i64 0), (5, i64 0), (6, bl false), (7, bl false), (8, pt b2), (9, i64 0)]) hA [] c0 ?_
  clear hA fr; intro fr hA
  refine end_ops ?_
  refine then_normal ?_
  refine wp_seq ?_
  refine sC (e' := [(2, pt b1), (4, i64 0), (5, i64 0), (6, bl false), (7, bl false), (8, pt b2), (18, bl false)]) 2 hA [] c0 ?_
  clear hA fr; intro fr hA
  refine cF hA ?_
  refine wp_skip ?_
  refine then_normal ?_
  refine sR (l := (rg 0 8)) ?_
  refine ck (l := [0, 1]) (r := (rg 2 6)) (e' := [(4, i64 0), (5, i64 0), (6, bl false), (7, bl false), (8, pt b2), (20, .agg (List.toArray (regsL R pc))), (21, .agg #[i64 o, i64 a, i64 b, i64 c, i64 v])]) hA [.agg (List.toArray (regsL R pc)), .agg #[i64 o, i64 a, i64 b, i64 c, i64 v]] (cc (hO.ln 1 0 40 (regsL R pc)) (cc (hO.ln 0 0 25 [i64 o, i64 a, i64 b, i64 c, i64 v]) c0)) ?_
  clear hA fr; intro fr hA
  refine wpOps_cons' (mK (f := 36) (args := [.agg (List.toArray (regsL R pc)), .agg #[i64 o, i64 a, i64 b, i64 c, i64 v]]) (d := (some 22)) (v := .tuple #[i64 0, i64 0]) hA hO Tryd.func36 (rs (place_any R pc o a b c v _ hR hb hb' hc hc') (by rw [show placeA R o b c = 0 from if_pos hn, hn])) ?_)
  clear hA hO fr; intro fr w5 hA hO
  replace hA := hA.sb (e' := [(4, i64 0), (5, i64 0), (6, bl false), (7, bl false), (8, pt b2), (22, .tuple #[i64 0, i64 0])])
  refine ck (l := (rg 3 5)) (r := []) (e' := [(4, i64 0), (5, i64 0), (6, bl false), (7, bl false), (8, pt b2), (10, i64 0), (11, i64 0)]) hA [] c0 ?_
  clear hA fr; intro fr hA
  refine end_ops ?_
  refine then_normal ?_
  refine wp_seq ?_
  refine sC (e' := [(4, i64 0), (5, i64 0), (6, bl false), (7, bl false), (8, pt b2), (10, i64 0), (11, i64 0), (32, bl true)]) 8 hA [] c0 ?_
  clear hA fr; intro fr hA
  refine cT hA ?_
  refine sC (e' := [(4, i64 0), (5, i64 0), (6, bl false), (7, bl false), (8, pt b2), (10, i64 0), (11, i64 0)]) 4 hA [] c0 ?_
  clear hA fr; intro fr hA
  refine wp_ret ?_
  refine then_ret ?_
  refine cR (cs := [none, none, none, none]) (us := [i64 0, i64 0, bl false, bl false]) hA [] trivial ?_
  have hF := hO.only; clear hA hO
  exact ⟨by simp_all [pack, accV, acc0, placeN], hF⟩

theorem acc_bad (R : Nat → Int) (pc : Int) (sl : Value) (w : World) (hdec : ∀ w', Only none' w w' → Calls Tryd.prog 13 #[sl] w' fun e w2 => e = .returned (.tuple #[insV 0 0 0 0 0, .int .i64 4]) ∧ Only none' w' w2) :
    Calls Tryd.prog 24 #[.agg (List.toArray (regsL R pc)), sl] w fun e w' => e = .returned acc0 ∧ Only none' w w' := by
  refine c_enter (args := [.agg (List.toArray (regsL R pc)), sl]) (m := 41) (n := 43) Tryd.func24 rfl (by kernel_rfl) (by kernel_rfl) fun fr hA => ?_
  have hO := Ow.nil Tryd.prog none' w
  refine sR (l := [0, 1, 2, 3, 4]) ?_
  refine wpOps_cons' (mN (l := (regsL R pc)) (t := 40) (v := pt) (d := 2) hA hO ?_)
  clear hA hO fr; intro fr w1 b1 hA hO
  replace hA := hA.sb (e' := [(1, sl), (2, pt b1)])
  refine ck (l := [1, 2, 3, 4]) (r := []) (e' := [(1, sl), (2, pt b1), (4, i64 0), (5, i64 0), (6, bl false), (7, bl false)]) hA [] c0 ?_
  clear hA fr; intro fr hA
  refine end_ops ?_
  refine then_normal ?_
  refine sR (l := (rg 0 8)) ?_
  refine ck (l := [0]) (r := (rg 1 7)) (e' := [(2, pt b1), (4, i64 0), (5, i64 0), (6, bl false), (7, bl false), (13, sl)]) hA [] c0 ?_
  clear hA fr; intro fr hA
  refine wpOps_cons' (mK (f := 13) (args := [sl]) (d := (some 14)) (v := .tuple #[.agg #[i64 0, i64 0, i64 0, i64 0, i64 0], i64 4]) hA hO Tryd.func13 (hdec _ hO.only) ?_)
  clear hA hO fr; intro fr w2 hA hO
  replace hA := hA.sb (e' := [(2, pt b1), (4, i64 0), (5, i64 0), (6, bl false), (7, bl false), (14, .tuple #[.agg #[i64 0, i64 0, i64 0, i64 0, i64 0], i64 4])])
  refine ck (l := [2, 3, 4]) (r := [5, 6, 7]) (e' := [(2, pt b1), (4, i64 0), (5, i64 0), (6, bl false), (7, bl false), (15, .agg #[i64 0, i64 0, i64 0, i64 0, i64 0]), (16, i64 4)]) hA [] c0 ?_
  clear hA fr; intro fr hA
  refine wpOps_cons' (mN (l := [i64 0, i64 0, i64 0, i64 0, i64 0]) (t := 25) (v := pt) (d := 8) hA hO ?_)
  clear hA hO fr; intro fr w3 b2 hA hO
  refine wpOps_cons' (mS (off := 0) (vc := [i64 0, i64 0, i64 0, i64 0, i64 0]) 0 hA hO ?_)
  clear hO; intro w4 hO
  replace hA := hA.sb (e' := [(2, pt b1), (4, i64 0), (5, i64 0), (6, bl false), (7, bl false), (8, pt b2), (16, i64 4)])
  refine ck (l := [7]) (r := []) (e' := [(2, pt b1), (4, i64 0), (5, i64 0), (6, bl false), (7, bl false), (8, pt b2), (9, i64 4)]) hA [] c0 ?_
  clear hA fr; intro fr hA
  refine end_ops ?_
  refine then_normal ?_
  refine wp_seq ?_
  refine sC (e' := [(2, pt b1), (4, i64 0), (5, i64 0), (6, bl false), (7, bl false), (8, pt b2), (18, bl true)]) 2 hA [] c0 ?_
  clear hA fr; intro fr hA
  refine cT hA ?_
  refine sC (e' := [(2, pt b1), (4, i64 0), (5, i64 0), (6, bl false), (7, bl false), (8, pt b2)]) 4 hA [] c0 ?_
  clear hA fr; intro fr hA
  refine wp_ret ?_
  refine then_ret ?_
  refine cR (cs := [none, none, none, none]) (us := [i64 0, i64 0, bl false, bl false]) hA [] trivial ?_
  have hF := hO.only; clear hA hO
  exact ⟨rfl, hF⟩

theorem acc_any (R : Nat → Int) (pc : Int) (sl : Value) (xs : List Int) (w : World) (hT : Tab w) (hR : RegsOk R) (hs : SlI w sl xs) :
    Calls Tryd.prog 24 #[.agg (List.toArray (regsL R pc)), sl] w fun e w' => e = .returned (accX R xs) ∧ Only none' w w' := by
  have hdec := fun w' (ho : Only none' w w') => decode_any sl xs w' (hT.keep ho fun h => h) (hs.keep ho)
  unfold accX
  rcases hx : decX xs with _ | ⟨o, a, b, c, v⟩
  · rw [hx] at hdec
    exact acc_bad R pc sl w hdec
  · rw [hx] at hdec
    obtain ⟨ho, ha, hb, hc, hv, hc2⟩ := legal_spec (decX_legal hx)
    have hd : ∀ k, o = k → ∀ w', Only none' w w' → Calls Tryd.prog 13 #[sl] w' fun e w2 => e = .returned (.tuple #[insV k a b c v, .int .i64 0]) ∧ Only none' w' w2 := fun k hk => hk ▸ hdec
    have : o = 14 ∨ o = 15 ∨ o = 16 ∨ o = 17 ∨ placeN o = 0 := by
      unfold placeN; repeat' split
      all_goals omega
    rcases this with rfl | rfl | rfl | rfl | hn
    · exact acc_14 R pc a b c v sl w hT hR ha.1 ha.2 hb.1 hb.2 hc.1 hc.2 (hd _ rfl)
    · exact acc_15 R pc a b c v sl w hT hR ha.1 ha.2 hb.1 hb.2 hc.1 hc.2 (hd _ rfl)
    · exact acc_16 R pc a b c v sl w hT hR ha.1 ha.2 hb.1 hb.2 hc.1 hc.2 (hd _ rfl)
    · exact acc_17 R pc a b c v sl w hT hR ha.1 ha.2 hb.1 hb.2 hc.1 hc.2 (hd _ rfl)
    · exact acc_0 R pc o a b c v sl w hT hR ha.1 ha.2 hb.1 hb.2 hc.1 hc.2 hn (hd _ rfl)

end Go.Proofs.YtcaokjdihhbkjaaDoor
