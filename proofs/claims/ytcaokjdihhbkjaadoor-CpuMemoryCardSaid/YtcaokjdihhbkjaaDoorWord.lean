/- The layer cpu: walks of the reference: word, value. -/
import Derived.Test.YtcaokjdihhbkjaaDoorRdecode
set_option linter.unusedVariables false
set_option linter.unusedSimpArgs false
set_option maxRecDepth 10000
namespace Go.Proofs.YtcaokjdihhbkjaaDoor
open Go Go.RowKit Go.Proofs.Sx

theorem tmod32 (n : Int) : n.tmod 4294967296 = n - 4294967296 * n.tdiv 4294967296 ∧ -4294967296 < n.tmod 4294967296 ∧ n.tmod 4294967296 < 4294967296 := by
  refine ⟨by rw [Int.tmod_def], ?_, ?_⟩
  · have := Int.lt_tmod_of_pos n (b := 4294967296) (by decide); omega
  · exact Int.tmod_lt_of_pos n (by decide)
theorem i32_congr {x y : Int} (h : x % 4294967296 = y % 4294967296) : IntKind.i32.wrap x = IntKind.i32.wrap y := by
  have e : x % 2 ^ IntKind.i32.bits = y % 2 ^ IntKind.i32.bits := h
  simp only [IntKind.wrap, e]

theorem word_any (x : Int) (w : World) :
    Calls Tryd.prog 38 #[i64 x] w fun e w' => e = .returned (.int .i32 (IntKind.i32.wrap x)) ∧ Only none' w w' := by
  refine c_enter (args := [i64 x]) (m := 15) (n := 16) Tryd.func38 rfl (by kernel_rfl) (by kernel_rfl) fun fr hA => ?_
  have hO := Ow.nil Tryd.prog none' w
  obtain ⟨t1, t2, t3⟩ := tmod32 x
  refine sC (e' := [(0, i64 x), (2, i32 0)]) 1 hA [] c0 ?_
  clear hA fr; intro fr hA
  refine sC (e' := [(2, i32 0), (3, i64 (x.tmod 4294967296))]) 3 hA [bl false] (cc (by omega : 4294967296 ≠ (0 : Int)) c0) ?_
  clear hA fr; intro fr hA
  refine wp_seq ?_
  refine sC (e' := [(2, i32 0), (3, i64 (x.tmod 4294967296)), (7, bl (decide ((x.tmod 4294967296) < (-2147483648))))]) 2 hA [] c0 ?_
  clear hA fr; intro fr hA
  rcases Bool.eq_false_or_eq_true (decide ((x.tmod 4294967296) < (-2147483648))) with h1 | h1
  ·
    replace hA := hA.bool (f := fun z => [(2, i32 0), (3, i64 (x.tmod 4294967296)), (7, .bool z)]) h1
    have h1p := of_decide_eq_true h1
    refine cT hA ?_
    refine rC (e' := [(2, i32 0), (3, i64 ((x.tmod 4294967296) + 4294967296))]) 3 hA [bl true] (cc ((inK_i64 (by omega) (by omega)) : inK .i64 ((x.tmod 4294967296) + 4294967296)) c0) ?_
    clear hA fr; intro fr hA
    refine then_normal ?_
    refine wp_seq ?_
    refine sC (e' := [(2, i32 0), (3, i64 ((x.tmod 4294967296) + 4294967296)), (11, bl (decide (((x.tmod 4294967296) + 4294967296) ≥ 2147483648)))]) 2 hA [] c0 ?_
    clear hA fr; intro fr hA
    rcases Bool.eq_false_or_eq_true (decide (((x.tmod 4294967296) + 4294967296) ≥ 2147483648)) with h2 | h2
    ·
      replace hA := hA.bool (f := fun z => [(2, i32 0), (3, i64 ((x.tmod 4294967296) + 4294967296)), (11, .bool z)]) h2
      have h2p := of_decide_eq_true h2
      refine cT hA ?_
      refine rC (e' := [(2, i32 0), (3, i64 (((x.tmod 4294967296) + 4294967296) - 4294967296))]) 3 hA [bl true] (cc ((inK_i64 (by omega) (by omega)) : inK .i64 (((x.tmod 4294967296) + 4294967296) - 4294967296)) c0) ?_
      clear hA fr; intro fr hA
      refine then_normal ?_
      refine sC (e' := [(2, i32 (IntKind.i32.wrap (((x.tmod 4294967296) + 4294967296) - 4294967296)))]) 3 hA [bl false] c0 ?_
      clear hA fr; intro fr hA
      refine wp_ret ?_
      refine cR (cs := [none]) (us := [i32 (IntKind.i32.wrap (((x.tmod 4294967296) + 4294967296) - 4294967296))]) hA [] trivial ?_
      have hF := hO.only; clear hA hO
      exact ⟨congrArg (fun z => Ending.returned (.int .i32 z)) (i32_congr (by omega)), hF⟩
    ·
      replace hA := hA.bool (f := fun z => [(2, i32 0), (3, i64 ((x.tmod 4294967296) + 4294967296)), (11, .bool z)]) h2
      have h2p := of_decide_eq_false h2
      refine cF hA ?_
      refine wp_skip ?_
      refine then_normal ?_
      refine sC (e' := [(2, i32 (IntKind.i32.wrap ((x.tmod 4294967296) + 4294967296)))]) 3 hA [bl false] c0 ?_
      clear hA fr; intro fr hA
      refine wp_ret ?_
      refine cR (cs := [none]) (us := [i32 (IntKind.i32.wrap ((x.tmod 4294967296) + 4294967296))]) hA [] trivial ?_
      have hF := hO.only; clear hA hO
      exact ⟨congrArg (fun z => Ending.returned (.int .i32 z)) (i32_congr (by omega)), hF⟩
  ·
    replace hA := hA.bool (f := fun z => [(2, i32 0), (3, i64 (x.tmod 4294967296)), (7, .bool z)]) h1
    have h1p := of_decide_eq_false h1
    refine cF hA ?_
    refine wp_skip ?_
    refine then_normal ?_
    refine wp_seq ?_
    refine sC (e' := [(2, i32 0), (3, i64 (x.tmod 4294967296)), (11, bl (decide ((x.tmod 4294967296) ≥ 2147483648)))]) 2 hA [] c0 ?_
    clear hA fr; intro fr hA
    rcases Bool.eq_false_or_eq_true (decide ((x.tmod 4294967296) ≥ 2147483648)) with h3 | h3
    ·
      replace hA := hA.bool (f := fun z => [(2, i32 0), (3, i64 (x.tmod 4294967296)), (11, .bool z)]) h3
      have h3p := of_decide_eq_true h3
      refine cT hA ?_
      refine rC (e' := [(2, i32 0), (3, i64 ((x.tmod 4294967296) - 4294967296))]) 3 hA [bl true] (cc ((inK_i64 (by omega) (by omega)) : inK .i64 ((x.tmod 4294967296) - 4294967296)) c0) ?_
      clear hA fr; intro fr hA
      refine then_normal ?_
      refine sC (e' := [(2, i32 (IntKind.i32.wrap ((x.tmod 4294967296) - 4294967296)))]) 3 hA [bl false] c0 ?_
      clear hA fr; intro fr hA
      refine wp_ret ?_
      refine cR (cs := [none]) (us := [i32 (IntKind.i32.wrap ((x.tmod 4294967296) - 4294967296))]) hA [] trivial ?_
      have hF := hO.only; clear hA hO
      exact ⟨congrArg (fun z => Ending.returned (.int .i32 z)) (i32_congr (by omega)), hF⟩
    ·
      replace hA := hA.bool (f := fun z => [(2, i32 0), (3, i64 (x.tmod 4294967296)), (11, .bool z)]) h3
      have h3p := of_decide_eq_false h3
      refine cF hA ?_
      refine wp_skip ?_
      refine then_normal ?_
      refine sC (e' := [(2, i32 (IntKind.i32.wrap (x.tmod 4294967296)))]) 3 hA [bl false] c0 ?_
      clear hA fr; intro fr hA
      refine wp_ret ?_
      refine cR (cs := [none]) (us := [i32 (IntKind.i32.wrap (x.tmod 4294967296))]) hA [] trivial ?_
      have hF := hO.only; clear hA hO
      exact ⟨congrArg (fun z => Ending.returned (.int .i32 z)) (i32_congr (by omega)), hF⟩

theorem truth_any (v : Bool) (w : World) :
    Calls Tryd.prog 48 #[bl v] w fun e w' => e = .returned (.int .i64 (cond v 1 0)) ∧ Only none' w w' := by
  refine c_enter (args := [bl v]) (m := 3) (n := 4) Tryd.func48 rfl (by kernel_rfl) (by kernel_rfl) fun fr hA => ?_
  have hO := Ow.nil Tryd.prog none' w
  refine sC (e' := [(0, bl v), (2, i64 0)]) 1 hA [] c0 ?_
  clear hA fr; intro fr hA
  refine wp_seq ?_
  refine sC (e' := [(2, i64 0), (3, bl v)]) 1 hA [] c0 ?_
  clear hA fr; intro fr hA
  rcases Bool.eq_false_or_eq_true (v) with h1 | h1
  ·
    replace hA := hA.bool (f := fun z => [(2, i64 0), (3, .bool z)]) h1
    refine cT hA ?_
    refine sC (e' := [(2, i64 1)]) 1 hA [] c0 ?_
    clear hA fr; intro fr hA
    refine wp_ret ?_
    refine then_ret ?_
    refine cR (cs := [none]) (us := [i64 1]) hA [] trivial ?_
    have hF := hO.only; clear hA hO
    exact ⟨by simp_all [pack], hF⟩
  ·
    replace hA := hA.bool (f := fun z => [(2, i64 0), (3, .bool z)]) h1
    refine cF hA ?_
    refine wp_skip ?_
    refine then_normal ?_
    refine sC (e' := [(2, i64 0)]) 1 hA [] c0 ?_
    clear hA fr; intro fr hA
    refine wp_ret ?_
    refine cR (cs := [none]) (us := [i64 0]) hA [] trivial ?_
    have hF := hO.only; clear hA hO
    exact ⟨by simp_all [pack], hF⟩

theorem rstart_any (x : Int) (w : World) :
    Calls Tryd.prog 22 #[i64 x] w fun e w' => e = .returned (.agg (regsL (upd (fun _ => 0) 15 4096) x).toArray) ∧ Only none' w w' := by
  refine c_enter (args := [i64 x]) (m := 8) (n := 9) Tryd.func22 rfl (by kernel_rfl) (by kernel_rfl) fun fr hA => ?_
  have hO := Ow.nil Tryd.prog none' w
  refine sR (l := [0]) ?_
  refine wpOps_cons' (mN (l := [i32 0, i32 0, i32 0, i32 0, i32 0, i32 0, i32 0, i32 0, i32 0, i32 0, i32 0, i32 0, i32 0, i32 0, i32 0, i32 0, i64 0]) (t := 38) (v := pt) (d := 2) hA hO ?_)
  clear hA hO fr; intro fr w1 b1 hA hO
  refine end_ops ?_
  refine then_normal ?_
  refine sR (l := [0, 1, 2, 3]) ?_
  refine ck (l := [0, 1]) (r := [2, 3]) (e' := [(2, pt b1), (5, .agg #[i32 0, i32 0, i32 0, i32 0, i32 0, i32 0, i32 0, i32 0, i32 0, i32 0, i32 0, i32 0, i32 0, i32 0, i32 0, i32 0, i64 x])]) hA [] c0 ?_
  clear hA fr; intro fr hA
  refine wpOps_cons' (mN (l := [i32 0, i32 0, i32 0, i32 0, i32 0, i32 0, i32 0, i32 0, i32 0, i32 0, i32 0, i32 0, i32 0, i32 0, i32 0, i32 0, i64 0]) (t := 38) (v := pt) (d := 3) hA hO ?_)
  clear hA hO fr; intro fr w2 b2 hA hO
  refine wpOps_cons' (mS (off := 0) (vc := [i32 0, i32 0, i32 0, i32 0, i32 0, i32 0, i32 0, i32 0, i32 0, i32 0, i32 0, i32 0, i32 0, i32 0, i32 0, i32 0, i64 x]) 0 hA hO ?_)
  clear hO; intro w3 hO
  replace hA := hA.sb (e' := [(2, pt b1), (3, pt b2)])
  refine end_ops ?_
  refine then_normal ?_
  refine sR (l := [0, 1, 2]) ?_
  refine ck (l := [0, 1]) (r := [2]) (e' := [(2, pt b1), (3, pt b2), (7, pf b2 15)]) hA [] (cc (⟨by omega, by omega⟩ : (0 : Int) ≤ 15 ∧ 15 < ((16 : Nat) : Int)) c0) ?_
  clear hA fr; intro fr hA
  refine wpOps_cons' (mS (off := 15) (vc := [i32 4096]) 0 hA hO ?_)
  clear hO; intro w4 hO
  replace hA := hA.sb (e' := [(2, pt b1), (3, pt b2)])
  refine end_ops ?_
  refine then_normal ?_
  refine sR (l := [0, 1]) ?_
  refine ck (l := [0]) (r := [1]) (e' := [(2, pt b1), (8, .agg #[i32 0, i32 0, i32 0, i32 0, i32 0, i32 0, i32 0, i32 0, i32 0, i32 0, i32 0, i32 0, i32 0, i32 0, i32 0, i32 4096, i64 x])]) hA [.agg #[i32 0, i32 0, i32 0, i32 0, i32 0, i32 0, i32 0, i32 0, i32 0, i32 0, i32 0, i32 0, i32 0, i32 0, i32 0, i32 4096, i64 x]] (cc (hO.ln 0 0 38 [i32 0, i32 0, i32 0, i32 0, i32 0, i32 0, i32 0, i32 0, i32 0, i32 0, i32 0, i32 0, i32 0, i32 0, i32 0, i32 4096, i64 x]) c0) ?_
  clear hA fr; intro fr hA
  refine wpOps_cons' (mS (off := 0) (vc := [i32 0, i32 0, i32 0, i32 0, i32 0, i32 0, i32 0, i32 0, i32 0, i32 0, i32 0, i32 0, i32 0, i32 0, i32 0, i32 4096, i64 x]) 1 hA hO ?_)
  clear hO; intro w5 hO
  replace hA := hA.sb (e' := [(2, pt b1)])
  refine end_ops ?_
  refine then_normal ?_
  refine wp_ret ?_
  refine cR (cs := [some (⟨b1, 0, none⟩, 38)]) (us := [.agg #[i32 0, i32 0, i32 0, i32 0, i32 0, i32 0, i32 0, i32 0, i32 0, i32 0, i32 0, i32 0, i32 0, i32 0, i32 0, i32 4096, i64 x]]) hA [.agg #[i32 0, i32 0, i32 0, i32 0, i32 0, i32 0, i32 0, i32 0, i32 0, i32 0, i32 0, i32 0, i32 0, i32 0, i32 0, i32 4096, i64 x]] ⟨(hO.ln 1 0 38 [i32 0, i32 0, i32 0, i32 0, i32 0, i32 0, i32 0, i32 0, i32 0, i32 0, i32 0, i32 0, i32 0, i32 0, i32 0, i32 4096, i64 x]), trivial⟩ ?_
  have hF := hO.only; clear hA hO
  exact ⟨rfl, hF⟩

theorem reply_any (R : Nat → Int) (pc x : Int) (w : World) :
    Calls Tryd.prog 19 #[.agg (List.toArray (regsL R pc)), i64 x] w fun e w' => e = .returned (.agg (regsL (upd R 1 (IntKind.i32.wrap x)) pc).toArray) ∧ Only none' w w' := by
  refine c_enter (args := [.agg (List.toArray (regsL R pc)), i64 x]) (m := 8) (n := 10) Tryd.func19 rfl (by kernel_rfl) (by kernel_rfl) fun fr hA => ?_
  have hO := Ow.nil Tryd.prog none' w
  refine sR (l := [0, 1]) ?_
  refine wpOps_cons' (mN (l := (regsL R pc)) (t := 40) (v := pt) (d := 2) hA hO ?_)
  clear hA hO fr; intro fr w1 b1 hA hO
  replace hA := hA.sb (e' := [(1, i64 x), (2, pt b1)])
  refine wpOps_cons' (mN (l := [i32 0, i32 0, i32 0, i32 0, i32 0, i32 0, i32 0, i32 0, i32 0, i32 0, i32 0, i32 0, i32 0, i32 0, i32 0, i32 0, i64 0]) (t := 40) (v := pt) (d := 4) hA hO ?_)
  clear hA hO fr; intro fr w2 b2 hA hO
  refine end_ops ?_
  refine then_normal ?_
  refine sR (l := (rg 0 5)) ?_
  refine ck (l := [0, 1, 2, 3]) (r := [4]) (e' := [(2, pt b1), (4, pt b2), (6, i32 (IntKind.i32.wrap x)), (8, pf b1 1)]) hA [bl false] (cc (⟨by omega, by omega⟩ : (0 : Int) ≤ 1 ∧ 1 < ((16 : Nat) : Int)) c0) ?_
  clear hA fr; intro fr hA
  refine wpOps_cons' (mSR (off := 1) (ad := ⟨b1, 1, none⟩) (vc := [i32 (IntKind.i32.wrap x)]) (l' := (regsL (upd R 1 (IntKind.i32.wrap x)) pc)) 1 hA hO rfl (regs_ble R pc (by omega)) (setL_regs (by omega) _) ?_)
  clear hO; intro w3 hO
  replace hA := hA.sb (e' := [(2, pt b1), (4, pt b2)])
  refine end_ops ?_
  refine then_normal ?_
  refine sR (l := [0, 1]) ?_
  refine ck (l := [0]) (r := [1]) (e' := [(4, pt b2), (9, .agg (List.toArray (regsL (upd R 1 (IntKind.i32.wrap x)) pc)))]) hA [.agg (List.toArray (regsL (upd R 1 (IntKind.i32.wrap x)) pc))] (cc (hO.ln 1 0 40 (regsL (upd R 1 (IntKind.i32.wrap x)) pc)) c0) ?_
  clear hA fr; intro fr hA
  refine wpOps_cons' (mS (off := 0) (vc := (regsL (upd R 1 (IntKind.i32.wrap x)) pc)) 0 hA hO ?_)
  clear hO; intro w4 hO
  replace hA := hA.sb (e' := [(4, pt b2)])
  refine end_ops ?_
  refine then_normal ?_
  refine wp_ret ?_
  refine cR (cs := [some (⟨b2, 0, none⟩, 40)]) (us := [.agg (List.toArray (regsL (upd R 1 (IntKind.i32.wrap x)) pc))]) hA [.agg (List.toArray (regsL (upd R 1 (IntKind.i32.wrap x)) pc))] ⟨(hO.ln 0 0 40 (regsL (upd R 1 (IntKind.i32.wrap x)) pc)), trivial⟩ ?_
  have hF := hO.only; clear hA hO
  exact ⟨rfl, hF⟩

theorem rreply_any (R : Nat → Int) (pc x : Int) (w : World) :
    Calls Tryd.prog 20 #[.agg (List.toArray (regsL R pc)), i64 x] w fun e w' => e = .returned (.agg (regsL (upd R 1 (IntKind.i32.wrap x)) pc).toArray) ∧ Only none' w w' := by
  refine c_enter (args := [.agg (List.toArray (regsL R pc)), i64 x]) (m := 8) (n := 10) Tryd.func20 rfl (by kernel_rfl) (by kernel_rfl) fun fr hA => ?_
  have hO := Ow.nil Tryd.prog none' w
  refine sR (l := [0, 1]) ?_
  refine wpOps_cons' (mN (l := (regsL R pc)) (t := 38) (v := pt) (d := 2) hA hO ?_)
  clear hA hO fr; intro fr w1 b1 hA hO
  replace hA := hA.sb (e' := [(1, i64 x), (2, pt b1)])
  refine wpOps_cons' (mN (l := [i32 0, i32 0, i32 0, i32 0, i32 0, i32 0, i32 0, i32 0, i32 0, i32 0, i32 0, i32 0, i32 0, i32 0, i32 0, i32 0, i64 0]) (t := 38) (v := pt) (d := 4) hA hO ?_)
  clear hA hO fr; intro fr w2 b2 hA hO
  refine end_ops ?_
  refine then_normal ?_
  refine sR (l := (rg 0 5)) ?_
  refine ck (l := [0]) (r := [1, 2, 3, 4]) (e' := [(2, pt b1), (4, pt b2), (5, i64 x)]) hA [] c0 ?_
  clear hA fr; intro fr hA
  refine wpOps_cons' (mK (f := 38) (args := [i64 x]) (d := (some 6)) (v := i32 (IntKind.i32.wrap x)) hA hO Tryd.func38 (word_any x _) ?_)
  clear hA hO fr; intro fr w3 hA hO
  replace hA := hA.sb (e' := [(2, pt b1), (4, pt b2), (6, i32 (IntKind.i32.wrap x))])
  refine ck (l := [2, 3]) (r := [4]) (e' := [(2, pt b1), (4, pt b2), (6, i32 (IntKind.i32.wrap x)), (8, pf b1 1)]) hA [] (cc (⟨by omega, by omega⟩ : (0 : Int) ≤ 1 ∧ 1 < ((16 : Nat) : Int)) c0) ?_
  clear hA fr; intro fr hA
  refine wpOps_cons' (mSR (off := 1) (ad := ⟨b1, 1, none⟩) (vc := [i32 (IntKind.i32.wrap x)]) (l' := (regsL (upd R 1 (IntKind.i32.wrap x)) pc)) 1 hA hO rfl (regs_ble R pc (by omega)) (setL_regs (by omega) _) ?_)
  clear hO; intro w4 hO
  replace hA := hA.sb (e' := [(2, pt b1), (4, pt b2)])
  refine end_ops ?_
  refine then_normal ?_
  refine sR (l := [0, 1]) ?_
  refine ck (l := [0]) (r := [1]) (e' := [(4, pt b2), (9, .agg (List.toArray (regsL (upd R 1 (IntKind.i32.wrap x)) pc)))]) hA [.agg (List.toArray (regsL (upd R 1 (IntKind.i32.wrap x)) pc))] (cc (hO.ln 1 0 38 (regsL (upd R 1 (IntKind.i32.wrap x)) pc)) c0) ?_
  clear hA fr; intro fr hA
  refine wpOps_cons' (mS (off := 0) (vc := (regsL (upd R 1 (IntKind.i32.wrap x)) pc)) 0 hA hO ?_)
  clear hO; intro w5 hO
  replace hA := hA.sb (e' := [(4, pt b2)])
  refine end_ops ?_
  refine then_normal ?_
  refine wp_ret ?_
  refine cR (cs := [some (⟨b2, 0, none⟩, 38)]) (us := [.agg (List.toArray (regsL (upd R 1 (IntKind.i32.wrap x)) pc))]) hA [.agg (List.toArray (regsL (upd R 1 (IntKind.i32.wrap x)) pc))] ⟨(hO.ln 0 0 38 (regsL (upd R 1 (IntKind.i32.wrap x)) pc)), trivial⟩ ?_
  have hF := hO.only; clear hA hO
  exact ⟨rfl, hF⟩

end Go.Proofs.YtcaokjdihhbkjaaDoor
