/- The layer cpu: walks of Decode. -/
import Derived.Test.YtkfnkcpdabdboaaDoorClegal
set_option linter.unusedVariables false
set_option linter.unusedSimpArgs false
set_option maxRecDepth 10000
namespace Go.Proofs.YtkfnkcpdabdboaaDoor
open Go Go.RowKit Go.Proofs.Sx

theorem legal_bad (o a b c v : Int) (w : World) (h0 : ¬ (1 ≤ o ∧ o ≤ 22)) :
    Calls Tryd.prog 39 #[.agg #[i64 o, i64 a, i64 b, i64 c, i64 v]] w fun e w' => e = .returned (.bool false) ∧ Only none' w w' := by
  refine c_enter (args := [.agg #[i64 o, i64 a, i64 b, i64 c, i64 v]]) (m := 65) (n := 66) Tryd.func39 rfl (by kernel_rfl) (by kernel_rfl) fun fr hA => ?_
  have hO := Ow.nil Tryd.prog none' w
  refine sR (l := [0, 1]) ?_
  refine wpOps_cons' (mN (l := [i64 o, i64 a, i64 b, i64 c, i64 v]) (t := 46) (v := pt) (d := 1) hA hO ?_)
  clear hA hO fr; intro fr w1 b1 hA hO
  replace hA := hA.sb (e' := [(1, pt b1)])
  refine ck (l := [1]) (r := []) (e' := [(1, pt b1), (2, bl false)]) hA [] c0 ?_
  clear hA fr; intro fr hA
  refine end_ops ?_
  refine then_normal ?_
  refine wp_seq ?_
  refine sR (l := (rg 0 8)) ?_
  refine ck (l := [0, 1, 2, 3]) (r := [4, 5, 6, 7]) (e' := [(1, pt b1), (2, bl false), (7, bl (decide (o < 1))), (8, bl (decide (o < 1)))]) hA [i64 o] (cc (hO.l1 0 0 3 (i64 o)) c0) ?_
  clear hA fr; intro fr hA
  rcases Bool.eq_false_or_eq_true (decide (o < 1)) with h1 | h1
  ·
    replace hA := hA.bool (f := fun z_ => [(1, pt b1), (2, bl false), (7, .bool z_), (8, .bool z_)]) h1
    have h1p := of_decide_eq_true h1
    refine ck (l := [4, 5, 6, 7]) (r := []) (e' := [(1, pt b1), (2, bl false), (12, bl true)]) hA [] c0 ?_
    clear hA fr; intro fr hA
    refine end_ops ?_
    refine then_normal ?_
    refine cT hA ?_
    refine sC (e' := [(1, pt b1), (2, bl false)]) 1 hA [] c0 ?_
    clear hA fr; intro fr hA
    refine wp_ret ?_
    refine then_ret ?_
    refine cR (cs := [none]) (us := [bl false]) hA [] trivial ?_
    have hF := hO.only; clear hA hO
    exact ⟨rfl, hF⟩
  ·
    replace hA := hA.bool (f := fun z_ => [(1, pt b1), (2, bl false), (7, .bool z_), (8, .bool z_)]) h1
    have h1p := of_decide_eq_false h1
    refine ck (l := [4, 5, 6, 7]) (r := []) (e' := [(1, pt b1), (2, bl false), (12, bl (decide (o > 22)))]) hA [i64 o] (cc (hO.l1 0 0 3 (i64 o)) c0) ?_
    clear hA fr; intro fr hA
    refine end_ops ?_
    refine then_normal ?_
    rcases Bool.eq_false_or_eq_true (decide (o > 22)) with h2 | h2
    ·
      replace hA := hA.bool (f := fun z_ => [(1, pt b1), (2, bl false), (12, .bool z_)]) h2
      have h2p := of_decide_eq_true h2
      refine cT hA ?_
      refine sC (e' := [(1, pt b1), (2, bl false)]) 1 hA [] c0 ?_
      clear hA fr; intro fr hA
      refine wp_ret ?_
      refine then_ret ?_
      refine cR (cs := [none]) (us := [bl false]) hA [] trivial ?_
      have hF := hO.only; clear hA hO
      exact ⟨rfl, hF⟩
    ·
      exfalso; simp at h1 h2; omega

theorem legal_any (o a b c v : Int) (w : World) (hT : Tab w) : Calls Tryd.prog 39 #[insV o a b c v] w fun e w' => e = .returned (.bool (legalB o a b c v)) ∧ Only none' w w' := by
  by_cases h : 1 ≤ o ∧ o ≤ 22
  · obtain ⟨k, rfl⟩ := Int.eq_ofNat_of_zero_le (show 0 ≤ o by omega)
    rw [← legF_op h.1 h.2]
    exact legal_gen k a b c v _ _ _ _ _ _ w (by omega) (by omega) (row_of hT (by kernel_rfl) (by omega) (by omega))
  · have hb : legalB o a b c v = false := by
      simp only [legalB, Bool.and_eq_false_iff, decide_eq_false_iff_not]
      left; omega
    rw [hb]
    exact legal_bad o a b c v w h

theorem decode_len (ad : Option Addr) (n cap : Nat) (w : World) (h0 : n ≠ 4) :
    Calls Tryd.prog 24 #[.slice ad n cap] w fun e w' => e = .returned (.tuple #[insO none, .int .i64 (errO none)]) ∧ Only none' w w' := by
  refine c_enter (args := [.slice ad n cap]) (m := 79) (n := 80) Tryd.func24 rfl (by kernel_rfl) (by kernel_rfl) fun fr hA => ?_
  have hO := Ow.nil Tryd.prog none' w
  refine sR (l := [0, 1]) ?_
  refine wpOps_cons' (mN (l := [i64 0, i64 0, i64 0, i64 0, i64 0]) (t := 46) (v := pt) (d := 2) hA hO ?_)
  clear hA hO fr; intro fr w1 b1 hA hO
  refine ck (l := [1]) (r := []) (e' := [(0, .slice ad n cap), (2, pt b1), (3, i64 0)]) hA [] c0 ?_
  clear hA fr; intro fr hA
  refine end_ops ?_
  refine then_normal ?_
  refine wp_seq ?_
  refine sR (l := (rg 0 15)) ?_
  refine ck (l := [0, 1, 2, 3]) (r := (rg 4 11)) (e' := [(0, .slice ad n cap), (2, pt b1), (3, i64 0), (8, bl (((n : Nat) : Int) != 4)), (9, bl (((n : Nat) : Int) != 4))]) hA [] c0 ?_
  clear hA fr; intro fr hA
  rcases Bool.eq_false_or_eq_true (((n : Nat) : Int) != 4) with h1 | h1
  ·
    replace hA := hA.bool (f := fun z_ => [(0, .slice ad n cap), (2, pt b1), (3, i64 0), (8, .bool z_), (9, .bool z_)]) h1
    have h1p := ne_of_bne h1
    refine ck (l := (rg 4 11)) (r := []) (e' := [(0, .slice ad n cap), (2, pt b1), (3, i64 0), (20, bl true)]) hA [] c0 ?_
    clear hA fr; intro fr hA
    refine end_ops ?_
    refine then_normal ?_
    refine cT hA ?_
    refine sR (l := [0, 1, 2]) ?_
    refine ck (l := [0]) (r := [1, 2]) (e' := [(0, .slice ad n cap), (2, pt b1), (3, i64 0), (21, .agg #[i64 0, i64 0, i64 0, i64 0, i64 0])]) hA [] c0 ?_
    clear hA fr; intro fr hA
    refine wpOps_cons' (mS (off := 0) (vc := [i64 0, i64 0, i64 0, i64 0, i64 0]) 0 hA hO ?_)
    clear hO; intro w2 hO
    replace hA := hA.sb (e' := [(0, .slice ad n cap), (2, pt b1), (3, i64 0)])
    refine ck (l := [2]) (r := []) (e' := [(0, .slice ad n cap), (2, pt b1), (3, i64 4)]) hA [] c0 ?_
    clear hA fr; intro fr hA
    refine end_ops ?_
    refine then_normal ?_
    refine wp_ret ?_
    refine then_ret ?_
    refine cR (cs := [some (⟨b1, 0, none⟩, 46), none]) (us := [.agg #[i64 0, i64 0, i64 0, i64 0, i64 0], i64 4]) hA [.agg #[i64 0, i64 0, i64 0, i64 0, i64 0]] ⟨(hO.ln 0 0 46 [i64 0, i64 0, i64 0, i64 0, i64 0]), trivial⟩ ?_
    have hF := hO.only; clear hA hO
    exact ⟨rfl, hF⟩
  ·
    exfalso; simp at h1; omega

theorem decode_4 (ad : Addr) (cap : Nat) (x0 x1 x2 x3 : Int) (nm : ByteArray) (fa fb fc fv fs : Bool) (w : World) (hT : Tab w) (hc0 : w.cell? (ad.add 0) = some (.int .u8 x0)) (l0 : 0 ≤ x0) (u0 : x0 ≤ 255) (hc1 : w.cell? (ad.add 1) = some (.int .u8 x1)) (l1 : 0 ≤ x1) (u1 : x1 ≤ 255) (hc2 : w.cell? (ad.add 2) = some (.int .u8 x2)) (l2 : 0 ≤ x2) (u2 : x2 ≤ 255) (hc3 : w.cell? (ad.add 3) = some (.int .u8 x3)) (l3 : 0 ≤ x3) (u3 : x3 ≤ 255) (hrow : 1 ≤ x0 → x0 ≤ 22 → RowAt Tryd.prog w 63 x0.toNat nm fa fb fc fv fs) :
    Calls Tryd.prog 24 #[.slice (some ad) 4 cap] w fun e w' => e = .returned (.tuple #[insO (decF fv fs x0 x1 x2 x3), .int .i64 (errO (decF fv fs x0 x1 x2 x3))]) ∧ Only none' w w' := by
  refine c_enter (args := [.slice (some ad) 4 cap]) (m := 79) (n := 80) Tryd.func24 rfl (by kernel_rfl) (by kernel_rfl) fun fr hA => ?_
  have hO := Ow.nil Tryd.prog none' w
  refine sR (l := [0, 1]) ?_
  refine wpOps_cons' (mN (l := [i64 0, i64 0, i64 0, i64 0, i64 0]) (t := 46) (v := pt) (d := 2) hA hO ?_)
  clear hA hO fr; intro fr w1 b1 hA hO
  refine ck (l := [1]) (r := []) (e' := [(0, .slice (some ad) 4 cap), (2, pt b1), (3, i64 0)]) hA [] c0 ?_
  clear hA fr; intro fr hA
  refine end_ops ?_
  refine then_normal ?_
  refine wp_seq ?_
  refine sR (l := (rg 0 15)) ?_
  refine ck (l := (rg 0 10)) (r := (rg 10 5)) (e' := [(0, .slice (some ad) 4 cap), (2, pt b1), (3, i64 0), (13, bl (decide (x0 < 1))), (14, bl (decide (x0 < 1))), (15, bl (decide (x0 < 1)))]) hA [u8 x0] (cc (⟨by omega, by omega⟩ : (0 : Int) ≤ 0 ∧ 0 < ((4 : Nat) : Int)) (cc ((ld_cell (by kernel_rfl) (hO.only.cell hc0 (fun h => h))) : Ld Tryd.prog w1 (ad.add 0) 5 (u8 x0)) c0)) ?_
  clear hA fr; intro fr hA
  rcases Bool.eq_false_or_eq_true (decide (x0 < 1)) with h1 | h1
  ·
    replace hA := hA.bool (f := fun z_ => [(0, .slice (some ad) 4 cap), (2, pt b1), (3, i64 0), (13, .bool z_), (14, .bool z_), (15, .bool z_)]) h1
    have h1p := of_decide_eq_true h1
    refine ck (l := (rg 10 5)) (r := []) (e' := [(0, .slice (some ad) 4 cap), (2, pt b1), (3, i64 0), (20, bl true)]) hA [] c0 ?_
    clear hA fr; intro fr hA
    refine end_ops ?_
    refine then_normal ?_
    refine cT hA ?_
    refine sR (l := [0, 1, 2]) ?_
    refine ck (l := [0]) (r := [1, 2]) (e' := [(0, .slice (some ad) 4 cap), (2, pt b1), (3, i64 0), (21, .agg #[i64 0, i64 0, i64 0, i64 0, i64 0])]) hA [] c0 ?_
    clear hA fr; intro fr hA
    refine wpOps_cons' (mS (off := 0) (vc := [i64 0, i64 0, i64 0, i64 0, i64 0]) 0 hA hO ?_)
    clear hO; intro w2 hO
    replace hA := hA.sb (e' := [(0, .slice (some ad) 4 cap), (2, pt b1), (3, i64 0)])
    refine ck (l := [2]) (r := []) (e' := [(0, .slice (some ad) 4 cap), (2, pt b1), (3, i64 4)]) hA [] c0 ?_
    clear hA fr; intro fr hA
    refine end_ops ?_
    refine then_normal ?_
    refine wp_ret ?_
    refine then_ret ?_
    refine cR (cs := [some (⟨b1, 0, none⟩, 46), none]) (us := [.agg #[i64 0, i64 0, i64 0, i64 0, i64 0], i64 4]) hA [.agg #[i64 0, i64 0, i64 0, i64 0, i64 0]] ⟨(hO.ln 0 0 46 [i64 0, i64 0, i64 0, i64 0, i64 0]), trivial⟩ ?_
    have hF := hO.only; clear hA hO
    exact ⟨by first | (simp_all [pack, decF, insO, errO, insV]; done) | (have hx : ¬ (1 ≤ x0 ∧ x0 ≤ 22) := (by omega); rw [decF, if_neg hx]; rfl), hF⟩
  ·
    replace hA := hA.bool (f := fun z_ => [(0, .slice (some ad) 4 cap), (2, pt b1), (3, i64 0), (13, .bool z_), (14, .bool z_), (15, .bool z_)]) h1
    have h1p := of_decide_eq_false h1
    refine ck (l := (rg 10 5)) (r := []) (e' := [(0, .slice (some ad) 4 cap), (2, pt b1), (3, i64 0), (20, bl (decide (x0 > 22)))]) hA [u8 x0] (cc (⟨by omega, by omega⟩ : (0 : Int) ≤ 0 ∧ 0 < ((4 : Nat) : Int)) (cc ((ld_cell (by kernel_rfl) (hO.only.cell hc0 (fun h => h))) : Ld Tryd.prog w1 (ad.add 0) 5 (u8 x0)) c0)) ?_
    clear hA fr; intro fr hA
    refine end_ops ?_
    refine then_normal ?_
    rcases Bool.eq_false_or_eq_true (decide (x0 > 22)) with h2 | h2
    ·
      replace hA := hA.bool (f := fun z_ => [(0, .slice (some ad) 4 cap), (2, pt b1), (3, i64 0), (20, .bool z_)]) h2
      have h2p := of_decide_eq_true h2
      refine cT hA ?_
      refine sR (l := [0, 1, 2]) ?_
      refine ck (l := [0]) (r := [1, 2]) (e' := [(0, .slice (some ad) 4 cap), (2, pt b1), (3, i64 0), (21, .agg #[i64 0, i64 0, i64 0, i64 0, i64 0])]) hA [] c0 ?_
      clear hA fr; intro fr hA
      refine wpOps_cons' (mS (off := 0) (vc := [i64 0, i64 0, i64 0, i64 0, i64 0]) 0 hA hO ?_)
      clear hO; intro w3 hO
      replace hA := hA.sb (e' := [(0, .slice (some ad) 4 cap), (2, pt b1), (3, i64 0)])
      refine ck (l := [2]) (r := []) (e' := [(0, .slice (some ad) 4 cap), (2, pt b1), (3, i64 4)]) hA [] c0 ?_
      clear hA fr; intro fr hA
      refine end_ops ?_
      refine then_normal ?_
      refine wp_ret ?_
      refine then_ret ?_
      refine cR (cs := [some (⟨b1, 0, none⟩, 46), none]) (us := [.agg #[i64 0, i64 0, i64 0, i64 0, i64 0], i64 4]) hA [.agg #[i64 0, i64 0, i64 0, i64 0, i64 0]] ⟨(hO.ln 0 0 46 [i64 0, i64 0, i64 0, i64 0, i64 0]), trivial⟩ ?_
      have hF := hO.only; clear hA hO
      exact ⟨by first | (simp_all [pack, decF, insO, errO, insV]; done) | (have hx : ¬ (1 ≤ x0 ∧ x0 ≤ 22) := (by omega); rw [decF, if_neg hx]; rfl), hF⟩
    ·
      replace hA := hA.bool (f := fun z_ => [(0, .slice (some ad) 4 cap), (2, pt b1), (3, i64 0), (20, .bool z_)]) h2
      have h2p := of_decide_eq_false h2
      refine cF hA ?_
      refine wp_skip ?_
      refine then_normal ?_
      refine wp_seq ?_
      have hS := hO
      refine rP [(0, true), (1, true), (2, true), (3, true), (4, true), (5, true), (6, true), (7, true), (8, true), (9, false), (10, false)] hS ?_
      intro w4 ho; replace hO := hO.st ho; clear ho
      refine ckS (l := (rg 0 9)) (r := [(9, false), (10, false)]) (e' := [(0, .slice (some ad) 4 cap), (2, pt b1), (3, i64 0), (30, .agg #[i64 x0, i64 x1, i64 0, i64 0, i64 0])]) hA [u8 x0, bl true, u8 x1, bl true] (cc (⟨by omega, by omega⟩ : (0 : Int) ≤ 0 ∧ 0 < ((4 : Nat) : Int)) (cc (hS.sx (ad.add 0) 5 (u8 x0) fun _ hO => (ld_cell (by kernel_rfl) (hO.only.cell hc0 (fun h => h)))) (cc ((inK_i64 (by omega) (by omega)) : inK .i64 x0) (cc (⟨by omega, by omega⟩ : (0 : Int) ≤ 1 ∧ 1 < ((4 : Nat) : Int)) (cc (hS.sx (ad.add 1) 5 (u8 x1) fun _ hO => (ld_cell (by kernel_rfl) (hO.only.cell hc1 (fun h => h)))) (cc ((inK_i64 (by omega) (by omega)) : inK .i64 x1) c0)))))) ?_
      clear hA fr; intro fr hA
      refine plan_mem (mN (l := [i64 0, i64 0, i64 0, i64 0, i64 0]) (t := 46) (v := pt) (d := 4) hA hO ?_)
      clear hA hO fr; intro fr w5 b2 hA hO
      refine ⟨(hO.sub [1]), ?_⟩
      refine plan_mem (mS (off := 0) (vc := [i64 x0, i64 x1, i64 0, i64 0, i64 0]) 0 hA hO ?_)
      clear hO; intro w6 hO
      refine ⟨(hO.sub [1]), ?_⟩
      replace hA := hA.sb (e' := [(0, .slice (some ad) 4 cap), (2, pt b1), (3, i64 0), (4, pt b2)])
      refine end_plan ?_
      refine then_normal ?_
      refine wp_seq ?_
      refine sR (l := (rg 0 6)) ?_
      refine ck (l := [0, 1, 2, 3]) (r := [4, 5]) (e' := [(0, .slice (some ad) 4 cap), (2, pt b1), (3, i64 0), (4, pt b2), (34, .agg #[str nm, bl fa, bl fb, bl fc, bl fv, bl fs])]) hA [i64 x0, .agg #[str nm, bl fa, bl fb, bl fc, bl fv, bl fs]] (cc (hO.l1 0 0 3 (i64 x0)) (cc (⟨by omega, by omega⟩ : (0 : Int) ≤ x0 ∧ x0 < ((23 : Nat) : Int)) (cc ((hrow (by omega) (by omega) _ hO.only) : Ld Tryd.prog w6 ((⟨0, 0, none⟩ : Addr).add (((x0).toNat) * 6)) 63 (.agg #[str nm, bl fa, bl fb, bl fc, bl fv, bl fs])) c0))) ?_
      clear hA fr; intro fr hA
      refine wpOps_cons' (mN (l := [str (⟨#[]⟩), bl false, bl false, bl false, bl false, bl false]) (t := 63) (v := pt) (d := 5) hA hO ?_)
      clear hA hO fr; intro fr w7 b3 hA hO
      refine wpOps_cons' (mS (off := 0) (vc := [str nm, bl fa, bl fb, bl fc, bl fv, bl fs]) 0 hA hO ?_)
      clear hO; intro w8 hO
      replace hA := hA.sb (e' := [(0, .slice (some ad) 4 cap), (2, pt b1), (3, i64 0), (4, pt b2), (5, pt b3)])
      refine end_ops ?_
      refine then_normal ?_
      refine wp_block ?_
      refine sC (e' := [(0, .slice (some ad) 4 cap), (2, pt b1), (3, i64 0), (4, pt b2), (5, pt b3), (45, bl fv)]) 3 hA [bl fv] (cc (hO.l1 0 4 4 (bl fv)) c0) ?_
      clear hA fr; intro fr hA
      rcases Bool.eq_false_or_eq_true (fv) with h3 | h3
      ·
        replace hA := hA.bool (f := fun z_ => [(0, .slice (some ad) 4 cap), (2, pt b1), (3, i64 0), (4, pt b2), (5, pt b3), (45, .bool z_)]) h3
        refine cT hA ?_
        have hS : Ow Tryd.prog none' w _ [(b3, 63, [str nm, bl fa, bl fb, bl fc, bl fv, bl fs]), (b1, 46, [i64 0, i64 0, i64 0, i64 0, i64 0])] := hO.sub [0, 2]
        refine rP [(0, true), (1, true), (2, true), (3, true), (4, true), (5, true), (6, true), (7, true), (8, true), (9, true), (10, true), (11, true), (12, true), (13, false)] hS ?_
        intro w9 ho; replace hO := hO.st ho; clear ho
        refine ckS (l := (rg 0 13)) (r := [(13, false)]) (e' := [(2, pt b1), (3, i64 0), (4, pt b2), (59, i64 (IntKind.i16.wrap (bits .or .u16 (x2 * 256) x3))), (60, pf b2 4)]) hA [u8 x2, bl true, bl true, u8 x3, bl true, bl false, bl true] (cc (⟨by omega, by omega⟩ : (0 : Int) ≤ 2 ∧ 2 < ((4 : Nat) : Int)) (cc (hS.sx (ad.add 2) 5 (u8 x2) fun _ hO => (ld_cell (by kernel_rfl) (hO.only.cell hc2 (fun h => h)))) (cc ((inK_u16 (by omega) (by omega)) : inK .u16 x2) (cc ((inK_u16 (by omega) (by omega)) : inK .u16 (x2 * 256)) (cc (by omega : (0 : Int) ≤ 8) (cc (⟨by omega, by omega⟩ : (0 : Int) ≤ 3 ∧ 3 < ((4 : Nat) : Int)) (cc (hS.sx (ad.add 3) 5 (u8 x3) fun _ hO => (ld_cell (by kernel_rfl) (hO.only.cell hc3 (fun h => h)))) (cc ((inK_u16 (by omega) (by omega)) : inK .u16 x3) (cc ((inK_up (by kernel_rfl) (wrap_inK _ _)) : inK .i64 (IntKind.i16.wrap (bits .or .u16 (x2 * 256) x3))) c0))))))))) ?_
        clear hA fr; intro fr hA
        replace hA := hA.int (f := fun z_ => [(2, pt b1), (3, i64 0), (4, pt b2), (59, .int .i64 z_), (60, pf b2 4)]) (congrArg IntKind.i16.wrap (or_bytes l2 u2 l3 u3) : IntKind.i16.wrap (bits .or .u16 (x2 * 256) x3) = IntKind.i16.wrap (x2 * 256 + x3))
        refine plan_mem (mS (off := 4) (vc := [i64 (IntKind.i16.wrap (x2 * 256 + x3))]) 1 hA hO ?_)
        clear hO; intro w10 hO
        refine ⟨(hO.sub [0, 2]), ?_⟩
        replace hA := hA.sb (e' := [(2, pt b1), (3, i64 0), (4, pt b2)])
        refine end_plan ?_
        refine inBlock_normal ?_
        refine then_normal ?_
        refine wp_seq ?_
        refine sR (l := [0, 1, 2]) ?_
        refine ck (l := [0]) (r := [1, 2]) (e' := [(2, pt b1), (3, i64 0), (4, pt b2), (75, .agg #[i64 x0, i64 x1, i64 0, i64 0, i64 (IntKind.i16.wrap (x2 * 256 + x3))])]) hA [.agg #[i64 x0, i64 x1, i64 0, i64 0, i64 (IntKind.i16.wrap (x2 * 256 + x3))]] (cc (hO.ln 1 0 46 [i64 x0, i64 x1, i64 0, i64 0, i64 (IntKind.i16.wrap (x2 * 256 + x3))]) c0) ?_
        clear hA fr; intro fr hA
        refine wpOps_cons' (mK (f := 39) (args := [.agg #[i64 x0, i64 x1, i64 0, i64 0, i64 (IntKind.i16.wrap (x2 * 256 + x3))]]) (d := (some 76)) (v := bl (legalB x0 x1 0 0 (IntKind.i16.wrap (x2 * 256 + x3)))) hA hO Tryd.func39 (legal_any x0 x1 0 0 (IntKind.i16.wrap (x2 * 256 + x3)) _ (hT.keep hO.only (fun h => h))) ?_)
        clear hA hO fr; intro fr w11 hA hO
        replace hA := hA.sb (e' := [(2, pt b1), (3, i64 0), (4, pt b2), (76, bl (legalB x0 x1 0 0 (IntKind.i16.wrap (x2 * 256 + x3))))])
        refine ck (l := [2]) (r := []) (e' := [(2, pt b1), (3, i64 0), (4, pt b2), (77, bl (!(legalB x0 x1 0 0 (IntKind.i16.wrap (x2 * 256 + x3)))))]) hA [] c0 ?_
        clear hA fr; intro fr hA
        refine end_ops ?_
        refine then_normal ?_
        rcases Bool.eq_false_or_eq_true (legalB x0 x1 0 0 (IntKind.i16.wrap (x2 * 256 + x3))) with h4 | h4
        ·
          replace hA := hA.bool (f := fun z_ => [(2, pt b1), (3, i64 0), (4, pt b2), (77, .bool !z_)]) h4
          refine cF hA ?_
          refine wp_skip ?_
          refine then_normal ?_
          refine sR (l := [0, 1, 2]) ?_
          refine ck (l := [0]) (r := [1, 2]) (e' := [(2, pt b1), (3, i64 0), (79, .agg #[i64 x0, i64 x1, i64 0, i64 0, i64 (IntKind.i16.wrap (x2 * 256 + x3))])]) hA [.agg #[i64 x0, i64 x1, i64 0, i64 0, i64 (IntKind.i16.wrap (x2 * 256 + x3))]] (cc (hO.ln 1 0 46 [i64 x0, i64 x1, i64 0, i64 0, i64 (IntKind.i16.wrap (x2 * 256 + x3))]) c0) ?_
          clear hA fr; intro fr hA
          refine wpOps_cons' (mS (off := 0) (vc := [i64 x0, i64 x1, i64 0, i64 0, i64 (IntKind.i16.wrap (x2 * 256 + x3))]) 2 hA hO ?_)
          clear hO; intro w12 hO
          replace hA := hA.sb (e' := [(2, pt b1), (3, i64 0)])
          refine ck (l := [2]) (r := []) (e' := [(2, pt b1), (3, i64 0)]) hA [] c0 ?_
          clear hA fr; intro fr hA
          refine end_ops ?_
          refine then_normal ?_
          refine wp_ret ?_
          refine cR (cs := [some (⟨b1, 0, none⟩, 46), none]) (us := [.agg #[i64 x0, i64 x1, i64 0, i64 0, i64 (IntKind.i16.wrap (x2 * 256 + x3))], i64 0]) hA [.agg #[i64 x0, i64 x1, i64 0, i64 0, i64 (IntKind.i16.wrap (x2 * 256 + x3))]] ⟨(hO.ln 2 0 46 [i64 x0, i64 x1, i64 0, i64 0, i64 (IntKind.i16.wrap (x2 * 256 + x3))]), trivial⟩ ?_
          have hF := hO.only; clear hA hO
          exact ⟨by first | (simp_all [pack, decF, insO, errO, insV]; done) | (have hx : ¬ (1 ≤ x0 ∧ x0 ≤ 22) := (by omega); rw [decF, if_neg hx]; rfl), hF⟩
        ·
          replace hA := hA.bool (f := fun z_ => [(2, pt b1), (3, i64 0), (4, pt b2), (77, .bool !z_)]) h4
          refine cT hA ?_
          refine sR (l := [0, 1, 2]) ?_
          refine ck (l := [0]) (r := [1, 2]) (e' := [(2, pt b1), (3, i64 0), (4, pt b2), (78, .agg #[i64 0, i64 0, i64 0, i64 0, i64 0])]) hA [] c0 ?_
          clear hA fr; intro fr hA
          refine wpOps_cons' (mS (off := 0) (vc := [i64 0, i64 0, i64 0, i64 0, i64 0]) 2 hA hO ?_)
          clear hO; intro w13 hO
          replace hA := hA.sb (e' := [(2, pt b1), (3, i64 0), (4, pt b2)])
          refine ck (l := [2]) (r := []) (e' := [(2, pt b1), (3, i64 4), (4, pt b2)]) hA [] c0 ?_
          clear hA fr; intro fr hA
          refine end_ops ?_
          refine then_normal ?_
          refine wp_ret ?_
          refine then_ret ?_
          refine cR (cs := [some (⟨b1, 0, none⟩, 46), none]) (us := [.agg #[i64 0, i64 0, i64 0, i64 0, i64 0], i64 4]) hA [.agg #[i64 0, i64 0, i64 0, i64 0, i64 0]] ⟨(hO.ln 2 0 46 [i64 0, i64 0, i64 0, i64 0, i64 0]), trivial⟩ ?_
          have hF := hO.only; clear hA hO
          exact ⟨by first | (simp_all [pack, decF, insO, errO, insV]; done) | (have hx : ¬ (1 ≤ x0 ∧ x0 ≤ 22) := (by omega); rw [decF, if_neg hx]; rfl), hF⟩
      ·
        replace hA := hA.bool (f := fun z_ => [(0, .slice (some ad) 4 cap), (2, pt b1), (3, i64 0), (4, pt b2), (5, pt b3), (45, .bool z_)]) h3
        refine cF hA ?_
        refine sC (e' := [(0, .slice (some ad) 4 cap), (2, pt b1), (3, i64 0), (4, pt b2), (61, bl fs)]) 3 hA [bl fs] (cc (hO.l1 0 5 4 (bl fs)) c0) ?_
        clear hA fr; intro fr hA
        rcases Bool.eq_false_or_eq_true (fs) with h5 | h5
        ·
          replace hA := hA.bool (f := fun z_ => [(0, .slice (some ad) 4 cap), (2, pt b1), (3, i64 0), (4, pt b2), (61, .bool z_)]) h5
          refine cT hA ?_
          have hS : Ow Tryd.prog none' w _ [(b3, 63, [str nm, bl fa, bl fb, bl fc, bl fv, bl fs]), (b1, 46, [i64 0, i64 0, i64 0, i64 0, i64 0])] := hO.sub [0, 2]
          refine rP [(0, true), (1, true), (2, true), (3, true), (4, true), (5, true), (6, true), (7, true), (8, true), (9, true), (10, false), (11, true), (12, false)] hS ?_
          intro w14 ho; replace hO := hO.st ho; clear ho
          refine ckS (l := (rg 0 10)) (r := [(10, false), (11, true), (12, false)]) (e' := [(2, pt b1), (3, i64 0), (4, pt b2), (67, i64 x2), (72, i64 (IntKind.i8.wrap x3)), (73, pf b2 2)]) hA [u8 x2, bl true, u8 x3, bl false, bl true] (cc (⟨by omega, by omega⟩ : (0 : Int) ≤ 2 ∧ 2 < ((4 : Nat) : Int)) (cc (hS.sx (ad.add 2) 5 (u8 x2) fun _ hO => (ld_cell (by kernel_rfl) (hO.only.cell hc2 (fun h => h)))) (cc ((inK_i64 (by omega) (by omega)) : inK .i64 x2) (cc (⟨by omega, by omega⟩ : (0 : Int) ≤ 3 ∧ 3 < ((4 : Nat) : Int)) (cc (hS.sx (ad.add 3) 5 (u8 x3) fun _ hO => (ld_cell (by kernel_rfl) (hO.only.cell hc3 (fun h => h)))) (cc ((inK_up (by kernel_rfl) (wrap_inK _ _)) : inK .i64 (IntKind.i8.wrap x3)) c0)))))) ?_
          clear hA fr; intro fr hA
          refine plan_mem (mS (off := 2) (vc := [i64 x2]) 1 hA hO ?_)
          clear hO; intro w15 hO
          refine ⟨(hO.sub [0, 2]), ?_⟩
          replace hA := hA.sb (e' := [(2, pt b1), (3, i64 0), (4, pt b2), (72, i64 (IntKind.i8.wrap x3))])
          refine ckS (l := [11]) (r := [(12, false)]) (e' := [(2, pt b1), (3, i64 0), (4, pt b2), (72, i64 (IntKind.i8.wrap x3)), (74, pf b2 3)]) hA [] c0 ?_
          clear hA fr; intro fr hA
          refine plan_mem (mS (off := 3) (vc := [i64 (IntKind.i8.wrap x3)]) 1 hA hO ?_)
          clear hO; intro w16 hO
          refine ⟨(hO.sub [0, 2]), ?_⟩
          replace hA := hA.sb (e' := [(2, pt b1), (3, i64 0), (4, pt b2)])
          refine end_plan ?_
          refine inBlock_normal ?_
          refine then_normal ?_
          refine wp_seq ?_
          refine sR (l := [0, 1, 2]) ?_
          refine ck (l := [0]) (r := [1, 2]) (e' := [(2, pt b1), (3, i64 0), (4, pt b2), (75, .agg #[i64 x0, i64 x1, i64 x2, i64 (IntKind.i8.wrap x3), i64 0])]) hA [.agg #[i64 x0, i64 x1, i64 x2, i64 (IntKind.i8.wrap x3), i64 0]] (cc (hO.ln 1 0 46 [i64 x0, i64 x1, i64 x2, i64 (IntKind.i8.wrap x3), i64 0]) c0) ?_
          clear hA fr; intro fr hA
          refine wpOps_cons' (mK (f := 39) (args := [.agg #[i64 x0, i64 x1, i64 x2, i64 (IntKind.i8.wrap x3), i64 0]]) (d := (some 76)) (v := bl (legalB x0 x1 x2 (IntKind.i8.wrap x3) 0)) hA hO Tryd.func39 (legal_any x0 x1 x2 (IntKind.i8.wrap x3) 0 _ (hT.keep hO.only (fun h => h))) ?_)
          clear hA hO fr; intro fr w17 hA hO
          replace hA := hA.sb (e' := [(2, pt b1), (3, i64 0), (4, pt b2), (76, bl (legalB x0 x1 x2 (IntKind.i8.wrap x3) 0))])
          refine ck (l := [2]) (r := []) (e' := [(2, pt b1), (3, i64 0), (4, pt b2), (77, bl (!(legalB x0 x1 x2 (IntKind.i8.wrap x3) 0)))]) hA [] c0 ?_
          clear hA fr; intro fr hA
          refine end_ops ?_
          refine then_normal ?_
          rcases Bool.eq_false_or_eq_true (legalB x0 x1 x2 (IntKind.i8.wrap x3) 0) with h6 | h6
          ·
            replace hA := hA.bool (f := fun z_ => [(2, pt b1), (3, i64 0), (4, pt b2), (77, .bool !z_)]) h6
            refine cF hA ?_
            refine wp_skip ?_
            refine then_normal ?_
            refine sR (l := [0, 1, 2]) ?_
            refine ck (l := [0]) (r := [1, 2]) (e' := [(2, pt b1), (3, i64 0), (79, .agg #[i64 x0, i64 x1, i64 x2, i64 (IntKind.i8.wrap x3), i64 0])]) hA [.agg #[i64 x0, i64 x1, i64 x2, i64 (IntKind.i8.wrap x3), i64 0]] (cc (hO.ln 1 0 46 [i64 x0, i64 x1, i64 x2, i64 (IntKind.i8.wrap x3), i64 0]) c0) ?_
            clear hA fr; intro fr hA
            refine wpOps_cons' (mS (off := 0) (vc := [i64 x0, i64 x1, i64 x2, i64 (IntKind.i8.wrap x3), i64 0]) 2 hA hO ?_)
            clear hO; intro w18 hO
            replace hA := hA.sb (e' := [(2, pt b1), (3, i64 0)])
            refine ck (l := [2]) (r := []) (e' := [(2, pt b1), (3, i64 0)]) hA [] c0 ?_
            clear hA fr; intro fr hA
            refine end_ops ?_
            refine then_normal ?_
            refine wp_ret ?_
            refine cR (cs := [some (⟨b1, 0, none⟩, 46), none]) (us := [.agg #[i64 x0, i64 x1, i64 x2, i64 (IntKind.i8.wrap x3), i64 0], i64 0]) hA [.agg #[i64 x0, i64 x1, i64 x2, i64 (IntKind.i8.wrap x3), i64 0]] ⟨(hO.ln 2 0 46 [i64 x0, i64 x1, i64 x2, i64 (IntKind.i8.wrap x3), i64 0]), trivial⟩ ?_
            have hF := hO.only; clear hA hO
            exact ⟨by first | (simp_all [pack, decF, insO, errO, insV]; done) | (have hx : ¬ (1 ≤ x0 ∧ x0 ≤ 22) := (by omega); rw [decF, if_neg hx]; rfl), hF⟩
          ·
            replace hA := hA.bool (f := fun z_ => [(2, pt b1), (3, i64 0), (4, pt b2), (77, .bool !z_)]) h6
            refine cT hA ?_
            refine sR (l := [0, 1, 2]) ?_
            refine ck (l := [0]) (r := [1, 2]) (e' := [(2, pt b1), (3, i64 0), (4, pt b2), (78, .agg #[i64 0, i64 0, i64 0, i64 0, i64 0])]) hA [] c0 ?_
            clear hA fr; intro fr hA
            refine wpOps_cons' (mS (off := 0) (vc := [i64 0, i64 0, i64 0, i64 0, i64 0]) 2 hA hO ?_)
            clear hO; intro w19 hO
            replace hA := hA.sb (e' := [(2, pt b1), (3, i64 0), (4, pt b2)])
            refine ck (l := [2]) (r := []) (e' := [(2, pt b1), (3, i64 4), (4, pt b2)]) hA [] c0 ?_
            clear hA fr; intro fr hA
            refine end_ops ?_
            refine then_normal ?_
            refine wp_ret ?_
            refine then_ret ?_
            refine cR (cs := [some (⟨b1, 0, none⟩, 46), none]) (us := [.agg #[i64 0, i64 0, i64 0, i64 0, i64 0], i64 4]) hA [.agg #[i64 0, i64 0, i64 0, i64 0, i64 0]] ⟨(hO.ln 2 0 46 [i64 0, i64 0, i64 0, i64 0, i64 0]), trivial⟩ ?_
            have hF := hO.only; clear hA hO
            exact ⟨by first | (simp_all [pack, decF, insO, errO, insV]; done) | (have hx : ¬ (1 ≤ x0 ∧ x0 ≤ 22) := (by omega); rw [decF, if_neg hx]; rfl), hF⟩
        ·
          replace hA := hA.bool (f := fun z_ => [(0, .slice (some ad) 4 cap), (2, pt b1), (3, i64 0), (4, pt b2), (61, .bool z_)]) h5
          refine cF hA ?_
          have hS : Ow Tryd.prog none' w _ [(b3, 63, [str nm, bl fa, bl fb, bl fc, bl fv, bl fs]), (b1, 46, [i64 0, i64 0, i64 0, i64 0, i64 0])] := hO.sub [0, 2]
          refine rP [(0, true), (1, true), (2, true), (3, true), (4, true), (5, true), (6, true), (7, true), (8, true), (9, false), (10, true), (11, false)] hS ?_
          intro w20 ho; replace hO := hO.st ho; clear ho
          refine ckS (l := (rg 0 9)) (r := [(9, false), (10, true), (11, false)]) (e' := [(2, pt b1), (3, i64 0), (4, pt b2), (38, i64 x2), (42, i64 x3), (43, pf b2 2)]) hA [u8 x2, bl true, u8 x3, bl true] (cc (⟨by omega, by omega⟩ : (0 : Int) ≤ 2 ∧ 2 < ((4 : Nat) : Int)) (cc (hS.sx (ad.add 2) 5 (u8 x2) fun _ hO => (ld_cell (by kernel_rfl) (hO.only.cell hc2 (fun h => h)))) (cc ((inK_i64 (by omega) (by omega)) : inK .i64 x2) (cc (⟨by omega, by omega⟩ : (0 : Int) ≤ 3 ∧ 3 < ((4 : Nat) : Int)) (cc (hS.sx (ad.add 3) 5 (u8 x3) fun _ hO => (ld_cell (by kernel_rfl) (hO.only.cell hc3 (fun h => h)))) (cc ((inK_i64 (by omega) (by omega)) : inK .i64 x3) c0)))))) ?_
          clear hA fr; intro fr hA
          refine plan_mem (mS (off := 2) (vc := [i64 x2]) 1 hA hO ?_)
          clear hO; intro w21 hO
          refine ⟨(hO.sub [0, 2]), ?_⟩
          replace hA := hA.sb (e' := [(2, pt b1), (3, i64 0), (4, pt b2), (42, i64 x3)])
          refine ckS (l := [10]) (r := [(11, false)]) (e' := [(2, pt b1), (3, i64 0), (4, pt b2), (42, i64 x3), (44, pf b2 3)]) hA [] c0 ?_
          clear hA fr; intro fr hA
          refine plan_mem (mS (off := 3) (vc := [i64 x3]) 1 hA hO ?_)
          clear hO; intro w22 hO
          refine ⟨(hO.sub [0, 2]), ?_⟩
          replace hA := hA.sb (e' := [(2, pt b1), (3, i64 0), (4, pt b2)])
          refine end_plan ?_
          refine inBlock_normal ?_
          refine then_normal ?_
          refine wp_seq ?_
          refine sR (l := [0, 1, 2]) ?_
          refine ck (l := [0]) (r := [1, 2]) (e' := [(2, pt b1), (3, i64 0), (4, pt b2), (75, .agg #[i64 x0, i64 x1, i64 x2, i64 x3, i64 0])]) hA [.agg #[i64 x0, i64 x1, i64 x2, i64 x3, i64 0]] (cc (hO.ln 1 0 46 [i64 x0, i64 x1, i64 x2, i64 x3, i64 0]) c0) ?_
          clear hA fr; intro fr hA
          refine wpOps_cons' (mK (f := 39) (args := [.agg #[i64 x0, i64 x1, i64 x2, i64 x3, i64 0]]) (d := (some 76)) (v := bl (legalB x0 x1 x2 x3 0)) hA hO Tryd.func39 (legal_any x0 x1 x2 x3 0 _ (hT.keep hO.only (fun h => h))) ?_)
          clear hA hO fr; intro fr w23 hA hO
          replace hA := hA.sb (e' := [(2, pt b1), (3, i64 0), (4, pt b2), (76, bl (legalB x0 x1 x2 x3 0))])
          refine ck (l := [2]) (r := []) (e' := [(2, pt b1), (3, i64 0), (4, pt b2), (77, bl (!(legalB x0 x1 x2 x3 0)))]) hA [] c0 ?_
          clear hA fr; intro fr hA
          refine end_ops ?_
          refine then_normal ?_
          rcases Bool.eq_false_or_eq_true (legalB x0 x1 x2 x3 0) with h7 | h7
          ·
            replace hA := hA.bool (f := fun z_ => [(2, pt b1), (3, i64 0), (4, pt b2), (77, .bool !z_)]) h7
            refine cF hA ?_
            refine wp_skip ?_
            refine then_normal ?_
            refine sR (l := [0, 1, 2]) ?_
            refine ck (l := [0]) (r := [1, 2]) (e' := [(2, pt b1), (3, i64 0), (79, .agg #[i64 x0, i64 x1, i64 x2, i64 x3, i64 0])]) hA [.agg #[i64 x0, i64 x1, i64 x2, i64 x3, i64 0]] (cc (hO.ln 1 0 46 [i64 x0, i64 x1, i64 x2, i64 x3, i64 0]) c0) ?_
            clear hA fr; intro fr hA
            refine wpOps_cons' (mS (off := 0) (vc := [i64 x0, i64 x1, i64 x2, i64 x3, i64 0]) 2 hA hO ?_)
            clear hO; intro w24 hO
            replace hA := hA.sb (e' := [(2, pt b1), (3, i64 0)])
            refine ck (l := [2]) (r := []) (e' := [(2, pt b1), (3, i64 0)]) hA [] c0 ?_
            clear hA fr; intro fr hA
            refine end_ops ?_
            refine then_normal ?_
            refine wp_ret ?_
            refine cR (cs := [some (⟨b1, 0, none⟩, 46), none]) (us := [.agg #[i64 x0, i64 x1, i64 x2, i64 x3, i64 0], i64 0]) hA [.agg #[i64 x0, i64 x1, i64 x2, i64 x3, i64 0]] ⟨(hO.ln 2 0 46 [i64 x0, i64 x1, i64 x2, i64 x3, i64 0]), trivial⟩ ?_
            have hF := hO.only; clear hA hO
            exact ⟨by first | (simp_all [pack, decF, insO, errO, insV]; done) | (have hx : ¬ (1 ≤ x0 ∧ x0 ≤ 22) := (by omega); rw [decF, if_neg hx]; rfl), hF⟩
          ·
            replace hA := hA.bool (f := fun z_ => [(2, pt b1), (3, i64 0), (4, pt b2), (77, .bool !z_)]) h7
            refine cT hA ?_
            refine sR (l := [0, 1, 2]) ?_
            refine ck (l := [0]) (r := [1, 2]) (e' := [(2, pt b1), (3, i64 0), (4, pt b2), (78, .agg #[i64 0, i64 0, i64 0, i64 0, i64 0])]) hA [] c0 ?_
            clear hA fr; intro fr hA
            refine wpOps_cons' (mS (off := 0) (vc := [i64 0, i64 0, i64 0, i64 0, i64 0]) 2 hA hO ?_)
            clear hO; intro w25 hO
            replace hA := hA.sb (e' := [(2, pt b1), (3, i64 0), (4, pt b2)])
            refine ck (l := [2]) (r := []) (e' := [(2, pt b1), (3, i64 4), (4, pt b2)]) hA [] c0 ?_
            clear hA fr; intro fr hA
            refine end_ops ?_
            refine then_normal ?_
            refine wp_ret ?_
            refine then_ret ?_
            refine cR (cs := [some (⟨b1, 0, none⟩, 46), none]) (us := [.agg #[i64 0, i64 0, i64 0, i64 0, i64 0], i64 4]) hA [.agg #[i64 0, i64 0, i64 0, i64 0, i64 0]] ⟨(hO.ln 2 0 46 [i64 0, i64 0, i64 0, i64 0, i64 0]), trivial⟩ ?_
            have hF := hO.only; clear hA hO
            exact ⟨by first | (simp_all [pack, decF, insO, errO, insV]; done) | (have hx : ¬ (1 ≤ x0 ∧ x0 ≤ 22) := (by omega); rw [decF, if_neg hx]; rfl), hF⟩

theorem decode_any (sl : Value) (xs : List Int) (w : World) (hT : Tab w) (h : SlI w sl xs) : Calls Tryd.prog 24 #[sl] w fun e w' => e = .returned (.tuple #[insO (decX xs), .int .i64 (errO (decX xs))]) ∧ Only none' w w' := by
  obtain ⟨hu, ⟨rfl, rfl⟩ | ⟨ad, cap, rfl, hc⟩⟩ := h
  · exact decode_len none 0 0 w (by omega)
  · by_cases hl : xs.length = 4
    · obtain ⟨x0, x1, x2, x3, rfl⟩ : ∃ x0 x1 x2 x3, xs = [x0, x1, x2, x3] := by
        match xs, hl with
        | [x0, x1, x2, x3], _ => exact ⟨_, _, _, _, rfl⟩
      have u0 := hu x0 (by simp); have u1 := hu x1 (by simp); have u2 := hu x2 (by simp); have u3 := hu x3 (by simp)
      refine decode_4 ad cap x0 x1 x2 x3 (rowNm x0.toNat) (opA x0) (opB x0) (opB x0) (opV x0) (opS x0) w hT (hc 0 (by simp)) u0.1 u0.2 (hc 1 (by simp)) u1.1 u1.2 (hc 2 (by simp)) u2.1 u2.2 (hc 3 (by simp)) u3.1 u3.2 fun g1 g2 => ?_
      have := row_of (t := 63) (P := Tryd.prog) hT (by kernel_rfl) (k := x0.toNat) (by omega) (by omega)
      rw [show ((x0.toNat : Nat) : Int) = x0 by omega] at this
      exact this
    · have hx : decX xs = none := by
        match xs, hl with
        | [], _ => rfl
        | [_], _ => rfl
        | [_, _], _ => rfl
        | [_, _, _], _ => rfl
        | _ :: _ :: _ :: _ :: _ :: _, _ => rfl
      rw [hx]
      exact decode_len _ _ _ w hl

end Go.Proofs.YtkfnkcpdabdboaaDoor
