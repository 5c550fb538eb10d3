/- The layer cpu: walks of the law CpuDecode. -/
import Derived.Test.YtcaokjdihhbkjaaDoorRdecode
set_option linter.unusedVariables false
set_option linter.unusedSimpArgs false
set_option maxRecDepth 10000
namespace Go.Proofs.YtcaokjdihhbkjaaDoor
open Go Go.RowKit Go.Proofs.Sx

theorem u8_mod (z : Int) : IntKind.u8.wrap z = z % 256 := by
  have h := wrap_inK .u8 z
  simp only [IntKind.wrap, IntKind.signed, Bool.false_and, Bool.false_eq_true, if_false]
  rfl
theorem decX_enc {xs : List Int} {o a b c v : Int} (hu : U8s xs) (h : decX xs = some (o, a, b, c, v)) : xs = encX o a b c v := by
  match xs, h with
  | [x0, x1, x2, x3], h =>
    have u0 := hu x0 (by simp); have u1 := hu x1 (by simp); have u2 := hu x2 (by simp); have u3 := hu x3 (by simp)
    simp only [decX, decS, decF] at h
    split at h
    · split at h
      · simp only [Option.some.injEq] at h
        have hfs := op_iff x0
        cases hv : opV x0 with
        | true =>
          rw [hv] at h
          simp only [cond_true, Prod.mk.injEq] at h
          obtain ⟨rfl, rfl, rfl, rfl, rfl⟩ := h
          simp only [encX, hv, cond_true, u8_mod, List.cons.injEq, and_true]
          by_cases hx : x2 * 256 + x3 ≤ 32767
          · rw [i16_lo (by omega) hx]; refine ⟨?_, ?_, ?_, ?_⟩ <;> omega
          · rw [i16_hi (by omega) (by omega)]; refine ⟨?_, ?_, ?_, ?_⟩ <;> omega
        | false =>
          rw [hv] at h
          simp only [cond_false] at h
          cases hs : opS x0 with
          | true =>
            rw [hs] at h
            simp only [cond_true, Prod.mk.injEq] at h
            obtain ⟨rfl, rfl, rfl, rfl, rfl⟩ := h
            simp only [encX, hv, cond_false, u8_mod, List.cons.injEq, and_true]
            by_cases hx : x3 ≤ 127
            · rw [i8_lo (by omega) hx]; refine ⟨?_, ?_, ?_, ?_⟩ <;> omega
            · rw [i8_hi (by omega) (by omega)]; refine ⟨?_, ?_, ?_, ?_⟩ <;> omega
          | false =>
            rw [hs] at h
            simp only [cond_false, Prod.mk.injEq] at h
            obtain ⟨rfl, rfl, rfl, rfl, rfl⟩ := h
            simp only [encX, hv, cond_false, u8_mod, List.cons.injEq, and_true]
            refine ⟨?_, ?_, ?_, ?_⟩ <;> omega
      · cases h
    · cases h

theorem law_none (ad : Option Addr) (n cap : Nat) (xs : List Int) (w : World) (hT : Tab w) (hs : SlI w (.slice ad n cap) xs) (hx : decX xs = none) :
    Calls Tryd.prog 3 #[.slice ad n cap] w fun e w' => e = .returned (.bool true) ∧ Only none' w w' := by
  refine c_enter (args := [.slice ad n cap]) (m := 49) (n := 50) Tryd.func3 rfl (by kernel_rfl) (by kernel_rfl) fun fr hA => ?_
  have hO := Ow.nil Tryd.prog none' w
  refine sC (e' := [(0, .slice ad n cap), (2, bl false)]) 1 hA [] c0 ?_
  clear hA fr; intro fr hA
  refine wp_seq ?_
  refine sR (l := [0, 1]) ?_
  refine wpOps_cons' (mK (f := 12) (args := []) (d := (some 9)) (v := bl true) hA hO Tryd.func12 (awake_any _ (hT.keep hO.only (fun h => h))) ?_)
  clear hA hO fr; intro fr w1 hA hO
  refine ck (l := [1]) (r := []) (e' := [(0, .slice ad n cap), (2, bl false), (10, bl false)]) hA [] c0 ?_
  clear hA fr; intro fr hA
  refine end_ops ?_
  refine then_normal ?_
  refine cF hA ?_
  refine wp_skip ?_
  refine then_normal ?_
  refine wp_seq ?_
  refine sC (e' := [(0, .slice ad n cap), (2, bl false), (13, bl (decide (((n : Nat) : Int) > 6)))]) 3 hA [] c0 ?_
  clear hA fr; intro fr hA
  rcases Bool.eq_false_or_eq_true (decide (((n : Nat) : Int) > 6)) with h1 | h1
  ·
    replace hA := hA.bool (f := fun z_ => [(0, .slice ad n cap), (2, bl false), (13, .bool z_)]) h1
    have h1p := of_decide_eq_true h1
    refine cT hA ?_
    refine sC (e' := [(0, .slice ad n cap), (2, bl true)]) 1 hA [] c0 ?_
    clear hA fr; intro fr hA
    refine wp_ret ?_
    refine then_ret ?_
    refine cR (cs := [none]) (us := [bl true]) hA [] trivial ?_
    have hF := hO.only; clear hA hO
    exact ⟨rfl, hF⟩
  ·
    replace hA := hA.bool (f := fun z_ => [(0, .slice ad n cap), (2, bl false), (13, .bool z_)]) h1
    have h1p := of_decide_eq_false h1
    refine cF hA ?_
    refine wp_skip ?_
    refine then_normal ?_
    refine sR (l := (rg 0 8)) ?_
    refine ck (l := [0]) (r := (rg 1 7)) (e' := [(0, .slice ad n cap), (2, bl false), (15, .slice ad n cap)]) hA [] c0 ?_
    clear hA fr; intro fr hA
    refine wpOps_cons' (mK (f := 13) (args := [.slice ad n cap]) (d := (some 16)) (v := .tuple #[.agg #[i64 0, i64 0, i64 0, i64 0, i64 0], i64 4]) hA hO Tryd.func13 ((decode_any _ xs _ (hT.keep hO.only (fun h => h)) (hs.keep hO.only)).mono (fun e w h => by rw [hx] at h; exact h)) ?_)
    clear hA hO fr; intro fr w2 hA hO
    replace hA := hA.sb (e' := [(0, .slice ad n cap), (2, bl false), (16, .tuple #[.agg #[i64 0, i64 0, i64 0, i64 0, i64 0], i64 4])])
    refine ck (l := [2, 3, 4]) (r := [5, 6, 7]) (e' := [(0, .slice ad n cap), (2, bl false), (17, .agg #[i64 0, i64 0, i64 0, i64 0, i64 0]), (18, i64 4)]) hA [] c0 ?_
    clear hA fr; intro fr hA
    refine wpOps_cons' (mN (l := [i64 0, i64 0, i64 0, i64 0, i64 0]) (t := 25) (v := pt) (d := 3) hA hO ?_)
    clear hA hO fr; intro fr w3 b1 hA hO
    refine wpOps_cons' (mS (off := 0) (vc := [i64 0, i64 0, i64 0, i64 0, i64 0]) 0 hA hO ?_)
    clear hO; intro w4 hO
    replace hA := hA.sb (e' := [(0, .slice ad n cap), (2, bl false), (3, pt b1), (18, i64 4)])
    refine ck (l := [7]) (r := []) (e' := [(0, .slice ad n cap), (2, bl false), (3, pt b1), (4, i64 4)]) hA [] c0 ?_
    clear hA fr; intro fr hA
    refine end_ops ?_
    refine then_normal ?_
    refine sR (l := (rg 0 8)) ?_
    refine ck (l := [0]) (r := (rg 1 7)) (e' := [(0, .slice ad n cap), (2, bl false), (3, pt b1), (4, i64 4), (20, .slice ad n cap)]) hA [] c0 ?_
    clear hA fr; intro fr hA
    refine wpOps_cons' (mK (f := 14) (args := [.slice ad n cap]) (d := (some 21)) (v := .tuple #[.agg #[i64 0, i64 0, i64 0, i64 0, i64 0], i64 4]) hA hO Tryd.func14 ((rdecode_any _ xs _ (hs.keep hO.only)).mono (fun e w h => by rw [hx] at h; exact h)) ?_)
    clear hA hO fr; intro fr w5 hA hO
    replace hA := hA.sb (e' := [(0, .slice ad n cap), (2, bl false), (3, pt b1), (4, i64 4), (21, .tuple #[.agg #[i64 0, i64 0, i64 0, i64 0, i64 0], i64 4])])
    refine ck (l := [2, 3, 4]) (r := [5, 6, 7]) (e' := [(0, .slice ad n cap), (2, bl false), (3, pt b1), (4, i64 4), (22, .agg #[i64 0, i64 0, i64 0, i64 0, i64 0]), (23, i64 4)]) hA [] c0 ?_
    clear hA fr; intro fr hA
    refine wpOps_cons' (mN (l := [i64 0, i64 0, i64 0, i64 0, i64 0]) (t := 29) (v := pt) (d := 5) hA hO ?_)
    clear hA hO fr; intro fr w6 b2 hA hO
    refine wpOps_cons' (mS (off := 0) (vc := [i64 0, i64 0, i64 0, i64 0, i64 0]) 0 hA hO ?_)
    clear hO; intro w7 hO
    replace hA := hA.sb (e' := [(0, .slice ad n cap), (2, bl false), (3, pt b1), (4, i64 4), (5, pt b2), (23, i64 4)])
    refine ck (l := [7]) (r := []) (e' := [(0, .slice ad n cap), (2, bl false), (3, pt b1), (4, i64 4), (5, pt b2), (6, i64 4)]) hA [] c0 ?_
    clear hA fr; intro fr hA
    refine end_ops ?_
    refine then_normal ?_
    refine sR (l := (rg 0 7)) ?_
    refine ck (l := [0]) (r := (rg 1 6)) (e' := [(0, .slice ad n cap), (2, bl false), (3, pt b1), (4, i64 4), (5, pt b2), (6, i64 4), (25, .agg #[i64 0, i64 0, i64 0, i64 0, i64 0])]) hA [.agg #[i64 0, i64 0, i64 0, i64 0, i64 0]] (cc (hO.ln 1 0 25 [i64 0, i64 0, i64 0, i64 0, i64 0]) c0) ?_
    clear hA fr; intro fr hA
    refine wpOps_cons' (mK (f := 15) (args := [.agg #[i64 0, i64 0, i64 0, i64 0, i64 0]]) (d := (some 26)) (v := .tuple #[.slice none 0 0, i64 1]) hA hO Tryd.func15 (encode_bad 0 0 0 0 0 _ (hT.keep hO.only (fun h => h)) (by kernel_rfl)) ?_)
    clear hA hO fr; intro fr w8 hA hO
    replace hA := hA.sb (e' := [(0, .slice ad n cap), (2, bl false), (3, pt b1), (4, i64 4), (5, pt b2), (6, i64 4), (26, .tuple #[.slice none 0 0, i64 1])])
    refine ck (l := (rg 2 5)) (r := []) (e' := [(0, .slice ad n cap), (2, bl false), (3, pt b1), (4, i64 4), (5, pt b2), (6, i64 4), (7, .slice none 0 0), (8, i64 1)]) hA [] c0 ?_
    clear hA fr; intro fr hA
    refine end_ops ?_
    refine then_normal ?_
    refine sC (e' := [(2, bl true)]) 22 hA [.agg #[i64 0, i64 0, i64 0, i64 0, i64 0], .agg #[i64 0, i64 0, i64 0, i64 0, i64 0], bl true] (cc (hO.ln 1 0 25 [i64 0, i64 0, i64 0, i64 0, i64 0]) (cc (hO.ln 0 0 29 [i64 0, i64 0, i64 0, i64 0, i64 0]) (cc ((eqG_of (by kernel_rfl) (by kernel_rfl)) : EqG Tryd.prog 29 (.agg #[i64 0, i64 0, i64 0, i64 0, i64 0]) (.agg #[i64 0, i64 0, i64 0, i64 0, i64 0]) true) c0))) ?_
    clear hA fr; intro fr hA
    refine wp_ret ?_
    refine cR (cs := [none]) (us := [bl true]) hA [] trivial ?_
    have hF := hO.only; clear hA hO
    exact ⟨rfl, hF⟩

theorem law_some (ad : Option Addr) (n cap : Nat) (xs : List Int) (w : World) (hT : Tab w) (hs : SlI w (.slice ad n cap) xs) (o a b c v : Int) (hx : decX xs = some (o, a, b, c, v)) :
    Calls Tryd.prog 3 #[.slice ad n cap] w fun e w' => e = .returned (.bool true) ∧ Only none' w w' := by
  refine c_enter (args := [.slice ad n cap]) (m := 49) (n := 50) Tryd.func3 rfl (by kernel_rfl) (by kernel_rfl) fun fr hA => ?_
  have hO := Ow.nil Tryd.prog none' w
  refine sC (e' := [(0, .slice ad n cap), (2, bl false)]) 1 hA [] c0 ?_
  clear hA fr; intro fr hA
  refine wp_seq ?_
  refine sR (l := [0, 1]) ?_
  refine wpOps_cons' (mK (f := 12) (args := []) (d := (some 9)) (v := bl true) hA hO Tryd.func12 (awake_any _ (hT.keep hO.only (fun h => h))) ?_)
  clear hA hO fr; intro fr w1 hA hO
  refine ck (l := [1]) (r := []) (e' := [(0, .slice ad n cap), (2, bl false), (10, bl false)]) hA [] c0 ?_
  clear hA fr; intro fr hA
  refine end_ops ?_
  refine then_normal ?_
  refine cF hA ?_
  refine wp_skip ?_
  refine then_normal ?_
  refine wp_seq ?_
  refine sC (e' := [(0, .slice ad n cap), (2, bl false), (13, bl (decide (((n : Nat) : Int) > 6)))]) 3 hA [] c0 ?_
  clear hA fr; intro fr hA
  rcases Bool.eq_false_or_eq_true (decide (((n : Nat) : Int) > 6)) with h1 | h1
  ·
    replace hA := hA.bool (f := fun z_ => [(0, .slice ad n cap), (2, bl false), (13, .bool z_)]) h1
    have h1p := of_decide_eq_true h1
    refine cT hA ?_
    refine sC (e' := [(0, .slice ad n cap), (2, bl true)]) 1 hA [] c0 ?_
    clear hA fr; intro fr hA
    refine wp_ret ?_
    refine then_ret ?_
    refine cR (cs := [none]) (us := [bl true]) hA [] trivial ?_
    have hF := hO.only; clear hA hO
    exact ⟨rfl, hF⟩
  ·
    replace hA := hA.bool (f := fun z_ => [(0, .slice ad n cap), (2, bl false), (13, .bool z_)]) h1
    have h1p := of_decide_eq_false h1
    refine cF hA ?_
    refine wp_skip ?_
    refine then_normal ?_
    refine sR (l := (rg 0 8)) ?_
    refine ck (l := [0]) (r := (rg 1 7)) (e' := [(0, .slice ad n cap), (2, bl false), (15, .slice ad n cap)]) hA [] c0 ?_
    clear hA fr; intro fr hA
    refine wpOps_cons' (mK (f := 13) (args := [.slice ad n cap]) (d := (some 16)) (v := .tuple #[.agg #[i64 o, i64 a, i64 b, i64 c, i64 v], i64 0]) hA hO Tryd.func13 ((decode_any _ xs _ (hT.keep hO.only (fun h => h)) (hs.keep hO.only)).mono (fun e w h => by rw [hx] at h; exact h)) ?_)
    clear hA hO fr; intro fr w2 hA hO
    replace hA := hA.sb (e' := [(0, .slice ad n cap), (2, bl false), (16, .tuple #[.agg #[i64 o, i64 a, i64 b, i64 c, i64 v], i64 0])])
    refine ck (l := [2, 3, 4]) (r := [5, 6, 7]) (e' := [(0, .slice ad n cap), (2, bl false), (17, .agg #[i64 o, i64 a, i64 b, i64 c, i64 v]), (18, i64 0)]) hA [] c0 ?_
    clear hA fr; intro fr hA
    refine wpOps_cons' (mN (l := [i64 0, i64 0, i64 0, i64 0, i64 0]) (t := 25) (v := pt) (d := 3) hA hO ?_)
    clear hA hO fr; intro fr w3 b1 hA hO
    refine wpOps_cons' (mS (off := 0) (vc := [i64 o, i64 a, i64 b, i64 c, i64 v]) 0 hA hO ?_)
    clear hO; intro w4 hO
    replace hA := hA.sb (e' := [(0, .slice ad n cap), (2, bl false), (3, pt b1), (18, i64 0)])
    refine ck (l := [7]) (r := []) (e' := [(0, .slice ad n cap), (2, bl false), (3, pt b1), (4, i64 0)]) hA [] c0 ?_
    clear hA fr; intro fr hA
    refine end_ops ?_
    refine then_normal ?_
    refine sR (l := (rg 0 8)) ?_
    refine ck (l := [0]) (r := (rg 1 7)) (e' := [(0, .slice ad n cap), (2, bl false), (3, pt b1), (4, i64 0), (20, .slice ad n cap)]) hA [] c0 ?_
    clear hA fr; intro fr hA
    refine wpOps_cons' (mK (f := 14) (args := [.slice ad n cap]) (d := (some 21)) (v := .tuple #[.agg #[i64 o, i64 a, i64 b, i64 c, i64 v], i64 0]) hA hO Tryd.func14 ((rdecode_any _ xs _ (hs.keep hO.only)).mono (fun e w h => by rw [hx] at h; exact h)) ?_)
    clear hA hO fr; intro fr w5 hA hO
    replace hA := hA.sb (e' := [(0, .slice ad n cap), (2, bl false), (3, pt b1), (4, i64 0), (21, .tuple #[.agg #[i64 o, i64 a, i64 b, i64 c, i64 v], i64 0])])
    refine ck (l := [2, 3, 4]) (r := [5, 6, 7]) (e' := [(0, .slice ad n cap), (2, bl false), (3, pt b1), (4, i64 0), (22, .agg #[i64 o, i64 a, i64 b, i64 c, i64 v]), (23, i64 0)]) hA [] c0 ?_
    clear hA fr; intro fr hA
    refine wpOps_cons' (mN (l := [i64 0, i64 0, i64 0, i64 0, i64 0]) (t := 29) (v := pt) (d := 5) hA hO ?_)
    clear hA hO fr; intro fr w6 b2 hA hO
    refine wpOps_cons' (mS (off := 0) (vc := [i64 o, i64 a, i64 b, i64 c, i64 v]) 0 hA hO ?_)
    clear hO; intro w7 hO
    replace hA := hA.sb (e' := [(0, .slice ad n cap), (2, bl false), (3, pt b1), (4, i64 0), (5, pt b2), (23, i64 0)])
    refine ck (l := [7]) (r := []) (e' := [(0, .slice ad n cap), (2, bl false), (3, pt b1), (4, i64 0), (5, pt b2), (6, i64 0)]) hA [] c0 ?_
    clear hA fr; intro fr hA
    refine end_ops ?_
    refine then_normal ?_
    refine sR (l := (rg 0 7)) ?_
    refine ck (l := [0]) (r := (rg 1 6)) (e' := [(0, .slice ad n cap), (2, bl false), (3, pt b1), (4, i64 0), (5, pt b2), (6, i64 0), (25, .agg #[i64 o, i64 a, i64 b, i64 c, i64 v])]) hA [.agg #[i64 o, i64 a, i64 b, i64 c, i64 v]] (cc (hO.ln 1 0 25 [i64 o, i64 a, i64 b, i64 c, i64 v]) c0) ?_
    clear hA fr; intro fr hA
    refine wpOps_cons' (mC (f := 15) (args := [.agg #[i64 o, i64 a, i64 b, i64 c, i64 v]]) (d := (some 26)) hA Tryd.func15 ((encode_ok o a b c v _ (hT.keep hO.only (fun h => h)) (decX_legal hx)).mono ?_))
    rintro en w8 ⟨k1, rfl, ho, hbk, hge⟩
    refine ⟨_, rfl, ?_⟩
    clear hA fr; intro fr hA
    replace hO := hO.add ho hbk hge; clear ho hbk hge
    replace hA := hA.sb (e' := [(0, .slice ad n cap), (2, bl false), (3, pt b1), (4, i64 0), (5, pt b2), (6, i64 0), (26, .tuple #[.slice (some ⟨k1, 0, none⟩) 4 4, i64 0])])
    refine ck (l := (rg 2 5)) (r := []) (e' := [(0, .slice ad n cap), (2, bl false), (3, pt b1), (4, i64 0), (5, pt b2), (6, i64 0), (7, .slice (some ⟨k1, 0, none⟩) 4 4), (8, i64 0)]) hA [] c0 ?_
    clear hA fr; intro fr hA
    refine end_ops ?_
    refine then_normal ?_
    refine sR (l := (rg 0 22)) ?_
    refine ck (l := (rg 0 17)) (r := (rg 17 5)) (e' := [(2, bl false), (37, bl true), (40, bl false), (43, bl true), (44, .slice ad n cap), (45, .slice (some ⟨k1, 0, none⟩) 4 4)]) hA [.agg #[i64 o, i64 a, i64 b, i64 c, i64 v], .agg #[i64 o, i64 a, i64 b, i64 c, i64 v], bl true] (cc (hO.ln 2 0 25 [i64 o, i64 a, i64 b, i64 c, i64 v]) (cc (hO.ln 1 0 29 [i64 o, i64 a, i64 b, i64 c, i64 v]) (cc ((eqG_of (b := (o == o) && ((a == a) && ((b == b) && ((c == c) && ((v == v) && true))))) (by kernel_rfl) (by kernel_rfl)).cast (by simp) : EqG Tryd.prog 29 (.agg #[i64 o, i64 a, i64 b, i64 c, i64 v]) (.agg #[i64 o, i64 a, i64 b, i64 c, i64 v]) true) c0))) ?_
    clear hA fr; intro fr hA
    refine wpOps_cons' (mK (f := 16) (args := [.slice ad n cap, .slice (some ⟨k1, 0, none⟩) 4 4]) (d := (some 46)) (v := bl true) hA hO Tryd.func16 (rs (same_any xs ([IntKind.u8.wrap o, IntKind.u8.wrap a, cond (opV o) (IntKind.u8.wrap (v / 256)) (IntKind.u8.wrap b), cond (opV o) (IntKind.u8.wrap v) (IntKind.u8.wrap c)]) _ _ _ (hs.keep hO.only) ((hO.b 0).sl (xs := [IntKind.u8.wrap o, IntKind.u8.wrap a, cond (opV o) (IntKind.u8.wrap (v / 256)) (IntKind.u8.wrap b), cond (opV o) (IntKind.u8.wrap v) (IntKind.u8.wrap c)]) (U8s.cons (wrap_inK .u8 _) (U8s.cons (wrap_inK .u8 _) (U8s.cons (inK_cond (wrap_inK .u8 _) (wrap_inK .u8 _)) (U8s.cons (inK_cond (wrap_inK .u8 _) (wrap_inK .u8 _)) U8s.nil)))) rfl (by kernel_rfl))) (congrArg Value.bool (decide_eq_true (decX_enc hs.1 hx)))) ?_)
    clear hA hO fr; intro fr w9 hA hO
    replace hA := hA.sb (e' := [(2, bl false), (37, bl true), (40, bl false), (43, bl true), (46, bl true)])
    refine ck (l := [18, 19, 20, 21]) (r := []) (e' := [(2, bl true)]) hA [] c0 ?_
    clear hA fr; intro fr hA
    refine end_ops ?_
    refine then_normal ?_
    refine wp_ret ?_
    refine cR (cs := [none]) (us := [bl true]) hA [] trivial ?_
    have hF := hO.only; clear hA hO
    exact ⟨rfl, hF⟩

theorem law_decode (ad : Option Addr) (n cap : Nat) (xs : List Int) (w : World) (hT : Tab w) (hs : SlI w (.slice ad n cap) xs) :
    Calls Tryd.prog 3 #[.slice ad n cap] w fun e w' => e = .returned (.bool true) ∧ Only none' w w' := by
  rcases hx : decX xs with _ | ⟨o, a, b, c, v⟩
  · exact law_none ad n cap xs w hT hs hx
  · exact law_some ad n cap xs w hT hs o a b c v hx

end Go.Proofs.YtcaokjdihhbkjaaDoor
