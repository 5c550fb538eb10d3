/- The layer cpu: walks of the reference: Encode; Show of both. -/
import Derived.Test.YtcaokjdihhbkjaaDoorRshow
import Derived.Test.YtcaokjdihhbkjaaDoorEncdec
set_option linter.unusedVariables false
set_option linter.unusedSimpArgs false
set_option maxRecDepth 10000
namespace Go.Proofs.YtcaokjdihhbkjaaDoor
open Go Go.RowKit Go.Proofs.Sx

theorem v_hi (v : Int) : IntKind.u8.wrap (((v + 65536) % 65536) / 256) = IntKind.u8.wrap (v / 256) := by rw [u8_mod, u8_mod]; omega
theorem v_lo (v : Int) : IntKind.u8.wrap (((v + 65536) % 65536) % 256) = IntKind.u8.wrap v := by rw [u8_mod, u8_mod]; omega
theorem c_lo (c : Int) : IntKind.u8.wrap ((c + 256) % 256) = IntKind.u8.wrap c := by rw [u8_mod, u8_mod]; omega

theorem rencode_bad (o a b c v : Int) (w : World) (hl : legalB o a b c v = false) :
    Calls Tryd.prog 29 #[.agg #[i64 o, i64 a, i64 b, i64 c, i64 v]] w fun e w' => e = .returned (.tuple #[.slice none 0 0, .int .i64 1]) ∧ Only none' w w' := by
  refine c_enter (args := [.agg #[i64 o, i64 a, i64 b, i64 c, i64 v]]) (m := 49) (n := 50) Tryd.func29 rfl (by kernel_rfl) (by kernel_rfl) fun fr hA => ?_
  have hO := Ow.nil Tryd.prog none' w
  refine sR (l := [0, 1, 2]) ?_
  refine wpOps_cons' (mN (l := [i64 o, i64 a, i64 b, i64 c, i64 v]) (t := 29) (v := pt) (d := 1) hA hO ?_)
  clear hA hO fr; intro fr w1 b1 hA hO
  replace hA := hA.sb (e' := [(1, pt b1)])
  refine ck (l := [1, 2]) (r := []) (e' := [(1, pt b1), (2, .slice none 0 0), (3, i64 0)]) hA [] c0 ?_
  clear hA fr; intro fr hA
  refine end_ops ?_
  refine then_normal ?_
  refine wp_seq ?_
  refine sR (l := [0, 1, 2]) ?_
  refine ck (l := [0]) (r := [1, 2]) (e' := [(1, pt b1), (2, .slice none 0 0), (3, i64 0), (6, .agg #[i64 o, i64 a, i64 b, i64 c, i64 v])]) hA [.agg #[i64 o, i64 a, i64 b, i64 c, i64 v]] (cc (hO.ln 0 0 29 [i64 o, i64 a, i64 b, i64 c, i64 v]) c0) ?_
  clear hA fr; intro fr hA
  refine wpOps_cons' (mK (f := 31) (args := [.agg #[i64 o, i64 a, i64 b, i64 c, i64 v]]) (d := (some 7)) (v := bl false) hA hO Tryd.func31 (rs (rlegal_any o a b c v _) (congrArg Value.bool hl)) ?_)
  clear hA hO fr; intro fr w2 hA hO
  replace hA := hA.sb (e' := [(1, pt b1), (2, .slice none 0 0), (3, i64 0), (7, bl false)])
  refine ck (l := [2]) (r := []) (e' := [(1, pt b1), (2, .slice none 0 0), (3, i64 0), (8, bl true)]) hA [] c0 ?_
  clear hA fr; intro fr hA
  refine end_ops ?_
  refine then_normal ?_
  refine cT hA ?_
  refine sC (e' := [(1, pt b1), (2, .slice none 0 0), (3, i64 1)]) 2 hA [] c0 ?_
  clear hA fr; intro fr hA
  refine wp_ret ?_
  refine then_ret ?_
  refine cR (cs := [none, none]) (us := [.slice none 0 0, i64 1]) hA [] trivial ?_
  have hF := hO.only; clear hA hO
  exact ⟨rfl, hF⟩

theorem rencode_1 (o a b c v : Int) (w : World) (hl : legalB o a b c v = true) (hf : formF o = 1) :
    Calls Tryd.prog 29 #[.agg #[i64 o, i64 a, i64 b, i64 c, i64 v]] w fun e w' => ∃ bk, e = .returned (.tuple #[.slice (some ⟨bk, 0, none⟩) 4 4, .int .i64 0]) ∧ Only none' w w' ∧ Blk w' bk 5 ((encX o a b c v).map (.int .u8 ·)) ∧ w.heap.size ≤ bk := by
  refine c_enter (args := [.agg #[i64 o, i64 a, i64 b, i64 c, i64 v]]) (m := 49) (n := 50) Tryd.func29 rfl (by kernel_rfl) (by kernel_rfl) fun fr hA => ?_
  have hO := Ow.nil Tryd.prog none' w
  obtain ⟨ho_, ha_, hb_, hc_, hv_, hc2_⟩ := legal_spec hl
  refine sR (l := [0, 1, 2]) ?_
  refine wpOps_cons' (mN (l := [i64 o, i64 a, i64 b, i64 c, i64 v]) (t := 29) (v := pt) (d := 1) hA hO ?_)
  clear hA hO fr; intro fr w1 b1 hA hO
  replace hA := hA.sb (e' := [(1, pt b1)])
  refine ck (l := [1, 2]) (r := []) (e' := [(1, pt b1), (2, .slice none 0 0), (3, i64 0)]) hA [] c0 ?_
  clear hA fr; intro fr hA
  refine end_ops ?_
  refine then_normal ?_
  refine wp_seq ?_
  refine sR (l := [0, 1, 2]) ?_
  refine ck (l := [0]) (r := [1, 2]) (e' := [(1, pt b1), (2, .slice none 0 0), (3, i64 0), (6, .agg #[i64 o, i64 a, i64 b, i64 c, i64 v])]) hA [.agg #[i64 o, i64 a, i64 b, i64 c, i64 v]] (cc (hO.ln 0 0 29 [i64 o, i64 a, i64 b, i64 c, i64 v]) c0) ?_
  clear hA fr; intro fr hA
  refine wpOps_cons' (mK (f := 31) (args := [.agg #[i64 o, i64 a, i64 b, i64 c, i64 v]]) (d := (some 7)) (v := bl true) hA hO Tryd.func31 (rs (rlegal_any o a b c v _) (congrArg Value.bool hl)) ?_)
  clear hA hO fr; intro fr w2 hA hO
  replace hA := hA.sb (e' := [(1, pt b1), (2, .slice none 0 0), (3, i64 0), (7, bl true)])
  refine ck (l := [2]) (r := []) (e' := [(1, pt b1), (2, .slice none 0 0), (3, i64 0), (8, bl false)]) hA [] c0 ?_
  clear hA fr; intro fr hA
  refine end_ops ?_
  refine then_normal ?_
  refine cF hA ?_
  refine wp_skip ?_
  refine then_normal ?_
  refine wp_seq ?_
  refine sR (l := [0, 1, 2, 3]) ?_
  refine ck (l := [0, 1]) (r := [2, 3]) (e' := [(1, pt b1), (2, .slice none 0 0), (3, i64 0), (10, i64 o)]) hA [i64 o] (cc (hO.l1 0 0 3 (i64 o)) c0) ?_
  clear hA fr; intro fr hA
  refine wpOps_cons' (mK (f := 34) (args := [i64 o]) (d := (some 11)) (v := i64 1) hA hO Tryd.func34 (rs (form_any o _) (congrArg _ hf)) ?_)
  clear hA hO fr; intro fr w3 hA hO
  replace hA := hA.sb (e' := [(1, pt b1), (2, .slice none 0 0), (3, i64 0), (11, i64 1)])
  refine ck (l := [3]) (r := []) (e' := [(1, pt b1), (2, .slice none 0 0), (3, i64 0), (4, i64 1)]) hA [] c0 ?_
  clear hA fr; intro fr hA
  refine end_ops ?_
  refine then_normal ?_
  refine sC (e' := [(1, pt b1), (2, .slice none 0 0), (3, i64 0), (17, bl true)]) 6 hA [] c0 ?_
  clear hA fr; intro fr hA
  refine cT hA ?_
  refine sC (e' := [(1, pt b1), (2, .slice none 0 0), (3, i64 0), (5, i64 ((v + 65536) % 65536))]) 5 hA [i64 v, bl true, bl true] (cc (hO.l1 0 4 3 (i64 v)) (cc ((inK_i64 (by omega) (by omega)) : inK .i64 (v + 65536)) (cc (⟨by omega, by omega, inK_i64 (by omega) (by omega)⟩ : (0 : Int) ≤ v + 65536 ∧ (0 : Int) < 65536 ∧ inK .i64 (v + 65536)) c0))) ?_
  clear hA fr; intro fr hA
  refine sR (l := (rg 0 15)) ?_
  refine ck (l := (rg 0 12)) (r := [12, 13, 14]) (e' := [(1, pt b1), (2, .slice none 0 0), (3, i64 0), (24, u8 (IntKind.u8.wrap o)), (27, u8 (IntKind.u8.wrap a)), (30, u8 (IntKind.u8.wrap (((v + 65536) % 65536) / 256))), (33, u8 (IntKind.u8.wrap (((v + 65536) % 65536) % 256)))]) hA [i64 o, bl false, i64 a, bl false, bl true, bl false, bl true, bl false] (cc (hO.l1 0 0 3 (i64 o)) (cc (hO.l1 0 1 3 (i64 a)) (cc (⟨by omega, by omega, inK_i64 (by omega) (by omega)⟩ : (0 : Int) ≤ (v + 65536) % 65536 ∧ (0 : Int) < 256 ∧ inK .i64 ((v + 65536) % 65536)) (cc (⟨by omega, by omega, inK_i64 (by omega) (by omega)⟩ : (0 : Int) ≤ (v + 65536) % 65536 ∧ (0 : Int) < 256 ∧ inK .i64 ((v + 65536) % 65536)) c0)))) ?_
  clear hA fr; intro fr hA
  refine wpOps_cons' (mN (l := [u8 (IntKind.u8.wrap o), u8 (IntKind.u8.wrap a), u8 (IntKind.u8.wrap (((v + 65536) % 65536) / 256)), u8 (IntKind.u8.wrap (((v + 65536) % 65536) % 256))]) (t := 5) (v := fun b => .slice (some ⟨b, 0, none⟩) 4 4) (d := 34) hA hO ?_)
  clear hA hO fr; intro fr w4 b2 hA hO
  replace hA := hA.sb (e' := [(1, pt b1), (2, .slice none 0 0), (3, i64 0), (34, .slice (some ⟨b2, 0, none⟩) 4 4)])
  refine ck (l := [13, 14]) (r := []) (e' := [(1, pt b1), (2, .slice (some ⟨b2, 0, none⟩) 4 4), (3, i64 0)]) hA [] c0 ?_
  clear hA fr; intro fr hA
  refine end_ops ?_
  refine then_normal ?_
  refine wp_ret ?_
  refine then_ret ?_
  refine cR (cs := [none, none]) (us := [.slice (some ⟨b2, 0, none⟩) 4 4, i64 0]) hA [] trivial ?_
  have hV : opV o = true := (form_flags o).1 hf |>.2.2.2.1
  refine ⟨b2, rfl, hO.only, ?_, hO.fresh 0⟩
  rw [encX, hV]; have := hO.b 0; rw [cond_true, cond_true, ← v_hi v, ← v_lo v]; exact this

theorem rencode_2 (o a b c v : Int) (w : World) (hl : legalB o a b c v = true) (hf : formF o = 2) :
    Calls Tryd.prog 29 #[.agg #[i64 o, i64 a, i64 b, i64 c, i64 v]] w fun e w' => ∃ bk, e = .returned (.tuple #[.slice (some ⟨bk, 0, none⟩) 4 4, .int .i64 0]) ∧ Only none' w w' ∧ Blk w' bk 5 ((encX o a b c v).map (.int .u8 ·)) ∧ w.heap.size ≤ bk := by
  refine c_enter (args := [.agg #[i64 o, i64 a, i64 b, i64 c, i64 v]]) (m := 49) (n := 50) Tryd.func29 rfl (by kernel_rfl) (by kernel_rfl) fun fr hA => ?_
  have hO := Ow.nil Tryd.prog none' w
  obtain ⟨ho_, ha_, hb_, hc_, hv_, hc2_⟩ := legal_spec hl
  refine sR (l := [0, 1, 2]) ?_
  refine wpOps_cons' (mN (l := [i64 o, i64 a, i64 b, i64 c, i64 v]) (t := 29) (v := pt) (d := 1) hA hO ?_)
  clear hA hO fr; intro fr w1 b1 hA hO
  replace hA := hA.sb (e' := [(1, pt b1)])
  refine ck (l := [1, 2]) (r := []) (e' := [(1, pt b1), (2, .slice none 0 0), (3, i64 0)]) hA [] c0 ?_
  clear hA fr; intro fr hA
  refine end_ops ?_
  refine then_normal ?_
  refine wp_seq ?_
  refine sR (l := [0, 1, 2]) ?_
  refine ck (l := [0]) (r := [1, 2]) (e' := [(1, pt b1), (2, .slice none 0 0), (3, i64 0), (6, .agg #[i64 o, i64 a, i64 b, i64 c, i64 v])]) hA [.agg #[i64 o, i64 a, i64 b, i64 c, i64 v]] (cc (hO.ln 0 0 29 [i64 o, i64 a, i64 b, i64 c, i64 v]) c0) ?_
  clear hA fr; intro fr hA
  refine wpOps_cons' (mK (f := 31) (args := [.agg #[i64 o, i64 a, i64 b, i64 c, i64 v]]) (d := (some 7)) (v := bl true) hA hO Tryd.func31 (rs (rlegal_any o a b c v _) (congrArg Value.bool hl)) ?_)
  clear hA hO fr; intro fr w2 hA hO
  replace hA := hA.sb (e' := [(1, pt b1), (2, .slice none 0 0), (3, i64 0), (7, bl true)])
  refine ck (l := [2]) (r := []) (e' := [(1, pt b1), (2, .slice none 0 0), (3, i64 0), (8, bl false)]) hA [] c0 ?_
  clear hA fr; intro fr hA
  refine end_ops ?_
  refine then_normal ?_
  refine cF hA ?_
  refine wp_skip ?_
  refine then_normal ?_
  refine wp_seq ?_
  refine sR (l := [0, 1, 2, 3]) ?_
  refine ck (l := [0, 1]) (r := [2, 3]) (e' := [(1, pt b1), (2, .slice none 0 0), (3, i64 0), (10, i64 o)]) hA [i64 o] (cc (hO.l1 0 0 3 (i64 o)) c0) ?_
  clear hA fr; intro fr hA
  refine wpOps_cons' (mK (f := 34) (args := [i64 o]) (d := (some 11)) (v := i64 2) hA hO Tryd.func34 (rs (form_any o _) (congrArg _ hf)) ?_)
  clear hA hO fr; intro fr w3 hA hO
  replace hA := hA.sb (e' := [(1, pt b1), (2, .slice none 0 0), (3, i64 0), (11, i64 2)])
  refine ck (l := [3]) (r := []) (e' := [(1, pt b1), (2, .slice none 0 0), (3, i64 0), (4, i64 2)]) hA [] c0 ?_
  clear hA fr; intro fr hA
  refine end_ops ?_
  refine then_normal ?_
  refine sC (e' := [(1, pt b1), (2, .slice none 0 0), (3, i64 0), (17, bl false)]) 6 hA [] c0 ?_
  clear hA fr; intro fr hA
  refine cF hA ?_
  refine wp_skip ?_
  refine then_normal ?_
  refine sR (l := (rg 0 17)) ?_
  refine ck (l := (rg 0 14)) (r := [14, 15, 16]) (e' := [(2, .slice none 0 0), (3, i64 0), (37, u8 (IntKind.u8.wrap o)), (40, u8 (IntKind.u8.wrap a)), (43, u8 (IntKind.u8.wrap b)), (48, u8 (IntKind.u8.wrap ((c + 256) % 256)))]) hA [i64 o, bl false, i64 a, bl false, i64 b, bl false, i64 c, bl true, bl true, bl false] (cc (hO.l1 0 0 3 (i64 o)) (cc (hO.l1 0 1 3 (i64 a)) (cc (hO.l1 0 2 3 (i64 b)) (cc (hO.l1 0 3 3 (i64 c)) (cc ((inK_i64 (by omega) (by omega)) : inK .i64 (c + 256)) (cc (⟨by omega, by omega, inK_i64 (by omega) (by omega)⟩ : (0 : Int) ≤ c + 256 ∧ (0 : Int) < 256 ∧ inK .i64 (c + 256)) c0)))))) ?_
  clear hA fr; intro fr hA
  refine wpOps_cons' (mN (l := [u8 (IntKind.u8.wrap o), u8 (IntKind.u8.wrap a), u8 (IntKind.u8.wrap b), u8 (IntKind.u8.wrap ((c + 256) % 256))]) (t := 5) (v := fun b => .slice (some ⟨b, 0, none⟩) 4 4) (d := 49) hA hO ?_)
  clear hA hO fr; intro fr w4 b2 hA hO
  replace hA := hA.sb (e' := [(2, .slice none 0 0), (3, i64 0), (49, .slice (some ⟨b2, 0, none⟩) 4 4)])
  refine ck (l := [15, 16]) (r := []) (e' := [(2, .slice (some ⟨b2, 0, none⟩) 4 4), (3, i64 0)]) hA [] c0 ?_
  clear hA fr; intro fr hA
  refine end_ops ?_
  refine then_normal ?_
  refine wp_ret ?_
  refine cR (cs := [none, none]) (us := [.slice (some ⟨b2, 0, none⟩) 4 4, i64 0]) hA [] trivial ?_
  have hV : opV o = false := (form_flags o).2.1 hf |>.2.2.2.1
  refine ⟨b2, rfl, hO.only, ?_, hO.fresh 0⟩
  rw [encX, hV]; have := hO.b 0; rw [cond_false, cond_false, ← c_lo c]; exact this

theorem rencode_3 (o a b c v : Int) (w : World) (hl : legalB o a b c v = true) (hf : formF o = 3) :
    Calls Tryd.prog 29 #[.agg #[i64 o, i64 a, i64 b, i64 c, i64 v]] w fun e w' => ∃ bk, e = .returned (.tuple #[.slice (some ⟨bk, 0, none⟩) 4 4, .int .i64 0]) ∧ Only none' w w' ∧ Blk w' bk 5 ((encX o a b c v).map (.int .u8 ·)) ∧ w.heap.size ≤ bk := by
  refine c_enter (args := [.agg #[i64 o, i64 a, i64 b, i64 c, i64 v]]) (m := 49) (n := 50) Tryd.func29 rfl (by kernel_rfl) (by kernel_rfl) fun fr hA => ?_
  have hO := Ow.nil Tryd.prog none' w
  obtain ⟨ho_, ha_, hb_, hc_, hv_, hc2_⟩ := legal_spec hl
  refine sR (l := [0, 1, 2]) ?_
  refine wpOps_cons' (mN (l := [i64 o, i64 a, i64 b, i64 c, i64 v]) (t := 29) (v := pt) (d := 1) hA hO ?_)
  clear hA hO fr; intro fr w1 b1 hA hO
  replace hA := hA.sb (e' := [(1, pt b1)])
  refine ck (l := [1, 2]) (r := []) (e' := [(1, pt b1), (2, .slice none 0 0), (3, i64 0)]) hA [] c0 ?_
  clear hA fr; intro fr hA
  refine end_ops ?_
  refine then_normal ?_
  refine wp_seq ?_
  refine sR (l := [0, 1, 2]) ?_
  refine ck (l := [0]) (r := [1, 2]) (e' := [(1, pt b1), (2, .slice none 0 0), (3, i64 0), (6, .agg #[i64 o, i64 a, i64 b, i64 c, i64 v])]) hA [.agg #[i64 o, i64 a, i64 b, i64 c, i64 v]] (cc (hO.ln 0 0 29 [i64 o, i64 a, i64 b, i64 c, i64 v]) c0) ?_
  clear hA fr; intro fr hA
  refine wpOps_cons' (mK (f := 31) (args := [.agg #[i64 o, i64 a, i64 b, i64 c, i64 v]]) (d := (some 7)) (v := bl true) hA hO Tryd.func31 (rs (rlegal_any o a b c v _) (congrArg Value.bool hl)) ?_)
  clear hA hO fr; intro fr w2 hA hO
  replace hA := hA.sb (e' := [(1, pt b1), (2, .slice none 0 0), (3, i64 0), (7, bl true)])
  refine ck (l := [2]) (r := []) (e' := [(1, pt b1), (2, .slice none 0 0), (3, i64 0), (8, bl false)]) hA [] c0 ?_
  clear hA fr; intro fr hA
  refine end_ops ?_
  refine then_normal ?_
  refine cF hA ?_
  refine wp_skip ?_
  refine then_normal ?_
  refine wp_seq ?_
  refine sR (l := [0, 1, 2, 3]) ?_
  refine ck (l := [0, 1]) (r := [2, 3]) (e' := [(1, pt b1), (2, .slice none 0 0), (3, i64 0), (10, i64 o)]) hA [i64 o] (cc (hO.l1 0 0 3 (i64 o)) c0) ?_
  clear hA fr; intro fr hA
  refine wpOps_cons' (mK (f := 34) (args := [i64 o]) (d := (some 11)) (v := i64 3) hA hO Tryd.func34 (rs (form_any o _) (congrArg _ hf)) ?_)
  clear hA hO fr; intro fr w3 hA hO
  replace hA := hA.sb (e' := [(1, pt b1), (2, .slice none 0 0), (3, i64 0), (11, i64 3)])
  refine ck (l := [3]) (r := []) (e' := [(1, pt b1), (2, .slice none 0 0), (3, i64 0), (4, i64 3)]) hA [] c0 ?_
  clear hA fr; intro fr hA
  refine end_ops ?_
  refine then_normal ?_
  refine sC (e' := [(1, pt b1), (2, .slice none 0 0), (3, i64 0), (17, bl false)]) 6 hA [] c0 ?_
  clear hA fr; intro fr hA
  refine cF hA ?_
  refine wp_skip ?_
  refine then_normal ?_
  refine sR (l := (rg 0 17)) ?_
  refine ck (l := (rg 0 14)) (r := [14, 15, 16]) (e' := [(2, .slice none 0 0), (3, i64 0), (37, u8 (IntKind.u8.wrap o)), (40, u8 (IntKind.u8.wrap a)), (43, u8 (IntKind.u8.wrap b)), (48, u8 (IntKind.u8.wrap ((c + 256) % 256)))]) hA [i64 o, bl false, i64 a, bl false, i64 b, bl false, i64 c, bl true, bl true, bl false] (cc (hO.l1 0 0 3 (i64 o)) (cc (hO.l1 0 1 3 (i64 a)) (cc (hO.l1 0 2 3 (i64 b)) (cc (hO.l1 0 3 3 (i64 c)) (cc ((inK_i64 (by omega) (by omega)) : inK .i64 (c + 256)) (cc (⟨by omega, by omega, inK_i64 (by omega) (by omega)⟩ : (0 : Int) ≤ c + 256 ∧ (0 : Int) < 256 ∧ inK .i64 (c + 256)) c0)))))) ?_
  clear hA fr; intro fr hA
  refine wpOps_cons' (mN (l := [u8 (IntKind.u8.wrap o), u8 (IntKind.u8.wrap a), u8 (IntKind.u8.wrap b), u8 (IntKind.u8.wrap ((c + 256) % 256))]) (t := 5) (v := fun b => .slice (some ⟨b, 0, none⟩) 4 4) (d := 49) hA hO ?_)
  clear hA hO fr; intro fr w4 b2 hA hO
  replace hA := hA.sb (e' := [(2, .slice none 0 0), (3, i64 0), (49, .slice (some ⟨b2, 0, none⟩) 4 4)])
  refine ck (l := [15, 16]) (r := []) (e' := [(2, .slice (some ⟨b2, 0, none⟩) 4 4), (3, i64 0)]) hA [] c0 ?_
  clear hA fr; intro fr hA
  refine end_ops ?_
  refine then_normal ?_
  refine wp_ret ?_
  refine cR (cs := [none, none]) (us := [.slice (some ⟨b2, 0, none⟩) 4 4, i64 0]) hA [] trivial ?_
  have hV : opV o = false := (form_flags o).2.2.1 hf |>.2.2.2.1
  refine ⟨b2, rfl, hO.only, ?_, hO.fresh 0⟩
  rw [encX, hV]; have := hO.b 0; rw [cond_false, cond_false, ← c_lo c]; exact this

theorem rencode_4 (o a b c v : Int) (w : World) (hl : legalB o a b c v = true) (hf : formF o = 4) :
    Calls Tryd.prog 29 #[.agg #[i64 o, i64 a, i64 b, i64 c, i64 v]] w fun e w' => ∃ bk, e = .returned (.tuple #[.slice (some ⟨bk, 0, none⟩) 4 4, .int .i64 0]) ∧ Only none' w w' ∧ Blk w' bk 5 ((encX o a b c v).map (.int .u8 ·)) ∧ w.heap.size ≤ bk := by
  refine c_enter (args := [.agg #[i64 o, i64 a, i64 b, i64 c, i64 v]]) (m := 49) (n := 50) Tryd.func29 rfl (by kernel_rfl) (by kernel_rfl) fun fr hA => ?_
  have hO := Ow.nil Tryd.prog none' w
  obtain ⟨ho_, ha_, hb_, hc_, hv_, hc2_⟩ := legal_spec hl
  refine sR (l := [0, 1, 2]) ?_
  refine wpOps_cons' (mN (l := [i64 o, i64 a, i64 b, i64 c, i64 v]) (t := 29) (v := pt) (d := 1) hA hO ?_)
  clear hA hO fr; intro fr w1 b1 hA hO
  replace hA := hA.sb (e' := [(1, pt b1)])
  refine ck (l := [1, 2]) (r := []) (e' := [(1, pt b1), (2, .slice none 0 0), (3, i64 0)]) hA [] c0 ?_
  clear hA fr; intro fr hA
  refine end_ops ?_
  refine then_normal ?_
  refine wp_seq ?_
  refine sR (l := [0, 1, 2]) ?_
  refine ck (l := [0]) (r := [1, 2]) (e' := [(1, pt b1), (2, .slice none 0 0), (3, i64 0), (6, .agg #[i64 o, i64 a, i64 b, i64 c, i64 v])]) hA [.agg #[i64 o, i64 a, i64 b, i64 c, i64 v]] (cc (hO.ln 0 0 29 [i64 o, i64 a, i64 b, i64 c, i64 v]) c0) ?_
  clear hA fr; intro fr hA
  refine wpOps_cons' (mK (f := 31) (args := [.agg #[i64 o, i64 a, i64 b, i64 c, i64 v]]) (d := (some 7)) (v := bl true) hA hO Tryd.func31 (rs (rlegal_any o a b c v _) (congrArg Value.bool hl)) ?_)
  clear hA hO fr; intro fr w2 hA hO
  replace hA := hA.sb (e' := [(1, pt b1), (2, .slice none 0 0), (3, i64 0), (7, bl true)])
  refine ck (l := [2]) (r := []) (e' := [(1, pt b1), (2, .slice none 0 0), (3, i64 0), (8, bl false)]) hA [] c0 ?_
  clear hA fr; intro fr hA
  refine end_ops ?_
  refine then_normal ?_
  refine cF hA ?_
  refine wp_skip ?_
  refine then_normal ?_
  refine wp_seq ?_
  refine sR (l := [0, 1, 2, 3]) ?_
  refine ck (l := [0, 1]) (r := [2, 3]) (e' := [(1, pt b1), (2, .slice none 0 0), (3, i64 0), (10, i64 o)]) hA [i64 o] (cc (hO.l1 0 0 3 (i64 o)) c0) ?_
  clear hA fr; intro fr hA
  refine wpOps_cons' (mK (f := 34) (args := [i64 o]) (d := (some 11)) (v := i64 4) hA hO Tryd.func34 (rs (form_any o _) (congrArg _ hf)) ?_)
  clear hA hO fr; intro fr w3 hA hO
  replace hA := hA.sb (e' := [(1, pt b1), (2, .slice none 0 0), (3, i64 0), (11, i64 4)])
  refine ck (l := [3]) (r := []) (e' := [(1, pt b1), (2, .slice none 0 0), (3, i64 0), (4, i64 4)]) hA [] c0 ?_
  clear hA fr; intro fr hA
  refine end_ops ?_
  refine then_normal ?_
  refine sC (e' := [(1, pt b1), (2, .slice none 0 0), (3, i64 0), (17, bl true)]) 6 hA [] c0 ?_
  clear hA fr; intro fr hA
  refine cT hA ?_
  refine sC (e' := [(1, pt b1), (2, .slice none 0 0), (3, i64 0), (5, i64 ((v + 65536) % 65536))]) 5 hA [i64 v, bl true, bl true] (cc (hO.l1 0 4 3 (i64 v)) (cc ((inK_i64 (by omega) (by omega)) : inK .i64 (v + 65536)) (cc (⟨by omega, by omega, inK_i64 (by omega) (by omega)⟩ : (0 : Int) ≤ v + 65536 ∧ (0 : Int) < 65536 ∧ inK .i64 (v + 65536)) c0))) ?_
  clear hA fr; intro fr hA
  refine sR (l := (rg 0 15)) ?_
  refine ck (l := (rg 0 12)) (r := [12, 13, 14]) (e' := [(1, pt b1), (2, .slice none 0 0), (3, i64 0), (24, u8 (IntKind.u8.wrap o)), (27, u8 (IntKind.u8.wrap a)), (30, u8 (IntKind.u8.wrap (((v + 65536) % 65536) / 256))), (33, u8 (IntKind.u8.wrap (((v + 65536) % 65536) % 256)))]) hA [i64 o, bl false, i64 a, bl false, bl true, bl false, bl true, bl false] (cc (hO.l1 0 0 3 (i64 o)) (cc (hO.l1 0 1 3 (i64 a)) (cc (⟨by omega, by omega, inK_i64 (by omega) (by omega)⟩ : (0 : Int) ≤ (v + 65536) % 65536 ∧ (0 : Int) < 256 ∧ inK .i64 ((v + 65536) % 65536)) (cc (⟨by omega, by omega, inK_i64 (by omega) (by omega)⟩ : (0 : Int) ≤ (v + 65536) % 65536 ∧ (0 : Int) < 256 ∧ inK .i64 ((v + 65536) % 65536)) c0)))) ?_
  clear hA fr; intro fr hA
  refine wpOps_cons' (mN (l := [u8 (IntKind.u8.wrap o), u8 (IntKind.u8.wrap a), u8 (IntKind.u8.wrap (((v + 65536) % 65536) / 256)), u8 (IntKind.u8.wrap (((v + 65536) % 65536) % 256))]) (t := 5) (v := fun b => .slice (some ⟨b, 0, none⟩) 4 4) (d := 34) hA hO ?_)
  clear hA hO fr; intro fr w4 b2 hA hO
  replace hA := hA.sb (e' := [(1, pt b1), (2, .slice none 0 0), (3, i64 0), (34, .slice (some ⟨b2, 0, none⟩) 4 4)])
  refine ck (l := [13, 14]) (r := []) (e' := [(1, pt b1), (2, .slice (some ⟨b2, 0, none⟩) 4 4), (3, i64 0)]) hA [] c0 ?_
  clear hA fr; intro fr hA
  refine end_ops ?_
  refine then_normal ?_
  refine wp_ret ?_
  refine then_ret ?_
  refine cR (cs := [none, none]) (us := [.slice (some ⟨b2, 0, none⟩) 4 4, i64 0]) hA [] trivial ?_
  have hV : opV o = true := (form_flags o).2.2.2.1 hf |>.2.2.2.1
  refine ⟨b2, rfl, hO.only, ?_, hO.fresh 0⟩
  rw [encX, hV]; have := hO.b 0; rw [cond_true, cond_true, ← v_hi v, ← v_lo v]; exact this

theorem rencode_5 (o a b c v : Int) (w : World) (hl : legalB o a b c v = true) (hf : formF o = 5) :
    Calls Tryd.prog 29 #[.agg #[i64 o, i64 a, i64 b, i64 c, i64 v]] w fun e w' => ∃ bk, e = .returned (.tuple #[.slice (some ⟨bk, 0, none⟩) 4 4, .int .i64 0]) ∧ Only none' w w' ∧ Blk w' bk 5 ((encX o a b c v).map (.int .u8 ·)) ∧ w.heap.size ≤ bk := by
  refine c_enter (args := [.agg #[i64 o, i64 a, i64 b, i64 c, i64 v]]) (m := 49) (n := 50) Tryd.func29 rfl (by kernel_rfl) (by kernel_rfl) fun fr hA => ?_
  have hO := Ow.nil Tryd.prog none' w
  obtain ⟨ho_, ha_, hb_, hc_, hv_, hc2_⟩ := legal_spec hl
  refine sR (l := [0, 1, 2]) ?_
  refine wpOps_cons' (mN (l := [i64 o, i64 a, i64 b, i64 c, i64 v]) (t := 29) (v := pt) (d := 1) hA hO ?_)
  clear hA hO fr; intro fr w1 b1 hA hO
  replace hA := hA.sb (e' := [(1, pt b1)])
  refine ck (l := [1, 2]) (r := []) (e' := [(1, pt b1), (2, .slice none 0 0), (3, i64 0)]) hA [] c0 ?_
  clear hA fr; intro fr hA
  refine end_ops ?_
  refine then_normal ?_
  refine wp_seq ?_
  refine sR (l := [0, 1, 2]) ?_
  refine ck (l := [0]) (r := [1, 2]) (e' := [(1, pt b1), (2, .slice none 0 0), (3, i64 0), (6, .agg #[i64 o, i64 a, i64 b, i64 c, i64 v])]) hA [.agg #[i64 o, i64 a, i64 b, i64 c, i64 v]] (cc (hO.ln 0 0 29 [i64 o, i64 a, i64 b, i64 c, i64 v]) c0) ?_
  clear hA fr; intro fr hA
  refine wpOps_cons' (mK (f := 31) (args := [.agg #[i64 o, i64 a, i64 b, i64 c, i64 v]]) (d := (some 7)) (v := bl true) hA hO Tryd.func31 (rs (rlegal_any o a b c v _) (congrArg Value.bool hl)) ?_)
  clear hA hO fr; intro fr w2 hA hO
  replace hA := hA.sb (e' := [(1, pt b1), (2, .slice none 0 0), (3, i64 0), (7, bl true)])
  refine ck (l := [2]) (r := []) (e' := [(1, pt b1), (2, .slice none 0 0), (3, i64 0), (8, bl false)]) hA [] c0 ?_
  clear hA fr; intro fr hA
  refine end_ops ?_
  refine then_normal ?_
  refine cF hA ?_
  refine wp_skip ?_
  refine then_normal ?_
  refine wp_seq ?_
  refine sR (l := [0, 1, 2, 3]) ?_
  refine ck (l := [0, 1]) (r := [2, 3]) (e' := [(1, pt b1), (2, .slice none 0 0), (3, i64 0), (10, i64 o)]) hA [i64 o] (cc (hO.l1 0 0 3 (i64 o)) c0) ?_
  clear hA fr; intro fr hA
  refine wpOps_cons' (mK (f := 34) (args := [i64 o]) (d := (some 11)) (v := i64 5) hA hO Tryd.func34 (rs (form_any o _) (congrArg _ hf)) ?_)
  clear hA hO fr; intro fr w3 hA hO
  replace hA := hA.sb (e' := [(1, pt b1), (2, .slice none 0 0), (3, i64 0), (11, i64 5)])
  refine ck (l := [3]) (r := []) (e' := [(1, pt b1), (2, .slice none 0 0), (3, i64 0), (4, i64 5)]) hA [] c0 ?_
  clear hA fr; intro fr hA
  refine end_ops ?_
  refine then_normal ?_
  refine sC (e' := [(1, pt b1), (2, .slice none 0 0), (3, i64 0), (17, bl false)]) 6 hA [] c0 ?_
  clear hA fr; intro fr hA
  refine cF hA ?_
  refine wp_skip ?_
  refine then_normal ?_
  refine sR (l := (rg 0 17)) ?_
  refine ck (l := (rg 0 14)) (r := [14, 15, 16]) (e' := [(2, .slice none 0 0), (3, i64 0), (37, u8 (IntKind.u8.wrap o)), (40, u8 (IntKind.u8.wrap a)), (43, u8 (IntKind.u8.wrap b)), (48, u8 (IntKind.u8.wrap ((c + 256) % 256)))]) hA [i64 o, bl false, i64 a, bl false, i64 b, bl false, i64 c, bl true, bl true, bl false] (cc (hO.l1 0 0 3 (i64 o)) (cc (hO.l1 0 1 3 (i64 a)) (cc (hO.l1 0 2 3 (i64 b)) (cc (hO.l1 0 3 3 (i64 c)) (cc ((inK_i64 (by omega) (by omega)) : inK .i64 (c + 256)) (cc (⟨by omega, by omega, inK_i64 (by omega) (by omega)⟩ : (0 : Int) ≤ c + 256 ∧ (0 : Int) < 256 ∧ inK .i64 (c + 256)) c0)))))) ?_
  clear hA fr; intro fr hA
  refine wpOps_cons' (mN (l := [u8 (IntKind.u8.wrap o), u8 (IntKind.u8.wrap a), u8 (IntKind.u8.wrap b), u8 (IntKind.u8.wrap ((c + 256) % 256))]) (t := 5) (v := fun b => .slice (some ⟨b, 0, none⟩) 4 4) (d := 49) hA hO ?_)
  clear hA hO fr; intro fr w4 b2 hA hO
  replace hA := hA.sb (e' := [(2, .slice none 0 0), (3, i64 0), (49, .slice (some ⟨b2, 0, none⟩) 4 4)])
  refine ck (l := [15, 16]) (r := []) (e' := [(2, .slice (some ⟨b2, 0, none⟩) 4 4), (3, i64 0)]) hA [] c0 ?_
  clear hA fr; intro fr hA
  refine end_ops ?_
  refine then_normal ?_
  refine wp_ret ?_
  refine cR (cs := [none, none]) (us := [.slice (some ⟨b2, 0, none⟩) 4 4, i64 0]) hA [] trivial ?_
  have hV : opV o = false := (form_flags o).2.2.2.2.1 hf |>.2.2.2.1
  refine ⟨b2, rfl, hO.only, ?_, hO.fresh 0⟩
  rw [encX, hV]; have := hO.b 0; rw [cond_false, cond_false, ← c_lo c]; exact this

theorem rencode_6 (o a b c v : Int) (w : World) (hl : legalB o a b c v = true) (hf : formF o = 6) :
    Calls Tryd.prog 29 #[.agg #[i64 o, i64 a, i64 b, i64 c, i64 v]] w fun e w' => ∃ bk, e = .returned (.tuple #[.slice (some ⟨bk, 0, none⟩) 4 4, .int .i64 0]) ∧ Only none' w w' ∧ Blk w' bk 5 ((encX o a b c v).map (.int .u8 ·)) ∧ w.heap.size ≤ bk := by
  refine c_enter (args := [.agg #[i64 o, i64 a, i64 b, i64 c, i64 v]]) (m := 49) (n := 50) Tryd.func29 rfl (by kernel_rfl) (by kernel_rfl) fun fr hA => ?_
  have hO := Ow.nil Tryd.prog none' w
  obtain ⟨ho_, ha_, hb_, hc_, hv_, hc2_⟩ := legal_spec hl
  refine sR (l := [0, 1, 2]) ?_
  refine wpOps_cons' (mN (l := [i64 o, i64 a, i64 b, i64 c, i64 v]) (t := 29) (v := pt) (d := 1) hA hO ?_)
  clear hA hO fr; intro fr w1 b1 hA hO
  replace hA := hA.sb (e' := [(1, pt b1)])
  refine ck (l := [1, 2]) (r := []) (e' := [(1, pt b1), (2, .slice none 0 0), (3, i64 0)]) hA [] c0 ?_
  clear hA fr; intro fr hA
  refine end_ops ?_
  refine then_normal ?_
  refine wp_seq ?_
  refine sR (l := [0, 1, 2]) ?_
  refine ck (l := [0]) (r := [1, 2]) (e' := [(1, pt b1), (2, .slice none 0 0), (3, i64 0), (6, .agg #[i64 o, i64 a, i64 b, i64 c, i64 v])]) hA [.agg #[i64 o, i64 a, i64 b, i64 c, i64 v]] (cc (hO.ln 0 0 29 [i64 o, i64 a, i64 b, i64 c, i64 v]) c0) ?_
  clear hA fr; intro fr hA
  refine wpOps_cons' (mK (f := 31) (args := [.agg #[i64 o, i64 a, i64 b, i64 c, i64 v]]) (d := (some 7)) (v := bl true) hA hO Tryd.func31 (rs (rlegal_any o a b c v _) (congrArg Value.bool hl)) ?_)
  clear hA hO fr; intro fr w2 hA hO
  replace hA := hA.sb (e' := [(1, pt b1), (2, .slice none 0 0), (3, i64 0), (7, bl true)])
  refine ck (l := [2]) (r := []) (e' := [(1, pt b1), (2, .slice none 0 0), (3, i64 0), (8, bl false)]) hA [] c0 ?_
  clear hA fr; intro fr hA
  refine end_ops ?_
  refine then_normal ?_
  refine cF hA ?_
  refine wp_skip ?_
  refine then_normal ?_
  refine wp_seq ?_
  refine sR (l := [0, 1, 2, 3]) ?_
  refine ck (l := [0, 1]) (r := [2, 3]) (e' := [(1, pt b1), (2, .slice none 0 0), (3, i64 0), (10, i64 o)]) hA [i64 o] (cc (hO.l1 0 0 3 (i64 o)) c0) ?_
  clear hA fr; intro fr hA
  refine wpOps_cons' (mK (f := 34) (args := [i64 o]) (d := (some 11)) (v := i64 6) hA hO Tryd.func34 (rs (form_any o _) (congrArg _ hf)) ?_)
  clear hA hO fr; intro fr w3 hA hO
  replace hA := hA.sb (e' := [(1, pt b1), (2, .slice none 0 0), (3, i64 0), (11, i64 6)])
  refine ck (l := [3]) (r := []) (e' := [(1, pt b1), (2, .slice none 0 0), (3, i64 0), (4, i64 6)]) hA [] c0 ?_
  clear hA fr; intro fr hA
  refine end_ops ?_
  refine then_normal ?_
  refine sC (e' := [(1, pt b1), (2, .slice none 0 0), (3, i64 0), (17, bl false)]) 6 hA [] c0 ?_
  clear hA fr; intro fr hA
  refine cF hA ?_
  refine wp_skip ?_
  refine then_normal ?_
  refine sR (l := (rg 0 17)) ?_
  refine ck (l := (rg 0 14)) (r := [14, 15, 16]) (e' := [(2, .slice none 0 0), (3, i64 0), (37, u8 (IntKind.u8.wrap o)), (40, u8 (IntKind.u8.wrap a)), (43, u8 (IntKind.u8.wrap b)), (48, u8 (IntKind.u8.wrap ((c + 256) % 256)))]) hA [i64 o, bl false, i64 a, bl false, i64 b, bl false, i64 c, bl true, bl true, bl false] (cc (hO.l1 0 0 3 (i64 o)) (cc (hO.l1 0 1 3 (i64 a)) (cc (hO.l1 0 2 3 (i64 b)) (cc (hO.l1 0 3 3 (i64 c)) (cc ((inK_i64 (by omega) (by omega)) : inK .i64 (c + 256)) (cc (⟨by omega, by omega, inK_i64 (by omega) (by omega)⟩ : (0 : Int) ≤ c + 256 ∧ (0 : Int) < 256 ∧ inK .i64 (c + 256)) c0)))))) ?_
  clear hA fr; intro fr hA
  refine wpOps_cons' (mN (l := [u8 (IntKind.u8.wrap o), u8 (IntKind.u8.wrap a), u8 (IntKind.u8.wrap b), u8 (IntKind.u8.wrap ((c + 256) % 256))]) (t := 5) (v := fun b => .slice (some ⟨b, 0, none⟩) 4 4) (d := 49) hA hO ?_)
  clear hA hO fr; intro fr w4 b2 hA hO
  replace hA := hA.sb (e' := [(2, .slice none 0 0), (3, i64 0), (49, .slice (some ⟨b2, 0, none⟩) 4 4)])
  refine ck (l := [15, 16]) (r := []) (e' := [(2, .slice (some ⟨b2, 0, none⟩) 4 4), (3, i64 0)]) hA [] c0 ?_
  clear hA fr; intro fr hA
  refine end_ops ?_
  refine then_normal ?_
  refine wp_ret ?_
  refine cR (cs := [none, none]) (us := [.slice (some ⟨b2, 0, none⟩) 4 4, i64 0]) hA [] trivial ?_
  have hV : opV o = false := (form_flags o).2.2.2.2.2 hf |>.2.2.2.1
  refine ⟨b2, rfl, hO.only, ?_, hO.fresh 0⟩
  rw [encX, hV]; have := hO.b 0; rw [cond_false, cond_false, ← c_lo c]; exact this

theorem rencode_ok (o a b c v : Int) (w : World) (hl : legalB o a b c v = true) : Calls Tryd.prog 29 #[insV o a b c v] w fun e w' => ∃ bk, e = .returned (.tuple #[.slice (some ⟨bk, 0, none⟩) 4 4, .int .i64 0]) ∧ Only none' w w' ∧ Blk w' bk 5 ((encX o a b c v).map (.int .u8 ·)) ∧ w.heap.size ≤ bk := by
  rcases form_cases o with h | h | h | h | h | h | h
  · exact absurd (legal_spec hl).1 (form_zero h)
  · exact rencode_1 o a b c v w hl h
  · exact rencode_2 o a b c v w hl h
  · exact rencode_3 o a b c v w hl h
  · exact rencode_4 o a b c v w hl h
  · exact rencode_5 o a b c v w hl h
  · exact rencode_6 o a b c v w hl h

theorem show_both (o a b c v : Int) (hl : legalB o a b c v = true) : ∃ s : ByteArray, (∀ w, Tab w → Pow w → Calls Tryd.prog 32 #[insV o a b c v] w fun e w' => e = .returned (.string s) ∧ Only none' w w') ∧ (∀ w, Calls Tryd.prog 33 #[insV o a b c v] w fun e w' => e = .returned (.string s) ∧ Only none' w w') := by
  have ho := (legal_spec hl).1
  obtain ⟨k, rfl⟩ := Int.eq_ofNat_of_zero_le (show 0 ≤ o by omega)
  have h1 : 1 ≤ k := by omega
  have h2 : k ≤ 22 := by omega
  rcases form_cases ((k : Nat) : Int) with h | h | h | h | h | h | h
  · exact absurd ho (form_zero h)
  · obtain ⟨_, g1, g2, g3, g4⟩ := (form_flags ((k : Nat) : Int)).1 h
    refine ⟨_, fun w hT hP => show_1 k a b c v (rowNm k) w hT hP h1 h2 hl (nm_len h1 h2) ?_, fun w => rshow_1 k a b c v (rowNm k) w h1 h2 hl h (nm_len h1 h2) (ref_name h1 h2)⟩
    have hr := row_of (t := 74) (P := Tryd.prog) hT (by kernel_rfl) h1 h2
    rw [g1, g2, g3, g4] at hr; exact hr
  · obtain ⟨_, g1, g2, g3, g4⟩ := (form_flags ((k : Nat) : Int)).2.1 h
    refine ⟨_, fun w hT hP => show_2 k a b c v (rowNm k) w hT hP h1 h2 hl (nm_len h1 h2) ?_, fun w => rshow_2 k a b c v (rowNm k) w h1 h2 hl h (nm_len h1 h2) (ref_name h1 h2)⟩
    have hr := row_of (t := 74) (P := Tryd.prog) hT (by kernel_rfl) h1 h2
    rw [g1, g2, g3, g4] at hr; exact hr
  · obtain ⟨_, g1, g2, g3, g4⟩ := (form_flags ((k : Nat) : Int)).2.2.1 h
    refine ⟨_, fun w hT hP => show_3 k a b c v (rowNm k) w hT hP h1 h2 hl (nm_len h1 h2) ?_, fun w => rshow_3 k a b c v (rowNm k) w h1 h2 hl h (nm_len h1 h2) (ref_name h1 h2)⟩
    have hr := row_of (t := 74) (P := Tryd.prog) hT (by kernel_rfl) h1 h2
    rw [g1, g2, g3, g4] at hr; exact hr
  · obtain ⟨_, g1, g2, g3, g4⟩ := (form_flags ((k : Nat) : Int)).2.2.2.1 h
    refine ⟨_, fun w hT hP => show_4 k a b c v (rowNm k) w hT hP h1 h2 hl (nm_len h1 h2) ?_, fun w => rshow_4 k a b c v (rowNm k) w h1 h2 hl h (nm_len h1 h2) (ref_name h1 h2)⟩
    have hr := row_of (t := 74) (P := Tryd.prog) hT (by kernel_rfl) h1 h2
    rw [g1, g2, g3, g4] at hr; exact hr
  · obtain ⟨_, g1, g2, g3, g4⟩ := (form_flags ((k : Nat) : Int)).2.2.2.2.1 h
    refine ⟨_, fun w hT hP => show_5 k a b c v (rowNm k) w hT hP h1 h2 hl (nm_len h1 h2) ?_, fun w => rshow_5 k a b c v (rowNm k) w h1 h2 hl h (nm_len h1 h2) (ref_name h1 h2)⟩
    have hr := row_of (t := 74) (P := Tryd.prog) hT (by kernel_rfl) h1 h2
    rw [g1, g2, g3, g4] at hr; exact hr
  · obtain ⟨_, g1, g2, g3, g4⟩ := (form_flags ((k : Nat) : Int)).2.2.2.2.2 h
    refine ⟨_, fun w hT hP => show_6 k a b c v (rowNm k) w hT hP h1 h2 hl (nm_len h1 h2) ?_, fun w => rshow_6 k a b c v (rowNm k) w h1 h2 hl h (nm_len h1 h2) (ref_name h1 h2)⟩
    have hr := row_of (t := 74) (P := Tryd.prog) hT (by kernel_rfl) h1 h2
    rw [g1, g2, g3, g4] at hr; exact hr

theorem show_bad (o a b c v : Int) (w : World) (hT : Tab w) (hl : legalB o a b c v = false) :
    Calls Tryd.prog 32 #[.agg #[i64 o, i64 a, i64 b, i64 c, i64 v]] w fun e w' => e = .returned (.string ⟨#[63]⟩) ∧ Only none' w w' := by
  refine c_enter (args := [.agg #[i64 o, i64 a, i64 b, i64 c, i64 v]]) (m := 51) (n := 52) Tryd.func32 rfl (by kernel_rfl) (by kernel_rfl) fun fr hA => ?_
  have hO := Ow.nil Tryd.prog none' w
  refine sR (l := [0, 1]) ?_
  refine wpOps_cons' (mN (l := [i64 o, i64 a, i64 b, i64 c, i64 v]) (t := 25) (v := pt) (d := 1) hA hO ?_)
  clear hA hO fr; intro fr w1 b1 hA hO
  replace hA := hA.sb (e' := [(1, pt b1)])
  refine ck (l := [1]) (r := []) (e' := [(1, pt b1), (2, str (⟨#[]⟩))]) hA [] c0 ?_
  clear hA fr; intro fr hA
  refine end_ops ?_
  refine then_normal ?_
  refine wp_seq ?_
  refine sR (l := [0, 1, 2]) ?_
  refine ck (l := [0]) (r := [1, 2]) (e' := [(1, pt b1), (2, str (⟨#[]⟩)), (7, .agg #[i64 o, i64 a, i64 b, i64 c, i64 v])]) hA [.agg #[i64 o, i64 a, i64 b, i64 c, i64 v]] (cc (hO.ln 0 0 25 [i64 o, i64 a, i64 b, i64 c, i64 v]) c0) ?_
  clear hA fr; intro fr hA
  refine wpOps_cons' (mK (f := 30) (args := [.agg #[i64 o, i64 a, i64 b, i64 c, i64 v]]) (d := (some 8)) (v := bl false) hA hO Tryd.func30 (rs (legal_any o a b c v _ (hT.keep hO.only (fun h => h))) (congrArg Value.bool hl)) ?_)
  clear hA hO fr; intro fr w2 hA hO
  replace hA := hA.sb (e' := [(1, pt b1), (2, str (⟨#[]⟩)), (8, bl false)])
  refine ck (l := [2]) (r := []) (e' := [(1, pt b1), (2, str (⟨#[]⟩)), (9, bl true)]) hA [] c0 ?_
  clear hA fr; intro fr hA
  refine end_ops ?_
  refine then_normal ?_
  refine cT hA ?_
  refine sC (e' := [(1, pt b1), (2, str (⟨#[63]⟩))]) 1 hA [] c0 ?_
  clear hA fr; intro fr hA
  refine wp_ret ?_
  refine then_ret ?_
  refine cR (cs := [none]) (us := [str (⟨#[63]⟩)]) hA [] trivial ?_
  have hF := hO.only; clear hA hO
  exact ⟨rfl, hF⟩

theorem rshow_bad (o a b c v : Int) (w : World) (hl : legalB o a b c v = false) :
    Calls Tryd.prog 33 #[.agg #[i64 o, i64 a, i64 b, i64 c, i64 v]] w fun e w' => e = .returned (.string ⟨#[63]⟩) ∧ Only none' w w' := by
  refine c_enter (args := [.agg #[i64 o, i64 a, i64 b, i64 c, i64 v]]) (m := 59) (n := 60) Tryd.func33 rfl (by kernel_rfl) (by kernel_rfl) fun fr hA => ?_
  have hO := Ow.nil Tryd.prog none' w
  refine sR (l := [0, 1]) ?_
  refine wpOps_cons' (mN (l := [i64 o, i64 a, i64 b, i64 c, i64 v]) (t := 29) (v := pt) (d := 1) hA hO ?_)
  clear hA hO fr; intro fr w1 b1 hA hO
  replace hA := hA.sb (e' := [(1, pt b1)])
  refine ck (l := [1]) (r := []) (e' := [(1, pt b1), (2, str (⟨#[]⟩))]) hA [] c0 ?_
  clear hA fr; intro fr hA
  refine end_ops ?_
  refine then_normal ?_
  refine wp_seq ?_
  refine sR (l := [0, 1, 2]) ?_
  refine ck (l := [0]) (r := [1, 2]) (e' := [(1, pt b1), (2, str (⟨#[]⟩)), (6, .agg #[i64 o, i64 a, i64 b, i64 c, i64 v])]) hA [.agg #[i64 o, i64 a, i64 b, i64 c, i64 v]] (cc (hO.ln 0 0 29 [i64 o, i64 a, i64 b, i64 c, i64 v]) c0) ?_
  clear hA fr; intro fr hA
  refine wpOps_cons' (mK (f := 31) (args := [.agg #[i64 o, i64 a, i64 b, i64 c, i64 v]]) (d := (some 7)) (v := bl false) hA hO Tryd.func31 (rs (rlegal_any o a b c v _) (congrArg Value.bool hl)) ?_)
  clear hA hO fr; intro fr w2 hA hO
  replace hA := hA.sb (e' := [(1, pt b1), (2, str (⟨#[]⟩)), (7, bl false)])
  refine ck (l := [2]) (r := []) (e' := [(1, pt b1), (2, str (⟨#[]⟩)), (8, bl true)]) hA [] c0 ?_
  clear hA fr; intro fr hA
  refine end_ops ?_
  refine then_normal ?_
  refine cT hA ?_
  refine sC (e' := [(1, pt b1), (2, str (⟨#[63]⟩))]) 1 hA [] c0 ?_
  clear hA fr; intro fr hA
  refine wp_ret ?_
  refine then_ret ?_
  refine cR (cs := [none]) (us := [str (⟨#[63]⟩)]) hA [] trivial ?_
  have hF := hO.only; clear hA hO
  exact ⟨rfl, hF⟩

end Go.Proofs.YtcaokjdihhbkjaaDoor
