/- The layer cpu: walks of the law CpuEncode. -/
import Derived.Test.YtcaokjdihhbkjaaDoorRencode
set_option linter.unusedVariables false
set_option linter.unusedSimpArgs false
set_option maxRecDepth 10000
namespace Go.Proofs.YtcaokjdihhbkjaaDoor
open Go Go.RowKit Go.Proofs.Sx

theorem lawenc_false (o a b c v : Int) (w : World) (hT : Tab w) (hP : Pow w) (hl : legalB o a b c v = false) :
    Calls Tryd.prog 11 #[.agg #[i64 o, i64 a, i64 b, i64 c, i64 v]] w fun e w' => e = .returned (.bool true) ∧ Only none' w w' := by
  refine c_enter (args := [.agg #[i64 o, i64 a, i64 b, i64 c, i64 v]]) (m := 59) (n := 60) Tryd.func11 rfl (by kernel_rfl) (by kernel_rfl) fun fr hA => ?_
  have hO := Ow.nil Tryd.prog none' w
  refine sR (l := [0, 1]) ?_
  refine wpOps_cons' (mN (l := [i64 o, i64 a, i64 b, i64 c, i64 v]) (t := 29) (v := pt) (d := 1) hA hO ?_)
  clear hA hO fr; intro fr w1 b1 hA hO
  replace hA := hA.sb (e' := [(1, pt b1)])
  refine ck (l := [1]) (r := []) (e' := [(1, pt b1), (2, bl false)]) hA [] c0 ?_
  clear hA fr; intro fr hA
  refine end_ops ?_
  refine then_normal ?_
  refine wp_seq ?_
  refine sR (l := [0, 1]) ?_
  refine wpOps_cons' (mK (f := 12) (args := []) (d := (some 9)) (v := bl true) hA hO Tryd.func12 (awake_any _ (hT.keep hO.only (fun h => h))) ?_)
  clear hA hO fr; intro fr w2 hA hO
  refine ck (l := [1]) (r := []) (e' := [(1, pt b1), (2, bl false), (10, bl false)]) hA [] c0 ?_
  clear hA fr; intro fr hA
  refine end_ops ?_
  refine then_normal ?_
  refine cF hA ?_
  refine wp_skip ?_
  refine then_normal ?_
  refine sR (l := (rg 0 7)) ?_
  refine ck (l := [0]) (r := (rg 1 6)) (e' := [(1, pt b1), (2, bl false), (12, .agg #[i64 o, i64 a, i64 b, i64 c, i64 v])]) hA [.agg #[i64 o, i64 a, i64 b, i64 c, i64 v]] (cc (hO.ln 0 0 29 [i64 o, i64 a, i64 b, i64 c, i64 v]) c0) ?_
  clear hA fr; intro fr hA
  refine wpOps_cons' (mK (f := 15) (args := [.agg #[i64 o, i64 a, i64 b, i64 c, i64 v]]) (d := (some 13)) (v := .tuple #[.slice none 0 0, i64 1]) hA hO Tryd.func15 (encode_bad o a b c v _ (hT.keep hO.only (fun h => h)) hl) ?_)
  clear hA hO fr; intro fr w3 hA hO
  replace hA := hA.sb (e' := [(1, pt b1), (2, bl false), (13, .tuple #[.slice none 0 0, i64 1])])
  refine ck (l := (rg 2 5)) (r := []) (e' := [(1, pt b1), (2, bl false), (3, .slice none 0 0), (4, i64 1)]) hA [] c0 ?_
  clear hA fr; intro fr hA
  refine end_ops ?_
  refine then_normal ?_
  refine sR (l := (rg 0 7)) ?_
  refine ck (l := [0]) (r := (rg 1 6)) (e' := [(1, pt b1), (2, bl false), (3, .slice none 0 0), (4, i64 1), (17, .agg #[i64 o, i64 a, i64 b, i64 c, i64 v])]) hA [.agg #[i64 o, i64 a, i64 b, i64 c, i64 v]] (cc (hO.ln 0 0 29 [i64 o, i64 a, i64 b, i64 c, i64 v]) c0) ?_
  clear hA fr; intro fr hA
  refine wpOps_cons' (mK (f := 29) (args := [.agg #[i64 o, i64 a, i64 b, i64 c, i64 v]]) (d := (some 18)) (v := .tuple #[.slice none 0 0, i64 1]) hA hO Tryd.func29 (rencode_bad o a b c v _ hl) ?_)
  clear hA hO fr; intro fr w4 hA hO
  replace hA := hA.sb (e' := [(1, pt b1), (2, bl false), (3, .slice none 0 0), (4, i64 1), (18, .tuple #[.slice none 0 0, i64 1])])
  refine ck (l := (rg 2 5)) (r := []) (e' := [(1, pt b1), (2, bl false), (3, .slice none 0 0), (4, i64 1), (5, .slice none 0 0), (6, i64 1)]) hA [] c0 ?_
  clear hA fr; intro fr hA
  refine end_ops ?_
  refine then_normal ?_
  refine wp_seq ?_
  refine wp_seq ?_
  have hS := hO
  refine rP [(0, true), (2, true), (1, false), (3, false), (4, true), (5, true), (6, true), (7, true), (8, true), (9, true), (10, true), (11, true), (12, true), (13, false), (14, true), (15, true), (16, true), (17, true), (19, true), (18, false), (20, false), (21, true), (22, true)] hS ?_
  intro w5 ho; replace hO := hO.st ho; clear ho
  refine ckS (l := [0, 2]) (r := [(1, false), (3, false), (4, true), (5, true), (6, true), (7, true), (8, true), (9, true), (10, true), (11, true), (12, true), (13, false), (14, true), (15, true), (16, true), (17, true), (19, true), (18, false), (20, false), (21, true), (22, true)]) (e' := [(1, pt b1), (2, bl false), (3, .slice none 0 0), (4, i64 1), (5, .slice none 0 0), (6, i64 1), (21, .agg #[i64 o, i64 a, i64 b, i64 c, i64 v]), (23, .agg #[i64 o, i64 a, i64 b, i64 c, i64 v])]) hA [.agg #[i64 o, i64 a, i64 b, i64 c, i64 v], .agg #[i64 o, i64 a, i64 b, i64 c, i64 v]] (cc (hS.sn 0 0 29 [i64 o, i64 a, i64 b, i64 c, i64 v]) (cc (hS.sn 0 0 29 [i64 o, i64 a, i64 b, i64 c, i64 v]) c0)) ?_
  clear hA fr; intro fr hA
  refine plan_mem (mK (f := 30) (args := [.agg #[i64 o, i64 a, i64 b, i64 c, i64 v]]) (d := (some 22)) (v := bl false) hA hO Tryd.func30 (rs (legal_any o a b c v _ (hT.keep hO.only (fun h => h))) (congrArg Value.bool hl)) ?_)
  clear hA hO fr; intro fr w6 hA hO
  refine ⟨hO, ?_⟩
  replace hA := hA.sb (e' := [(1, pt b1), (2, bl false), (3, .slice none 0 0), (4, i64 1), (5, .slice none 0 0), (6, i64 1), (22, bl false), (23, .agg #[i64 o, i64 a, i64 b, i64 c, i64 v])])
  refine plan_mem (mK (f := 31) (args := [.agg #[i64 o, i64 a, i64 b, i64 c, i64 v]]) (d := (some 24)) (v := bl false) hA hO Tryd.func31 (rs (rlegal_any o a b c v _) (congrArg Value.bool hl)) ?_)
  clear hA hO fr; intro fr w7 hA hO
  refine ⟨hO, ?_⟩
  replace hA := hA.sb (e' := [(1, pt b1), (2, bl false), (3, .slice none 0 0), (4, i64 1), (5, .slice none 0 0), (6, i64 1), (22, bl false), (24, bl false)])
  refine ckS (l := (rg 4 9)) (r := [(13, false), (14, true), (15, true), (16, true), (17, true), (19, true), (18, false), (20, false), (21, true), (22, true)]) (e' := [(1, pt b1), (2, bl false), (3, .slice none 0 0), (4, i64 1), (31, bl false), (32, .slice none 0 0), (33, .slice none 0 0)]) hA [] c0 ?_
  clear hA fr; intro fr hA
  refine plan_mem (mK (f := 16) (args := [.slice none 0 0, .slice none 0 0]) (d := (some 34)) (v := bl true) hA hO Tryd.func16 (rs (same_any ([]) ([]) _ _ _ (SlI.nil _) (SlI.nil _))) ?_)
  clear hA hO fr; intro fr w8 hA hO
  refine ⟨hO, ?_⟩
  replace hA := hA.sb (e' := [(1, pt b1), (2, bl false), (3, .slice none 0 0), (4, i64 1), (31, bl false), (34, bl true)])
  refine ckS (l := [14, 15, 16, 17, 19]) (r := [(18, false), (20, false), (21, true), (22, true)]) (e' := [(1, pt b1), (2, bl false), (3, .slice none 0 0), (4, i64 1), (37, bl false), (38, .agg #[i64 o, i64 a, i64 b, i64 c, i64 v]), (40, .agg #[i64 o, i64 a, i64 b, i64 c, i64 v])]) hA [.agg #[i64 o, i64 a, i64 b, i64 c, i64 v], .agg #[i64 o, i64 a, i64 b, i64 c, i64 v]] (cc (hS.sn 0 0 29 [i64 o, i64 a, i64 b, i64 c, i64 v]) (cc (hS.sn 0 0 29 [i64 o, i64 a, i64 b, i64 c, i64 v]) c0)) ?_
  clear hA fr; intro fr hA
  refine plan_mem (mK (f := 32) (args := [.agg #[i64 o, i64 a, i64 b, i64 c, i64 v]]) (d := (some 39)) (v := str (⟨#[63]⟩)) hA hO Tryd.func32 (show_bad o a b c v _ (hT.keep hO.only (fun h => h)) hl) ?_)
  clear hA hO fr; intro fr w9 hA hO
  refine ⟨hO, ?_⟩
  replace hA := hA.sb (e' := [(1, pt b1), (2, bl false), (3, .slice none 0 0), (4, i64 1), (37, bl false), (39, str (⟨#[63]⟩)), (40, .agg #[i64 o, i64 a, i64 b, i64 c, i64 v])])
  refine plan_mem (mK (f := 33) (args := [.agg #[i64 o, i64 a, i64 b, i64 c, i64 v]]) (d := (some 41)) (v := str (⟨#[63]⟩)) hA hO Tryd.func33 (rshow_bad o a b c v _ hl) ?_)
  clear hA hO fr; intro fr w10 hA hO
  refine ⟨hO, ?_⟩
  replace hA := hA.sb (e' := [(1, pt b1), (2, bl false), (3, .slice none 0 0), (4, i64 1), (37, bl false), (39, str (⟨#[63]⟩)), (41, str (⟨#[63]⟩))])
  refine ckS (l := [21, 22]) (r := []) (e' := [(1, pt b1), (2, bl false), (3, .slice none 0 0), (4, i64 1), (43, bl false)]) hA [] c0 ?_
  clear hA fr; intro fr hA
  refine end_plan ?_
  refine then_normal ?_
  refine cF hA ?_
  refine wp_skip ?_
  refine then_normal ?_
  refine sR (l := (rg 0 8)) ?_
  refine ck (l := [0]) (r := (rg 1 7)) (e' := [(1, pt b1), (2, bl false), (4, i64 1), (45, .slice none 0 0)]) hA [] c0 ?_
  clear hA fr; intro fr hA
  refine wpOps_cons' (mK (f := 13) (args := [.slice none 0 0]) (d := (some 46)) (v := .tuple #[.agg #[i64 0, i64 0, i64 0, i64 0, i64 0], i64 4]) hA hO Tryd.func13 (decode_any _ [] _ (hT.keep hO.only (fun h => h)) (SlI.nil _)) ?_)
  clear hA hO fr; intro fr w11 hA hO
  replace hA := hA.sb (e' := [(1, pt b1), (2, bl false), (4, i64 1), (46, .tuple #[.agg #[i64 0, i64 0, i64 0, i64 0, i64 0], i64 4])])
  refine ck (l := [2, 3, 4]) (r := [5, 6, 7]) (e' := [(1, pt b1), (2, bl false), (4, i64 1), (47, .agg #[i64 0, i64 0, i64 0, i64 0, i64 0]), (48, i64 4)]) hA [] c0 ?_
  clear hA fr; intro fr hA
  refine wpOps_cons' (mN (l := [i64 0, i64 0, i64 0, i64 0, i64 0]) (t := 25) (v := pt) (d := 7) hA hO ?_)
  clear hA hO fr; intro fr w12 b2 hA hO
  refine wpOps_cons' (mS (off := 0) (vc := [i64 0, i64 0, i64 0, i64 0, i64 0]) 0 hA hO ?_)
  clear hO; intro w13 hO
  replace hA := hA.sb (e' := [(1, pt b1), (2, bl false), (4, i64 1), (7, pt b2), (48, i64 4)])
  refine ck (l := [7]) (r := []) (e' := [(1, pt b1), (2, bl false), (4, i64 1), (7, pt b2), (8, i64 4)]) hA [] c0 ?_
  clear hA fr; intro fr hA
  refine end_ops ?_
  refine then_normal ?_
  refine sC (e' := [(2, bl true)]) 12 hA [] c0 ?_
  clear hA fr; intro fr hA
  refine wp_ret ?_
  refine cR (cs := [none]) (us := [bl true]) hA [] trivial ?_
  have hF := hO.only; clear hA hO
  exact ⟨by first | rfl | simp [pack], hF⟩

theorem lawenc_true (o a b c v : Int) (w : World) (hT : Tab w) (hP : Pow w) (hl : legalB o a b c v = true) (sv : ByteArray) (hs1 : ∀ w, Tab w → Pow w → Calls Tryd.prog 32 #[insV o a b c v] w fun e w' => e = .returned (.string sv) ∧ Only none' w w') (hs2 : ∀ w, Calls Tryd.prog 33 #[insV o a b c v] w fun e w' => e = .returned (.string sv) ∧ Only none' w w') :
    Calls Tryd.prog 11 #[.agg #[i64 o, i64 a, i64 b, i64 c, i64 v]] w fun e w' => e = .returned (.bool true) ∧ Only none' w w' := by
  refine c_enter (args := [.agg #[i64 o, i64 a, i64 b, i64 c, i64 v]]) (m := 59) (n := 60) Tryd.func11 rfl (by kernel_rfl) (by kernel_rfl) fun fr hA => ?_
  have hO := Ow.nil Tryd.prog none' w
  refine sR (l := [0, 1]) ?_
  refine wpOps_cons' (mN (l := [i64 o, i64 a, i64 b, i64 c, i64 v]) (t := 29) (v := pt) (d := 1) hA hO ?_)
  clear hA hO fr; intro fr w1 b1 hA hO
  replace hA := hA.sb (e' := [(1, pt b1)])
  refine ck (l := [1]) (r := []) (e' := [(1, pt b1), (2, bl false)]) hA [] c0 ?_
  clear hA fr; intro fr hA
  refine end_ops ?_
  refine then_normal ?_
  refine wp_seq ?_
  refine sR (l := [0, 1]) ?_
  refine wpOps_cons' (mK (f := 12) (args := []) (d := (some 9)) (v := bl true) hA hO Tryd.func12 (awake_any _ (hT.keep hO.only (fun h => h))) ?_)
  clear hA hO fr; intro fr w2 hA hO
  refine ck (l := [1]) (r := []) (e' := [(1, pt b1), (2, bl false), (10, bl false)]) hA [] c0 ?_
  clear hA fr; intro fr hA
  refine end_ops ?_
  refine then_normal ?_
  refine cF hA ?_
  refine wp_skip ?_
  refine then_normal ?_
  refine sR (l := (rg 0 7)) ?_
  refine ck (l := [0]) (r := (rg 1 6)) (e' := [(1, pt b1), (2, bl false), (12, .agg #[i64 o, i64 a, i64 b, i64 c, i64 v])]) hA [.agg #[i64 o, i64 a, i64 b, i64 c, i64 v]] (cc (hO.ln 0 0 29 [i64 o, i64 a, i64 b, i64 c, i64 v]) c0) ?_
  clear hA fr; intro fr hA
  refine wpOps_cons' (mC (f := 15) (args := [.agg #[i64 o, i64 a, i64 b, i64 c, i64 v]]) (d := (some 13)) hA Tryd.func15 ((encode_ok o a b c v _ (hT.keep hO.only (fun h => h)) hl).mono ?_))
  rintro en w3 ⟨k1, rfl, ho, hbk, hge⟩
  refine ⟨_, rfl, ?_⟩
  clear hA fr; intro fr hA
  replace hO := hO.add ho hbk hge; clear ho hbk hge
  replace hA := hA.sb (e' := [(1, pt b1), (2, bl false), (13, .tuple #[.slice (some ⟨k1, 0, none⟩) 4 4, i64 0])])
  refine ck (l := (rg 2 5)) (r := []) (e' := [(1, pt b1), (2, bl false), (3, .slice (some ⟨k1, 0, none⟩) 4 4), (4, i64 0)]) hA [] c0 ?_
  clear hA fr; intro fr hA
  refine end_ops ?_
  refine then_normal ?_
  refine sR (l := (rg 0 7)) ?_
  refine ck (l := [0]) (r := (rg 1 6)) (e' := [(1, pt b1), (2, bl false), (3, .slice (some ⟨k1, 0, none⟩) 4 4), (4, i64 0), (17, .agg #[i64 o, i64 a, i64 b, i64 c, i64 v])]) hA [.agg #[i64 o, i64 a, i64 b, i64 c, i64 v]] (cc (hO.ln 1 0 29 [i64 o, i64 a, i64 b, i64 c, i64 v]) c0) ?_
  clear hA fr; intro fr hA
  refine wpOps_cons' (mC (f := 29) (args := [.agg #[i64 o, i64 a, i64 b, i64 c, i64 v]]) (d := (some 18)) hA Tryd.func29 ((rencode_ok o a b c v _ hl).mono ?_))
  rintro en w4 ⟨k2, rfl, ho, hbk, hge⟩
  refine ⟨_, rfl, ?_⟩
  clear hA fr; intro fr hA
  replace hO := hO.add ho hbk hge; clear ho hbk hge
  replace hA := hA.sb (e' := [(1, pt b1), (2, bl false), (3, .slice (some ⟨k1, 0, none⟩) 4 4), (4, i64 0), (18, .tuple #[.slice (some ⟨k2, 0, none⟩) 4 4, i64 0])])
  refine ck (l := (rg 2 5)) (r := []) (e' := [(1, pt b1), (2, bl false), (3, .slice (some ⟨k1, 0, none⟩) 4 4), (4, i64 0), (5, .slice (some ⟨k2, 0, none⟩) 4 4), (6, i64 0)]) hA [] c0 ?_
  clear hA fr; intro fr hA
  refine end_ops ?_
  refine then_normal ?_
  refine wp_seq ?_
  refine wp_seq ?_
  have hS := hO
  refine rP [(0, true), (2, true), (1, false), (3, false), (4, true), (5, true), (6, true), (7, true), (8, true), (9, true), (10, true), (11, true), (12, true), (13, false), (14, true), (15, true), (16, true), (17, true), (19, true), (18, false), (20, false), (21, true), (22, true)] hS ?_
  intro w5 ho; replace hO := hO.st ho; clear ho
  refine ckS (l := [0, 2]) (r := [(1, false), (3, false), (4, true), (5, true), (6, true), (7, true), (8, true), (9, true), (10, true), (11, true), (12, true), (13, false), (14, true), (15, true), (16, true), (17, true), (19, true), (18, false), (20, false), (21, true), (22, true)]) (e' := [(1, pt b1), (2, bl false), (3, .slice (some ⟨k1, 0, none⟩) 4 4), (4, i64 0), (5, .slice (some ⟨k2, 0, none⟩) 4 4), (6, i64 0), (21, .agg #[i64 o, i64 a, i64 b, i64 c, i64 v]), (23, .agg #[i64 o, i64 a, i64 b, i64 c, i64 v])]) hA [.agg #[i64 o, i64 a, i64 b, i64 c, i64 v], .agg #[i64 o, i64 a, i64 b, i64 c, i64 v]] (cc (hS.sn 2 0 29 [i64 o, i64 a, i64 b, i64 c, i64 v]) (cc (hS.sn 2 0 29 [i64 o, i64 a, i64 b, i64 c, i64 v]) c0)) ?_
  clear hA fr; intro fr hA
  refine plan_mem (mK (f := 30) (args := [.agg #[i64 o, i64 a, i64 b, i64 c, i64 v]]) (d := (some 22)) (v := bl true) hA hO Tryd.func30 (rs (legal_any o a b c v _ (hT.keep hO.only (fun h => h))) (congrArg Value.bool hl)) ?_)
  clear hA hO fr; intro fr w6 hA hO
  refine ⟨hO, ?_⟩
  replace hA := hA.sb (e' := [(1, pt b1), (2, bl false), (3, .slice (some ⟨k1, 0, none⟩) 4 4), (4, i64 0), (5, .slice (some ⟨k2, 0, none⟩) 4 4), (6, i64 0), (22, bl true), (23, .agg #[i64 o, i64 a, i64 b, i64 c, i64 v])])
  refine plan_mem (mK (f := 31) (args := [.agg #[i64 o, i64 a, i64 b, i64 c, i64 v]]) (d := (some 24)) (v := bl true) hA hO Tryd.func31 (rs (rlegal_any o a b c v _) (congrArg Value.bool hl)) ?_)
  clear hA hO fr; intro fr w7 hA hO
  refine ⟨hO, ?_⟩
  replace hA := hA.sb (e' := [(1, pt b1), (2, bl false), (3, .slice (some ⟨k1, 0, none⟩) 4 4), (4, i64 0), (5, .slice (some ⟨k2, 0, none⟩) 4 4), (6, i64 0), (22, bl true), (24, bl true)])
  refine ckS (l := (rg 4 9)) (r := [(13, false), (14, true), (15, true), (16, true), (17, true), (19, true), (18, false), (20, false), (21, true), (22, true)]) (e' := [(1, pt b1), (2, bl false), (3, .slice (some ⟨k1, 0, none⟩) 4 4), (4, i64 0), (31, bl false), (32, .slice (some ⟨k1, 0, none⟩) 4 4), (33, .slice (some ⟨k2, 0, none⟩) 4 4)]) hA [] c0 ?_
  clear hA fr; intro fr hA
  refine plan_mem (mK (f := 16) (args := [.slice (some ⟨k1, 0, none⟩) 4 4, .slice (some ⟨k2, 0, none⟩) 4 4]) (d := (some 34)) (v := bl (decide ([IntKind.u8.wrap o, IntKind.u8.wrap a, cond (opV o) (IntKind.u8.wrap (v / 256)) (IntKind.u8.wrap b), cond (opV o) (IntKind.u8.wrap v) (IntKind.u8.wrap c)] = [IntKind.u8.wrap o, IntKind.u8.wrap a, cond (opV o) (IntKind.u8.wrap (v / 256)) (IntKind.u8.wrap b), cond (opV o) (IntKind.u8.wrap v) (IntKind.u8.wrap c)]))) hA hO Tryd.func16 (same_any ([IntKind.u8.wrap o, IntKind.u8.wrap a, cond (opV o) (IntKind.u8.wrap (v / 256)) (IntKind.u8.wrap b), cond (opV o) (IntKind.u8.wrap v) (IntKind.u8.wrap c)]) ([IntKind.u8.wrap o, IntKind.u8.wrap a, cond (opV o) (IntKind.u8.wrap (v / 256)) (IntKind.u8.wrap b), cond (opV o) (IntKind.u8.wrap v) (IntKind.u8.wrap c)]) _ _ _ ((hO.b 1).sl (xs := [IntKind.u8.wrap o, IntKind.u8.wrap a, cond (opV o) (IntKind.u8.wrap (v / 256)) (IntKind.u8.wrap b), cond (opV o) (IntKind.u8.wrap v) (IntKind.u8.wrap c)]) (U8s.cons (wrap_inK .u8 _) (U8s.cons (wrap_inK .u8 _) (U8s.cons (inK_cond (wrap_inK .u8 _) (wrap_inK .u8 _)) (U8s.cons (inK_cond (wrap_inK .u8 _) (wrap_inK .u8 _)) U8s.nil)))) rfl (by kernel_rfl)) ((hO.b 0).sl (xs := [IntKind.u8.wrap o, IntKind.u8.wrap a, cond (opV o) (IntKind.u8.wrap (v / 256)) (IntKind.u8.wrap b), cond (opV o) (IntKind.u8.wrap v) (IntKind.u8.wrap c)]) (U8s.cons (wrap_inK .u8 _) (U8s.cons (wrap_inK .u8 _) (U8s.cons (inK_cond (wrap_inK .u8 _) (wrap_inK .u8 _)) (U8s.cons (inK_cond (wrap_inK .u8 _) (wrap_inK .u8 _)) U8s.nil)))) rfl (by kernel_rfl))) ?_)
  clear hA hO fr; intro fr w8 hA hO
  refine ⟨hO, ?_⟩
  replace hA := hA.sb (e' := [(1, pt b1), (2, bl false), (3, .slice (some ⟨k1, 0, none⟩) 4 4), (4, i64 0), (31, bl false), (34, bl (decide ([IntKind.u8.wrap o, IntKind.u8.wrap a, cond (opV o) (IntKind.u8.wrap (v / 256)) (IntKind.u8.wrap b), cond (opV o) (IntKind.u8.wrap v) (IntKind.u8.wrap c)] = [IntKind.u8.wrap o, IntKind.u8.wrap a, cond (opV o) (IntKind.u8.wrap (v / 256)) (IntKind.u8.wrap b), cond (opV o) (IntKind.u8.wrap v) (IntKind.u8.wrap c)])))])
  refine ckS (l := [14, 15, 16]) (r := [(17, true), (19, true), (18, false), (20, false), (21, true), (22, true)]) (e' := [(1, pt b1), (2, bl false), (3, .slice (some ⟨k1, 0, none⟩) 4 4), (4, i64 0), (35, bl (!(decide ([IntKind.u8.wrap o, IntKind.u8.wrap a, cond (opV o) (IntKind.u8.wrap (v / 256)) (IntKind.u8.wrap b), cond (opV o) (IntKind.u8.wrap v) (IntKind.u8.wrap c)] = [IntKind.u8.wrap o, IntKind.u8.wrap a, cond (opV o) (IntKind.u8.wrap (v / 256)) (IntKind.u8.wrap b), cond (opV o) (IntKind.u8.wrap v) (IntKind.u8.wrap c)])))), (36, bl (!(decide ([IntKind.u8.wrap o, IntKind.u8.wrap a, cond (opV o) (IntKind.u8.wrap (v / 256)) (IntKind.u8.wrap b), cond (opV o) (IntKind.u8.wrap v) (IntKind.u8.wrap c)] = [IntKind.u8.wrap o, IntKind.u8.wrap a, cond (opV o) (IntKind.u8.wrap (v / 256)) (IntKind.u8.wrap b), cond (opV o) (IntKind.u8.wrap v) (IntKind.u8.wrap c)])))), (37, bl (!(decide ([IntKind.u8.wrap o, IntKind.u8.wrap a, cond (opV o) (IntKind.u8.wrap (v / 256)) (IntKind.u8.wrap b), cond (opV o) (IntKind.u8.wrap v) (IntKind.u8.wrap c)] = [IntKind.u8.wrap o, IntKind.u8.wrap a, cond (opV o) (IntKind.u8.wrap (v / 256)) (IntKind.u8.wrap b), cond (opV o) (IntKind.u8.wrap v) (IntKind.u8.wrap c)]))))]) hA [] c0 ?_
  clear hA fr; intro fr hA
  replace hA := hA.bool (f := fun z_ => [(1, pt b1), (2, bl false), (3, .slice (some ⟨k1, 0, none⟩) 4 4), (4, i64 0), (35, .bool !z_), (36, .bool !z_), (37, .bool !z_)]) (decide_eq_true rfl : (decide ([IntKind.u8.wrap o, IntKind.u8.wrap a, cond (opV o) (IntKind.u8.wrap (v / 256)) (IntKind.u8.wrap b), cond (opV o) (IntKind.u8.wrap v) (IntKind.u8.wrap c)] = [IntKind.u8.wrap o, IntKind.u8.wrap a, cond (opV o) (IntKind.u8.wrap (v / 256)) (IntKind.u8.wrap b), cond (opV o) (IntKind.u8.wrap v) (IntKind.u8.wrap c)])) = true)
  refine ckS (l := [17, 19]) (r := [(18, false), (20, false), (21, true), (22, true)]) (e' := [(1, pt b1), (2, bl false), (3, .slice (some ⟨k1, 0, none⟩) 4 4), (4, i64 0), (37, bl false), (38, .agg #[i64 o, i64 a, i64 b, i64 c, i64 v]), (40, .agg #[i64 o, i64 a, i64 b, i64 c, i64 v])]) hA [.agg #[i64 o, i64 a, i64 b, i64 c, i64 v], .agg #[i64 o, i64 a, i64 b, i64 c, i64 v]] (cc (hS.sn 2 0 29 [i64 o, i64 a, i64 b, i64 c, i64 v]) (cc (hS.sn 2 0 29 [i64 o, i64 a, i64 b, i64 c, i64 v]) c0)) ?_
  clear hA fr; intro fr hA
  refine plan_mem (mK (f := 32) (args := [.agg #[i64 o, i64 a, i64 b, i64 c, i64 v]]) (d := (some 39)) (v := str sv) hA hO Tryd.func32 (hs1 _ (hT.keep hO.only (fun h => h)) (hP.keep hO.only)) ?_)
  clear hA hO fr; intro fr w9 hA hO
  refine ⟨hO, ?_⟩
  replace hA := hA.sb (e' := [(1, pt b1), (2, bl false), (3, .slice (some ⟨k1, 0, none⟩) 4 4), (4, i64 0), (37, bl false), (39, str sv), (40, .agg #[i64 o, i64 a, i64 b, i64 c, i64 v])])
  refine plan_mem (mK (f := 33) (args := [.agg #[i64 o, i64 a, i64 b, i64 c, i64 v]]) (d := (some 41)) (v := str sv) hA hO Tryd.func33 (hs2 _) ?_)
  clear hA hO fr; intro fr w10 hA hO
  refine ⟨hO, ?_⟩
  replace hA := hA.sb (e' := [(1, pt b1), (2, bl false), (3, .slice (some ⟨k1, 0, none⟩) 4 4), (4, i64 0), (37, bl false), (39, str sv), (41, str sv)])
  refine ckS (l := [21, 22]) (r := []) (e' := [(1, pt b1), (2, bl false), (3, .slice (some ⟨k1, 0, none⟩) 4 4), (4, i64 0), (43, bl (!(sv.toList == sv.toList)))]) hA [] c0 ?_
  clear hA fr; intro fr hA
  refine end_plan ?_
  refine then_normal ?_
  replace hA := hA.bool (f := fun z_ => [(1, pt b1), (2, bl false), (3, .slice (some ⟨k1, 0, none⟩) 4 4), (4, i64 0), (43, .bool !z_)]) (by simp : (sv.toList == sv.toList) = true)
  refine cF hA ?_
  refine wp_skip ?_
  refine then_normal ?_
  refine sR (l := (rg 0 8)) ?_
  refine ck (l := [0]) (r := (rg 1 7)) (e' := [(1, pt b1), (2, bl false), (4, i64 0), (45, .slice (some ⟨k1, 0, none⟩) 4 4)]) hA [] c0 ?_
  clear hA fr; intro fr hA
  refine wpOps_cons' (mK (f := 13) (args := [.slice (some ⟨k1, 0, none⟩) 4 4]) (d := (some 46)) (v := .tuple #[.agg #[i64 o, i64 a, i64 b, i64 c, i64 v], i64 0]) hA hO Tryd.func13 (rs (decode_any _ (encX o a b c v) _ (hT.keep hO.only (fun h => h)) ((hO.b 1).sl (xs := [IntKind.u8.wrap o, IntKind.u8.wrap a, cond (opV o) (IntKind.u8.wrap (v / 256)) (IntKind.u8.wrap b), cond (opV o) (IntKind.u8.wrap v) (IntKind.u8.wrap c)]) (U8s.cons (wrap_inK .u8 _) (U8s.cons (wrap_inK .u8 _) (U8s.cons (inK_cond (wrap_inK .u8 _) (wrap_inK .u8 _)) (U8s.cons (inK_cond (wrap_inK .u8 _) (wrap_inK .u8 _)) U8s.nil)))) rfl (by kernel_rfl))) (by rw [enc_dec hl]; rfl)) ?_)
  clear hA hO fr; intro fr w11 hA hO
  replace hA := hA.sb (e' := [(1, pt b1), (2, bl false), (4, i64 0), (46, .tuple #[.agg #[i64 o, i64 a, i64 b, i64 c, i64 v], i64 0])])
  refine ck (l := [2, 3, 4]) (r := [5, 6, 7]) (e' := [(1, pt b1), (2, bl false), (4, i64 0), (47, .agg #[i64 o, i64 a, i64 b, i64 c, i64 v]), (48, i64 0)]) hA [] c0 ?_
  clear hA fr; intro fr hA
  refine wpOps_cons' (mN (l := [i64 0, i64 0, i64 0, i64 0, i64 0]) (t := 25) (v := pt) (d := 7) hA hO ?_)
  clear hA hO fr; intro fr w12 b2 hA hO
  refine wpOps_cons' (mS (off := 0) (vc := [i64 o, i64 a, i64 b, i64 c, i64 v]) 0 hA hO ?_)
  clear hO; intro w13 hO
  replace hA := hA.sb (e' := [(1, pt b1), (2, bl false), (4, i64 0), (7, pt b2), (48, i64 0)])
  refine ck (l := [7]) (r := []) (e' := [(1, pt b1), (2, bl false), (4, i64 0), (7, pt b2), (8, i64 0)]) hA [] c0 ?_
  clear hA fr; intro fr hA
  refine end_ops ?_
  refine then_normal ?_
  refine sC (e' := [(2, bl true)]) 12 hA [.agg #[i64 o, i64 a, i64 b, i64 c, i64 v], .agg #[i64 o, i64 a, i64 b, i64 c, i64 v], bl true] (cc (hO.ln 0 0 25 [i64 o, i64 a, i64 b, i64 c, i64 v]) (cc (hO.ln 3 0 29 [i64 o, i64 a, i64 b, i64 c, i64 v]) (cc ((eqG_of (b := (o == o) && ((a == a) && ((b == b) && ((c == c) && ((v == v) && true))))) (by kernel_rfl) (by kernel_rfl)).cast (by simp) : EqG Tryd.prog 29 (.agg #[i64 o, i64 a, i64 b, i64 c, i64 v]) (.agg #[i64 o, i64 a, i64 b, i64 c, i64 v]) true) c0))) ?_
  clear hA fr; intro fr hA
  refine wp_ret ?_
  refine cR (cs := [none]) (us := [bl true]) hA [] trivial ?_
  have hF := hO.only; clear hA hO
  exact ⟨by first | rfl | simp [pack], hF⟩

theorem law_encode (o a b c v : Int) (w : World) (hT : Tab w) (hP : Pow w) : Calls Tryd.prog 11 #[insV o a b c v] w fun e w' => e = .returned (.bool true) ∧ Only none' w w' := by
  cases hl : legalB o a b c v with
  | false => exact lawenc_false o a b c v w hT hP hl
  | true =>
    obtain ⟨s, hs1, hs2⟩ := show_both o a b c v hl
    exact lawenc_true o a b c v w hT hP hl s hs1 hs2

end Go.Proofs.YtcaokjdihhbkjaaDoor
