/- The layer exe: the law ExeMake. -/
import Derived.Test.YtkfnkcpdabdboaaDoorSame2
set_option linter.unusedVariables false
set_option linter.unusedSimpArgs false
set_option maxRecDepth 10000
namespace Go.Proofs.YtkfnkcpdabdboaaDoor
open Go Go.RowKit Go.Proofs.Sx

theorem file_u8m {w : World} {cp dp : Option Addr} {kc kd : Nat} {cs ds : List Int} {z et : Int} (hs : SlI w (.slice cp cs.length kc) cs) (hs2 : SlI w (.slice dp ds.length kd) ds) : U8s (fileL cs ds z et) := by
  unfold fileL sealL bodyL
  exact U8s.app (U8s.app (U8s.app (U8s.app (U8s.app (U8s.app (U8s.app (by intro x hx; simp at hx; omega) (encI_u8 _)) (encI_u8 _)) (encI_u8 _)) hs.1) (encI_u8 _)) hs2.1) (leL_u8 _ _)

theorem list_any (cp dp : Option Addr) (kc kd : Nat) (cs ds : List Int) (z et : Int) (w : World) (hc : cs.length ≤ 2000) (hd : ds.length ≤ 2000) (hT : Tab w) (hP : Pow w) (hs : SlI w (.slice cp cs.length kc) cs) (hkc : cs.length ≤ kc) (hv : validB cs ((ds.length : Nat) : Int) z et = true) :
    Calls Tryd.prog 20 #[.agg #[.slice cp cs.length kc, .slice dp ds.length kd, i64 z, i64 et]] w fun e w' => ∃ p c T, e = .returned (.slice p (listL cs (cs.length / 4)).length c) ∧ Ow Tryd.prog none' w w' T ∧ One fT 9 1 p c (listL cs (cs.length / 4)) T := by
  rcases hs.2 with ⟨e, rfl⟩ | ⟨ca, cap, e, _⟩
  · have := (valid4 hv).2; simp at this
  · cases e
    exact list_ok ca dp kc kd cs ds z et w hc hd hs hkc hT hP hv

theorem rlist_any (cp dp : Option Addr) (kc kd : Nat) (cs ds : List Int) (z et : Int) (w : World) (hc : cs.length ≤ 2000) (hd : ds.length ≤ 2000) (hs : SlI w (.slice cp cs.length kc) cs) (hkc : cs.length ≤ kc) (hv : validB cs ((ds.length : Nat) : Int) z et = true) :
    Calls Tryd.prog 21 #[.agg #[.slice cp cs.length kc, .slice dp ds.length kd, i64 z, i64 et]] w fun e w' => ∃ p c T, e = .returned (.slice p (listL cs (cs.length / 4)).length c) ∧ Ow Tryd.prog none' w w' T ∧ One fT 9 1 p c (listL cs (cs.length / 4)) T := by
  rcases hs.2 with ⟨e, rfl⟩ | ⟨ca, cap, e, _⟩
  · have := (valid4 hv).2; simp at this
  · cases e
    exact rlist_ok ca dp kc kd cs ds z et w hc hd hs hkc hv

theorem mk_few (cp dp : Option Addr) (kc kd : Nat) (cs ds : List Int) (z et : Int) (w : World) (hT : Tab w) (hP : Pow w) (hs : SlI w (.slice cp cs.length kc) cs) (hs2 : SlI w (.slice dp ds.length kd) ds) (hkc : cs.length ≤ kc) (hz : inK .i64 z) (het : inK .i64 et) (hf : ¬ (cs.length ≤ 2000 ∧ ds.length ≤ 2000)) :
    Calls Tryd.prog 5 #[.agg #[.slice cp cs.length kc, .slice dp ds.length kd, i64 z, i64 et]] w fun e w' => e = .returned (.bool true) ∧ Only none' w w' := by
  refine c_enter (args := [.agg #[.slice cp cs.length kc, .slice dp ds.length kd, i64 z, i64 et]]) (m := 59) (n := 60) Tryd.func5 rfl (by kernel_rfl) (by kernel_rfl) fun fr hA => ?_
  have hO := Ow.nil Tryd.prog none' w
  refine sR (l := [0, 1]) ?_
  refine wpOps_cons' (mN (l := [.slice cp cs.length kc, .slice dp ds.length kd, i64 z, i64 et]) (t := 24) (v := pt) (d := 1) hA hO ?_)
  clear hA hO fr; intro fr w1 b1 hA hO
  replace hA := hA.sb (e' := [(1, pt b1)])
  refine ck (l := [1]) (r := []) (e' := [(1, pt b1), (2, bl false)]) hA [] c0 ?_
  clear hA fr; intro fr hA
  refine end_ops ?_
  refine then_normal ?_
  refine wp_seq ?_
  refine sR (l := [0, 1]) ?_
  refine wpOps_cons' (mK (f := 6) (args := []) (d := (some 8)) (v := bl true) hA hO Tryd.func6 (awake_any _ (hT.keep hO.only (fun h => h))) ?_)
  clear hA hO fr; intro fr w2 hA hO
  refine ck (l := [1]) (r := []) (e' := [(1, pt b1), (2, bl false), (9, bl false)]) hA [] c0 ?_
  clear hA fr; intro fr hA
  refine end_ops ?_
  refine then_normal ?_
  refine cF hA ?_
  refine wp_skip ?_
  refine then_normal ?_
  refine wp_seq ?_
  refine sR (l := [0, 1, 2]) ?_
  refine ck (l := [0]) (r := [1, 2]) (e' := [(1, pt b1), (2, bl false), (10, .agg #[.slice cp cs.length kc, .slice dp ds.length kd, i64 z, i64 et])]) hA [.agg #[.slice cp cs.length kc, .slice dp ds.length kd, i64 z, i64 et]] (cc (hO.ln 0 0 24 [.slice cp cs.length kc, .slice dp ds.length kd, i64 z, i64 et]) c0) ?_
  clear hA fr; intro fr hA
  refine wpOps_cons' (mK (f := 7) (args := [.agg #[.slice cp cs.length kc, .slice dp ds.length kd, i64 z, i64 et]]) (d := (some 11)) (v := bl (decide (cs.length ≤ 2000 ∧ ds.length ≤ 2000))) hA hO Tryd.func7 (few_any cp dp kc kd cs ds z et _) ?_)
  clear hA hO fr; intro fr w3 hA hO
  replace hA := hA.sb (e' := [(1, pt b1), (2, bl false), (11, bl (decide (cs.length ≤ 2000 ∧ ds.length ≤ 2000)))])
  refine ck (l := [2]) (r := []) (e' := [(1, pt b1), (2, bl false), (12, bl (!(decide (cs.length ≤ 2000 ∧ ds.length ≤ 2000))))]) hA [] c0 ?_
  clear hA fr; intro fr hA
  refine end_ops ?_
  refine then_normal ?_
  replace hA := hA.bool (f := fun z_ => [(1, pt b1), (2, bl false), (12, .bool !z_)]) (decide_eq_false hf : (decide (cs.length ≤ 2000 ∧ ds.length ≤ 2000)) = false)
  refine cT hA ?_
  refine sC (e' := [(1, pt b1), (2, bl true)]) 1 hA [] c0 ?_
  clear hA fr; intro fr hA
  refine wp_ret ?_
  refine then_ret ?_
  refine cR (cs := [none]) (us := [bl true]) hA [] trivial ?_
  have hF := hO.only; clear hA hO
  exact ⟨by first | rfl | simp [pack], hF⟩

theorem mk_bad (cp dp : Option Addr) (kc kd : Nat) (cs ds : List Int) (z et : Int) (w : World) (hT : Tab w) (hP : Pow w) (hs : SlI w (.slice cp cs.length kc) cs) (hs2 : SlI w (.slice dp ds.length kd) ds) (hkc : cs.length ≤ kc) (hz : inK .i64 z) (het : inK .i64 et) (hc : cs.length ≤ 2000) (hd : ds.length ≤ 2000) (hv : validB cs ((ds.length : Nat) : Int) z et = false) :
    Calls Tryd.prog 5 #[.agg #[.slice cp cs.length kc, .slice dp ds.length kd, i64 z, i64 et]] w fun e w' => e = .returned (.bool true) ∧ Only none' w w' := by
  refine c_enter (args := [.agg #[.slice cp cs.length kc, .slice dp ds.length kd, i64 z, i64 et]]) (m := 59) (n := 60) Tryd.func5 rfl (by kernel_rfl) (by kernel_rfl) fun fr hA => ?_
  have hO := Ow.nil Tryd.prog none' w
  refine sR (l := [0, 1]) ?_
  refine wpOps_cons' (mN (l := [.slice cp cs.length kc, .slice dp ds.length kd, i64 z, i64 et]) (t := 24) (v := pt) (d := 1) hA hO ?_)
  clear hA hO fr; intro fr w1 b1 hA hO
  replace hA := hA.sb (e' := [(1, pt b1)])
  refine ck (l := [1]) (r := []) (e' := [(1, pt b1), (2, bl false)]) hA [] c0 ?_
  clear hA fr; intro fr hA
  refine end_ops ?_
  refine then_normal ?_
  refine wp_seq ?_
  refine sR (l := [0, 1]) ?_
  refine wpOps_cons' (mK (f := 6) (args := []) (d := (some 8)) (v := bl true) hA hO Tryd.func6 (awake_any _ (hT.keep hO.only (fun h => h))) ?_)
  clear hA hO fr; intro fr w2 hA hO
  refine ck (l := [1]) (r := []) (e' := [(1, pt b1), (2, bl false), (9, bl false)]) hA [] c0 ?_
  clear hA fr; intro fr hA
  refine end_ops ?_
  refine then_normal ?_
  refine cF hA ?_
  refine wp_skip ?_
  refine then_normal ?_
  refine wp_seq ?_
  refine sR (l := [0, 1, 2]) ?_
  refine ck (l := [0]) (r := [1, 2]) (e' := [(1, pt b1), (2, bl false), (10, .agg #[.slice cp cs.length kc, .slice dp ds.length kd, i64 z, i64 et])]) hA [.agg #[.slice cp cs.length kc, .slice dp ds.length kd, i64 z, i64 et]] (cc (hO.ln 0 0 24 [.slice cp cs.length kc, .slice dp ds.length kd, i64 z, i64 et]) c0) ?_
  clear hA fr; intro fr hA
  refine wpOps_cons' (mK (f := 7) (args := [.agg #[.slice cp cs.length kc, .slice dp ds.length kd, i64 z, i64 et]]) (d := (some 11)) (v := bl (decide (cs.length ≤ 2000 ∧ ds.length ≤ 2000))) hA hO Tryd.func7 (few_any cp dp kc kd cs ds z et _) ?_)
  clear hA hO fr; intro fr w3 hA hO
  replace hA := hA.sb (e' := [(1, pt b1), (2, bl false), (11, bl (decide (cs.length ≤ 2000 ∧ ds.length ≤ 2000)))])
  refine ck (l := [2]) (r := []) (e' := [(1, pt b1), (2, bl false), (12, bl (!(decide (cs.length ≤ 2000 ∧ ds.length ≤ 2000))))]) hA [] c0 ?_
  clear hA fr; intro fr hA
  refine end_ops ?_
  refine then_normal ?_
  replace hA := hA.bool (f := fun z_ => [(1, pt b1), (2, bl false), (12, .bool !z_)]) (decide_eq_true ⟨hc, hd⟩ : (decide (cs.length ≤ 2000 ∧ ds.length ≤ 2000)) = true)
  refine cF hA ?_
  refine wp_skip ?_
  refine then_normal ?_
  refine sR (l := [0, 1, 2]) ?_
  refine ck (l := [0]) (r := [1, 2]) (e' := [(1, pt b1), (2, bl false), (13, .agg #[.slice cp cs.length kc, .slice dp ds.length kd, i64 z, i64 et])]) hA [.agg #[.slice cp cs.length kc, .slice dp ds.length kd, i64 z, i64 et]] (cc (hO.ln 0 0 24 [.slice cp cs.length kc, .slice dp ds.length kd, i64 z, i64 et]) c0) ?_
  clear hA fr; intro fr hA
  refine wpOps_cons' (mN (l := [.slice none 0 0, .slice none 0 0, i64 0, i64 0]) (t := 27) (v := pt) (d := 3) hA hO ?_)
  clear hA hO fr; intro fr w4 b2 hA hO
  refine wpOps_cons' (mS (off := 0) (vc := [.slice cp cs.length kc, .slice dp ds.length kd, i64 z, i64 et]) 0 hA hO ?_)
  clear hO; intro w5 hO
  replace hA := hA.sb (e' := [(1, pt b1), (2, bl false), (3, pt b2)])
  refine end_ops ?_
  refine then_normal ?_
  refine sR (l := (rg 0 7)) ?_
  refine ck (l := [0]) (r := (rg 1 6)) (e' := [(1, pt b1), (2, bl false), (3, pt b2), (15, .agg #[.slice cp cs.length kc, .slice dp ds.length kd, i64 z, i64 et])]) hA [.agg #[.slice cp cs.length kc, .slice dp ds.length kd, i64 z, i64 et]] (cc (hO.ln 0 0 27 [.slice cp cs.length kc, .slice dp ds.length kd, i64 z, i64 et]) c0) ?_
  clear hA fr; intro fr hA
  refine wpOps_cons' (mK (f := 12) (args := [.agg #[.slice cp cs.length kc, .slice dp ds.length kd, i64 z, i64 et]]) (d := (some 16)) (v := .tuple #[.slice none 0 0, i64 1]) hA hO Tryd.func12 (make_bad cp dp kc kd cs ds z et _ hc hd (hT.keep hO.only (fun h => h)) (hs.keep hO.only) hkc (hs2.keep hO.only) hv) ?_)
  clear hA hO fr; intro fr w6 hA hO
  replace hA := hA.sb (e' := [(1, pt b1), (2, bl false), (3, pt b2), (16, .tuple #[.slice none 0 0, i64 1])])
  refine ck (l := (rg 2 5)) (r := []) (e' := [(1, pt b1), (2, bl false), (3, pt b2), (4, .slice none 0 0), (5, i64 1)]) hA [] c0 ?_
  clear hA fr; intro fr hA
  refine end_ops ?_
  refine then_normal ?_
  refine sR (l := (rg 0 7)) ?_
  refine ck (l := [0]) (r := (rg 1 6)) (e' := [(1, pt b1), (2, bl false), (3, pt b2), (4, .slice none 0 0), (5, i64 1), (20, .agg #[.slice cp cs.length kc, .slice dp ds.length kd, i64 z, i64 et])]) hA [.agg #[.slice cp cs.length kc, .slice dp ds.length kd, i64 z, i64 et]] (cc (hO.ln 1 0 24 [.slice cp cs.length kc, .slice dp ds.length kd, i64 z, i64 et]) c0) ?_
  clear hA fr; intro fr hA
  refine wpOps_cons' (mK (f := 15) (args := [.agg #[.slice cp cs.length kc, .slice dp ds.length kd, i64 z, i64 et]]) (d := (some 21)) (v := .tuple #[.slice none 0 0, i64 1]) hA hO Tryd.func15 (rmake_bad cp dp kc kd cs ds z et _ hc hd (hs.keep hO.only) hkc (hs2.keep hO.only) hv) ?_)
  clear hA hO fr; intro fr w7 hA hO
  replace hA := hA.sb (e' := [(1, pt b1), (2, bl false), (3, pt b2), (4, .slice none 0 0), (5, i64 1), (21, .tuple #[.slice none 0 0, i64 1])])
  refine ck (l := (rg 2 5)) (r := []) (e' := [(1, pt b1), (2, bl false), (3, pt b2), (4, .slice none 0 0), (5, i64 1), (6, .slice none 0 0), (7, i64 1)]) hA [] c0 ?_
  clear hA fr; intro fr hA
  refine end_ops ?_
  refine then_normal ?_
  refine wp_seq ?_
  have hS := hO
  refine rP [(0, true), (1, true), (2, true), (3, true), (4, true), (5, true), (6, false), (7, true), (8, true), (9, true), (11, true), (10, false), (12, false), (13, true), (14, true), (15, true), (16, true), (18, true), (17, false), (19, false), (20, true), (21, true), (22, true), (23, true), (25, true), (24, false), (26, false), (27, true), (28, true), (29, true), (30, true), (32, true), (31, false), (33, false), (34, false), (35, true), (36, true)] hS ?_
  intro w8 ho; replace hO := hO.st ho; clear ho
  refine ckS (l := (rg 0 6)) (r := [(6, false), (7, true), (8, true), (9, true), (11, true), (10, false), (12, false), (13, true), (14, true), (15, true), (16, true), (18, true), (17, false), (19, false), (20, true), (21, true), (22, true), (23, true), (25, true), (24, false), (26, false), (27, true), (28, true), (29, true), (30, true), (32, true), (31, false), (33, false), (34, false), (35, true), (36, true)]) (e' := [(1, pt b1), (2, bl false), (3, pt b2), (27, bl true), (28, .slice none 0 0), (29, .slice none 0 0)]) hA [] c0 ?_
  clear hA fr; intro fr hA
  refine plan_mem (mK (f := 13) (args := [.slice none 0 0, .slice none 0 0]) (d := (some 30)) (v := bl true) hA hO Tryd.func13 (rs (same_any ([]) ([]) _ _ _ (SlI.nil _) (SlI.nil _)) (congrArg Value.bool (decide_eq_true rfl))) ?_)
  clear hA hO fr; intro fr w9 hA hO
  refine ⟨hO, ?_⟩
  replace hA := hA.sb (e' := [(1, pt b1), (2, bl false), (3, pt b2), (27, bl true), (30, bl true)])
  refine ckS (l := [7, 8, 9, 11]) (r := [(10, false), (12, false), (13, true), (14, true), (15, true), (16, true), (18, true), (17, false), (19, false), (20, true), (21, true), (22, true), (23, true), (25, true), (24, false), (26, false), (27, true), (28, true), (29, true), (30, true), (32, true), (31, false), (33, false), (34, false), (35, true), (36, true)]) (e' := [(1, pt b1), (2, bl false), (3, pt b2), (32, bl true), (33, .agg #[.slice cp cs.length kc, .slice dp ds.length kd, i64 z, i64 et]), (35, .agg #[.slice cp cs.length kc, .slice dp ds.length kd, i64 z, i64 et])]) hA [.agg #[.slice cp cs.length kc, .slice dp ds.length kd, i64 z, i64 et], .agg #[.slice cp cs.length kc, .slice dp ds.length kd, i64 z, i64 et]] (cc (hS.sn 0 0 27 [.slice cp cs.length kc, .slice dp ds.length kd, i64 z, i64 et]) (cc (hS.sn 1 0 24 [.slice cp cs.length kc, .slice dp ds.length kd, i64 z, i64 et]) c0)) ?_
  clear hA fr; intro fr hA
  refine plan_mem (mK (f := 9) (args := [.agg #[.slice cp cs.length kc, .slice dp ds.length kd, i64 z, i64 et]]) (d := (some 34)) (v := bl false) hA hO Tryd.func9 (rs (valid_any cp dp kc kd cs ds z et _ hc hd (hT.keep hO.only (fun h => h)) (hs.keep hO.only) hkc) (congrArg Value.bool hv)) ?_)
  clear hA hO fr; intro fr w10 hA hO
  refine ⟨hO, ?_⟩
  replace hA := hA.sb (e' := [(1, pt b1), (2, bl false), (3, pt b2), (32, bl true), (34, bl false), (35, .agg #[.slice cp cs.length kc, .slice dp ds.length kd, i64 z, i64 et])])
  refine plan_mem (mK (f := 16) (args := [.agg #[.slice cp cs.length kc, .slice dp ds.length kd, i64 z, i64 et]]) (d := (some 36)) (v := bl false) hA hO Tryd.func16 (rs (rvalid_any cp dp kc kd cs ds z et _ hc hd (hs.keep hO.only) hkc) (congrArg Value.bool hv)) ?_)
  clear hA hO fr; intro fr w11 hA hO
  refine ⟨hO, ?_⟩
  replace hA := hA.sb (e' := [(1, pt b1), (2, bl false), (3, pt b2), (32, bl true), (34, bl false), (36, bl false)])
  refine ckS (l := [13, 14, 15, 16, 18]) (r := [(17, false), (19, false), (20, true), (21, true), (22, true), (23, true), (25, true), (24, false), (26, false), (27, true), (28, true), (29, true), (30, true), (32, true), (31, false), (33, false), (34, false), (35, true), (36, true)]) (e' := [(1, pt b1), (2, bl false), (3, pt b2), (39, bl true), (40, .agg #[.slice cp cs.length kc, .slice dp ds.length kd, i64 z, i64 et]), (42, .agg #[.slice cp cs.length kc, .slice dp ds.length kd, i64 z, i64 et])]) hA [.agg #[.slice cp cs.length kc, .slice dp ds.length kd, i64 z, i64 et], .agg #[.slice cp cs.length kc, .slice dp ds.length kd, i64 z, i64 et]] (cc (hS.sn 0 0 27 [.slice cp cs.length kc, .slice dp ds.length kd, i64 z, i64 et]) (cc (hS.sn 1 0 24 [.slice cp cs.length kc, .slice dp ds.length kd, i64 z, i64 et]) c0)) ?_
  clear hA fr; intro fr hA
  refine plan_mem (mK (f := 10) (args := [.agg #[.slice cp cs.length kc, .slice dp ds.length kd, i64 z, i64 et]]) (d := (some 41)) (v := i64 0) hA hO Tryd.func10 (size_bad cp dp kc kd cs ds z et _ hc hd (hT.keep hO.only (fun h => h)) (hs.keep hO.only) hkc (hs2.keep hO.only) hv) ?_)
  clear hA hO fr; intro fr w12 hA hO
  refine ⟨hO, ?_⟩
  replace hA := hA.sb (e' := [(1, pt b1), (2, bl false), (3, pt b2), (39, bl true), (41, i64 0), (42, .agg #[.slice cp cs.length kc, .slice dp ds.length kd, i64 z, i64 et])])
  refine plan_mem (mK (f := 17) (args := [.agg #[.slice cp cs.length kc, .slice dp ds.length kd, i64 z, i64 et]]) (d := (some 43)) (v := i64 0) hA hO Tryd.func17 (rsize_bad cp dp kc kd cs ds z et _ hc hd (hs.keep hO.only) hkc (hs2.keep hO.only) hv) ?_)
  clear hA hO fr; intro fr w13 hA hO
  refine ⟨hO, ?_⟩
  replace hA := hA.sb (e' := [(1, pt b1), (2, bl false), (3, pt b2), (39, bl true), (41, i64 0), (43, i64 0)])
  refine ckS (l := [20, 21, 22, 23, 25]) (r := [(24, false), (26, false), (27, true), (28, true), (29, true), (30, true), (32, true), (31, false), (33, false), (34, false), (35, true), (36, true)]) (e' := [(1, pt b1), (2, bl false), (3, pt b2), (46, bl true), (47, .agg #[.slice cp cs.length kc, .slice dp ds.length kd, i64 z, i64 et]), (49, .agg #[.slice cp cs.length kc, .slice dp ds.length kd, i64 z, i64 et])]) hA [.agg #[.slice cp cs.length kc, .slice dp ds.length kd, i64 z, i64 et], .agg #[.slice cp cs.length kc, .slice dp ds.length kd, i64 z, i64 et]] (cc (hS.sn 0 0 27 [.slice cp cs.length kc, .slice dp ds.length kd, i64 z, i64 et]) (cc (hS.sn 1 0 24 [.slice cp cs.length kc, .slice dp ds.length kd, i64 z, i64 et]) c0)) ?_
  clear hA fr; intro fr hA
  refine plan_mem (mK (f := 11) (args := [.agg #[.slice cp cs.length kc, .slice dp ds.length kd, i64 z, i64 et]]) (d := (some 48)) (v := i64 0) hA hO Tryd.func11 (dataat_bad cp dp kc kd cs ds z et _ hc hd (hT.keep hO.only (fun h => h)) (hs.keep hO.only) hkc (hs2.keep hO.only) hv) ?_)
  clear hA hO fr; intro fr w14 hA hO
  refine ⟨hO, ?_⟩
  replace hA := hA.sb (e' := [(1, pt b1), (2, bl false), (3, pt b2), (46, bl true), (48, i64 0), (49, .agg #[.slice cp cs.length kc, .slice dp ds.length kd, i64 z, i64 et])])
  refine plan_mem (mK (f := 18) (args := [.agg #[.slice cp cs.length kc, .slice dp ds.length kd, i64 z, i64 et]]) (d := (some 50)) (v := i64 0) hA hO Tryd.func18 (rdataat_bad cp dp kc kd cs ds z et _ hc hd (hs.keep hO.only) hkc (hs2.keep hO.only) hv) ?_)
  clear hA hO fr; intro fr w15 hA hO
  refine ⟨hO, ?_⟩
  replace hA := hA.sb (e' := [(1, pt b1), (2, bl false), (3, pt b2), (46, bl true), (48, i64 0), (50, i64 0)])
  refine ckS (l := [27, 28, 29, 30, 32]) (r := [(31, false), (33, false), (34, false), (35, true), (36, true)]) (e' := [(2, bl false), (53, bl true), (54, .agg #[.slice cp cs.length kc, .slice dp ds.length kd, i64 z, i64 et]), (56, .agg #[.slice cp cs.length kc, .slice dp ds.length kd, i64 z, i64 et])]) hA [.agg #[.slice cp cs.length kc, .slice dp ds.length kd, i64 z, i64 et], .agg #[.slice cp cs.length kc, .slice dp ds.length kd, i64 z, i64 et]] (cc (hS.sn 0 0 27 [.slice cp cs.length kc, .slice dp ds.length kd, i64 z, i64 et]) (cc (hS.sn 1 0 24 [.slice cp cs.length kc, .slice dp ds.length kd, i64 z, i64 et]) c0)) ?_
  clear hA fr; intro fr hA
  refine plan_mem (mK (f := 20) (args := [.agg #[.slice cp cs.length kc, .slice dp ds.length kd, i64 z, i64 et]]) (d := (some 55)) (v := .slice none 0 0) hA hO Tryd.func20 (list_bad cp dp kc kd cs ds z et _ hc hd (hT.keep hO.only (fun h => h)) (hs.keep hO.only) hkc hv) ?_)
  clear hA hO fr; intro fr w16 hA hO
  refine ⟨hO, ?_⟩
  replace hA := hA.sb (e' := [(2, bl false), (53, bl true), (55, .slice none 0 0), (56, .agg #[.slice cp cs.length kc, .slice dp ds.length kd, i64 z, i64 et])])
  refine plan_mem (mK (f := 21) (args := [.agg #[.slice cp cs.length kc, .slice dp ds.length kd, i64 z, i64 et]]) (d := (some 57)) (v := .slice none 0 0) hA hO Tryd.func21 (rlist_bad cp dp kc kd cs ds z et _ hc hd (hs.keep hO.only) hkc hv) ?_)
  clear hA hO fr; intro fr w17 hA hO
  refine ⟨hO, ?_⟩
  replace hA := hA.sb (e' := [(2, bl false), (53, bl true), (55, .slice none 0 0), (57, .slice none 0 0)])
  refine plan_mem (mK (f := 19) (args := [.slice none 0 0, .slice none 0 0]) (d := (some 58)) (v := bl true) hA hO Tryd.func19 (ss_any [] _ _ _ (.inl ⟨rfl, rfl⟩) (.inl ⟨rfl, rfl⟩) (by first | decide | (rw [listL_len]; omega))) ?_)
  clear hA hO fr; intro fr w18 hA hO
  refine ⟨hO, ?_⟩
  replace hA := hA.sb (e' := [(2, bl false), (53, bl true), (58, bl true)])
  refine ckS (l := [35, 36]) (r := []) (e' := [(2, bl true)]) hA [] c0 ?_
  clear hA fr; intro fr hA
  refine end_plan ?_
  refine then_normal ?_
  refine wp_ret ?_
  refine cR (cs := [none]) (us := [bl true]) hA [] trivial ?_
  have hF := hO.only; clear hA hO
  exact ⟨by first | rfl | simp [pack], hF⟩

theorem mk_big (cp dp : Option Addr) (kc kd : Nat) (cs ds : List Int) (z et : Int) (w : World) (hT : Tab w) (hP : Pow w) (hs : SlI w (.slice cp cs.length kc) cs) (hs2 : SlI w (.slice dp ds.length kd) ds) (hkc : cs.length ≤ kc) (hz : inK .i64 z) (het : inK .i64 et) (hc : cs.length ≤ 2000) (hd : ds.length ≤ 2000) (hv : validB cs ((ds.length : Nat) : Int) z et = true) (hz0 : 0 ≤ z) (hz1 : z ≤ 3072) (hbig : 1536 < (fileL cs ds z et).length) :
    Calls Tryd.prog 5 #[.agg #[.slice cp cs.length kc, .slice dp ds.length kd, i64 z, i64 et]] w fun e w' => e = .returned (.bool true) ∧ Only none' w w' := by
  refine c_enter (args := [.agg #[.slice cp cs.length kc, .slice dp ds.length kd, i64 z, i64 et]]) (m := 59) (n := 60) Tryd.func5 rfl (by kernel_rfl) (by kernel_rfl) fun fr hA => ?_
  have hO := Ow.nil Tryd.prog none' w
  refine sR (l := [0, 1]) ?_
  refine wpOps_cons' (mN (l := [.slice cp cs.length kc, .slice dp ds.length kd, i64 z, i64 et]) (t := 24) (v := pt) (d := 1) hA hO ?_)
  clear hA hO fr; intro fr w1 b1 hA hO
  replace hA := hA.sb (e' := [(1, pt b1)])
  refine ck (l := [1]) (r := []) (e' := [(1, pt b1), (2, bl false)]) hA [] c0 ?_
  clear hA fr; intro fr hA
  refine end_ops ?_
  refine then_normal ?_
  refine wp_seq ?_
  refine sR (l := [0, 1]) ?_
  refine wpOps_cons' (mK (f := 6) (args := []) (d := (some 8)) (v := bl true) hA hO Tryd.func6 (awake_any _ (hT.keep hO.only (fun h => h))) ?_)
  clear hA hO fr; intro fr w2 hA hO
  refine ck (l := [1]) (r := []) (e' := [(1, pt b1), (2, bl false), (9, bl false)]) hA [] c0 ?_
  clear hA fr; intro fr hA
  refine end_ops ?_
  refine then_normal ?_
  refine cF hA ?_
  refine wp_skip ?_
  refine then_normal ?_
  refine wp_seq ?_
  refine sR (l := [0, 1, 2]) ?_
  refine ck (l := [0]) (r := [1, 2]) (e' := [(1, pt b1), (2, bl false), (10, .agg #[.slice cp cs.length kc, .slice dp ds.length kd, i64 z, i64 et])]) hA [.agg #[.slice cp cs.length kc, .slice dp ds.length kd, i64 z, i64 et]] (cc (hO.ln 0 0 24 [.slice cp cs.length kc, .slice dp ds.length kd, i64 z, i64 et]) c0) ?_
  clear hA fr; intro fr hA
  refine wpOps_cons' (mK (f := 7) (args := [.agg #[.slice cp cs.length kc, .slice dp ds.length kd, i64 z, i64 et]]) (d := (some 11)) (v := bl (decide (cs.length ≤ 2000 ∧ ds.length ≤ 2000))) hA hO Tryd.func7 (few_any cp dp kc kd cs ds z et _) ?_)
  clear hA hO fr; intro fr w3 hA hO
  replace hA := hA.sb (e' := [(1, pt b1), (2, bl false), (11, bl (decide (cs.length ≤ 2000 ∧ ds.length ≤ 2000)))])
  refine ck (l := [2]) (r := []) (e' := [(1, pt b1), (2, bl false), (12, bl (!(decide (cs.length ≤ 2000 ∧ ds.length ≤ 2000))))]) hA [] c0 ?_
  clear hA fr; intro fr hA
  refine end_ops ?_
  refine then_normal ?_
  replace hA := hA.bool (f := fun z_ => [(1, pt b1), (2, bl false), (12, .bool !z_)]) (decide_eq_true ⟨hc, hd⟩ : (decide (cs.length ≤ 2000 ∧ ds.length ≤ 2000)) = true)
  refine cF hA ?_
  refine wp_skip ?_
  refine then_normal ?_
  refine sR (l := [0, 1, 2]) ?_
  refine ck (l := [0]) (r := [1, 2]) (e' := [(1, pt b1), (2, bl false), (13, .agg #[.slice cp cs.length kc, .slice dp ds.length kd, i64 z, i64 et])]) hA [.agg #[.slice cp cs.length kc, .slice dp ds.length kd, i64 z, i64 et]] (cc (hO.ln 0 0 24 [.slice cp cs.length kc, .slice dp ds.length kd, i64 z, i64 et]) c0) ?_
  clear hA fr; intro fr hA
  refine wpOps_cons' (mN (l := [.slice none 0 0, .slice none 0 0, i64 0, i64 0]) (t := 27) (v := pt) (d := 3) hA hO ?_)
  clear hA hO fr; intro fr w4 b2 hA hO
  refine wpOps_cons' (mS (off := 0) (vc := [.slice cp cs.length kc, .slice dp ds.length kd, i64 z, i64 et]) 0 hA hO ?_)
  clear hO; intro w5 hO
  replace hA := hA.sb (e' := [(1, pt b1), (2, bl false), (3, pt b2)])
  refine end_ops ?_
  refine then_normal ?_
  refine sR (l := (rg 0 7)) ?_
  refine ck (l := [0]) (r := (rg 1 6)) (e' := [(1, pt b1), (2, bl false), (3, pt b2), (15, .agg #[.slice cp cs.length kc, .slice dp ds.length kd, i64 z, i64 et])]) hA [.agg #[.slice cp cs.length kc, .slice dp ds.length kd, i64 z, i64 et]] (cc (hO.ln 0 0 27 [.slice cp cs.length kc, .slice dp ds.length kd, i64 z, i64 et]) c0) ?_
  clear hA fr; intro fr hA
  refine wpOps_cons' (mK (f := 12) (args := [.agg #[.slice cp cs.length kc, .slice dp ds.length kd, i64 z, i64 et]]) (d := (some 16)) (v := .tuple #[.slice none 0 0, i64 6]) hA hO Tryd.func12 (make_big cp dp kc kd cs ds z et _ hc hd (hT.keep hO.only (fun h => h)) (hs.keep hO.only) hkc (hs2.keep hO.only) hv hz het hbig) ?_)
  clear hA hO fr; intro fr w6 hA hO
  replace hA := hA.sb (e' := [(1, pt b1), (2, bl false), (3, pt b2), (16, .tuple #[.slice none 0 0, i64 6])])
  refine ck (l := (rg 2 5)) (r := []) (e' := [(1, pt b1), (2, bl false), (3, pt b2), (4, .slice none 0 0), (5, i64 6)]) hA [] c0 ?_
  clear hA fr; intro fr hA
  refine end_ops ?_
  refine then_normal ?_
  refine sR (l := (rg 0 7)) ?_
  refine ck (l := [0]) (r := (rg 1 6)) (e' := [(1, pt b1), (2, bl false), (3, pt b2), (4, .slice none 0 0), (5, i64 6), (20, .agg #[.slice cp cs.length kc, .slice dp ds.length kd, i64 z, i64 et])]) hA [.agg #[.slice cp cs.length kc, .slice dp ds.length kd, i64 z, i64 et]] (cc (hO.ln 1 0 24 [.slice cp cs.length kc, .slice dp ds.length kd, i64 z, i64 et]) c0) ?_
  clear hA fr; intro fr hA
  refine wpOps_cons' (mK (f := 15) (args := [.agg #[.slice cp cs.length kc, .slice dp ds.length kd, i64 z, i64 et]]) (d := (some 21)) (v := .tuple #[.slice none 0 0, i64 6]) hA hO Tryd.func15 (rmake_big cp dp kc kd cs ds z et _ hc hd (hs.keep hO.only) hkc (hs2.keep hO.only) hv hz het hbig) ?_)
  clear hA hO fr; intro fr w7 hA hO
  replace hA := hA.sb (e' := [(1, pt b1), (2, bl false), (3, pt b2), (4, .slice none 0 0), (5, i64 6), (21, .tuple #[.slice none 0 0, i64 6])])
  refine ck (l := (rg 2 5)) (r := []) (e' := [(1, pt b1), (2, bl false), (3, pt b2), (4, .slice none 0 0), (5, i64 6), (6, .slice none 0 0), (7, i64 6)]) hA [] c0 ?_
  clear hA fr; intro fr hA
  refine end_ops ?_
  refine then_normal ?_
  refine wp_seq ?_
  have hS := hO
  refine rP [(0, true), (1, true), (2, true), (3, true), (4, true), (5, true), (6, false), (7, true), (8, true), (9, true), (11, true), (10, false), (12, false), (13, true), (14, true), (15, true), (16, true), (18, true), (17, false), (19, false), (20, true), (21, true), (22, true), (23, true), (25, true), (24, false), (26, false), (27, true), (28, true), (29, true), (30, true), (32, true), (31, false), (33, false), (34, false), (35, true), (36, true)] hS ?_
  intro w8 ho; replace hO := hO.st ho; clear ho
  refine ckS (l := (rg 0 6)) (r := [(6, false), (7, true), (8, true), (9, true), (11, true), (10, false), (12, false), (13, true), (14, true), (15, true), (16, true), (18, true), (17, false), (19, false), (20, true), (21, true), (22, true), (23, true), (25, true), (24, false), (26, false), (27, true), (28, true), (29, true), (30, true), (32, true), (31, false), (33, false), (34, false), (35, true), (36, true)]) (e' := [(1, pt b1), (2, bl false), (3, pt b2), (27, bl true), (28, .slice none 0 0), (29, .slice none 0 0)]) hA [] c0 ?_
  clear hA fr; intro fr hA
  refine plan_mem (mK (f := 13) (args := [.slice none 0 0, .slice none 0 0]) (d := (some 30)) (v := bl true) hA hO Tryd.func13 (rs (same_any ([]) ([]) _ _ _ (SlI.nil _) (SlI.nil _)) (congrArg Value.bool (decide_eq_true rfl))) ?_)
  clear hA hO fr; intro fr w9 hA hO
  refine ⟨hO, ?_⟩
  replace hA := hA.sb (e' := [(1, pt b1), (2, bl false), (3, pt b2), (27, bl true), (30, bl true)])
  refine ckS (l := [7, 8, 9, 11]) (r := [(10, false), (12, false), (13, true), (14, true), (15, true), (16, true), (18, true), (17, false), (19, false), (20, true), (21, true), (22, true), (23, true), (25, true), (24, false), (26, false), (27, true), (28, true), (29, true), (30, true), (32, true), (31, false), (33, false), (34, false), (35, true), (36, true)]) (e' := [(1, pt b1), (2, bl false), (3, pt b2), (32, bl true), (33, .agg #[.slice cp cs.length kc, .slice dp ds.length kd, i64 z, i64 et]), (35, .agg #[.slice cp cs.length kc, .slice dp ds.length kd, i64 z, i64 et])]) hA [.agg #[.slice cp cs.length kc, .slice dp ds.length kd, i64 z, i64 et], .agg #[.slice cp cs.length kc, .slice dp ds.length kd, i64 z, i64 et]] (cc (hS.sn 0 0 27 [.slice cp cs.length kc, .slice dp ds.length kd, i64 z, i64 et]) (cc (hS.sn 1 0 24 [.slice cp cs.length kc, .slice dp ds.length kd, i64 z, i64 et]) c0)) ?_
  clear hA fr; intro fr hA
  refine plan_mem (mK (f := 9) (args := [.agg #[.slice cp cs.length kc, .slice dp ds.length kd, i64 z, i64 et]]) (d := (some 34)) (v := bl true) hA hO Tryd.func9 (rs (valid_any cp dp kc kd cs ds z et _ hc hd (hT.keep hO.only (fun h => h)) (hs.keep hO.only) hkc) (congrArg Value.bool hv)) ?_)
  clear hA hO fr; intro fr w10 hA hO
  refine ⟨hO, ?_⟩
  replace hA := hA.sb (e' := [(1, pt b1), (2, bl false), (3, pt b2), (32, bl true), (34, bl true), (35, .agg #[.slice cp cs.length kc, .slice dp ds.length kd, i64 z, i64 et])])
  refine plan_mem (mK (f := 16) (args := [.agg #[.slice cp cs.length kc, .slice dp ds.length kd, i64 z, i64 et]]) (d := (some 36)) (v := bl true) hA hO Tryd.func16 (rs (rvalid_any cp dp kc kd cs ds z et _ hc hd (hs.keep hO.only) hkc) (congrArg Value.bool hv)) ?_)
  clear hA hO fr; intro fr w11 hA hO
  refine ⟨hO, ?_⟩
  replace hA := hA.sb (e' := [(1, pt b1), (2, bl false), (3, pt b2), (32, bl true), (34, bl true), (36, bl true)])
  refine ckS (l := [13, 14, 15, 16, 18]) (r := [(17, false), (19, false), (20, true), (21, true), (22, true), (23, true), (25, true), (24, false), (26, false), (27, true), (28, true), (29, true), (30, true), (32, true), (31, false), (33, false), (34, false), (35, true), (36, true)]) (e' := [(1, pt b1), (2, bl false), (3, pt b2), (39, bl true), (40, .agg #[.slice cp cs.length kc, .slice dp ds.length kd, i64 z, i64 et]), (42, .agg #[.slice cp cs.length kc, .slice dp ds.length kd, i64 z, i64 et])]) hA [.agg #[.slice cp cs.length kc, .slice dp ds.length kd, i64 z, i64 et], .agg #[.slice cp cs.length kc, .slice dp ds.length kd, i64 z, i64 et]] (cc (hS.sn 0 0 27 [.slice cp cs.length kc, .slice dp ds.length kd, i64 z, i64 et]) (cc (hS.sn 1 0 24 [.slice cp cs.length kc, .slice dp ds.length kd, i64 z, i64 et]) c0)) ?_
  clear hA fr; intro fr hA
  refine plan_mem (mK (f := 10) (args := [.agg #[.slice cp cs.length kc, .slice dp ds.length kd, i64 z, i64 et]]) (d := (some 41)) (v := i64 (endP ((cs.length : Nat) : Int) ((ds.length : Nat) : Int) z / 128)) hA hO Tryd.func10 (size_ok cp dp kc kd cs ds z et _ hc hd (hT.keep hO.only (fun h => h)) (hs.keep hO.only) hkc (hs2.keep hO.only) hv hz0 hz1) ?_)
  clear hA hO fr; intro fr w12 hA hO
  refine ⟨hO, ?_⟩
  replace hA := hA.sb (e' := [(1, pt b1), (2, bl false), (3, pt b2), (39, bl true), (41, i64 (endP ((cs.length : Nat) : Int) ((ds.length : Nat) : Int) z / 128)), (42, .agg #[.slice cp cs.length kc, .slice dp ds.length kd, i64 z, i64 et])])
  refine plan_mem (mK (f := 17) (args := [.agg #[.slice cp cs.length kc, .slice dp ds.length kd, i64 z, i64 et]]) (d := (some 43)) (v := i64 (endP ((cs.length : Nat) : Int) ((ds.length : Nat) : Int) z / 128)) hA hO Tryd.func17 (rsize_ok cp dp kc kd cs ds z et _ hc hd (hs.keep hO.only) hkc (hs2.keep hO.only) hv hz0 hz1) ?_)
  clear hA hO fr; intro fr w13 hA hO
  refine ⟨hO, ?_⟩
  replace hA := hA.sb (e' := [(1, pt b1), (2, bl false), (3, pt b2), (39, bl true), (41, i64 (endP ((cs.length : Nat) : Int) ((ds.length : Nat) : Int) z / 128)), (43, i64 (endP ((cs.length : Nat) : Int) ((ds.length : Nat) : Int) z / 128))])
  refine ckS (l := [20, 21, 22]) (r := [(23, true), (25, true), (24, false), (26, false), (27, true), (28, true), (29, true), (30, true), (32, true), (31, false), (33, false), (34, false), (35, true), (36, true)]) (e' := [(1, pt b1), (2, bl false), (3, pt b2), (44, bl ((endP ((cs.length : Nat) : Int) ((ds.length : Nat) : Int) z / 128) == (endP ((cs.length : Nat) : Int) ((ds.length : Nat) : Int) z / 128))), (45, bl ((endP ((cs.length : Nat) : Int) ((ds.length : Nat) : Int) z / 128) == (endP ((cs.length : Nat) : Int) ((ds.length : Nat) : Int) z / 128))), (46, bl ((endP ((cs.length : Nat) : Int) ((ds.length : Nat) : Int) z / 128) == (endP ((cs.length : Nat) : Int) ((ds.length : Nat) : Int) z / 128)))]) hA [] c0 ?_
  clear hA fr; intro fr hA
  replace hA := hA.bool (f := fun z_ => [(1, pt b1), (2, bl false), (3, pt b2), (44, .bool z_), (45, .bool z_), (46, .bool z_)]) (beq_self_eq_true _ : ((endP ((cs.length : Nat) : Int) ((ds.length : Nat) : Int) z / 128) == (endP ((cs.length : Nat) : Int) ((ds.length : Nat) : Int) z / 128)) = true)
  refine ckS (l := [23, 25]) (r := [(24, false), (26, false), (27, true), (28, true), (29, true), (30, true), (32, true), (31, false), (33, false), (34, false), (35, true), (36, true)]) (e' := [(1, pt b1), (2, bl false), (3, pt b2), (46, bl true), (47, .agg #[.slice cp cs.length kc, .slice dp ds.length kd, i64 z, i64 et]), (49, .agg #[.slice cp cs.length kc, .slice dp ds.length kd, i64 z, i64 et])]) hA [.agg #[.slice cp cs.length kc, .slice dp ds.length kd, i64 z, i64 et], .agg #[.slice cp cs.length kc, .slice dp ds.length kd, i64 z, i64 et]] (cc (hS.sn 0 0 27 [.slice cp cs.length kc, .slice dp ds.length kd, i64 z, i64 et]) (cc (hS.sn 1 0 24 [.slice cp cs.length kc, .slice dp ds.length kd, i64 z, i64 et]) c0)) ?_
  clear hA fr; intro fr hA
  refine plan_mem (mK (f := 11) (args := [.agg #[.slice cp cs.length kc, .slice dp ds.length kd, i64 z, i64 et]]) (d := (some 48)) (v := i64 (upP ((cs.length : Nat) : Int))) hA hO Tryd.func11 (dataat_ok cp dp kc kd cs ds z et _ hc hd (hT.keep hO.only (fun h => h)) (hs.keep hO.only) hkc (hs2.keep hO.only) hv hz0 hz1) ?_)
  clear hA hO fr; intro fr w14 hA hO
  refine ⟨hO, ?_⟩
  replace hA := hA.sb (e' := [(1, pt b1), (2, bl false), (3, pt b2), (46, bl true), (48, i64 (upP ((cs.length : Nat) : Int))), (49, .agg #[.slice cp cs.length kc, .slice dp ds.length kd, i64 z, i64 et])])
  refine plan_mem (mK (f := 18) (args := [.agg #[.slice cp cs.length kc, .slice dp ds.length kd, i64 z, i64 et]]) (d := (some 50)) (v := i64 (upP ((cs.length : Nat) : Int))) hA hO Tryd.func18 (rdataat_ok cp dp kc kd cs ds z et _ hc hd (hs.keep hO.only) hkc (hs2.keep hO.only) hv hz0 hz1) ?_)
  clear hA hO fr; intro fr w15 hA hO
  refine ⟨hO, ?_⟩
  replace hA := hA.sb (e' := [(1, pt b1), (2, bl false), (3, pt b2), (46, bl true), (48, i64 (upP ((cs.length : Nat) : Int))), (50, i64 (upP ((cs.length : Nat) : Int)))])
  refine ckS (l := [27, 28, 29]) (r := [(30, true), (32, true), (31, false), (33, false), (34, false), (35, true), (36, true)]) (e' := [(1, pt b1), (2, bl false), (3, pt b2), (51, bl ((upP ((cs.length : Nat) : Int)) == (upP ((cs.length : Nat) : Int)))), (52, bl ((upP ((cs.length : Nat) : Int)) == (upP ((cs.length : Nat) : Int)))), (53, bl ((upP ((cs.length : Nat) : Int)) == (upP ((cs.length : Nat) : Int))))]) hA [] c0 ?_
  clear hA fr; intro fr hA
  replace hA := hA.bool (f := fun z_ => [(1, pt b1), (2, bl false), (3, pt b2), (51, .bool z_), (52, .bool z_), (53, .bool z_)]) (beq_self_eq_true _ : ((upP ((cs.length : Nat) : Int)) == (upP ((cs.length : Nat) : Int))) = true)
  refine ckS (l := [30, 32]) (r := [(31, false), (33, false), (34, false), (35, true), (36, true)]) (e' := [(2, bl false), (53, bl true), (54, .agg #[.slice cp cs.length kc, .slice dp ds.length kd, i64 z, i64 et]), (56, .agg #[.slice cp cs.length kc, .slice dp ds.length kd, i64 z, i64 et])]) hA [.agg #[.slice cp cs.length kc, .slice dp ds.length kd, i64 z, i64 et], .agg #[.slice cp cs.length kc, .slice dp ds.length kd, i64 z, i64 et]] (cc (hS.sn 0 0 27 [.slice cp cs.length kc, .slice dp ds.length kd, i64 z, i64 et]) (cc (hS.sn 1 0 24 [.slice cp cs.length kc, .slice dp ds.length kd, i64 z, i64 et]) c0)) ?_
  clear hA fr; intro fr hA
  refine plan_mem (mC (f := 20) (args := [.agg #[.slice cp cs.length kc, .slice dp ds.length kd, i64 z, i64 et]]) (d := (some 55)) hA Tryd.func20 ((list_any cp dp kc kd cs ds z et _ hc hd (hT.keep hO.only (fun h => h)) (hP.keep hO.only) (hs.keep hO.only) hkc hv).mono ?_))
  rintro en w16 ⟨p1, c1, T1, rfl, hW, hT1⟩
  refine ⟨_, rfl, ?_⟩
  clear hA fr; intro fr hA
  replace hO : Ow Tryd.prog none' w _ ([(b2, 27, [.slice cp cs.length kc, .slice dp ds.length kd, i64 z, i64 et]), (b1, 24, [.slice cp cs.length kc, .slice dp ds.length kd, i64 z, i64 et])]) := hO; replace hO := Ow.join hO hW; clear hW
  replace hO : Ow Tryd.prog none' w w16 ([(b2, 27, [.slice cp cs.length kc, .slice dp ds.length kd, i64 z, i64 et]), (b1, 24, [.slice cp cs.length kc, .slice dp ds.length kd, i64 z, i64 et])] ++ (T1 ++ ([]))) := hO.to (by simp only [List.append_assoc, List.cons_append, List.nil_append, List.append_nil])
  refine ⟨(hO.sub [0, 1]), ?_⟩
  replace hA := hA.sb (e' := [(2, bl false), (53, bl true), (55, .slice p1 ((listL cs (cs.length / 4)).length) c1), (56, .agg #[.slice cp cs.length kc, .slice dp ds.length kd, i64 z, i64 et])])
  refine plan_mem (mC (f := 21) (args := [.agg #[.slice cp cs.length kc, .slice dp ds.length kd, i64 z, i64 et]]) (d := (some 57)) hA Tryd.func21 ((rlist_any cp dp kc kd cs ds z et _ hc hd (hs.keep hO.only) hkc hv).mono ?_))
  rintro en w17 ⟨p2, c2, T2, rfl, hW, hT2⟩
  refine ⟨_, rfl, ?_⟩
  clear hA fr; intro fr hA
  replace hO := Ow.join hO hW; clear hW
  replace hO : Ow Tryd.prog none' w w17 ([(b2, 27, [.slice cp cs.length kc, .slice dp ds.length kd, i64 z, i64 et]), (b1, 24, [.slice cp cs.length kc, .slice dp ds.length kd, i64 z, i64 et])] ++ (T1 ++ (T2 ++ ([])))) := hO.to (by simp only [List.append_assoc, List.cons_append, List.nil_append, List.append_nil])
  refine ⟨(hO.sub [0, 1]), ?_⟩
  replace hA := hA.sb (e' := [(2, bl false), (53, bl true), (55, .slice p1 ((listL cs (cs.length / 4)).length) c1), (57, .slice p2 ((listL cs (cs.length / 4)).length) c2)])
  refine plan_mem (mK (f := 19) (args := [.slice p1 ((listL cs (cs.length / 4)).length) c1, .slice p2 ((listL cs (cs.length / 4)).length) c2]) (d := (some 58)) (v := bl true) hA hO Tryd.func19 (ss_any (listL cs (cs.length / 4)) _ _ _ (hT1.vw (A := [(b2, 27, [.slice cp cs.length kc, .slice dp ds.length kd, i64 z, i64 et]), (b1, 24, [.slice cp cs.length kc, .slice dp ds.length kd, i64 z, i64 et])]) (B := T2 ++ ([])) hO.m) (hT2.vw (A := ([(b2, 27, [.slice cp cs.length kc, .slice dp ds.length kd, i64 z, i64 et]), (b1, 24, [.slice cp cs.length kc, .slice dp ds.length kd, i64 z, i64 et])] ++ (T1 ++ ([])))) (B := []) (hO.to (by simp only [List.append_assoc, List.cons_append, List.nil_append, List.append_nil]) : Ow Tryd.prog none' w _ (([(b2, 27, [.slice cp cs.length kc, .slice dp ds.length kd, i64 z, i64 et]), (b1, 24, [.slice cp cs.length kc, .slice dp ds.length kd, i64 z, i64 et])] ++ (T1 ++ ([]))) ++ (T2 ++ ([])))).m) (by first | decide | (rw [listL_len]; omega))) ?_)
  clear hA hO fr; intro fr w18 hA hO
  refine ⟨(hO.sub [0, 1]), ?_⟩
  replace hA := hA.sb (e' := [(2, bl false), (53, bl true), (58, bl true)])
  refine ckS (l := [35, 36]) (r := []) (e' := [(2, bl true)]) hA [] c0 ?_
  clear hA fr; intro fr hA
  refine end_plan ?_
  refine then_normal ?_
  refine wp_ret ?_
  refine cR (cs := [none]) (us := [bl true]) hA [] trivial ?_
  have hF := hO.only; clear hA hO
  exact ⟨by first | rfl | simp [pack], hF⟩

theorem mk_ok (cp dp : Option Addr) (kc kd : Nat) (cs ds : List Int) (z et : Int) (w : World) (hT : Tab w) (hP : Pow w) (hs : SlI w (.slice cp cs.length kc) cs) (hs2 : SlI w (.slice dp ds.length kd) ds) (hkc : cs.length ≤ kc) (hz : inK .i64 z) (het : inK .i64 et) (hc : cs.length ≤ 2000) (hd : ds.length ≤ 2000) (hv : validB cs ((ds.length : Nat) : Int) z et = true) (hz0 : 0 ≤ z) (hz1 : z ≤ 3072) (hbig : (fileL cs ds z et).length ≤ 1536) :
    Calls Tryd.prog 5 #[.agg #[.slice cp cs.length kc, .slice dp ds.length kd, i64 z, i64 et]] w fun e w' => e = .returned (.bool true) ∧ Only none' w w' := by
  refine c_enter (args := [.agg #[.slice cp cs.length kc, .slice dp ds.length kd, i64 z, i64 et]]) (m := 59) (n := 60) Tryd.func5 rfl (by kernel_rfl) (by kernel_rfl) fun fr hA => ?_
  have hO := Ow.nil Tryd.prog none' w
  refine sR (l := [0, 1]) ?_
  refine wpOps_cons' (mN (l := [.slice cp cs.length kc, .slice dp ds.length kd, i64 z, i64 et]) (t := 24) (v := pt) (d := 1) hA hO ?_)
  clear hA hO fr; intro fr w1 b1 hA hO
  replace hA := hA.sb (e' := [(1, pt b1)])
  refine ck (l := [1]) (r := []) (e' := [(1, pt b1), (2, bl false)]) hA [] c0 ?_
  clear hA fr; intro fr hA
  refine end_ops ?_
  refine then_normal ?_
  refine wp_seq ?_
  refine sR (l := [0, 1]) ?_
  refine wpOps_cons' (mK (f := 6) (args := []) (d := (some 8)) (v := bl true) hA hO Tryd.func6 (awake_any _ (hT.keep hO.only (fun h => h))) ?_)
  clear hA hO fr; intro fr w2 hA hO
  refine ck (l := [1]) (r := []) (e' := [(1, pt b1), (2, bl false), (9, bl false)]) hA [] c0 ?_
  clear hA fr; intro fr hA
  refine end_ops ?_
  refine then_normal ?_
  refine cF hA ?_
  refine wp_skip ?_
  refine then_normal ?_
  refine wp_seq ?_
  refine sR (l := [0, 1, 2]) ?_
  refine ck (l := [0]) (r := [1, 2]) (e' := [(1, pt b1), (2, bl false), (10, .agg #[.slice cp cs.length kc, .slice dp ds.length kd, i64 z, i64 et])]) hA [.agg #[.slice cp cs.length kc, .slice dp ds.length kd, i64 z, i64 et]] (cc (hO.ln 0 0 24 [.slice cp cs.length kc, .slice dp ds.length kd, i64 z, i64 et]) c0) ?_
  clear hA fr; intro fr hA
  refine wpOps_cons' (mK (f := 7) (args := [.agg #[.slice cp cs.length kc, .slice dp ds.length kd, i64 z, i64 et]]) (d := (some 11)) (v := bl (decide (cs.length ≤ 2000 ∧ ds.length ≤ 2000))) hA hO Tryd.func7 (few_any cp dp kc kd cs ds z et _) ?_)
  clear hA hO fr; intro fr w3 hA hO
  replace hA := hA.sb (e' := [(1, pt b1), (2, bl false), (11, bl (decide (cs.length ≤ 2000 ∧ ds.length ≤ 2000)))])
  refine ck (l := [2]) (r := []) (e' := [(1, pt b1), (2, bl false), (12, bl (!(decide (cs.length ≤ 2000 ∧ ds.length ≤ 2000))))]) hA [] c0 ?_
  clear hA fr; intro fr hA
  refine end_ops ?_
  refine then_normal ?_
  replace hA := hA.bool (f := fun z_ => [(1, pt b1), (2, bl false), (12, .bool !z_)]) (decide_eq_true ⟨hc, hd⟩ : (decide (cs.length ≤ 2000 ∧ ds.length ≤ 2000)) = true)
  refine cF hA ?_
  refine wp_skip ?_
  refine then_normal ?_
  refine sR (l := [0, 1, 2]) ?_
  refine ck (l := [0]) (r := [1, 2]) (e' := [(1, pt b1), (2, bl false), (13, .agg #[.slice cp cs.length kc, .slice dp ds.length kd, i64 z, i64 et])]) hA [.agg #[.slice cp cs.length kc, .slice dp ds.length kd, i64 z, i64 et]] (cc (hO.ln 0 0 24 [.slice cp cs.length kc, .slice dp ds.length kd, i64 z, i64 et]) c0) ?_
  clear hA fr; intro fr hA
  refine wpOps_cons' (mN (l := [.slice none 0 0, .slice none 0 0, i64 0, i64 0]) (t := 27) (v := pt) (d := 3) hA hO ?_)
  clear hA hO fr; intro fr w4 b2 hA hO
  refine wpOps_cons' (mS (off := 0) (vc := [.slice cp cs.length kc, .slice dp ds.length kd, i64 z, i64 et]) 0 hA hO ?_)
  clear hO; intro w5 hO
  replace hA := hA.sb (e' := [(1, pt b1), (2, bl false), (3, pt b2)])
  refine end_ops ?_
  refine then_normal ?_
  refine sR (l := (rg 0 7)) ?_
  refine ck (l := [0]) (r := (rg 1 6)) (e' := [(1, pt b1), (2, bl false), (3, pt b2), (15, .agg #[.slice cp cs.length kc, .slice dp ds.length kd, i64 z, i64 et])]) hA [.agg #[.slice cp cs.length kc, .slice dp ds.length kd, i64 z, i64 et]] (cc (hO.ln 0 0 27 [.slice cp cs.length kc, .slice dp ds.length kd, i64 z, i64 et]) c0) ?_
  clear hA fr; intro fr hA
  refine wpOps_cons' (mC (f := 12) (args := [.agg #[.slice cp cs.length kc, .slice dp ds.length kd, i64 z, i64 et]]) (d := (some 16)) hA Tryd.func12 ((make_ok cp dp kc kd cs ds z et _ hc hd (hT.keep hO.only (fun h => h)) (hs.keep hO.only) hkc (hs2.keep hO.only) hv hz het hbig).mono ?_))
  rintro en w6 ⟨p1, c1, T1, rfl, hW, hT1⟩
  refine ⟨_, rfl, ?_⟩
  clear hA fr; intro fr hA
  have huT1 : U8s (fileL cs ds z et) := file_u8m hs hs2
  replace hO : Ow Tryd.prog none' w _ ([(b2, 27, [.slice cp cs.length kc, .slice dp ds.length kd, i64 z, i64 et]), (b1, 24, [.slice cp cs.length kc, .slice dp ds.length kd, i64 z, i64 et])]) := hO; replace hO := Ow.join hO hW; clear hW
  replace hO : Ow Tryd.prog none' w w6 ([(b2, 27, [.slice cp cs.length kc, .slice dp ds.length kd, i64 z, i64 et]), (b1, 24, [.slice cp cs.length kc, .slice dp ds.length kd, i64 z, i64 et])] ++ (T1 ++ ([]))) := hO.to (by simp only [List.append_assoc, List.cons_append, List.nil_append, List.append_nil])
  replace hA := hA.sb (e' := [(1, pt b1), (2, bl false), (3, pt b2), (16, .tuple #[.slice p1 ((fileL cs ds z et).length) c1, i64 0])])
  refine ck (l := (rg 2 5)) (r := []) (e' := [(1, pt b1), (2, bl false), (3, pt b2), (4, .slice p1 ((fileL cs ds z et).length) c1), (5, i64 0)]) hA [] c0 ?_
  clear hA fr; intro fr hA
  refine end_ops ?_
  refine then_normal ?_
  refine sR (l := (rg 0 7)) ?_
  refine ck (l := [0]) (r := (rg 1 6)) (e' := [(1, pt b1), (2, bl false), (3, pt b2), (4, .slice p1 ((fileL cs ds z et).length) c1), (5, i64 0), (20, .agg #[.slice cp cs.length kc, .slice dp ds.length kd, i64 z, i64 et])]) hA [.agg #[.slice cp cs.length kc, .slice dp ds.length kd, i64 z, i64 et]] (cc (hO.ln 1 0 24 [.slice cp cs.length kc, .slice dp ds.length kd, i64 z, i64 et]) c0) ?_
  clear hA fr; intro fr hA
  refine wpOps_cons' (mC (f := 15) (args := [.agg #[.slice cp cs.length kc, .slice dp ds.length kd, i64 z, i64 et]]) (d := (some 21)) hA Tryd.func15 ((rmake_ok cp dp kc kd cs ds z et _ hc hd (hs.keep hO.only) hkc (hs2.keep hO.only) hv hz het hbig).mono ?_))
  rintro en w7 ⟨p2, c2, T2, rfl, hW, hT2⟩
  refine ⟨_, rfl, ?_⟩
  clear hA fr; intro fr hA
  have huT2 : U8s (fileL cs ds z et) := file_u8m hs hs2
  replace hO := Ow.join hO hW; clear hW
  replace hO : Ow Tryd.prog none' w w7 ([(b2, 27, [.slice cp cs.length kc, .slice dp ds.length kd, i64 z, i64 et]), (b1, 24, [.slice cp cs.length kc, .slice dp ds.length kd, i64 z, i64 et])] ++ (T1 ++ (T2 ++ ([])))) := hO.to (by simp only [List.append_assoc, List.cons_append, List.nil_append, List.append_nil])
  replace hA := hA.sb (e' := [(1, pt b1), (2, bl false), (3, pt b2), (4, .slice p1 ((fileL cs ds z et).length) c1), (5, i64 0), (21, .tuple #[.slice p2 ((fileL cs ds z et).length) c2, i64 0])])
  refine ck (l := (rg 2 5)) (r := []) (e' := [(1, pt b1), (2, bl false), (3, pt b2), (4, .slice p1 ((fileL cs ds z et).length) c1), (5, i64 0), (6, .slice p2 ((fileL cs ds z et).length) c2), (7, i64 0)]) hA [] c0 ?_
  clear hA fr; intro fr hA
  refine end_ops ?_
  refine then_normal ?_
  refine wp_seq ?_
  have hS : Ow Tryd.prog none' w _ [(b2, 27, [.slice cp cs.length kc, .slice dp ds.length kd, i64 z, i64 et]), (b1, 24, [.slice cp cs.length kc, .slice dp ds.length kd, i64 z, i64 et])] := hO.sub [0, 1]
  refine rP [(0, true), (1, true), (2, true), (3, true), (4, true), (5, true), (6, false), (7, true), (8, true), (9, true), (11, true), (10, false), (12, false), (13, true), (14, true), (15, true), (16, true), (18, true), (17, false), (19, false), (20, true), (21, true), (22, true), (23, true), (25, true), (24, false), (26, false), (27, true), (28, true), (29, true), (30, true), (32, true), (31, false), (33, false), (34, false), (35, true), (36, true)] hS ?_
  intro w8 ho; replace hO := hO.st ho; clear ho
  refine ckS (l := (rg 0 6)) (r := [(6, false), (7, true), (8, true), (9, true), (11, true), (10, false), (12, false), (13, true), (14, true), (15, true), (16, true), (18, true), (17, false), (19, false), (20, true), (21, true), (22, true), (23, true), (25, true), (24, false), (26, false), (27, true), (28, true), (29, true), (30, true), (32, true), (31, false), (33, false), (34, false), (35, true), (36, true)]) (e' := [(1, pt b1), (2, bl false), (3, pt b2), (27, bl true), (28, .slice p1 ((fileL cs ds z et).length) c1), (29, .slice p2 ((fileL cs ds z et).length) c2)]) hA [] c0 ?_
  clear hA fr; intro fr hA
  refine plan_mem (mK (f := 13) (args := [.slice p1 ((fileL cs ds z et).length) c1, .slice p2 ((fileL cs ds z et).length) c2]) (d := (some 30)) (v := bl true) hA hO Tryd.func13 (rs (same_any (fileL cs ds z et) (fileL cs ds z et) _ _ _ (Vw.sl (hT1.vw (A := [(b2, 27, [.slice cp cs.length kc, .slice dp ds.length kd, i64 z, i64 et]), (b1, 24, [.slice cp cs.length kc, .slice dp ds.length kd, i64 z, i64 et])]) (B := T2 ++ ([])) hO.m) huT1) (Vw.sl (hT2.vw (A := ([(b2, 27, [.slice cp cs.length kc, .slice dp ds.length kd, i64 z, i64 et]), (b1, 24, [.slice cp cs.length kc, .slice dp ds.length kd, i64 z, i64 et])] ++ (T1 ++ ([])))) (B := []) (hO.to (by simp only [List.append_assoc, List.cons_append, List.nil_append, List.append_nil]) : Ow Tryd.prog none' w _ (([(b2, 27, [.slice cp cs.length kc, .slice dp ds.length kd, i64 z, i64 et]), (b1, 24, [.slice cp cs.length kc, .slice dp ds.length kd, i64 z, i64 et])] ++ (T1 ++ ([]))) ++ (T2 ++ ([])))).m) huT2)) (congrArg Value.bool (decide_eq_true rfl))) ?_)
  clear hA hO fr; intro fr w9 hA hO
  refine ⟨(hO.sub [0, 1]), ?_⟩
  replace hA := hA.sb (e' := [(1, pt b1), (2, bl false), (3, pt b2), (27, bl true), (30, bl true)])
  refine ckS (l := [7, 8, 9, 11]) (r := [(10, false), (12, false), (13, true), (14, true), (15, true), (16, true), (18, true), (17, false), (19, false), (20, true), (21, true), (22, true), (23, true), (25, true), (24, false), (26, false), (27, true), (28, true), (29, true), (30, true), (32, true), (31, false), (33, false), (34, false), (35, true), (36, true)]) (e' := [(1, pt b1), (2, bl false), (3, pt b2), (32, bl true), (33, .agg #[.slice cp cs.length kc, .slice dp ds.length kd, i64 z, i64 et]), (35, .agg #[.slice cp cs.length kc, .slice dp ds.length kd, i64 z, i64 et])]) hA [.agg #[.slice cp cs.length kc, .slice dp ds.length kd, i64 z, i64 et], .agg #[.slice cp cs.length kc, .slice dp ds.length kd, i64 z, i64 et]] (cc (hS.sn 0 0 27 [.slice cp cs.length kc, .slice dp ds.length kd, i64 z, i64 et]) (cc (hS.sn 1 0 24 [.slice cp cs.length kc, .slice dp ds.length kd, i64 z, i64 et]) c0)) ?_
  clear hA fr; intro fr hA
  refine plan_mem (mK (f := 9) (args := [.agg #[.slice cp cs.length kc, .slice dp ds.length kd, i64 z, i64 et]]) (d := (some 34)) (v := bl true) hA hO Tryd.func9 (rs (valid_any cp dp kc kd cs ds z et _ hc hd (hT.keep hO.only (fun h => h)) (hs.keep hO.only) hkc) (congrArg Value.bool hv)) ?_)
  clear hA hO fr; intro fr w10 hA hO
  refine ⟨(hO.sub [0, 1]), ?_⟩
  replace hA := hA.sb (e' := [(1, pt b1), (2, bl false), (3, pt b2), (32, bl true), (34, bl true), (35, .agg #[.slice cp cs.length kc, .slice dp ds.length kd, i64 z, i64 et])])
  refine plan_mem (mK (f := 16) (args := [.agg #[.slice cp cs.length kc, .slice dp ds.length kd, i64 z, i64 et]]) (d := (some 36)) (v := bl true) hA hO Tryd.func16 (rs (rvalid_any cp dp kc kd cs ds z et _ hc hd (hs.keep hO.only) hkc) (congrArg Value.bool hv)) ?_)
  clear hA hO fr; intro fr w11 hA hO
  refine ⟨(hO.sub [0, 1]), ?_⟩
  replace hA := hA.sb (e' := [(1, pt b1), (2, bl false), (3, pt b2), (32, bl true), (34, bl true), (36, bl true)])
  refine ckS (l := [13, 14, 15, 16, 18]) (r := [(17, false), (19, false), (20, true), (21, true), (22, true), (23, true), (25, true), (24, false), (26, false), (27, true), (28, true), (29, true), (30, true), (32, true), (31, false), (33, false), (34, false), (35, true), (36, true)]) (e' := [(1, pt b1), (2, bl false), (3, pt b2), (39, bl true), (40, .agg #[.slice cp cs.length kc, .slice dp ds.length kd, i64 z, i64 et]), (42, .agg #[.slice cp cs.length kc, .slice dp ds.length kd, i64 z, i64 et])]) hA [.agg #[.slice cp cs.length kc, .slice dp ds.length kd, i64 z, i64 et], .agg #[.slice cp cs.length kc, .slice dp ds.length kd, i64 z, i64 et]] (cc (hS.sn 0 0 27 [.slice cp cs.length kc, .slice dp ds.length kd, i64 z, i64 et]) (cc (hS.sn 1 0 24 [.slice cp cs.length kc, .slice dp ds.length kd, i64 z, i64 et]) c0)) ?_
  clear hA fr; intro fr hA
  refine plan_mem (mK (f := 10) (args := [.agg #[.slice cp cs.length kc, .slice dp ds.length kd, i64 z, i64 et]]) (d := (some 41)) (v := i64 (endP ((cs.length : Nat) : Int) ((ds.length : Nat) : Int) z / 128)) hA hO Tryd.func10 (size_ok cp dp kc kd cs ds z et _ hc hd (hT.keep hO.only (fun h => h)) (hs.keep hO.only) hkc (hs2.keep hO.only) hv hz0 hz1) ?_)
  clear hA hO fr; intro fr w12 hA hO
  refine ⟨(hO.sub [0, 1]), ?_⟩
  replace hA := hA.sb (e' := [(1, pt b1), (2, bl false), (3, pt b2), (39, bl true), (41, i64 (endP ((cs.length : Nat) : Int) ((ds.length : Nat) : Int) z / 128)), (42, .agg #[.slice cp cs.length kc, .slice dp ds.length kd, i64 z, i64 et])])
  refine plan_mem (mK (f := 17) (args := [.agg #[.slice cp cs.length kc, .slice dp ds.length kd, i64 z, i64 et]]) (d := (some 43)) (v := i64 (endP ((cs.length : Nat) : Int) ((ds.length : Nat) : Int) z / 128)) hA hO Tryd.func17 (rsize_ok cp dp kc kd cs ds z et _ hc hd (hs.keep hO.only) hkc (hs2.keep hO.only) hv hz0 hz1) ?_)
  clear hA hO fr; intro fr w13 hA hO
  refine ⟨(hO.sub [0, 1]), ?_⟩
  replace hA := hA.sb (e' := [(1, pt b1), (2, bl false), (3, pt b2), (39, bl true), (41, i64 (endP ((cs.length : Nat) : Int) ((ds.length : Nat) : Int) z / 128)), (43, i64 (endP ((cs.length : Nat) : Int) ((ds.length : Nat) : Int) z / 128))])
  refine ckS (l := [20, 21, 22]) (r := [(23, true), (25, true), (24, false), (26, false), (27, true), (28, true), (29, true), (30, true), (32, true), (31, false), (33, false), (34, false), (35, true), (36, true)]) (e' := [(1, pt b1), (2, bl false), (3, pt b2), (44, bl ((endP ((cs.length : Nat) : Int) ((ds.length : Nat) : Int) z / 128) == (endP ((cs.length : Nat) : Int) ((ds.length : Nat) : Int) z / 128))), (45, bl ((endP ((cs.length : Nat) : Int) ((ds.length : Nat) : Int) z / 128) == (endP ((cs.length : Nat) : Int) ((ds.length : Nat) : Int) z / 128))), (46, bl ((endP ((cs.length : Nat) : Int) ((ds.length : Nat) : Int) z / 128) == (endP ((cs.length : Nat) : Int) ((ds.length : Nat) : Int) z / 128)))]) hA [] c0 ?_
  clear hA fr; intro fr hA
  replace hA := hA.bool (f := fun z_ => [(1, pt b1), (2, bl false), (3, pt b2), (44, .bool z_), (45, .bool z_), (46, .bool z_)]) (beq_self_eq_true _ : ((endP ((cs.length : Nat) : Int) ((ds.length : Nat) : Int) z / 128) == (endP ((cs.length : Nat) : Int) ((ds.length : Nat) : Int) z / 128)) = true)
  refine ckS (l := [23, 25]) (r := [(24, false), (26, false), (27, true), (28, true), (29, true), (30, true), (32, true), (31, false), (33, false), (34, false), (35, true), (36, true)]) (e' := [(1, pt b1), (2, bl false), (3, pt b2), (46, bl true), (47, .agg #[.slice cp cs.length kc, .slice dp ds.length kd, i64 z, i64 et]), (49, .agg #[.slice cp cs.length kc, .slice dp ds.length kd, i64 z, i64 et])]) hA [.agg #[.slice cp cs.length kc, .slice dp ds.length kd, i64 z, i64 et], .agg #[.slice cp cs.length kc, .slice dp ds.length kd, i64 z, i64 et]] (cc (hS.sn 0 0 27 [.slice cp cs.length kc, .slice dp ds.length kd, i64 z, i64 et]) (cc (hS.sn 1 0 24 [.slice cp cs.length kc, .slice dp ds.length kd, i64 z, i64 et]) c0)) ?_
  clear hA fr; intro fr hA
  refine plan_mem (mK (f := 11) (args := [.agg #[.slice cp cs.length kc, .slice dp ds.length kd, i64 z, i64 et]]) (d := (some 48)) (v := i64 (upP ((cs.length : Nat) : Int))) hA hO Tryd.func11 (dataat_ok cp dp kc kd cs ds z et _ hc hd (hT.keep hO.only (fun h => h)) (hs.keep hO.only) hkc (hs2.keep hO.only) hv hz0 hz1) ?_)
  clear hA hO fr; intro fr w14 hA hO
  refine ⟨(hO.sub [0, 1]), ?_⟩
  replace hA := hA.sb (e' := [(1, pt b1), (2, bl false), (3, pt b2), (46, bl true), (48, i64 (upP ((cs.length : Nat) : Int))), (49, .agg #[.slice cp cs.length kc, .slice dp ds.length kd, i64 z, i64 et])])
  refine plan_mem (mK (f := 18) (args := [.agg #[.slice cp cs.length kc, .slice dp ds.length kd, i64 z, i64 et]]) (d := (some 50)) (v := i64 (upP ((cs.length : Nat) : Int))) hA hO Tryd.func18 (rdataat_ok cp dp kc kd cs ds z et _ hc hd (hs.keep hO.only) hkc (hs2.keep hO.only) hv hz0 hz1) ?_)
  clear hA hO fr; intro fr w15 hA hO
  refine ⟨(hO.sub [0, 1]), ?_⟩
  replace hA := hA.sb (e' := [(1, pt b1), (2, bl false), (3, pt b2), (46, bl true), (48, i64 (upP ((cs.length : Nat) : Int))), (50, i64 (upP ((cs.length : Nat) : Int)))])
  refine ckS (l := [27, 28, 29]) (r := [(30, true), (32, true), (31, false), (33, false), (34, false), (35, true), (36, true)]) (e' := [(1, pt b1), (2, bl false), (3, pt b2), (51, bl ((upP ((cs.length : Nat) : Int)) == (upP ((cs.length : Nat) : Int)))), (52, bl ((upP ((cs.length : Nat) : Int)) == (upP ((cs.length : Nat) : Int)))), (53, bl ((upP ((cs.length : Nat) : Int)) == (upP ((cs.length : Nat) : Int))))]) hA [] c0 ?_
  clear hA fr; intro fr hA
  replace hA := hA.bool (f := fun z_ => [(1, pt b1), (2, bl false), (3, pt b2), (51, .bool z_), (52, .bool z_), (53, .bool z_)]) (beq_self_eq_true _ : ((upP ((cs.length : Nat) : Int)) == (upP ((cs.length : Nat) : Int))) = true)
  refine ckS (l := [30, 32]) (r := [(31, false), (33, false), (34, false), (35, true), (36, true)]) (e' := [(2, bl false), (53, bl true), (54, .agg #[.slice cp cs.length kc, .slice dp ds.length kd, i64 z, i64 et]), (56, .agg #[.slice cp cs.length kc, .slice dp ds.length kd, i64 z, i64 et])]) hA [.agg #[.slice cp cs.length kc, .slice dp ds.length kd, i64 z, i64 et], .agg #[.slice cp cs.length kc, .slice dp ds.length kd, i64 z, i64 et]] (cc (hS.sn 0 0 27 [.slice cp cs.length kc, .slice dp ds.length kd, i64 z, i64 et]) (cc (hS.sn 1 0 24 [.slice cp cs.length kc, .slice dp ds.length kd, i64 z, i64 et]) c0)) ?_
  clear hA fr; intro fr hA
  refine plan_mem (mC (f := 20) (args := [.agg #[.slice cp cs.length kc, .slice dp ds.length kd, i64 z, i64 et]]) (d := (some 55)) hA Tryd.func20 ((list_any cp dp kc kd cs ds z et _ hc hd (hT.keep hO.only (fun h => h)) (hP.keep hO.only) (hs.keep hO.only) hkc hv).mono ?_))
  rintro en w16 ⟨p3, c3, T3, rfl, hW, hT3⟩
  refine ⟨_, rfl, ?_⟩
  clear hA fr; intro fr hA
  replace hO := Ow.join hO hW; clear hW
  replace hO : Ow Tryd.prog none' w w16 ([(b2, 27, [.slice cp cs.length kc, .slice dp ds.length kd, i64 z, i64 et]), (b1, 24, [.slice cp cs.length kc, .slice dp ds.length kd, i64 z, i64 et])] ++ (T1 ++ (T2 ++ (T3 ++ ([]))))) := hO.to (by simp only [List.append_assoc, List.cons_append, List.nil_append, List.append_nil])
  refine ⟨(hO.sub [0, 1]), ?_⟩
  replace hA := hA.sb (e' := [(2, bl false), (53, bl true), (55, .slice p3 ((listL cs (cs.length / 4)).length) c3), (56, .agg #[.slice cp cs.length kc, .slice dp ds.length kd, i64 z, i64 et])])
  refine plan_mem (mC (f := 21) (args := [.agg #[.slice cp cs.length kc, .slice dp ds.length kd, i64 z, i64 et]]) (d := (some 57)) hA Tryd.func21 ((rlist_any cp dp kc kd cs ds z et _ hc hd (hs.keep hO.only) hkc hv).mono ?_))
  rintro en w17 ⟨p4, c4, T4, rfl, hW, hT4⟩
  refine ⟨_, rfl, ?_⟩
  clear hA fr; intro fr hA
  replace hO := Ow.join hO hW; clear hW
  replace hO : Ow Tryd.prog none' w w17 ([(b2, 27, [.slice cp cs.length kc, .slice dp ds.length kd, i64 z, i64 et]), (b1, 24, [.slice cp cs.length kc, .slice dp ds.length kd, i64 z, i64 et])] ++ (T1 ++ (T2 ++ (T3 ++ (T4 ++ ([])))))) := hO.to (by simp only [List.append_assoc, List.cons_append, List.nil_append, List.append_nil])
  refine ⟨(hO.sub [0, 1]), ?_⟩
  replace hA := hA.sb (e' := [(2, bl false), (53, bl true), (55, .slice p3 ((listL cs (cs.length / 4)).length) c3), (57, .slice p4 ((listL cs (cs.length / 4)).length) c4)])
  refine plan_mem (mK (f := 19) (args := [.slice p3 ((listL cs (cs.length / 4)).length) c3, .slice p4 ((listL cs (cs.length / 4)).length) c4]) (d := (some 58)) (v := bl true) hA hO Tryd.func19 (ss_any (listL cs (cs.length / 4)) _ _ _ (hT3.vw (A := ([(b2, 27, [.slice cp cs.length kc, .slice dp ds.length kd, i64 z, i64 et]), (b1, 24, [.slice cp cs.length kc, .slice dp ds.length kd, i64 z, i64 et])] ++ (T1 ++ (T2 ++ ([]))))) (B := T4 ++ ([])) (hO.to (by simp only [List.append_assoc, List.cons_append, List.nil_append, List.append_nil]) : Ow Tryd.prog none' w _ (([(b2, 27, [.slice cp cs.length kc, .slice dp ds.length kd, i64 z, i64 et]), (b1, 24, [.slice cp cs.length kc, .slice dp ds.length kd, i64 z, i64 et])] ++ (T1 ++ (T2 ++ ([])))) ++ (T3 ++ (T4 ++ ([]))))).m) (hT4.vw (A := ([(b2, 27, [.slice cp cs.length kc, .slice dp ds.length kd, i64 z, i64 et]), (b1, 24, [.slice cp cs.length kc, .slice dp ds.length kd, i64 z, i64 et])] ++ (T1 ++ (T2 ++ (T3 ++ ([])))))) (B := []) (hO.to (by simp only [List.append_assoc, List.cons_append, List.nil_append, List.append_nil]) : Ow Tryd.prog none' w _ (([(b2, 27, [.slice cp cs.length kc, .slice dp ds.length kd, i64 z, i64 et]), (b1, 24, [.slice cp cs.length kc, .slice dp ds.length kd, i64 z, i64 et])] ++ (T1 ++ (T2 ++ (T3 ++ ([]))))) ++ (T4 ++ ([])))).m) (by first | decide | (rw [listL_len]; omega))) ?_)
  clear hA hO fr; intro fr w18 hA hO
  refine ⟨(hO.sub [0, 1]), ?_⟩
  replace hA := hA.sb (e' := [(2, bl false), (53, bl true), (58, bl true)])
  refine ckS (l := [35, 36]) (r := []) (e' := [(2, bl true)]) hA [] c0 ?_
  clear hA fr; intro fr hA
  refine end_plan ?_
  refine then_normal ?_
  refine wp_ret ?_
  refine cR (cs := [none]) (us := [bl true]) hA [] trivial ?_
  have hF := hO.only; clear hA hO
  exact ⟨by first | rfl | simp [pack], hF⟩

theorem law_make (cp dp : Option Addr) (kc kd : Nat) (cs ds : List Int) (z et : Int) (w : World) (hT : Tab w) (hP : Pow w) (hs : SlI w (.slice cp cs.length kc) cs) (hs2 : SlI w (.slice dp ds.length kd) ds) (hkc : cs.length ≤ kc) (hz : inK .i64 z) (het : inK .i64 et) : Calls Tryd.prog 5 #[.agg #[.slice cp cs.length kc, .slice dp ds.length kd, i64 z, i64 et]] w fun e w' => e = .returned (.bool true) ∧ Only none' w w' := by
  by_cases hf : cs.length ≤ 2000 ∧ ds.length ≤ 2000
  · obtain ⟨hc, hd⟩ := hf
    cases hv : validB cs ((ds.length : Nat) : Int) z et with
    | false => exact mk_bad cp dp kc kd cs ds z et w hT hP hs hs2 hkc hz het hc hd hv
    | true =>
      have hv' := hv
      simp only [validB, headB, Bool.and_eq_true, decide_eq_true_eq] at hv'
      obtain ⟨⟨g1, g2, g3, g4, g5, g6, g7, g8⟩, _⟩ := hv'
      by_cases hb : (fileL cs ds z et).length ≤ 1536
      · exact mk_ok cp dp kc kd cs ds z et w hT hP hs hs2 hkc hz het hc hd hv g6 g7 hb
      · exact mk_big cp dp kc kd cs ds z et w hT hP hs hs2 hkc hz het hc hd hv g6 g7 (Nat.lt_of_not_le hb)
  · exact mk_few cp dp kc kd cs ds z et w hT hP hs hs2 hkc hz het hf

end Go.Proofs.YtkfnkcpdabdboaaDoor
