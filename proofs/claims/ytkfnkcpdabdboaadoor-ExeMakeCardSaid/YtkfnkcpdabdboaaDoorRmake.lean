/- The layer exe: the reference: Make, Size, DataAt. -/
import Derived.Test.YtkfnkcpdabdboaaDoorRsums
import Derived.Test.YtkfnkcpdabdboaaDoorMake
set_option linter.unusedVariables false
set_option linter.unusedSimpArgs false
set_option maxRecDepth 10000
namespace Go.Proofs.YtkfnkcpdabdboaaDoor
open Go Go.RowKit Go.Proofs.Sx

theorem sumO_b (xs : List Int) : 0 ≤ sumO xs ∧ sumO xs < 18446744073709551616 := by
  unfold sumO sumF
  rw [← leL_succ _ 7, List.foldl_append]
  generalize (List.foldl stepF _ (leL _ 7)) = q
  show 0 ≤ stepF q _ ∧ stepF q _ < _
  unfold stepF bits
  have h := wrap_inK .u64
  rw [show ∀ z, IntKind.u64.wrap z = z % 18446744073709551616 from u64_mod]
  omega

theorem rmake_bad (cp dp : Option Addr) (kc kd : Nat) (cs ds : List Int) (z et : Int) (w : World) (hc : cs.length ≤ 2000) (hd : ds.length ≤ 2000) (hs : SlI w (.slice cp cs.length kc) cs) (hkc : cs.length ≤ kc) (hs2 : SlI w (.slice dp ds.length kd) ds) (hv : validB cs ((ds.length : Nat) : Int) z et = false) :
    Calls Tryd.prog 15 #[.agg #[.slice cp cs.length kc, .slice dp ds.length kd, i64 z, i64 et]] w fun e w' => e = .returned (.tuple #[.slice none 0 0, .int .i64 1]) ∧ Only none' w w' := by
  refine c_enter (args := [.agg #[.slice cp cs.length kc, .slice dp ds.length kd, i64 z, i64 et]]) (m := 36) (n := 37) Tryd.func15 rfl (by kernel_rfl) (by kernel_rfl) fun fr hA => ?_
  have hO := Ow.nil Tryd.prog none' w
  refine sR (l := [0, 1, 2]) ?_
  refine wpOps_cons' (mN (l := [.slice cp cs.length kc, .slice dp ds.length kd, i64 z, i64 et]) (t := 24) (v := pt) (d := 1) hA hO ?_)
  clear hA hO fr; intro fr w1 b1 hA hO
  replace hA := hA.sb (e' := [(1, pt b1)])
  refine ck (l := [1, 2]) (r := []) (e' := [(1, pt b1), (2, .slice none 0 0), (3, i64 0)]) hA [] c0 ?_
  clear hA fr; intro fr hA
  refine end_ops ?_
  refine then_normal ?_
  refine wp_seq ?_
  refine sR (l := [0, 1, 2]) ?_
  refine ck (l := [0]) (r := [1, 2]) (e' := [(1, pt b1), (2, .slice none 0 0), (3, i64 0), (5, .agg #[.slice cp cs.length kc, .slice dp ds.length kd, i64 z, i64 et])]) hA [.agg #[.slice cp cs.length kc, .slice dp ds.length kd, i64 z, i64 et]] (cc (hO.ln 0 0 24 [.slice cp cs.length kc, .slice dp ds.length kd, i64 z, i64 et]) c0) ?_
  clear hA fr; intro fr hA
  refine wpOps_cons' (mK (f := 16) (args := [.agg #[.slice cp cs.length kc, .slice dp ds.length kd, i64 z, i64 et]]) (d := (some 6)) (v := bl false) hA hO Tryd.func16 (rs (rvalid_any cp dp kc kd cs ds z et _ hc hd (hs.keep hO.only) hkc) (congrArg Value.bool hv)) ?_)
  clear hA hO fr; intro fr w2 hA hO
  replace hA := hA.sb (e' := [(1, pt b1), (2, .slice none 0 0), (3, i64 0), (6, bl false)])
  refine ck (l := [2]) (r := []) (e' := [(1, pt b1), (2, .slice none 0 0), (3, i64 0), (7, bl true)]) hA [] c0 ?_
  clear hA fr; intro fr hA
  refine end_ops ?_
  refine then_normal ?_
  refine cT hA ?_
  refine sC (e' := [(1, pt b1), (2, .slice none 0 0), (3, i64 1)]) 2 hA [] c0 ?_
  clear hA fr; intro fr hA
  refine wp_ret ?_
  refine then_ret ?_
  refine cR (cs := [none, none]) (us := [.slice none 0 0, i64 1]) hA [] trivial ?_
  have hF := hO.only; clear hA hO
  exact ⟨rfl, hF⟩

theorem rmake_big (cp dp : Option Addr) (kc kd : Nat) (cs ds : List Int) (z et : Int) (w : World) (hc : cs.length ≤ 2000) (hd : ds.length ≤ 2000) (hs : SlI w (.slice cp cs.length kc) cs) (hkc : cs.length ≤ kc) (hs2 : SlI w (.slice dp ds.length kd) ds) (hv : validB cs ((ds.length : Nat) : Int) z et = true) (hz : inK .i64 z) (het : inK .i64 et) (hbig : 1536 < (fileL cs ds z et).length) :
    Calls Tryd.prog 15 #[.agg #[.slice cp cs.length kc, .slice dp ds.length kd, i64 z, i64 et]] w fun e w' => e = .returned (.tuple #[.slice none 0 0, .int .i64 6]) ∧ Only none' w w' := by
  refine c_enter (args := [.agg #[.slice cp cs.length kc, .slice dp ds.length kd, i64 z, i64 et]]) (m := 36) (n := 37) Tryd.func15 rfl (by kernel_rfl) (by kernel_rfl) fun fr hA => ?_
  have hO := Ow.nil Tryd.prog none' w
  have le1 := encI_len et; have le2 := encI_len z; have le3 := encI_len ((cs.length : Nat) : Int); have le4 := encI_len ((ds.length : Nat) : Int)
  refine sR (l := [0, 1, 2]) ?_
  refine wpOps_cons' (mN (l := [.slice cp cs.length kc, .slice dp ds.length kd, i64 z, i64 et]) (t := 24) (v := pt) (d := 1) hA hO ?_)
  clear hA hO fr; intro fr w1 b1 hA hO
  replace hA := hA.sb (e' := [(1, pt b1)])
  refine ck (l := [1, 2]) (r := []) (e' := [(1, pt b1), (2, .slice none 0 0), (3, i64 0)]) hA [] c0 ?_
  clear hA fr; intro fr hA
  refine end_ops ?_
  refine then_normal ?_
  refine wp_seq ?_
  refine sR (l := [0, 1, 2]) ?_
  refine ck (l := [0]) (r := [1, 2]) (e' := [(1, pt b1), (2, .slice none 0 0), (3, i64 0), (5, .agg #[.slice cp cs.length kc, .slice dp ds.length kd, i64 z, i64 et])]) hA [.agg #[.slice cp cs.length kc, .slice dp ds.length kd, i64 z, i64 et]] (cc (hO.ln 0 0 24 [.slice cp cs.length kc, .slice dp ds.length kd, i64 z, i64 et]) c0) ?_
  clear hA fr; intro fr hA
  refine wpOps_cons' (mK (f := 16) (args := [.agg #[.slice cp cs.length kc, .slice dp ds.length kd, i64 z, i64 et]]) (d := (some 6)) (v := bl true) hA hO Tryd.func16 (rs (rvalid_any cp dp kc kd cs ds z et _ hc hd (hs.keep hO.only) hkc) (congrArg Value.bool hv)) ?_)
  clear hA hO fr; intro fr w2 hA hO
  replace hA := hA.sb (e' := [(1, pt b1), (2, .slice none 0 0), (3, i64 0), (6, bl true)])
  refine ck (l := [2]) (r := []) (e' := [(1, pt b1), (2, .slice none 0 0), (3, i64 0), (7, bl false)]) hA [] c0 ?_
  clear hA fr; intro fr hA
  refine end_ops ?_
  refine then_normal ?_
  refine cF hA ?_
  refine wp_skip ?_
  refine then_normal ?_
  refine sR (l := [0, 1, 2, 3, 4, 5, 6]) ?_
  refine wpOps_cons' (mN (l := [u8 82, u8 84, u8 78, u8 49]) (t := 5) (v := fun b => .slice (some ⟨b, 0, none⟩) 4 4) (d := 8) hA hO ?_)
  clear hA hO fr; intro fr w3 b2 hA hO
  replace hA := hA.sb (e' := [(1, pt b1), (2, .slice none 0 0), (3, i64 0), (8, .slice (some ⟨b2, 0, none⟩) 4 4)])
  refine wpOps_cons' (mV (L := [(b2, 5, [u8 82, u8 84, u8 78, u8 49]), (b1, 24, [.slice cp cs.length kc, .slice dp ds.length kd, i64 z, i64 et])]) (t := 22) (el := 5) (off := 0) (m := 4) (c := 4) (d := 9) 0 hA hO ?_)
  clear hA hO fr; intro fr w4 hA hO
  replace hA := hA.sb (e' := [(1, pt b1), (2, .slice none 0 0), (3, i64 0), (9, .slice (some ⟨b2, 0, none⟩) 4 4)])
  refine ck (l := [2, 3]) (r := [4, 5, 6]) (e' := [(1, pt b1), (2, .slice none 0 0), (3, i64 0), (9, .slice (some ⟨b2, 0, none⟩) 4 4), (11, i64 et)]) hA [i64 et] (cc (hO.l1 1 3 3 (i64 et)) c0) ?_
  clear hA fr; intro fr hA
  refine wpOps_cons' (mC (f := 28) (args := [i64 et]) (d := (some 12)) hA Tryd.func28 ((rint_any et _ het).mono ?_))
  rintro en w5 ⟨p1, c1, T1, rfl, hW, hT1⟩
  refine ⟨_, rfl, ?_⟩
  clear hA fr; intro fr hA
  have huT1 : U8s (encI et) := encI_u8 _
  replace hO : Ow Tryd.prog none' w _ ([(b2, 5, [u8 82, u8 84, u8 78, u8 49]), (b1, 24, [.slice cp cs.length kc, .slice dp ds.length kd, i64 z, i64 et])]) := hO; replace hO := Ow.join hO hW; clear hW
  replace hO : Ow Tryd.prog none' w w5 ([(b2, 5, [u8 82, u8 84, u8 78, u8 49]), (b1, 24, [.slice cp cs.length kc, .slice dp ds.length kd, i64 z, i64 et])] ++ (T1 ++ ([]))) := hO.to (by simp only [List.append_assoc, List.cons_append, List.nil_append, List.append_nil])
  replace hA := hA.sb (e' := [(1, pt b1), (2, .slice none 0 0), (3, i64 0), (9, .slice (some ⟨b2, 0, none⟩) 4 4), (12, .slice p1 ((encI et).length) c1)])
  have hT2 : One fB 5 1 (some ⟨b2, 0, none⟩) 4 [82, 84, 78, 49] [(b2, 5, [u8 82, u8 84, u8 78, u8 49])] := One.ofBlk (r := []) (by kernel_rfl) (by first | decide | simp) (by decide) (by kernel_rfl)
  replace hO := Ow.move (A := []) (B := [(b1, 24, [.slice cp cs.length kc, .slice dp ds.length kd, i64 z, i64 et])]) (C := T1 ++ ([])) (x := (b2, 5, [u8 82, u8 84, u8 78, u8 49])) hO
  replace hO : Ow Tryd.prog none' w w5 ([(b1, 24, [.slice cp cs.length kc, .slice dp ds.length kd, i64 z, i64 et])] ++ ([(b2, 5, [u8 82, u8 84, u8 78, u8 49])] ++ (T1 ++ ([])))) := hO.to (by simp only [List.append_assoc, List.cons_append, List.nil_append, List.append_nil])
  replace hO : Ow Tryd.prog none' w w5 ([(b1, 24, [.slice cp cs.length kc, .slice dp ds.length kd, i64 z, i64 et])] ++ ([(b2, 5, [u8 82, u8 84, u8 78, u8 49])] ++ (T1 ++ ([])))) := hO
  refine wpOps_cons' (mA (f := fB) (el := 5) (sz := 1) (bytes := 1) (p := some ⟨b2, 0, none⟩) (c := 4) (l := [82, 84, 78, 49]) (l' := encI et) (T := [(b2, 5, [u8 82, u8 84, u8 78, u8 49])]) (t := 22) (tx := 22) (ty := 22) (x := .slice p1 ((encI et).length) c1) (d := 13) [(b1, 24, [.slice cp cs.length kc, .slice dp ds.length kd, i64 z, i64 et])] (T1 ++ ([])) encB hA hO hT2 (Vw.src (e' := 5) encB (hT1.vw (A := ([(b1, 24, [.slice cp cs.length kc, .slice dp ds.length kd, i64 z, i64 et])] ++ ([(b2, 5, [u8 82, u8 84, u8 78, u8 49])] ++ ([])))) (B := []) (hO.to (by simp only [List.append_assoc, List.cons_append, List.nil_append, List.append_nil]) : Ow Tryd.prog none' w _ (([(b1, 24, [.slice cp cs.length kc, .slice dp ds.length kd, i64 z, i64 et])] ++ ([(b2, 5, [u8 82, u8 84, u8 78, u8 49])] ++ ([]))) ++ (T1 ++ ([])))).m) (by kernel_rfl)) (by first | omega | (simp only [List.length_append, List.length_cons, List.length_nil, leL_len]; omega)) (by unfold maxLen; first | omega | (simp only [List.length_append, List.length_cons, List.length_nil, leL_len]; omega)) ?_)
  clear hA hO fr; intro fr w6 p2 c2 T3 hA hO hT3
  have huT3 : U8s (([82, 84, 78, 49]) ++ (encI et)) := (U8s.app (U8s.cons (inK_u8 (by decide) (by decide)) (U8s.cons (inK_u8 (by decide) (by decide)) (U8s.cons (inK_u8 (by decide) (by decide)) (U8s.cons (inK_u8 (by decide) (by decide)) U8s.nil)))) huT1)
  generalize hl_l1 : ([82, 84, 78, 49]) ++ (encI et) = l1 at hA hT3 huT3
  have hn_l1 := congrArg List.length hl_l1; simp only [List.length_append, List.length_cons, List.length_nil, leL_len] at hn_l1
  replace hA := hA.sb (e' := [(1, pt b1), (2, .slice none 0 0), (3, i64 0), (13, .slice p2 l1.length c2)])
  refine ck (l := [6]) (r := []) (e' := [(1, pt b1), (2, .slice none 0 0), (3, i64 0), (4, .slice p2 l1.length c2)]) hA [] c0 ?_
  clear hA fr; intro fr hA
  refine end_ops ?_
  refine then_normal ?_
  refine wp_seq ?_
  have hS : Ow Tryd.prog none' w _ [(b1, 24, [.slice cp cs.length kc, .slice dp ds.length kd, i64 z, i64 et])] := hO.sub [0]
  refine rP [(0, true), (1, true), (2, true), (5, true), (6, true), (3, false), (4, false), (7, false), (8, false), (9, true)] hS ?_
  intro w7 ho; replace hO := hO.st ho; clear ho
  refine ckS (l := [0, 1, 2, 5, 6]) (r := [(3, false), (4, false), (7, false), (8, false), (9, true)]) (e' := [(1, pt b1), (2, .slice none 0 0), (3, i64 0), (4, .slice p2 l1.length c2), (14, .slice p2 l1.length c2), (16, i64 z), (20, .slice cp cs.length kc)]) hA [i64 z, .slice cp cs.length kc] (cc (hS.s1 0 2 3 (i64 z)) (cc (hS.s1 0 0 22 (.slice cp cs.length kc)) c0)) ?_
  clear hA fr; intro fr hA
  refine plan_mem (mC (f := 28) (args := [i64 z]) (d := (some 17)) hA Tryd.func28 ((rint_any z _ hz).mono ?_))
  rintro en w8 ⟨p3, c3, T4, rfl, hW, hT4⟩
  refine ⟨_, rfl, ?_⟩
  clear hA fr; intro fr hA
  have huT4 : U8s (encI z) := encI_u8 _
  replace hO := Ow.join hO hW; clear hW
  replace hO : Ow Tryd.prog none' w w8 ([(b1, 24, [.slice cp cs.length kc, .slice dp ds.length kd, i64 z, i64 et])] ++ (T3 ++ (T1 ++ (T4 ++ ([]))))) := hO.to (by simp only [List.append_assoc, List.cons_append, List.nil_append, List.append_nil])
  refine ⟨(hO.sub [0]), ?_⟩
  replace hA := hA.sb (e' := [(1, pt b1), (2, .slice none 0 0), (3, i64 0), (4, .slice p2 l1.length c2), (14, .slice p2 l1.length c2), (17, .slice p3 ((encI z).length) c3), (20, .slice cp cs.length kc)])
  replace hO : Ow Tryd.prog none' w w8 ([(b1, 24, [.slice cp cs.length kc, .slice dp ds.length kd, i64 z, i64 et])] ++ (T3 ++ (T1 ++ (T4 ++ ([]))))) := hO
  refine plan_mem (mA (f := fB) (el := 5) (sz := 1) (bytes := 1) (p := p2) (c := c2) (l := l1) (l' := encI z) (T := T3) (t := 22) (tx := 22) (ty := 22) (x := .slice p3 ((encI z).length) c3) (d := 18) [(b1, 24, [.slice cp cs.length kc, .slice dp ds.length kd, i64 z, i64 et])] (T1 ++ (T4 ++ ([]))) encB hA hO hT3 (Vw.src (e' := 5) encB (hT4.vw (A := ([(b1, 24, [.slice cp cs.length kc, .slice dp ds.length kd, i64 z, i64 et])] ++ (T3 ++ (T1 ++ ([]))))) (B := []) (hO.to (by simp only [List.append_assoc, List.cons_append, List.nil_append, List.append_nil]) : Ow Tryd.prog none' w _ (([(b1, 24, [.slice cp cs.length kc, .slice dp ds.length kd, i64 z, i64 et])] ++ (T3 ++ (T1 ++ ([])))) ++ (T4 ++ ([])))).m) (by kernel_rfl)) (by first | omega | (simp only [List.length_append, List.length_cons, List.length_nil, leL_len]; omega)) (by unfold maxLen; first | omega | (simp only [List.length_append, List.length_cons, List.length_nil, leL_len]; omega)) ?_)
  clear hA hO fr; intro fr w9 p4 c4 T5 hA hO hT5
  have huT5 : U8s (l1 ++ (encI z)) := (U8s.app huT3 huT4)
  generalize hl_l2 : l1 ++ (encI z) = l2 at hA hT5 huT5
  have hn_l2 := congrArg List.length hl_l2; simp only [List.length_append, List.length_cons, List.length_nil, leL_len] at hn_l2
  refine ⟨(hO.sub [0]), ?_⟩
  replace hA := hA.sb (e' := [(1, pt b1), (2, .slice none 0 0), (3, i64 0), (4, .slice p2 l1.length c2), (18, .slice p4 l2.length c4), (20, .slice cp cs.length kc)])
  refine plan_mem (mC (f := 29) (args := [.slice cp cs.length kc]) (d := (some 21)) hA Tryd.func29 ((rbytes_any cp kc cs _ (hs.keep hO.only) (by omega)).mono ?_))
  rintro en w10 ⟨p5, c5, T6, rfl, hW, hT6⟩
  refine ⟨_, rfl, ?_⟩
  clear hA fr; intro fr hA
  have huT6 : U8s (encI ((cs.length : Nat) : Int) ++ cs) := U8s.app (encI_u8 _) (hs.keep hO.only).1
  replace hO := Ow.join hO hW; clear hW
  replace hO : Ow Tryd.prog none' w w10 ([(b1, 24, [.slice cp cs.length kc, .slice dp ds.length kd, i64 z, i64 et])] ++ (T5 ++ (T1 ++ (T4 ++ (T6 ++ ([])))))) := hO.to (by simp only [List.append_assoc, List.cons_append, List.nil_append, List.append_nil])
  refine ⟨(hO.sub [0]), ?_⟩
  replace hA := hA.sb (e' := [(1, pt b1), (2, .slice none 0 0), (3, i64 0), (4, .slice p2 l1.length c2), (18, .slice p4 l2.length c4), (21, .slice p5 ((encI ((cs.length : Nat) : Int) ++ cs).length) c5)])
  replace hO : Ow Tryd.prog none' w w10 ([(b1, 24, [.slice cp cs.length kc, .slice dp ds.length kd, i64 z, i64 et])] ++ (T5 ++ (T1 ++ (T4 ++ (T6 ++ ([])))))) := hO
  refine plan_mem (mA (f := fB) (el := 5) (sz := 1) (bytes := 1) (p := p4) (c := c4) (l := l2) (l' := encI ((cs.length : Nat) : Int) ++ cs) (T := T5) (t := 22) (tx := 22) (ty := 22) (x := .slice p5 ((encI ((cs.length : Nat) : Int) ++ cs).length) c5) (d := 22) [(b1, 24, [.slice cp cs.length kc, .slice dp ds.length kd, i64 z, i64 et])] (T1 ++ (T4 ++ (T6 ++ ([])))) encB hA hO hT5 (Vw.src (e' := 5) encB (hT6.vw (A := ([(b1, 24, [.slice cp cs.length kc, .slice dp ds.length kd, i64 z, i64 et])] ++ (T5 ++ (T1 ++ (T4 ++ ([])))))) (B := []) (hO.to (by simp only [List.append_assoc, List.cons_append, List.nil_append, List.append_nil]) : Ow Tryd.prog none' w _ (([(b1, 24, [.slice cp cs.length kc, .slice dp ds.length kd, i64 z, i64 et])] ++ (T5 ++ (T1 ++ (T4 ++ ([]))))) ++ (T6 ++ ([])))).m) (by kernel_rfl)) (by first | omega | (simp only [List.length_append, List.length_cons, List.length_nil, leL_len]; omega)) (by unfold maxLen; first | omega | (simp only [List.length_append, List.length_cons, List.length_nil, leL_len]; omega)) ?_)
  clear hA hO fr; intro fr w11 p6 c6 T7 hA hO hT7
  have huT7 : U8s (l2 ++ (encI ((cs.length : Nat) : Int) ++ cs)) := (U8s.app huT5 huT6)
  generalize hl_l3 : l2 ++ (encI ((cs.length : Nat) : Int) ++ cs) = l3 at hA hT7 huT7
  have hn_l3 := congrArg List.length hl_l3; simp only [List.length_append, List.length_cons, List.length_nil, leL_len] at hn_l3
  refine ⟨(hO.sub [0]), ?_⟩
  replace hA := hA.sb (e' := [(1, pt b1), (2, .slice none 0 0), (3, i64 0), (4, .slice p2 l1.length c2), (22, .slice p6 l3.length c6)])
  refine ckS (l := [9]) (r := []) (e' := [(1, pt b1), (2, .slice none 0 0), (3, i64 0), (4, .slice p6 l3.length c6)]) hA [] c0 ?_
  clear hA fr; intro fr hA
  refine end_plan ?_
  refine then_normal ?_
  refine sR (l := (rg 0 6)) ?_
  refine ck (l := [0, 1, 2]) (r := [3, 4, 5]) (e' := [(2, .slice none 0 0), (3, i64 0), (4, .slice p6 l3.length c6), (23, .slice p6 l3.length c6), (25, .slice dp ds.length kd)]) hA [.slice dp ds.length kd] (cc (hO.l1 0 1 22 (.slice dp ds.length kd)) c0) ?_
  clear hA fr; intro fr hA
  refine wpOps_cons' (mC (f := 29) (args := [.slice dp ds.length kd]) (d := (some 26)) hA Tryd.func29 ((rbytes_any dp kd ds _ (hs2.keep hO.only) (by omega)).mono ?_))
  rintro en w12 ⟨p7, c7, T8, rfl, hW, hT8⟩
  refine ⟨_, rfl, ?_⟩
  clear hA fr; intro fr hA
  have huT8 : U8s (encI ((ds.length : Nat) : Int) ++ ds) := U8s.app (encI_u8 _) (hs2.keep hO.only).1
  replace hO := Ow.join hO hW; clear hW
  replace hO : Ow Tryd.prog none' w w12 ([(b1, 24, [.slice cp cs.length kc, .slice dp ds.length kd, i64 z, i64 et])] ++ (T7 ++ (T1 ++ (T4 ++ (T6 ++ (T8 ++ ([]))))))) := hO.to (by simp only [List.append_assoc, List.cons_append, List.nil_append, List.append_nil])
  replace hA := hA.sb (e' := [(2, .slice none 0 0), (3, i64 0), (4, .slice p6 l3.length c6), (23, .slice p6 l3.length c6), (26, .slice p7 ((encI ((ds.length : Nat) : Int) ++ ds).length) c7)])
  replace hO : Ow Tryd.prog none' w w12 ([(b1, 24, [.slice cp cs.length kc, .slice dp ds.length kd, i64 z, i64 et])] ++ (T7 ++ (T1 ++ (T4 ++ (T6 ++ (T8 ++ ([]))))))) := hO
  refine wpOps_cons' (mA (f := fB) (el := 5) (sz := 1) (bytes := 1) (p := p6) (c := c6) (l := l3) (l' := encI ((ds.length : Nat) : Int) ++ ds) (T := T7) (t := 22) (tx := 22) (ty := 22) (x := .slice p7 ((encI ((ds.length : Nat) : Int) ++ ds).length) c7) (d := 27) [(b1, 24, [.slice cp cs.length kc, .slice dp ds.length kd, i64 z, i64 et])] (T1 ++ (T4 ++ (T6 ++ (T8 ++ ([]))))) encB hA hO hT7 (Vw.src (e' := 5) encB (hT8.vw (A := ([(b1, 24, [.slice cp cs.length kc, .slice dp ds.length kd, i64 z, i64 et])] ++ (T7 ++ (T1 ++ (T4 ++ (T6 ++ ([]))))))) (B := []) (hO.to (by simp only [List.append_assoc, List.cons_append, List.nil_append, List.append_nil]) : Ow Tryd.prog none' w _ (([(b1, 24, [.slice cp cs.length kc, .slice dp ds.length kd, i64 z, i64 et])] ++ (T7 ++ (T1 ++ (T4 ++ (T6 ++ ([])))))) ++ (T8 ++ ([])))).m) (by kernel_rfl)) (by first | omega | (simp only [List.length_append, List.length_cons, List.length_nil, leL_len]; omega)) (by unfold maxLen; first | omega | (simp only [List.length_append, List.length_cons, List.length_nil, leL_len]; omega)) ?_)
  clear hA hO fr; intro fr w13 p8 c8 T9 hA hO hT9
  have huT9 : U8s (l3 ++ (encI ((ds.length : Nat) : Int) ++ ds)) := (U8s.app huT7 huT8)
  generalize hl_l4 : l3 ++ (encI ((ds.length : Nat) : Int) ++ ds) = l4 at hA hT9 huT9
  have hn_l4 := congrArg List.length hl_l4; simp only [List.length_append, List.length_cons, List.length_nil, leL_len] at hn_l4
  replace hA := hA.sb (e' := [(2, .slice none 0 0), (3, i64 0), (4, .slice p6 l3.length c6), (27, .slice p8 l4.length c8)])
  refine ck (l := [5]) (r := []) (e' := [(2, .slice none 0 0), (3, i64 0), (4, .slice p8 l4.length c8)]) hA [] c0 ?_
  clear hA fr; intro fr hA
  refine end_ops ?_
  refine then_normal ?_
  refine sR (l := (rg 0 6)) ?_
  refine ck (l := [0, 1]) (r := [2, 3, 4, 5]) (e' := [(2, .slice none 0 0), (3, i64 0), (4, .slice p8 l4.length c8), (28, .slice p8 l4.length c8), (29, .slice p8 l4.length c8)]) hA [] c0 ?_
  clear hA fr; intro fr hA
  refine wpOps_cons' (mK (f := 31) (args := [.slice p8 l4.length c8]) (d := (some 30)) (v := u64 (sumO l4)) hA hO Tryd.func31 (rof_any p8 c8 l4 _ (Vw.sl (hT9.vw (A := [(b1, 24, [.slice cp cs.length kc, .slice dp ds.length kd, i64 z, i64 et])]) (B := T1 ++ (T4 ++ (T6 ++ (T8 ++ ([]))))) hO.m) huT9) (by first | omega | (simp only [List.length_append, List.length_cons, List.length_nil]; omega))) ?_)
  clear hA hO fr; intro fr w14 hA hO
  replace hA := hA.sb (e' := [(2, .slice none 0 0), (3, i64 0), (4, .slice p8 l4.length c8), (28, .slice p8 l4.length c8), (30, u64 (sumO l4))])
  refine wpOps_cons' (mC (f := 30) (args := [u64 (sumO l4)]) (d := (some 31)) hA Tryd.func30 ((reight_any (sumO l4) _ (sumO_b _)).mono ?_))
  rintro en w15 ⟨p9, c9, T10, rfl, hW, hT10⟩
  refine ⟨_, rfl, ?_⟩
  clear hA fr; intro fr hA
  have huT10 : U8s (leL (sumO l4) 8) := (leL_u8 _ _)
  replace hO := Ow.join hO hW; clear hW
  replace hO : Ow Tryd.prog none' w w15 ([(b1, 24, [.slice cp cs.length kc, .slice dp ds.length kd, i64 z, i64 et])] ++ (T9 ++ (T1 ++ (T4 ++ (T6 ++ (T8 ++ (T10 ++ ([])))))))) := hO.to (by simp only [List.append_assoc, List.cons_append, List.nil_append, List.append_nil])
  replace hA := hA.sb (e' := [(2, .slice none 0 0), (3, i64 0), (4, .slice p8 l4.length c8), (28, .slice p8 l4.length c8), (31, .slice p9 ((leL (sumO l4) 8).length) c9)])
  replace hO : Ow Tryd.prog none' w w15 ([(b1, 24, [.slice cp cs.length kc, .slice dp ds.length kd, i64 z, i64 et])] ++ (T9 ++ (T1 ++ (T4 ++ (T6 ++ (T8 ++ (T10 ++ ([])))))))) := hO
  refine wpOps_cons' (mA (f := fB) (el := 5) (sz := 1) (bytes := 1) (p := p8) (c := c8) (l := l4) (l' := leL (sumO l4) 8) (T := T9) (t := 22) (tx := 22) (ty := 22) (x := .slice p9 ((leL (sumO l4) 8).length) c9) (d := 32) [(b1, 24, [.slice cp cs.length kc, .slice dp ds.length kd, i64 z, i64 et])] (T1 ++ (T4 ++ (T6 ++ (T8 ++ (T10 ++ ([])))))) encB hA hO hT9 (Vw.src (e' := 5) encB (hT10.vw (A := ([(b1, 24, [.slice cp cs.length kc, .slice dp ds.length kd, i64 z, i64 et])] ++ (T9 ++ (T1 ++ (T4 ++ (T6 ++ (T8 ++ ([])))))))) (B := []) (hO.to (by simp only [List.append_assoc, List.cons_append, List.nil_append, List.append_nil]) : Ow Tryd.prog none' w _ (([(b1, 24, [.slice cp cs.length kc, .slice dp ds.length kd, i64 z, i64 et])] ++ (T9 ++ (T1 ++ (T4 ++ (T6 ++ (T8 ++ ([]))))))) ++ (T10 ++ ([])))).m) (by kernel_rfl)) (by first | omega | (simp only [List.length_append, List.length_cons, List.length_nil, leL_len]; omega)) (by unfold maxLen; first | omega | (simp only [List.length_append, List.length_cons, List.length_nil, leL_len]; omega)) ?_)
  clear hA hO fr; intro fr w16 p10 c10 T11 hA hO hT11
  have huT11 : U8s (l4 ++ (leL (sumO l4) 8)) := (U8s.app huT9 huT10)
  generalize hl_l5 : l4 ++ (leL (sumO l4) 8) = l5 at hA hT11 huT11
  have hn_l5 := congrArg List.length hl_l5; simp only [List.length_append, List.length_cons, List.length_nil, leL_len] at hn_l5
  replace hA := hA.sb (e' := [(2, .slice none 0 0), (3, i64 0), (4, .slice p8 l4.length c8), (32, .slice p10 l5.length c10)])
  refine ck (l := [5]) (r := []) (e' := [(2, .slice none 0 0), (3, i64 0), (4, .slice p10 l5.length c10)]) hA [] c0 ?_
  clear hA fr; intro fr hA
  refine end_ops ?_
  refine then_normal ?_
  refine wp_seq ?_
  refine sC (e' := [(2, .slice none 0 0), (3, i64 0), (4, .slice p10 l5.length c10), (35, bl (decide (((l5.length : Nat) : Int) > 1536)))]) 3 hA [] c0 ?_
  clear hA fr; intro fr hA
  rcases Bool.eq_false_or_eq_true (decide (((l5.length : Nat) : Int) > 1536)) with h1 | h1
  ·
    replace hA := hA.bool (f := fun z_ => [(2, .slice none 0 0), (3, i64 0), (4, .slice p10 l5.length c10), (35, .bool z_)]) h1
    have h1p := of_decide_eq_true h1
    refine cT hA ?_
    refine sC (e' := [(2, .slice none 0 0), (3, i64 6), (4, .slice p10 l5.length c10)]) 2 hA [] c0 ?_
    clear hA fr; intro fr hA
    refine wp_ret ?_
    refine then_ret ?_
    refine cR (cs := [none, none]) (us := [.slice none 0 0, i64 6]) hA [] trivial ?_
    have hF := hO.only; clear hA hO
    exact ⟨rfl, hF⟩
  ·
    exfalso; have eB : l4 = bodyL cs ds z et := (by rw [← hl_l4, ← hl_l3, ← hl_l2, ← hl_l1]; simp only [bodyL, List.append_assoc]); have eF : l5 = fileL cs ds z et := (by rw [← hl_l5, eB]; simp only [fileL, sealL]); have q_ := of_decide_eq_false h1; rw [← eF] at hbig; omega

theorem rmake_ok (cp dp : Option Addr) (kc kd : Nat) (cs ds : List Int) (z et : Int) (w : World) (hc : cs.length ≤ 2000) (hd : ds.length ≤ 2000) (hs : SlI w (.slice cp cs.length kc) cs) (hkc : cs.length ≤ kc) (hs2 : SlI w (.slice dp ds.length kd) ds) (hv : validB cs ((ds.length : Nat) : Int) z et = true) (hz : inK .i64 z) (het : inK .i64 et) (hbig : (fileL cs ds z et).length ≤ 1536) :
    Calls Tryd.prog 15 #[.agg #[.slice cp cs.length kc, .slice dp ds.length kd, i64 z, i64 et]] w fun e w' => ∃ p' c' T', e = .returned (.tuple #[.slice p' (fileL cs ds z et).length c', .int .i64 0]) ∧ Ow Tryd.prog none' w w' T' ∧ One fB 5 1 p' c' (fileL cs ds z et) T' := by
  refine c_enter (args := [.agg #[.slice cp cs.length kc, .slice dp ds.length kd, i64 z, i64 et]]) (m := 36) (n := 37) Tryd.func15 rfl (by kernel_rfl) (by kernel_rfl) fun fr hA => ?_
  have hO := Ow.nil Tryd.prog none' w
  have le1 := encI_len et; have le2 := encI_len z; have le3 := encI_len ((cs.length : Nat) : Int); have le4 := encI_len ((ds.length : Nat) : Int)
  refine sR (l := [0, 1, 2]) ?_
  refine wpOps_cons' (mN (l := [.slice cp cs.length kc, .slice dp ds.length kd, i64 z, i64 et]) (t := 24) (v := pt) (d := 1) hA hO ?_)
  clear hA hO fr; intro fr w1 b1 hA hO
  replace hA := hA.sb (e' := [(1, pt b1)])
  refine ck (l := [1, 2]) (r := []) (e' := [(1, pt b1), (2, .slice none 0 0), (3, i64 0)]) hA [] c0 ?_
  clear hA fr; intro fr hA
  refine end_ops ?_
  refine then_normal ?_
  refine wp_seq ?_
  refine sR (l := [0, 1, 2]) ?_
  refine ck (l := [0]) (r := [1, 2]) (e' := [(1, pt b1), (2, .slice none 0 0), (3, i64 0), (5, .agg #[.slice cp cs.length kc, .slice dp ds.length kd, i64 z, i64 et])]) hA [.agg #[.slice cp cs.length kc, .slice dp ds.length kd, i64 z, i64 et]] (cc (hO.ln 0 0 24 [.slice cp cs.length kc, .slice dp ds.length kd, i64 z, i64 et]) c0) ?_
  clear hA fr; intro fr hA
  refine wpOps_cons' (mK (f := 16) (args := [.agg #[.slice cp cs.length kc, .slice dp ds.length kd, i64 z, i64 et]]) (d := (some 6)) (v := bl true) hA hO Tryd.func16 (rs (rvalid_any cp dp kc kd cs ds z et _ hc hd (hs.keep hO.only) hkc) (congrArg Value.bool hv)) ?_)
  clear hA hO fr; intro fr w2 hA hO
  replace hA := hA.sb (e' := [(1, pt b1), (2, .slice none 0 0), (3, i64 0), (6, bl true)])
  refine ck (l := [2]) (r := []) (e' := [(1, pt b1), (2, .slice none 0 0), (3, i64 0), (7, bl false)]) hA [] c0 ?_
  clear hA fr; intro fr hA
  refine end_ops ?_
  refine then_normal ?_
  refine cF hA ?_
  refine wp_skip ?_
  refine then_normal ?_
  refine sR (l := [0, 1, 2, 3, 4, 5, 6]) ?_
  refine wpOps_cons' (mN (l := [u8 82, u8 84, u8 78, u8 49]) (t := 5) (v := fun b => .slice (some ⟨b, 0, none⟩) 4 4) (d := 8) hA hO ?_)
  clear hA hO fr; intro fr w3 b2 hA hO
  replace hA := hA.sb (e' := [(1, pt b1), (2, .slice none 0 0), (3, i64 0), (8, .slice (some ⟨b2, 0, none⟩) 4 4)])
  refine wpOps_cons' (mV (L := [(b2, 5, [u8 82, u8 84, u8 78, u8 49]), (b1, 24, [.slice cp cs.length kc, .slice dp ds.length kd, i64 z, i64 et])]) (t := 22) (el := 5) (off := 0) (m := 4) (c := 4) (d := 9) 0 hA hO ?_)
  clear hA hO fr; intro fr w4 hA hO
  replace hA := hA.sb (e' := [(1, pt b1), (2, .slice none 0 0), (3, i64 0), (9, .slice (some ⟨b2, 0, none⟩) 4 4)])
  refine ck (l := [2, 3]) (r := [4, 5, 6]) (e' := [(1, pt b1), (2, .slice none 0 0), (3, i64 0), (9, .slice (some ⟨b2, 0, none⟩) 4 4), (11, i64 et)]) hA [i64 et] (cc (hO.l1 1 3 3 (i64 et)) c0) ?_
  clear hA fr; intro fr hA
  refine wpOps_cons' (mC (f := 28) (args := [i64 et]) (d := (some 12)) hA Tryd.func28 ((rint_any et _ het).mono ?_))
  rintro en w5 ⟨p1, c1, T1, rfl, hW, hT1⟩
  refine ⟨_, rfl, ?_⟩
  clear hA fr; intro fr hA
  have huT1 : U8s (encI et) := encI_u8 _
  replace hO : Ow Tryd.prog none' w _ ([(b2, 5, [u8 82, u8 84, u8 78, u8 49]), (b1, 24, [.slice cp cs.length kc, .slice dp ds.length kd, i64 z, i64 et])]) := hO; replace hO := Ow.join hO hW; clear hW
  replace hO : Ow Tryd.prog none' w w5 ([(b2, 5, [u8 82, u8 84, u8 78, u8 49]), (b1, 24, [.slice cp cs.length kc, .slice dp ds.length kd, i64 z, i64 et])] ++ (T1 ++ ([]))) := hO.to (by simp only [List.append_assoc, List.cons_append, List.nil_append, List.append_nil])
  replace hA := hA.sb (e' := [(1, pt b1), (2, .slice none 0 0), (3, i64 0), (9, .slice (some ⟨b2, 0, none⟩) 4 4), (12, .slice p1 ((encI et).length) c1)])
  have hT2 : One fB 5 1 (some ⟨b2, 0, none⟩) 4 [82, 84, 78, 49] [(b2, 5, [u8 82, u8 84, u8 78, u8 49])] := One.ofBlk (r := []) (by kernel_rfl) (by first | decide | simp) (by decide) (by kernel_rfl)
  replace hO := Ow.move (A := []) (B := [(b1, 24, [.slice cp cs.length kc, .slice dp ds.length kd, i64 z, i64 et])]) (C := T1 ++ ([])) (x := (b2, 5, [u8 82, u8 84, u8 78, u8 49])) hO
  replace hO : Ow Tryd.prog none' w w5 ([(b1, 24, [.slice cp cs.length kc, .slice dp ds.length kd, i64 z, i64 et])] ++ ([(b2, 5, [u8 82, u8 84, u8 78, u8 49])] ++ (T1 ++ ([])))) := hO.to (by simp only [List.append_assoc, List.cons_append, List.nil_append, List.append_nil])
  replace hO : Ow Tryd.prog none' w w5 ([(b1, 24, [.slice cp cs.length kc, .slice dp ds.length kd, i64 z, i64 et])] ++ ([(b2, 5, [u8 82, u8 84, u8 78, u8 49])] ++ (T1 ++ ([])))) := hO
  refine wpOps_cons' (mA (f := fB) (el := 5) (sz := 1) (bytes := 1) (p := some ⟨b2, 0, none⟩) (c := 4) (l := [82, 84, 78, 49]) (l' := encI et) (T := [(b2, 5, [u8 82, u8 84, u8 78, u8 49])]) (t := 22) (tx := 22) (ty := 22) (x := .slice p1 ((encI et).length) c1) (d := 13) [(b1, 24, [.slice cp cs.length kc, .slice dp ds.length kd, i64 z, i64 et])] (T1 ++ ([])) encB hA hO hT2 (Vw.src (e' := 5) encB (hT1.vw (A := ([(b1, 24, [.slice cp cs.length kc, .slice dp ds.length kd, i64 z, i64 et])] ++ ([(b2, 5, [u8 82, u8 84, u8 78, u8 49])] ++ ([])))) (B := []) (hO.to (by simp only [List.append_assoc, List.cons_append, List.nil_append, List.append_nil]) : Ow Tryd.prog none' w _ (([(b1, 24, [.slice cp cs.length kc, .slice dp ds.length kd, i64 z, i64 et])] ++ ([(b2, 5, [u8 82, u8 84, u8 78, u8 49])] ++ ([]))) ++ (T1 ++ ([])))).m) (by kernel_rfl)) (by first | omega | (simp only [List.length_append, List.length_cons, List.length_nil, leL_len]; omega)) (by unfold maxLen; first | omega | (simp only [List.length_append, List.length_cons, List.length_nil, leL_len]; omega)) ?_)
  clear hA hO fr; intro fr w6 p2 c2 T3 hA hO hT3
  have huT3 : U8s (([82, 84, 78, 49]) ++ (encI et)) := (U8s.app (U8s.cons (inK_u8 (by decide) (by decide)) (U8s.cons (inK_u8 (by decide) (by decide)) (U8s.cons (inK_u8 (by decide) (by decide)) (U8s.cons (inK_u8 (by decide) (by decide)) U8s.nil)))) huT1)
  generalize hl_l1 : ([82, 84, 78, 49]) ++ (encI et) = l1 at hA hT3 huT3
  have hn_l1 := congrArg List.length hl_l1; simp only [List.length_append, List.length_cons, List.length_nil, leL_len] at hn_l1
  replace hA := hA.sb (e' := [(1, pt b1), (2, .slice none 0 0), (3, i64 0), (13, .slice p2 l1.length c2)])
  refine ck (l := [6]) (r := []) (e' := [(1, pt b1), (2, .slice none 0 0), (3, i64 0), (4, .slice p2 l1.length c2)]) hA [] c0 ?_
  clear hA fr; intro fr hA
  refine end_ops ?_
  refine then_normal ?_
  refine wp_seq ?_
  have hS : Ow Tryd.prog none' w _ [(b1, 24, [.slice cp cs.length kc, .slice dp ds.length kd, i64 z, i64 et])] := hO.sub [0]
  refine rP [(0, true), (1, true), (2, true), (5, true), (6, true), (3, false), (4, false), (7, false), (8, false), (9, true)] hS ?_
  intro w7 ho; replace hO := hO.st ho; clear ho
  refine ckS (l := [0, 1, 2, 5, 6]) (r := [(3, false), (4, false), (7, false), (8, false), (9, true)]) (e' := [(1, pt b1), (2, .slice none 0 0), (3, i64 0), (4, .slice p2 l1.length c2), (14, .slice p2 l1.length c2), (16, i64 z), (20, .slice cp cs.length kc)]) hA [i64 z, .slice cp cs.length kc] (cc (hS.s1 0 2 3 (i64 z)) (cc (hS.s1 0 0 22 (.slice cp cs.length kc)) c0)) ?_
  clear hA fr; intro fr hA
  refine plan_mem (mC (f := 28) (args := [i64 z]) (d := (some 17)) hA Tryd.func28 ((rint_any z _ hz).mono ?_))
  rintro en w8 ⟨p3, c3, T4, rfl, hW, hT4⟩
  refine ⟨_, rfl, ?_⟩
  clear hA fr; intro fr hA
  have huT4 : U8s (encI z) := encI_u8 _
  replace hO := Ow.join hO hW; clear hW
  replace hO : Ow Tryd.prog none' w w8 ([(b1, 24, [.slice cp cs.length kc, .slice dp ds.length kd, i64 z, i64 et])] ++ (T3 ++ (T1 ++ (T4 ++ ([]))))) := hO.to (by simp only [List.append_assoc, List.cons_append, List.nil_append, List.append_nil])
  refine ⟨(hO.sub [0]), ?_⟩
  replace hA := hA.sb (e' := [(1, pt b1), (2, .slice none 0 0), (3, i64 0), (4, .slice p2 l1.length c2), (14, .slice p2 l1.length c2), (17, .slice p3 ((encI z).length) c3), (20, .slice cp cs.length kc)])
  replace hO : Ow Tryd.prog none' w w8 ([(b1, 24, [.slice cp cs.length kc, .slice dp ds.length kd, i64 z, i64 et])] ++ (T3 ++ (T1 ++ (T4 ++ ([]))))) := hO
  refine plan_mem (mA (f := fB) (el := 5) (sz := 1) (bytes := 1) (p := p2) (c := c2) (l := l1) (l' := encI z) (T := T3) (t := 22) (tx := 22) (ty := 22) (x := .slice p3 ((encI z).length) c3) (d := 18) [(b1, 24, [.slice cp cs.length kc, .slice dp ds.length kd, i64 z, i64 et])] (T1 ++ (T4 ++ ([]))) encB hA hO hT3 (Vw.src (e' := 5) encB (hT4.vw (A := ([(b1, 24, [.slice cp cs.length kc, .slice dp ds.length kd, i64 z, i64 et])] ++ (T3 ++ (T1 ++ ([]))))) (B := []) (hO.to (by simp only [List.append_assoc, List.cons_append, List.nil_append, List.append_nil]) : Ow Tryd.prog none' w _ (([(b1, 24, [.slice cp cs.length kc, .slice dp ds.length kd, i64 z, i64 et])] ++ (T3 ++ (T1 ++ ([])))) ++ (T4 ++ ([])))).m) (by kernel_rfl)) (by first | omega | (simp only [List.length_append, List.length_cons, List.length_nil, leL_len]; omega)) (by unfold maxLen; first | omega | (simp only [List.length_append, List.length_cons, List.length_nil, leL_len]; omega)) ?_)
  clear hA hO fr; intro fr w9 p4 c4 T5 hA hO hT5
  have huT5 : U8s (l1 ++ (encI z)) := (U8s.app huT3 huT4)
  generalize hl_l2 : l1 ++ (encI z) = l2 at hA hT5 huT5
  have hn_l2 := congrArg List.length hl_l2; simp only [List.length_append, List.length_cons, List.length_nil, leL_len] at hn_l2
  refine ⟨(hO.sub [0]), ?_⟩
  replace hA := hA.sb (e' := [(1, pt b1), (2, .slice none 0 0), (3, i64 0), (4, .slice p2 l1.length c2), (18, .slice p4 l2.length c4), (20, .slice cp cs.length kc)])
  refine plan_mem (mC (f := 29) (args := [.slice cp cs.length kc]) (d := (some 21)) hA Tryd.func29 ((rbytes_any cp kc cs _ (hs.keep hO.only) (by omega)).mono ?_))
  rintro en w10 ⟨p5, c5, T6, rfl, hW, hT6⟩
  refine ⟨_, rfl, ?_⟩
  clear hA fr; intro fr hA
  have huT6 : U8s (encI ((cs.length : Nat) : Int) ++ cs) := U8s.app (encI_u8 _) (hs.keep hO.only).1
  replace hO := Ow.join hO hW; clear hW
  replace hO : Ow Tryd.prog none' w w10 ([(b1, 24, [.slice cp cs.length kc, .slice dp ds.length kd, i64 z, i64 et])] ++ (T5 ++ (T1 ++ (T4 ++ (T6 ++ ([])))))) := hO.to (by simp only [List.append_assoc, List.cons_append, List.nil_append, List.append_nil])
  refine ⟨(hO.sub [0]), ?_⟩
  replace hA := hA.sb (e' := [(1, pt b1), (2, .slice none 0 0), (3, i64 0), (4, .slice p2 l1.length c2), (18, .slice p4 l2.length c4), (21, .slice p5 ((encI ((cs.length : Nat) : Int) ++ cs).length) c5)])
  replace hO : Ow Tryd.prog none' w w10 ([(b1, 24, [.slice cp cs.length kc, .slice dp ds.length kd, i64 z, i64 et])] ++ (T5 ++ (T1 ++ (T4 ++ (T6 ++ ([])))))) := hO
  refine plan_mem (mA (f := fB) (el := 5) (sz := 1) (bytes := 1) (p := p4) (c := c4) (l := l2) (l' := encI ((cs.length : Nat) : Int) ++ cs) (T := T5) (t := 22) (tx := 22) (ty := 22) (x := .slice p5 ((encI ((cs.length : Nat) : Int) ++ cs).length) c5) (d := 22) [(b1, 24, [.slice cp cs.length kc, .slice dp ds.length kd, i64 z, i64 et])] (T1 ++ (T4 ++ (T6 ++ ([])))) encB hA hO hT5 (Vw.src (e' := 5) encB (hT6.vw (A := ([(b1, 24, [.slice cp cs.length kc, .slice dp ds.length kd, i64 z, i64 et])] ++ (T5 ++ (T1 ++ (T4 ++ ([])))))) (B := []) (hO.to (by simp only [List.append_assoc, List.cons_append, List.nil_append, List.append_nil]) : Ow Tryd.prog none' w _ (([(b1, 24, [.slice cp cs.length kc, .slice dp ds.length kd, i64 z, i64 et])] ++ (T5 ++ (T1 ++ (T4 ++ ([]))))) ++ (T6 ++ ([])))).m) (by kernel_rfl)) (by first | omega | (simp only [List.length_append, List.length_cons, List.length_nil, leL_len]; omega)) (by unfold maxLen; first | omega | (simp only [List.length_append, List.length_cons, List.length_nil, leL_len]; omega)) ?_)
  clear hA hO fr; intro fr w11 p6 c6 T7 hA hO hT7
  have huT7 : U8s (l2 ++ (encI ((cs.length : Nat) : Int) ++ cs)) := (U8s.app huT5 huT6)
  generalize hl_l3 : l2 ++ (encI ((cs.length : Nat) : Int) ++ cs) = l3 at hA hT7 huT7
  have hn_l3 := congrArg List.length hl_l3; simp only [List.length_append, List.length_cons, List.length_nil, leL_len] at hn_l3
  refine ⟨(hO.sub [0]), ?_⟩
  replace hA := hA.sb (e' := [(1, pt b1), (2, .slice none 0 0), (3, i64 0), (4, .slice p2 l1.length c2), (22, .slice p6 l3.length c6)])
  refine ckS (l := [9]) (r := []) (e' := [(1, pt b1), (2, .slice none 0 0), (3, i64 0), (4, .slice p6 l3.length c6)]) hA [] c0 ?_
  clear hA fr; intro fr hA
  refine end_plan ?_
  refine then_normal ?_
  refine sR (l := (rg 0 6)) ?_
  refine ck (l := [0, 1, 2]) (r := [3, 4, 5]) (e' := [(2, .slice none 0 0), (3, i64 0), (4, .slice p6 l3.length c6), (23, .slice p6 l3.length c6), (25, .slice dp ds.length kd)]) hA [.slice dp ds.length kd] (cc (hO.l1 0 1 22 (.slice dp ds.length kd)) c0) ?_
  clear hA fr; intro fr hA
  refine wpOps_cons' (mC (f := 29) (args := [.slice dp ds.length kd]) (d := (some 26)) hA Tryd.func29 ((rbytes_any dp kd ds _ (hs2.keep hO.only) (by omega)).mono ?_))
  rintro en w12 ⟨p7, c7, T8, rfl, hW, hT8⟩
  refine ⟨_, rfl, ?_⟩
  clear hA fr; intro fr hA
  have huT8 : U8s (encI ((ds.length : Nat) : Int) ++ ds) := U8s.app (encI_u8 _) (hs2.keep hO.only).1
  replace hO := Ow.join hO hW; clear hW
  replace hO : Ow Tryd.prog none' w w12 ([(b1, 24, [.slice cp cs.length kc, .slice dp ds.length kd, i64 z, i64 et])] ++ (T7 ++ (T1 ++ (T4 ++ (T6 ++ (T8 ++ ([]))))))) := hO.to (by simp only [List.append_assoc, List.cons_append, List.nil_append, List.append_nil])
  replace hA := hA.sb (e' := [(2, .slice none 0 0), (3, i64 0), (4, .slice p6 l3.length c6), (23, .slice p6 l3.length c6), (26, .slice p7 ((encI ((ds.length : Nat) : Int) ++ ds).length) c7)])
  replace hO : Ow Tryd.prog none' w w12 ([(b1, 24, [.slice cp cs.length kc, .slice dp ds.length kd, i64 z, i64 et])] ++ (T7 ++ (T1 ++ (T4 ++ (T6 ++ (T8 ++ ([]))))))) := hO
  refine wpOps_cons' (mA (f := fB) (el := 5) (sz := 1) (bytes := 1) (p := p6) (c := c6) (l := l3) (l' := encI ((ds.length : Nat) : Int) ++ ds) (T := T7) (t := 22) (tx := 22) (ty := 22) (x := .slice p7 ((encI ((ds.length : Nat) : Int) ++ ds).length) c7) (d := 27) [(b1, 24, [.slice cp cs.length kc, .slice dp ds.length kd, i64 z, i64 et])] (T1 ++ (T4 ++ (T6 ++ (T8 ++ ([]))))) encB hA hO hT7 (Vw.src (e' := 5) encB (hT8.vw (A := ([(b1, 24, [.slice cp cs.length kc, .slice dp ds.length kd, i64 z, i64 et])] ++ (T7 ++ (T1 ++ (T4 ++ (T6 ++ ([]))))))) (B := []) (hO.to (by simp only [List.append_assoc, List.cons_append, List.nil_append, List.append_nil]) : Ow Tryd.prog none' w _ (([(b1, 24, [.slice cp cs.length kc, .slice dp ds.length kd, i64 z, i64 et])] ++ (T7 ++ (T1 ++ (T4 ++ (T6 ++ ([])))))) ++ (T8 ++ ([])))).m) (by kernel_rfl)) (by first | omega | (simp only [List.length_append, List.length_cons, List.length_nil, leL_len]; omega)) (by unfold maxLen; first | omega | (simp only [List.length_append, List.length_cons, List.length_nil, leL_len]; omega)) ?_)
  clear hA hO fr; intro fr w13 p8 c8 T9 hA hO hT9
  have huT9 : U8s (l3 ++ (encI ((ds.length : Nat) : Int) ++ ds)) := (U8s.app huT7 huT8)
  generalize hl_l4 : l3 ++ (encI ((ds.length : Nat) : Int) ++ ds) = l4 at hA hT9 huT9
  have hn_l4 := congrArg List.length hl_l4; simp only [List.length_append, List.length_cons, List.length_nil, leL_len] at hn_l4
  replace hA := hA.sb (e' := [(2, .slice none 0 0), (3, i64 0), (4, .slice p6 l3.length c6), (27, .slice p8 l4.length c8)])
  refine ck (l := [5]) (r := []) (e' := [(2, .slice none 0 0), (3, i64 0), (4, .slice p8 l4.length c8)]) hA [] c0 ?_
  clear hA fr; intro fr hA
  refine end_ops ?_
  refine then_normal ?_
  refine sR (l := (rg 0 6)) ?_
  refine ck (l := [0, 1]) (r := [2, 3, 4, 5]) (e' := [(2, .slice none 0 0), (3, i64 0), (4, .slice p8 l4.length c8), (28, .slice p8 l4.length c8), (29, .slice p8 l4.length c8)]) hA [] c0 ?_
  clear hA fr; intro fr hA
  refine wpOps_cons' (mK (f := 31) (args := [.slice p8 l4.length c8]) (d := (some 30)) (v := u64 (sumO l4)) hA hO Tryd.func31 (rof_any p8 c8 l4 _ (Vw.sl (hT9.vw (A := [(b1, 24, [.slice cp cs.length kc, .slice dp ds.length kd, i64 z, i64 et])]) (B := T1 ++ (T4 ++ (T6 ++ (T8 ++ ([]))))) hO.m) huT9) (by first | omega | (simp only [List.length_append, List.length_cons, List.length_nil]; omega))) ?_)
  clear hA hO fr; intro fr w14 hA hO
  replace hA := hA.sb (e' := [(2, .slice none 0 0), (3, i64 0), (4, .slice p8 l4.length c8), (28, .slice p8 l4.length c8), (30, u64 (sumO l4))])
  refine wpOps_cons' (mC (f := 30) (args := [u64 (sumO l4)]) (d := (some 31)) hA Tryd.func30 ((reight_any (sumO l4) _ (sumO_b _)).mono ?_))
  rintro en w15 ⟨p9, c9, T10, rfl, hW, hT10⟩
  refine ⟨_, rfl, ?_⟩
  clear hA fr; intro fr hA
  have huT10 : U8s (leL (sumO l4) 8) := (leL_u8 _ _)
  replace hO := Ow.join hO hW; clear hW
  replace hO : Ow Tryd.prog none' w w15 ([(b1, 24, [.slice cp cs.length kc, .slice dp ds.length kd, i64 z, i64 et])] ++ (T9 ++ (T1 ++ (T4 ++ (T6 ++ (T8 ++ (T10 ++ ([])))))))) := hO.to (by simp only [List.append_assoc, List.cons_append, List.nil_append, List.append_nil])
  replace hA := hA.sb (e' := [(2, .slice none 0 0), (3, i64 0), (4, .slice p8 l4.length c8), (28, .slice p8 l4.length c8), (31, .slice p9 ((leL (sumO l4) 8).length) c9)])
  replace hO : Ow Tryd.prog none' w w15 ([(b1, 24, [.slice cp cs.length kc, .slice dp ds.length kd, i64 z, i64 et])] ++ (T9 ++ (T1 ++ (T4 ++ (T6 ++ (T8 ++ (T10 ++ ([])))))))) := hO
  refine wpOps_cons' (mA (f := fB) (el := 5) (sz := 1) (bytes := 1) (p := p8) (c := c8) (l := l4) (l' := leL (sumO l4) 8) (T := T9) (t := 22) (tx := 22) (ty := 22) (x := .slice p9 ((leL (sumO l4) 8).length) c9) (d := 32) [(b1, 24, [.slice cp cs.length kc, .slice dp ds.length kd, i64 z, i64 et])] (T1 ++ (T4 ++ (T6 ++ (T8 ++ (T10 ++ ([])))))) encB hA hO hT9 (Vw.src (e' := 5) encB (hT10.vw (A := ([(b1, 24, [.slice cp cs.length kc, .slice dp ds.length kd, i64 z, i64 et])] ++ (T9 ++ (T1 ++ (T4 ++ (T6 ++ (T8 ++ ([])))))))) (B := []) (hO.to (by simp only [List.append_assoc, List.cons_append, List.nil_append, List.append_nil]) : Ow Tryd.prog none' w _ (([(b1, 24, [.slice cp cs.length kc, .slice dp ds.length kd, i64 z, i64 et])] ++ (T9 ++ (T1 ++ (T4 ++ (T6 ++ (T8 ++ ([]))))))) ++ (T10 ++ ([])))).m) (by kernel_rfl)) (by first | omega | (simp only [List.length_append, List.length_cons, List.length_nil, leL_len]; omega)) (by unfold maxLen; first | omega | (simp only [List.length_append, List.length_cons, List.length_nil, leL_len]; omega)) ?_)
  clear hA hO fr; intro fr w16 p10 c10 T11 hA hO hT11
  have huT11 : U8s (l4 ++ (leL (sumO l4) 8)) := (U8s.app huT9 huT10)
  generalize hl_l5 : l4 ++ (leL (sumO l4) 8) = l5 at hA hT11 huT11
  have hn_l5 := congrArg List.length hl_l5; simp only [List.length_append, List.length_cons, List.length_nil, leL_len] at hn_l5
  replace hA := hA.sb (e' := [(2, .slice none 0 0), (3, i64 0), (4, .slice p8 l4.length c8), (32, .slice p10 l5.length c10)])
  refine ck (l := [5]) (r := []) (e' := [(2, .slice none 0 0), (3, i64 0), (4, .slice p10 l5.length c10)]) hA [] c0 ?_
  clear hA fr; intro fr hA
  refine end_ops ?_
  refine then_normal ?_
  refine wp_seq ?_
  refine sC (e' := [(2, .slice none 0 0), (3, i64 0), (4, .slice p10 l5.length c10), (35, bl (decide (((l5.length : Nat) : Int) > 1536)))]) 3 hA [] c0 ?_
  clear hA fr; intro fr hA
  rcases Bool.eq_false_or_eq_true (decide (((l5.length : Nat) : Int) > 1536)) with h1 | h1
  ·
    exfalso; have eB : l4 = bodyL cs ds z et := (by rw [← hl_l4, ← hl_l3, ← hl_l2, ← hl_l1]; simp only [bodyL, List.append_assoc]); have eF : l5 = fileL cs ds z et := (by rw [← hl_l5, eB]; simp only [fileL, sealL]); have q_ := of_decide_eq_true h1; rw [← eF] at hbig; omega
  ·
    replace hA := hA.bool (f := fun z_ => [(2, .slice none 0 0), (3, i64 0), (4, .slice p10 l5.length c10), (35, .bool z_)]) h1
    have h1p := of_decide_eq_false h1
    refine cF hA ?_
    refine wp_skip ?_
    refine then_normal ?_
    refine sC (e' := [(2, .slice p10 l5.length c10), (3, i64 0)]) 3 hA [] c0 ?_
    clear hA fr; intro fr hA
    refine wp_ret ?_
    refine cR (cs := [none, none]) (us := [.slice p10 l5.length c10, i64 0]) hA [] trivial ?_
    have eB : l4 = bodyL cs ds z et := (by rw [← hl_l4, ← hl_l3, ← hl_l2, ← hl_l1]; simp only [bodyL, List.append_assoc]); have eF : l5 = fileL cs ds z et := (by rw [← hl_l5, eB]; simp only [fileL, sealL])
    rw [← eF]
    exact ⟨_, _, _, rfl, Ow.just (A := [(b1, 24, [.slice cp cs.length kc, .slice dp ds.length kd, i64 z, i64 et])]) (T := T11) (B := T1 ++ (T4 ++ (T6 ++ (T8 ++ (T10 ++ ([])))))) hO, hT11⟩

theorem rsize_ok (cp dp : Option Addr) (kc kd : Nat) (cs ds : List Int) (z et : Int) (w : World) (hc : cs.length ≤ 2000) (hd : ds.length ≤ 2000) (hs : SlI w (.slice cp cs.length kc) cs) (hkc : cs.length ≤ kc) (hs2 : SlI w (.slice dp ds.length kd) ds) (hv : validB cs ((ds.length : Nat) : Int) z et = true) (hz0 : 0 ≤ z) (hz1 : z ≤ 3072) :
    Calls Tryd.prog 17 #[.agg #[.slice cp cs.length kc, .slice dp ds.length kd, i64 z, i64 et]] w fun e w' => e = .returned (.int .i64 (endP ((cs.length : Nat) : Int) ((ds.length : Nat) : Int) z / 128)) ∧ Only none' w w' := by
  refine c_enter (args := [.agg #[.slice cp cs.length kc, .slice dp ds.length kd, i64 z, i64 et]]) (m := 7) (n := 8) Tryd.func17 rfl (by kernel_rfl) (by kernel_rfl) fun fr hA => ?_
  have hO := Ow.nil Tryd.prog none' w
  refine sR (l := [0, 1]) ?_
  refine wpOps_cons' (mN (l := [.slice cp cs.length kc, .slice dp ds.length kd, i64 z, i64 et]) (t := 24) (v := pt) (d := 1) hA hO ?_)
  clear hA hO fr; intro fr w1 b1 hA hO
  replace hA := hA.sb (e' := [(1, pt b1)])
  refine ck (l := [1]) (r := []) (e' := [(1, pt b1), (2, i64 0)]) hA [] c0 ?_
  clear hA fr; intro fr hA
  refine end_ops ?_
  refine then_normal ?_
  refine wp_seq ?_
  refine sR (l := [0, 1, 2]) ?_
  refine ck (l := [0]) (r := [1, 2]) (e' := [(1, pt b1), (2, i64 0), (3, .agg #[.slice cp cs.length kc, .slice dp ds.length kd, i64 z, i64 et])]) hA [.agg #[.slice cp cs.length kc, .slice dp ds.length kd, i64 z, i64 et]] (cc (hO.ln 0 0 24 [.slice cp cs.length kc, .slice dp ds.length kd, i64 z, i64 et]) c0) ?_
  clear hA fr; intro fr hA
  refine wpOps_cons' (mK (f := 16) (args := [.agg #[.slice cp cs.length kc, .slice dp ds.length kd, i64 z, i64 et]]) (d := (some 4)) (v := bl true) hA hO Tryd.func16 (rs (rvalid_any cp dp kc kd cs ds z et _ hc hd (hs.keep hO.only) hkc) (congrArg Value.bool hv)) ?_)
  clear hA hO fr; intro fr w2 hA hO
  replace hA := hA.sb (e' := [(1, pt b1), (2, i64 0), (4, bl true)])
  refine ck (l := [2]) (r := []) (e' := [(1, pt b1), (2, i64 0), (5, bl false)]) hA [] c0 ?_
  clear hA fr; intro fr hA
  refine end_ops ?_
  refine then_normal ?_
  refine cF hA ?_
  refine wp_skip ?_
  refine then_normal ?_
  refine sR (l := [0, 1, 2]) ?_
  refine ck (l := [0]) (r := [1, 2]) (e' := [(2, i64 0), (6, .agg #[.slice cp cs.length kc, .slice dp ds.length kd, i64 z, i64 et])]) hA [.agg #[.slice cp cs.length kc, .slice dp ds.length kd, i64 z, i64 et]] (cc (hO.ln 0 0 24 [.slice cp cs.length kc, .slice dp ds.length kd, i64 z, i64 et]) c0) ?_
  clear hA fr; intro fr hA
  refine wpOps_cons' (mK (f := 33) (args := [.agg #[.slice cp cs.length kc, .slice dp ds.length kd, i64 z, i64 et]]) (d := (some 7)) (v := i64 ((((cs.length : Nat) : Int) + 127) / 128 + (((ds.length : Nat) : Int) + z + 127) / 128)) hA hO Tryd.func33 (rsize_any cp dp kc kd cs ds z et _ hc hd (by omega) (by omega)) ?_)
  clear hA hO fr; intro fr w3 hA hO
  replace hA := hA.sb (e' := [(2, i64 0), (7, i64 ((((cs.length : Nat) : Int) + 127) / 128 + (((ds.length : Nat) : Int) + z + 127) / 128))])
  refine ck (l := [2]) (r := []) (e' := [(2, i64 ((((cs.length : Nat) : Int) + 127) / 128 + (((ds.length : Nat) : Int) + z + 127) / 128))]) hA [] c0 ?_
  clear hA fr; intro fr hA
  refine end_ops ?_
  refine then_normal ?_
  refine wp_ret ?_
  refine cR (cs := [none]) (us := [i64 ((((cs.length : Nat) : Int) + 127) / 128 + (((ds.length : Nat) : Int) + z + 127) / 128)]) hA [] trivial ?_
  have hF := hO.only; clear hA hO
  exact ⟨congrArg (fun z => Ending.returned (.int .i64 z)) (by have := rend (cn := ((cs.length : Nat) : Int)) (dn := ((ds.length : Nat) : Int)) (z := z) (by omega) (by omega) (by omega); first | omega | (unfold upP; omega)), hF⟩

theorem rdataat_ok (cp dp : Option Addr) (kc kd : Nat) (cs ds : List Int) (z et : Int) (w : World) (hc : cs.length ≤ 2000) (hd : ds.length ≤ 2000) (hs : SlI w (.slice cp cs.length kc) cs) (hkc : cs.length ≤ kc) (hs2 : SlI w (.slice dp ds.length kd) ds) (hv : validB cs ((ds.length : Nat) : Int) z et = true) (hz0 : 0 ≤ z) (hz1 : z ≤ 3072) :
    Calls Tryd.prog 18 #[.agg #[.slice cp cs.length kc, .slice dp ds.length kd, i64 z, i64 et]] w fun e w' => e = .returned (.int .i64 (upP ((cs.length : Nat) : Int))) ∧ Only none' w w' := by
  refine c_enter (args := [.agg #[.slice cp cs.length kc, .slice dp ds.length kd, i64 z, i64 et]]) (m := 10) (n := 11) Tryd.func18 rfl (by kernel_rfl) (by kernel_rfl) fun fr hA => ?_
  have hO := Ow.nil Tryd.prog none' w
  refine sR (l := [0, 1]) ?_
  refine wpOps_cons' (mN (l := [.slice cp cs.length kc, .slice dp ds.length kd, i64 z, i64 et]) (t := 24) (v := pt) (d := 1) hA hO ?_)
  clear hA hO fr; intro fr w1 b1 hA hO
  replace hA := hA.sb (e' := [(1, pt b1)])
  refine ck (l := [1]) (r := []) (e' := [(1, pt b1), (2, i64 0)]) hA [] c0 ?_
  clear hA fr; intro fr hA
  refine end_ops ?_
  refine then_normal ?_
  refine wp_seq ?_
  refine sR (l := [0, 1, 2]) ?_
  refine ck (l := [0]) (r := [1, 2]) (e' := [(1, pt b1), (2, i64 0), (3, .agg #[.slice cp cs.length kc, .slice dp ds.length kd, i64 z, i64 et])]) hA [.agg #[.slice cp cs.length kc, .slice dp ds.length kd, i64 z, i64 et]] (cc (hO.ln 0 0 24 [.slice cp cs.length kc, .slice dp ds.length kd, i64 z, i64 et]) c0) ?_
  clear hA fr; intro fr hA
  refine wpOps_cons' (mK (f := 16) (args := [.agg #[.slice cp cs.length kc, .slice dp ds.length kd, i64 z, i64 et]]) (d := (some 4)) (v := bl true) hA hO Tryd.func16 (rs (rvalid_any cp dp kc kd cs ds z et _ hc hd (hs.keep hO.only) hkc) (congrArg Value.bool hv)) ?_)
  clear hA hO fr; intro fr w2 hA hO
  replace hA := hA.sb (e' := [(1, pt b1), (2, i64 0), (4, bl true)])
  refine ck (l := [2]) (r := []) (e' := [(1, pt b1), (2, i64 0), (5, bl false)]) hA [] c0 ?_
  clear hA fr; intro fr hA
  refine end_ops ?_
  refine then_normal ?_
  refine cF hA ?_
  refine wp_skip ?_
  refine then_normal ?_
  refine sR (l := (rg 0 6)) ?_
  refine ck (l := [0, 1, 2]) (r := [3, 4, 5]) (e' := [(2, i64 0), (8, i64 ((cs.length : Nat) : Int))]) hA [.slice cp cs.length kc] (cc (hO.l1 0 0 22 (.slice cp cs.length kc)) c0) ?_
  clear hA fr; intro fr hA
  refine wpOps_cons' (mK (f := 34) (args := [i64 ((cs.length : Nat) : Int)]) (d := (some 9)) (v := i64 ((((cs.length : Nat) : Int) + 127) / 128)) hA hO Tryd.func34 (rup_any ((cs.length : Nat) : Int) _ (by omega) (by omega)) ?_)
  clear hA hO fr; intro fr w3 hA hO
  replace hA := hA.sb (e' := [(2, i64 0), (9, i64 ((((cs.length : Nat) : Int) + 127) / 128))])
  refine ck (l := [4, 5]) (r := []) (e' := [(2, i64 (((((cs.length : Nat) : Int) + 127) / 128) * 128))]) hA [bl true] (cc ((inK_i64 (by omega) (by omega)) : inK .i64 (((((cs.length : Nat) : Int) + 127) / 128) * 128)) c0) ?_
  clear hA fr; intro fr hA
  refine end_ops ?_
  refine then_normal ?_
  refine wp_ret ?_
  refine cR (cs := [none]) (us := [i64 (((((cs.length : Nat) : Int) + 127) / 128) * 128)]) hA [] trivial ?_
  have hF := hO.only; clear hA hO
  exact ⟨congrArg (fun z => Ending.returned (.int .i64 z)) (by have := rend (cn := ((cs.length : Nat) : Int)) (dn := ((ds.length : Nat) : Int)) (z := z) (by omega) (by omega) (by omega); first | omega | (unfold upP; omega)), hF⟩

theorem rsize_bad (cp dp : Option Addr) (kc kd : Nat) (cs ds : List Int) (z et : Int) (w : World) (hc : cs.length ≤ 2000) (hd : ds.length ≤ 2000) (hs : SlI w (.slice cp cs.length kc) cs) (hkc : cs.length ≤ kc) (hs2 : SlI w (.slice dp ds.length kd) ds) (hv : validB cs ((ds.length : Nat) : Int) z et = false) :
    Calls Tryd.prog 17 #[.agg #[.slice cp cs.length kc, .slice dp ds.length kd, i64 z, i64 et]] w fun e w' => e = .returned (.int .i64 (0)) ∧ Only none' w w' := by
  refine c_enter (args := [.agg #[.slice cp cs.length kc, .slice dp ds.length kd, i64 z, i64 et]]) (m := 7) (n := 8) Tryd.func17 rfl (by kernel_rfl) (by kernel_rfl) fun fr hA => ?_
  have hO := Ow.nil Tryd.prog none' w
  refine sR (l := [0, 1]) ?_
  refine wpOps_cons' (mN (l := [.slice cp cs.length kc, .slice dp ds.length kd, i64 z, i64 et]) (t := 24) (v := pt) (d := 1) hA hO ?_)
  clear hA hO fr; intro fr w1 b1 hA hO
  replace hA := hA.sb (e' := [(1, pt b1)])
  refine ck (l := [1]) (r := []) (e' := [(1, pt b1), (2, i64 0)]) hA [] c0 ?_
  clear hA fr; intro fr hA
  refine end_ops ?_
  refine then_normal ?_
  refine wp_seq ?_
  refine sR (l := [0, 1, 2]) ?_
  refine ck (l := [0]) (r := [1, 2]) (e' := [(1, pt b1), (2, i64 0), (3, .agg #[.slice cp cs.length kc, .slice dp ds.length kd, i64 z, i64 et])]) hA [.agg #[.slice cp cs.length kc, .slice dp ds.length kd, i64 z, i64 et]] (cc (hO.ln 0 0 24 [.slice cp cs.length kc, .slice dp ds.length kd, i64 z, i64 et]) c0) ?_
  clear hA fr; intro fr hA
  refine wpOps_cons' (mK (f := 16) (args := [.agg #[.slice cp cs.length kc, .slice dp ds.length kd, i64 z, i64 et]]) (d := (some 4)) (v := bl false) hA hO Tryd.func16 (rs (rvalid_any cp dp kc kd cs ds z et _ hc hd (hs.keep hO.only) hkc) (congrArg Value.bool hv)) ?_)
  clear hA hO fr; intro fr w2 hA hO
  replace hA := hA.sb (e' := [(1, pt b1), (2, i64 0), (4, bl false)])
  refine ck (l := [2]) (r := []) (e' := [(1, pt b1), (2, i64 0), (5, bl true)]) hA [] c0 ?_
  clear hA fr; intro fr hA
  refine end_ops ?_
  refine then_normal ?_
  refine cT hA ?_
  refine sC (e' := [(1, pt b1), (2, i64 0)]) 1 hA [] c0 ?_
  clear hA fr; intro fr hA
  refine wp_ret ?_
  refine then_ret ?_
  refine cR (cs := [none]) (us := [i64 0]) hA [] trivial ?_
  have hF := hO.only; clear hA hO
  exact ⟨rfl, hF⟩

theorem rdataat_bad (cp dp : Option Addr) (kc kd : Nat) (cs ds : List Int) (z et : Int) (w : World) (hc : cs.length ≤ 2000) (hd : ds.length ≤ 2000) (hs : SlI w (.slice cp cs.length kc) cs) (hkc : cs.length ≤ kc) (hs2 : SlI w (.slice dp ds.length kd) ds) (hv : validB cs ((ds.length : Nat) : Int) z et = false) :
    Calls Tryd.prog 18 #[.agg #[.slice cp cs.length kc, .slice dp ds.length kd, i64 z, i64 et]] w fun e w' => e = .returned (.int .i64 (0)) ∧ Only none' w w' := by
  refine c_enter (args := [.agg #[.slice cp cs.length kc, .slice dp ds.length kd, i64 z, i64 et]]) (m := 10) (n := 11) Tryd.func18 rfl (by kernel_rfl) (by kernel_rfl) fun fr hA => ?_
  have hO := Ow.nil Tryd.prog none' w
  refine sR (l := [0, 1]) ?_
  refine wpOps_cons' (mN (l := [.slice cp cs.length kc, .slice dp ds.length kd, i64 z, i64 et]) (t := 24) (v := pt) (d := 1) hA hO ?_)
  clear hA hO fr; intro fr w1 b1 hA hO
  replace hA := hA.sb (e' := [(1, pt b1)])
  refine ck (l := [1]) (r := []) (e' := [(1, pt b1), (2, i64 0)]) hA [] c0 ?_
  clear hA fr; intro fr hA
  refine end_ops ?_
  refine then_normal ?_
  refine wp_seq ?_
  refine sR (l := [0, 1, 2]) ?_
  refine ck (l := [0]) (r := [1, 2]) (e' := [(1, pt b1), (2, i64 0), (3, .agg #[.slice cp cs.length kc, .slice dp ds.length kd, i64 z, i64 et])]) hA [.agg #[.slice cp cs.length kc, .slice dp ds.length kd, i64 z, i64 et]] (cc (hO.ln 0 0 24 [.slice cp cs.length kc, .slice dp ds.length kd, i64 z, i64 et]) c0) ?_
  clear hA fr; intro fr hA
  refine wpOps_cons' (mK (f := 16) (args := [.agg #[.slice cp cs.length kc, .slice dp ds.length kd, i64 z, i64 et]]) (d := (some 4)) (v := bl false) hA hO Tryd.func16 (rs (rvalid_any cp dp kc kd cs ds z et _ hc hd (hs.keep hO.only) hkc) (congrArg Value.bool hv)) ?_)
  clear hA hO fr; intro fr w2 hA hO
  replace hA := hA.sb (e' := [(1, pt b1), (2, i64 0), (4, bl false)])
  refine ck (l := [2]) (r := []) (e' := [(1, pt b1), (2, i64 0), (5, bl true)]) hA [] c0 ?_
  clear hA fr; intro fr hA
  refine end_ops ?_
  refine then_normal ?_
  refine cT hA ?_
  refine sC (e' := [(1, pt b1), (2, i64 0)]) 1 hA [] c0 ?_
  clear hA fr; intro fr hA
  refine wp_ret ?_
  refine then_ret ?_
  refine cR (cs := [none]) (us := [i64 0]) hA [] trivial ?_
  have hF := hO.only; clear hA hO
  exact ⟨rfl, hF⟩

end Go.Proofs.YtkfnkcpdabdboaaDoor
