/- The layer exe: Make, Size, DataAt. -/
import Derived.Test.YtkfnkcpdabdboaaDoorValid
set_option linter.unusedVariables false
set_option linter.unusedSimpArgs false
set_option maxRecDepth 10000
namespace Go.Proofs.YtkfnkcpdabdboaaDoor
open Go Go.RowKit Go.Proofs.Sx

theorem make_bad (cp dp : Option Addr) (kc kd : Nat) (cs ds : List Int) (z et : Int) (w : World) (hc : cs.length ≤ 2000) (hd : ds.length ≤ 2000) (hT : Tab w) (hs : SlI w (.slice cp cs.length kc) cs) (hkc : cs.length ≤ kc) (hs2 : SlI w (.slice dp ds.length kd) ds) (hv : validB cs ((ds.length : Nat) : Int) z et = false) :
    Calls Tryd.prog 12 #[.agg #[.slice cp cs.length kc, .slice dp ds.length kd, i64 z, i64 et]] w fun e w' => e = .returned (.tuple #[.slice none 0 0, .int .i64 1]) ∧ Only none' w w' := by
  refine c_enter (args := [.agg #[.slice cp cs.length kc, .slice dp ds.length kd, i64 z, i64 et]]) (m := 27) (n := 28) Tryd.func12 rfl (by kernel_rfl) (by kernel_rfl) fun fr hA => ?_
  have hO := Ow.nil Tryd.prog none' w
  refine sR (l := [0, 1, 2]) ?_
  refine wpOps_cons' (mN (l := [.slice cp cs.length kc, .slice dp ds.length kd, i64 z, i64 et]) (t := 27) (v := pt) (d := 1) hA hO ?_)
  clear hA hO fr; intro fr w1 b1 hA hO
  replace hA := hA.sb (e' := [(1, pt b1)])
  refine ck (l := [1, 2]) (r := []) (e' := [(1, pt b1), (2, .slice none 0 0), (3, i64 0)]) hA [] c0 ?_
  clear hA fr; intro fr hA
  refine end_ops ?_
  refine then_normal ?_
  refine wp_seq ?_
  refine sR (l := [0, 1, 2]) ?_
  refine ck (l := [0]) (r := [1, 2]) (e' := [(1, pt b1), (2, .slice none 0 0), (3, i64 0), (5, .agg #[.slice cp cs.length kc, .slice dp ds.length kd, i64 z, i64 et])]) hA [.agg #[.slice cp cs.length kc, .slice dp ds.length kd, i64 z, i64 et]] (cc (hO.ln 0 0 27 [.slice cp cs.length kc, .slice dp ds.length kd, i64 z, i64 et]) c0) ?_
  clear hA fr; intro fr hA
  refine wpOps_cons' (mK (f := 9) (args := [.agg #[.slice cp cs.length kc, .slice dp ds.length kd, i64 z, i64 et]]) (d := (some 6)) (v := bl false) hA hO Tryd.func9 (rs (valid_any cp dp kc kd cs ds z et _ hc hd (hT.keep hO.only (fun h => h)) (hs.keep hO.only) hkc) (congrArg Value.bool hv)) ?_)
  clear hA hO fr; intro fr w2 hA hO
  replace hA := hA.sb (e' := [(1, pt b1), (2, .slice none 0 0), (3, i64 0), (6, bl false)])
  refine ck (l := [2]) (r := []) (e' := [(1, pt b1), (2, .slice none 0 0), (3, i64 0), (7, bl true)]) hA [] c0 ?_
  clear hA fr; intro fr hA
  refine end_ops ?_
  refine then_normal ?_
  refine cT hA ?_
  refine sC (e' := [(1, pt b1), (2, .slice none 0 0), (3, i64 1)]) 2 hA [] c0 ?_
  clear hA fr; intro fr hA
  refine wp_ret ?_
  refine then_ret ?_
  refine cR (cs := [none, none]) (us := [.slice none 0 0, i64 1]) hA [] trivial ?_
  have hF := hO.only; clear hA hO
  exact ⟨rfl, hF⟩

theorem make_big (cp dp : Option Addr) (kc kd : Nat) (cs ds : List Int) (z et : Int) (w : World) (hc : cs.length ≤ 2000) (hd : ds.length ≤ 2000) (hT : Tab w) (hs : SlI w (.slice cp cs.length kc) cs) (hkc : cs.length ≤ kc) (hs2 : SlI w (.slice dp ds.length kd) ds) (hv : validB cs ((ds.length : Nat) : Int) z et = true) (hz : inK .i64 z) (het : inK .i64 et) (hbig : 1536 < (fileL cs ds z et).length) :
    Calls Tryd.prog 12 #[.agg #[.slice cp cs.length kc, .slice dp ds.length kd, i64 z, i64 et]] w fun e w' => e = .returned (.tuple #[.slice none 0 0, .int .i64 6]) ∧ Only none' w w' := by
  refine c_enter (args := [.agg #[.slice cp cs.length kc, .slice dp ds.length kd, i64 z, i64 et]]) (m := 27) (n := 28) Tryd.func12 rfl (by kernel_rfl) (by kernel_rfl) fun fr hA => ?_
  have hO := Ow.nil Tryd.prog none' w
  have le1 := encI_len et; have le2 := encI_len z; have le3 := encI_len ((cs.length : Nat) : Int); have le4 := encI_len ((ds.length : Nat) : Int)
  refine sR (l := [0, 1, 2]) ?_
  refine wpOps_cons' (mN (l := [.slice cp cs.length kc, .slice dp ds.length kd, i64 z, i64 et]) (t := 27) (v := pt) (d := 1) hA hO ?_)
  clear hA hO fr; intro fr w1 b1 hA hO
  replace hA := hA.sb (e' := [(1, pt b1)])
  refine ck (l := [1, 2]) (r := []) (e' := [(1, pt b1), (2, .slice none 0 0), (3, i64 0)]) hA [] c0 ?_
  clear hA fr; intro fr hA
  refine end_ops ?_
  refine then_normal ?_
  refine wp_seq ?_
  refine sR (l := [0, 1, 2]) ?_
  refine ck (l := [0]) (r := [1, 2]) (e' := [(1, pt b1), (2, .slice none 0 0), (3, i64 0), (5, .agg #[.slice cp cs.length kc, .slice dp ds.length kd, i64 z, i64 et])]) hA [.agg #[.slice cp cs.length kc, .slice dp ds.length kd, i64 z, i64 et]] (cc (hO.ln 0 0 27 [.slice cp cs.length kc, .slice dp ds.length kd, i64 z, i64 et]) c0) ?_
  clear hA fr; intro fr hA
  refine wpOps_cons' (mK (f := 9) (args := [.agg #[.slice cp cs.length kc, .slice dp ds.length kd, i64 z, i64 et]]) (d := (some 6)) (v := bl true) hA hO Tryd.func9 (rs (valid_any cp dp kc kd cs ds z et _ hc hd (hT.keep hO.only (fun h => h)) (hs.keep hO.only) hkc) (congrArg Value.bool hv)) ?_)
  clear hA hO fr; intro fr w2 hA hO
  replace hA := hA.sb (e' := [(1, pt b1), (2, .slice none 0 0), (3, i64 0), (6, bl true)])
  refine ck (l := [2]) (r := []) (e' := [(1, pt b1), (2, .slice none 0 0), (3, i64 0), (7, bl false)]) hA [] c0 ?_
  clear hA fr; intro fr hA
  refine end_ops ?_
  refine then_normal ?_
  refine cF hA ?_
  refine wp_skip ?_
  refine then_normal ?_
  refine wp_seq ?_
  have hS := hO
  refine rP [(2, true), (3, true), (5, true), (6, true), (0, false), (1, false), (4, false), (7, false), (8, true)] hS ?_
  intro w3 ho; replace hO := hO.st ho; clear ho
  refine ckS (l := [2, 3, 5, 6]) (r := [(0, false), (1, false), (4, false), (7, false), (8, true)]) (e' := [(1, pt b1), (2, .slice none 0 0), (3, i64 0), (11, i64 et), (14, i64 z)]) hA [i64 et, i64 z] (cc (hS.s1 0 3 3 (i64 et)) (cc (hS.s1 0 2 3 (i64 z)) c0)) ?_
  clear hA fr; intro fr hA
  refine plan_mem (mN (l := [u8 82, u8 84, u8 78, u8 49]) (t := 5) (v := fun b => .slice (some ⟨b, 0, none⟩) 4 4) (d := 8) hA hO ?_)
  clear hA hO fr; intro fr w4 b2 hA hO
  refine ⟨(hO.sub [1]), ?_⟩
  refine plan_mem (mV (L := [(b2, 5, [u8 82, u8 84, u8 78, u8 49]), (b1, 27, [.slice cp cs.length kc, .slice dp ds.length kd, i64 z, i64 et])]) (t := 22) (el := 5) (off := 0) (m := 4) (c := 4) (d := 9) 0 hA hO ?_)
  clear hA hO fr; intro fr w5 hA hO
  refine ⟨(hO.sub [1]), ?_⟩
  replace hA := hA.sb (e' := [(1, pt b1), (2, .slice none 0 0), (3, i64 0), (9, .slice (some ⟨b2, 0, none⟩) 4 4), (11, i64 et), (14, i64 z)])
  have hT1 : One fB 5 1 (some ⟨b2, 0, none⟩) 4 [82, 84, 78, 49] [(b2, 5, [u8 82, u8 84, u8 78, u8 49])] := One.ofBlk (r := []) (by kernel_rfl) (by first | decide | simp) (by decide) (by kernel_rfl)
  replace hO := Ow.move (A := []) (B := [(b1, 27, [.slice cp cs.length kc, .slice dp ds.length kd, i64 z, i64 et])]) (C := []) (x := (b2, 5, [u8 82, u8 84, u8 78, u8 49])) hO
  replace hO : Ow Tryd.prog none' w w5 ([(b1, 27, [.slice cp cs.length kc, .slice dp ds.length kd, i64 z, i64 et])] ++ ([(b2, 5, [u8 82, u8 84, u8 78, u8 49])] ++ ([]))) := hO.to (by simp only [List.append_assoc, List.cons_append, List.nil_append, List.append_nil])
  replace hO : Ow Tryd.prog none' w w5 ([(b1, 27, [.slice cp cs.length kc, .slice dp ds.length kd, i64 z, i64 et])] ++ ([(b2, 5, [u8 82, u8 84, u8 78, u8 49])] ++ ([]))) := hO
  refine plan_mem (mC (f := 25) (args := [.slice (some ⟨b2, 0, none⟩) ([82, 84, 78, 49]).length 4, i64 et]) (d := (some 12)) hA Tryd.func25 ((int_any (some ⟨b2, 0, none⟩) 4 ([82, 84, 78, 49]) ([(b2, 5, [u8 82, u8 84, u8 78, u8 49])]) _ (Ow.self (A := [(b1, 27, [.slice cp cs.length kc, .slice dp ds.length kd, i64 z, i64 et])]) (T := [(b2, 5, [u8 82, u8 84, u8 78, u8 49])]) (B := []) hO) hT1 (U8s.cons (inK_u8 (by decide) (by decide)) (U8s.cons (inK_u8 (by decide) (by decide)) (U8s.cons (inK_u8 (by decide) (by decide)) (U8s.cons (inK_u8 (by decide) (by decide)) U8s.nil)))) et het (by first | omega | (simp only [List.length_append, List.length_cons, List.length_nil]; omega))).mono ?_))
  rintro en w6 ⟨p1, c1, T2, rfl, hW, hT2⟩
  refine ⟨_, rfl, ?_⟩
  clear hA fr; intro fr hA
  replace hO := Ow.pass (A := [(b1, 27, [.slice cp cs.length kc, .slice dp ds.length kd, i64 z, i64 et])]) (T := [(b2, 5, [u8 82, u8 84, u8 78, u8 49])]) (B := []) hO hW; clear hW
  have huT2 : U8s (([82, 84, 78, 49]) ++ encI et) := U8s.app (U8s.cons (inK_u8 (by decide) (by decide)) (U8s.cons (inK_u8 (by decide) (by decide)) (U8s.cons (inK_u8 (by decide) (by decide)) (U8s.cons (inK_u8 (by decide) (by decide)) U8s.nil)))) (encI_u8 _)
  generalize hl_l1 : ([82, 84, 78, 49]) ++ encI et = l1 at hA hT2 huT2
  have hn_l1 := congrArg List.length hl_l1; simp only [List.length_append, List.length_cons, List.length_nil, sealL_len] at hn_l1
  replace hO : Ow Tryd.prog none' w w6 ([(b1, 27, [.slice cp cs.length kc, .slice dp ds.length kd, i64 z, i64 et])] ++ (T2 ++ ([]))) := hO.to (by simp only [List.append_assoc, List.cons_append, List.nil_append, List.append_nil])
  refine ⟨(hO.sub [0]), ?_⟩
  replace hA := hA.sb (e' := [(1, pt b1), (2, .slice none 0 0), (3, i64 0), (12, .slice p1 l1.length c1), (14, i64 z)])
  replace hO : Ow Tryd.prog none' w w6 ([(b1, 27, [.slice cp cs.length kc, .slice dp ds.length kd, i64 z, i64 et])] ++ (T2 ++ ([]))) := hO
  refine plan_mem (mC (f := 25) (args := [.slice p1 l1.length c1, i64 z]) (d := (some 15)) hA Tryd.func25 ((int_any p1 c1 l1 T2 _ (Ow.self (A := [(b1, 27, [.slice cp cs.length kc, .slice dp ds.length kd, i64 z, i64 et])]) (T := T2) (B := []) hO) hT2 huT2 z hz (by first | omega | (simp only [List.length_append, List.length_cons, List.length_nil]; omega))).mono ?_))
  rintro en w7 ⟨p2, c2, T3, rfl, hW, hT3⟩
  refine ⟨_, rfl, ?_⟩
  clear hA fr; intro fr hA
  replace hO := Ow.pass (A := [(b1, 27, [.slice cp cs.length kc, .slice dp ds.length kd, i64 z, i64 et])]) (T := T2) (B := []) hO hW; clear hW
  have huT3 : U8s (l1 ++ encI z) := U8s.app huT2 (encI_u8 _)
  generalize hl_l2 : l1 ++ encI z = l2 at hA hT3 huT3
  have hn_l2 := congrArg List.length hl_l2; simp only [List.length_append, List.length_cons, List.length_nil, sealL_len] at hn_l2
  replace hO : Ow Tryd.prog none' w w7 ([(b1, 27, [.slice cp cs.length kc, .slice dp ds.length kd, i64 z, i64 et])] ++ (T3 ++ ([]))) := hO.to (by simp only [List.append_assoc, List.cons_append, List.nil_append, List.append_nil])
  refine ⟨(hO.sub [0]), ?_⟩
  replace hA := hA.sb (e' := [(1, pt b1), (2, .slice none 0 0), (3, i64 0), (15, .slice p2 l2.length c2)])
  refine ckS (l := [8]) (r := []) (e' := [(1, pt b1), (2, .slice none 0 0), (3, i64 0), (4, .slice p2 l2.length c2)]) hA [] c0 ?_
  clear hA fr; intro fr hA
  refine end_plan ?_
  refine then_normal ?_
  refine wp_seq ?_
  have hS : Ow Tryd.prog none' w _ [(b1, 27, [.slice cp cs.length kc, .slice dp ds.length kd, i64 z, i64 et])] := hO.sub [0]
  refine rP [(0, true), (1, true), (2, true), (4, true), (5, true), (3, false), (6, false), (7, false), (8, true)] hS ?_
  intro w8 ho; replace hO := hO.st ho; clear ho
  refine ckS (l := [0, 1, 2, 4, 5]) (r := [(3, false), (6, false), (7, false), (8, true)]) (e' := [(2, .slice none 0 0), (3, i64 0), (4, .slice p2 l2.length c2), (16, .slice p2 l2.length c2), (18, .slice cp cs.length kc), (21, .slice dp ds.length kd)]) hA [.slice cp cs.length kc, .slice dp ds.length kd] (cc (hS.s1 0 0 22 (.slice cp cs.length kc)) (cc (hS.s1 0 1 22 (.slice dp ds.length kd)) c0)) ?_
  clear hA fr; intro fr hA
  replace hO : Ow Tryd.prog none' w w8 ([(b1, 27, [.slice cp cs.length kc, .slice dp ds.length kd, i64 z, i64 et])] ++ (T3 ++ ([]))) := hO
  refine plan_mem (mC (f := 27) (args := [.slice p2 l2.length c2, .slice cp cs.length kc]) (d := (some 19)) hA Tryd.func27 ((bytes_any p2 c2 l2 T3 _ (Ow.self (A := [(b1, 27, [.slice cp cs.length kc, .slice dp ds.length kd, i64 z, i64 et])]) (T := T3) (B := []) hO) hT3 huT3 cp kc cs (SlI.far hs hO.only (fun _ h => h.elim) (Ow.far (A := [(b1, 27, [.slice cp cs.length kc, .slice dp ds.length kd, i64 z, i64 et])]) (T := T3) (B := []) hO)) (by first | omega | (simp only [List.length_append, List.length_cons, List.length_nil]; omega)) (by omega)).mono ?_))
  rintro en w9 ⟨p3, c3, T4, rfl, hW, hT4⟩
  refine ⟨_, rfl, ?_⟩
  clear hA fr; intro fr hA
  replace hO := Ow.pass (A := [(b1, 27, [.slice cp cs.length kc, .slice dp ds.length kd, i64 z, i64 et])]) (T := T3) (B := []) hO hW; clear hW
  have huT4 : U8s (l2 ++ encI ((cs.length : Nat) : Int) ++ cs) := U8s.app (U8s.app huT3 (encI_u8 _)) hs.1
  generalize hl_l3 : l2 ++ encI ((cs.length : Nat) : Int) ++ cs = l3 at hA hT4 huT4
  have hn_l3 := congrArg List.length hl_l3; simp only [List.length_append, List.length_cons, List.length_nil, sealL_len] at hn_l3
  replace hO : Ow Tryd.prog none' w w9 ([(b1, 27, [.slice cp cs.length kc, .slice dp ds.length kd, i64 z, i64 et])] ++ (T4 ++ ([]))) := hO.to (by simp only [List.append_assoc, List.cons_append, List.nil_append, List.append_nil])
  refine ⟨(hO.sub [0]), ?_⟩
  replace hA := hA.sb (e' := [(2, .slice none 0 0), (3, i64 0), (4, .slice p2 l2.length c2), (19, .slice p3 l3.length c3), (21, .slice dp ds.length kd)])
  replace hO : Ow Tryd.prog none' w w9 ([(b1, 27, [.slice cp cs.length kc, .slice dp ds.length kd, i64 z, i64 et])] ++ (T4 ++ ([]))) := hO
  refine plan_mem (mC (f := 27) (args := [.slice p3 l3.length c3, .slice dp ds.length kd]) (d := (some 22)) hA Tryd.func27 ((bytes_any p3 c3 l3 T4 _ (Ow.self (A := [(b1, 27, [.slice cp cs.length kc, .slice dp ds.length kd, i64 z, i64 et])]) (T := T4) (B := []) hO) hT4 huT4 dp kd ds (SlI.far hs2 hO.only (fun _ h => h.elim) (Ow.far (A := [(b1, 27, [.slice cp cs.length kc, .slice dp ds.length kd, i64 z, i64 et])]) (T := T4) (B := []) hO)) (by first | omega | (simp only [List.length_append, List.length_cons, List.length_nil]; omega)) (by omega)).mono ?_))
  rintro en w10 ⟨p4, c4, T5, rfl, hW, hT5⟩
  refine ⟨_, rfl, ?_⟩
  clear hA fr; intro fr hA
  replace hO := Ow.pass (A := [(b1, 27, [.slice cp cs.length kc, .slice dp ds.length kd, i64 z, i64 et])]) (T := T4) (B := []) hO hW; clear hW
  have huT5 : U8s (l3 ++ encI ((ds.length : Nat) : Int) ++ ds) := U8s.app (U8s.app huT4 (encI_u8 _)) hs2.1
  generalize hl_l4 : l3 ++ encI ((ds.length : Nat) : Int) ++ ds = l4 at hA hT5 huT5
  have hn_l4 := congrArg List.length hl_l4; simp only [List.length_append, List.length_cons, List.length_nil, sealL_len] at hn_l4
  replace hO : Ow Tryd.prog none' w w10 ([(b1, 27, [.slice cp cs.length kc, .slice dp ds.length kd, i64 z, i64 et])] ++ (T5 ++ ([]))) := hO.to (by simp only [List.append_assoc, List.cons_append, List.nil_append, List.append_nil])
  refine ⟨(hO.sub [0]), ?_⟩
  replace hA := hA.sb (e' := [(2, .slice none 0 0), (3, i64 0), (4, .slice p2 l2.length c2), (22, .slice p4 l4.length c4)])
  replace hO : Ow Tryd.prog none' w w10 ([(b1, 27, [.slice cp cs.length kc, .slice dp ds.length kd, i64 z, i64 et])] ++ (T5 ++ ([]))) := hO
  refine plan_mem (mC (f := 26) (args := [.slice p4 l4.length c4]) (d := (some 23)) hA Tryd.func26 ((sealed_any p4 c4 l4 T5 _ (Ow.self (A := [(b1, 27, [.slice cp cs.length kc, .slice dp ds.length kd, i64 z, i64 et])]) (T := T5) (B := []) hO) hT5 huT5 (by first | omega | (simp only [List.length_append, List.length_cons, List.length_nil]; omega))).mono ?_))
  rintro en w11 ⟨p5, c5, T6, rfl, hW, hT6⟩
  refine ⟨_, rfl, ?_⟩
  clear hA fr; intro fr hA
  replace hO := Ow.pass (A := [(b1, 27, [.slice cp cs.length kc, .slice dp ds.length kd, i64 z, i64 et])]) (T := T5) (B := []) hO hW; clear hW
  have huT6 : U8s (sealL l4) := U8s.app huT5 (leL_u8 _ _)
  generalize hl_l5 : sealL l4 = l5 at hA hT6 huT6
  have hn_l5 := congrArg List.length hl_l5; simp only [List.length_append, List.length_cons, List.length_nil, sealL_len] at hn_l5
  replace hO : Ow Tryd.prog none' w w11 ([(b1, 27, [.slice cp cs.length kc, .slice dp ds.length kd, i64 z, i64 et])] ++ (T6 ++ ([]))) := hO.to (by simp only [List.append_assoc, List.cons_append, List.nil_append, List.append_nil])
  refine ⟨(hO.sub [0]), ?_⟩
  replace hA := hA.sb (e' := [(2, .slice none 0 0), (3, i64 0), (4, .slice p2 l2.length c2), (23, .slice p5 l5.length c5)])
  refine ckS (l := [8]) (r := []) (e' := [(2, .slice none 0 0), (3, i64 0), (4, .slice p5 l5.length c5)]) hA [] c0 ?_
  clear hA fr; intro fr hA
  refine end_plan ?_
  refine then_normal ?_
  refine wp_seq ?_
  refine sC (e' := [(2, .slice none 0 0), (3, i64 0), (4, .slice p5 l5.length c5), (26, bl (decide (((l5.length : Nat) : Int) > 1536)))]) 3 hA [] c0 ?_
  clear hA fr; intro fr hA
  rcases Bool.eq_false_or_eq_true (decide (((l5.length : Nat) : Int) > 1536)) with h1 | h1
  ·
    replace hA := hA.bool (f := fun z_ => [(2, .slice none 0 0), (3, i64 0), (4, .slice p5 l5.length c5), (26, .bool z_)]) h1
    have h1p := of_decide_eq_true h1
    refine cT hA ?_
    refine sC (e' := [(2, .slice none 0 0), (3, i64 6), (4, .slice p5 l5.length c5)]) 2 hA [] c0 ?_
    clear hA fr; intro fr hA
    refine wp_ret ?_
    refine then_ret ?_
    refine cR (cs := [none, none]) (us := [.slice none 0 0, i64 6]) hA [] trivial ?_
    have hF := hO.only; clear hA hO
    exact ⟨rfl, hF⟩
  ·
    exfalso; have eF : l5 = fileL cs ds z et := (by rw [← hl_l5, ← hl_l4, ← hl_l3, ← hl_l2, ← hl_l1] <;> rfl); have q_ := of_decide_eq_false h1; rw [← eF] at hbig; omega

theorem make_ok (cp dp : Option Addr) (kc kd : Nat) (cs ds : List Int) (z et : Int) (w : World) (hc : cs.length ≤ 2000) (hd : ds.length ≤ 2000) (hT : Tab w) (hs : SlI w (.slice cp cs.length kc) cs) (hkc : cs.length ≤ kc) (hs2 : SlI w (.slice dp ds.length kd) ds) (hv : validB cs ((ds.length : Nat) : Int) z et = true) (hz : inK .i64 z) (het : inK .i64 et) (hbig : (fileL cs ds z et).length ≤ 1536) :
    Calls Tryd.prog 12 #[.agg #[.slice cp cs.length kc, .slice dp ds.length kd, i64 z, i64 et]] w fun e w' => ∃ p' c' T', e = .returned (.tuple #[.slice p' (fileL cs ds z et).length c', .int .i64 0]) ∧ Ow Tryd.prog none' w w' T' ∧ One fB 5 1 p' c' (fileL cs ds z et) T' := by
  refine c_enter (args := [.agg #[.slice cp cs.length kc, .slice dp ds.length kd, i64 z, i64 et]]) (m := 27) (n := 28) Tryd.func12 rfl (by kernel_rfl) (by kernel_rfl) fun fr hA => ?_
  have hO := Ow.nil Tryd.prog none' w
  have le1 := encI_len et; have le2 := encI_len z; have le3 := encI_len ((cs.length : Nat) : Int); have le4 := encI_len ((ds.length : Nat) : Int)
  refine sR (l := [0, 1, 2]) ?_
  refine wpOps_cons' (mN (l := [.slice cp cs.length kc, .slice dp ds.length kd, i64 z, i64 et]) (t := 27) (v := pt) (d := 1) hA hO ?_)
  clear hA hO fr; intro fr w1 b1 hA hO
  replace hA := hA.sb (e' := [(1, pt b1)])
  refine ck (l := [1, 2]) (r := []) (e' := [(1, pt b1), (2, .slice none 0 0), (3, i64 0)]) hA [] c0 ?_
  clear hA fr; intro fr hA
  refine end_ops ?_
  refine then_normal ?_
  refine wp_seq ?_
  refine sR (l := [0, 1, 2]) ?_
  refine ck (l := [0]) (r := [1, 2]) (e' := [(1, pt b1), (2, .slice none 0 0), (3, i64 0), (5, .agg #[.slice cp cs.length kc, .slice dp ds.length kd, i64 z, i64 et])]) hA [.agg #[.slice cp cs.length kc, .slice dp ds.length kd, i64 z, i64 et]] (cc (hO.ln 0 0 27 [.slice cp cs.length kc, .slice dp ds.length kd, i64 z, i64 et]) c0) ?_
  clear hA fr; intro fr hA
  refine wpOps_cons' (mK (f := 9) (args := [.agg #[.slice cp cs.length kc, .slice dp ds.length kd, i64 z, i64 et]]) (d := (some 6)) (v := bl true) hA hO Tryd.func9 (rs (valid_any cp dp kc kd cs ds z et _ hc hd (hT.keep hO.only (fun h => h)) (hs.keep hO.only) hkc) (congrArg Value.bool hv)) ?_)
  clear hA hO fr; intro fr w2 hA hO
  replace hA := hA.sb (e' := [(1, pt b1), (2, .slice none 0 0), (3, i64 0), (6, bl true)])
  refine ck (l := [2]) (r := []) (e' := [(1, pt b1), (2, .slice none 0 0), (3, i64 0), (7, bl false)]) hA [] c0 ?_
  clear hA fr; intro fr hA
  refine end_ops ?_
  refine then_normal ?_
  refine cF hA ?_
  refine wp_skip ?_
  refine then_normal ?_
  refine wp_seq ?_
  have hS := hO
  refine rP [(2, true), (3, true), (5, true), (6, true), (0, false), (1, false), (4, false), (7, false), (8, true)] hS ?_
  intro w3 ho; replace hO := hO.st ho; clear ho
  refine ckS (l := [2, 3, 5, 6]) (r := [(0, false), (1, false), (4, false), (7, false), (8, true)]) (e' := [(1, pt b1), (2, .slice none 0 0), (3, i64 0), (11, i64 et), (14, i64 z)]) hA [i64 et, i64 z] (cc (hS.s1 0 3 3 (i64 et)) (cc (hS.s1 0 2 3 (i64 z)) c0)) ?_
  clear hA fr; intro fr hA
  refine plan_mem (mN (l := [u8 82, u8 84, u8 78, u8 49]) (t := 5) (v := fun b => .slice (some ⟨b, 0, none⟩) 4 4) (d := 8) hA hO ?_)
  clear hA hO fr; intro fr w4 b2 hA hO
  refine ⟨(hO.sub [1]), ?_⟩
  refine plan_mem (mV (L := [(b2, 5, [u8 82, u8 84, u8 78, u8 49]), (b1, 27, [.slice cp cs.length kc, .slice dp ds.length kd, i64 z, i64 et])]) (t := 22) (el := 5) (off := 0) (m := 4) (c := 4) (d := 9) 0 hA hO ?_)
  clear hA hO fr; intro fr w5 hA hO
  refine ⟨(hO.sub [1]), ?_⟩
  replace hA := hA.sb (e' := [(1, pt b1), (2, .slice none 0 0), (3, i64 0), (9, .slice (some ⟨b2, 0, none⟩) 4 4), (11, i64 et), (14, i64 z)])
  have hT1 : One fB 5 1 (some ⟨b2, 0, none⟩) 4 [82, 84, 78, 49] [(b2, 5, [u8 82, u8 84, u8 78, u8 49])] := One.ofBlk (r := []) (by kernel_rfl) (by first | decide | simp) (by decide) (by kernel_rfl)
  replace hO := Ow.move (A := []) (B := [(b1, 27, [.slice cp cs.length kc, .slice dp ds.length kd, i64 z, i64 et])]) (C := []) (x := (b2, 5, [u8 82, u8 84, u8 78, u8 49])) hO
  replace hO : Ow Tryd.prog none' w w5 ([(b1, 27, [.slice cp cs.length kc, .slice dp ds.length kd, i64 z, i64 et])] ++ ([(b2, 5, [u8 82, u8 84, u8 78, u8 49])] ++ ([]))) := hO.to (by simp only [List.append_assoc, List.cons_append, List.nil_append, List.append_nil])
  replace hO : Ow Tryd.prog none' w w5 ([(b1, 27, [.slice cp cs.length kc, .slice dp ds.length kd, i64 z, i64 et])] ++ ([(b2, 5, [u8 82, u8 84, u8 78, u8 49])] ++ ([]))) := hO
  refine plan_mem (mC (f := 25) (args := [.slice (some ⟨b2, 0, none⟩) ([82, 84, 78, 49]).length 4, i64 et]) (d := (some 12)) hA Tryd.func25 ((int_any (some ⟨b2, 0, none⟩) 4 ([82, 84, 78, 49]) ([(b2, 5, [u8 82, u8 84, u8 78, u8 49])]) _ (Ow.self (A := [(b1, 27, [.slice cp cs.length kc, .slice dp ds.length kd, i64 z, i64 et])]) (T := [(b2, 5, [u8 82, u8 84, u8 78, u8 49])]) (B := []) hO) hT1 (U8s.cons (inK_u8 (by decide) (by decide)) (U8s.cons (inK_u8 (by decide) (by decide)) (U8s.cons (inK_u8 (by decide) (by decide)) (U8s.cons (inK_u8 (by decide) (by decide)) U8s.nil)))) et het (by first | omega | (simp only [List.length_append, List.length_cons, List.length_nil]; omega))).mono ?_))
  rintro en w6 ⟨p1, c1, T2, rfl, hW, hT2⟩
  refine ⟨_, rfl, ?_⟩
  clear hA fr; intro fr hA
  replace hO := Ow.pass (A := [(b1, 27, [.slice cp cs.length kc, .slice dp ds.length kd, i64 z, i64 et])]) (T := [(b2, 5, [u8 82, u8 84, u8 78, u8 49])]) (B := []) hO hW; clear hW
  have huT2 : U8s (([82, 84, 78, 49]) ++ encI et) := U8s.app (U8s.cons (inK_u8 (by decide) (by decide)) (U8s.cons (inK_u8 (by decide) (by decide)) (U8s.cons (inK_u8 (by decide) (by decide)) (U8s.cons (inK_u8 (by decide) (by decide)) U8s.nil)))) (encI_u8 _)
  generalize hl_l1 : ([82, 84, 78, 49]) ++ encI et = l1 at hA hT2 huT2
  have hn_l1 := congrArg List.length hl_l1; simp only [List.length_append, List.length_cons, List.length_nil, sealL_len] at hn_l1
  replace hO : Ow Tryd.prog none' w w6 ([(b1, 27, [.slice cp cs.length kc, .slice dp ds.length kd, i64 z, i64 et])] ++ (T2 ++ ([]))) := hO.to (by simp only [List.append_assoc, List.cons_append, List.nil_append, List.append_nil])
  refine ⟨(hO.sub [0]), ?_⟩
  replace hA := hA.sb (e' := [(1, pt b1), (2, .slice none 0 0), (3, i64 0), (12, .slice p1 l1.length c1), (14, i64 z)])
  replace hO : Ow Tryd.prog none' w w6 ([(b1, 27, [.slice cp cs.length kc, .slice dp ds.length kd, i64 z, i64 et])] ++ (T2 ++ ([]))) := hO
  refine plan_mem (mC (f := 25) (args := [.slice p1 l1.length c1, i64 z]) (d := (some 15)) hA Tryd.func25 ((int_any p1 c1 l1 T2 _ (Ow.self (A := [(b1, 27, [.slice cp cs.length kc, .slice dp ds.length kd, i64 z, i64 et])]) (T := T2) (B := []) hO) hT2 huT2 z hz (by first | omega | (simp only [List.length_append, List.length_cons, List.length_nil]; omega))).mono ?_))
  rintro en w7 ⟨p2, c2, T3, rfl, hW, hT3⟩
  refine ⟨_, rfl, ?_⟩
  clear hA fr; intro fr hA
  replace hO := Ow.pass (A := [(b1, 27, [.slice cp cs.length kc, .slice dp ds.length kd, i64 z, i64 et])]) (T := T2) (B := []) hO hW; clear hW
  have huT3 : U8s (l1 ++ encI z) := U8s.app huT2 (encI_u8 _)
  generalize hl_l2 : l1 ++ encI z = l2 at hA hT3 huT3
  have hn_l2 := congrArg List.length hl_l2; simp only [List.length_append, List.length_cons, List.length_nil, sealL_len] at hn_l2
  replace hO : Ow Tryd.prog none' w w7 ([(b1, 27, [.slice cp cs.length kc, .slice dp ds.length kd, i64 z, i64 et])] ++ (T3 ++ ([]))) := hO.to (by simp only [List.append_assoc, List.cons_append, List.nil_append, List.append_nil])
  refine ⟨(hO.sub [0]), ?_⟩
  replace hA := hA.sb (e' := [(1, pt b1), (2, .slice none 0 0), (3, i64 0), (15, .slice p2 l2.length c2)])
  refine ckS (l := [8]) (r := []) (e' := [(1, pt b1), (2, .slice none 0 0), (3, i64 0), (4, .slice p2 l2.length c2)]) hA [] c0 ?_
  clear hA fr; intro fr hA
  refine end_plan ?_
  refine then_normal ?_
  refine wp_seq ?_
  have hS : Ow Tryd.prog none' w _ [(b1, 27, [.slice cp cs.length kc, .slice dp ds.length kd, i64 z, i64 et])] := hO.sub [0]
  refine rP [(0, true), (1, true), (2, true), (4, true), (5, true), (3, false), (6, false), (7, false), (8, true)] hS ?_
  intro w8 ho; replace hO := hO.st ho; clear ho
  refine ckS (l := [0, 1, 2, 4, 5]) (r := [(3, false), (6, false), (7, false), (8, true)]) (e' := [(2, .slice none 0 0), (3, i64 0), (4, .slice p2 l2.length c2), (16, .slice p2 l2.length c2), (18, .slice cp cs.length kc), (21, .slice dp ds.length kd)]) hA [.slice cp cs.length kc, .slice dp ds.length kd] (cc (hS.s1 0 0 22 (.slice cp cs.length kc)) (cc (hS.s1 0 1 22 (.slice dp ds.length kd)) c0)) ?_
  clear hA fr; intro fr hA
  replace hO : Ow Tryd.prog none' w w8 ([(b1, 27, [.slice cp cs.length kc, .slice dp ds.length kd, i64 z, i64 et])] ++ (T3 ++ ([]))) := hO
  refine plan_mem (mC (f := 27) (args := [.slice p2 l2.length c2, .slice cp cs.length kc]) (d := (some 19)) hA Tryd.func27 ((bytes_any p2 c2 l2 T3 _ (Ow.self (A := [(b1, 27, [.slice cp cs.length kc, .slice dp ds.length kd, i64 z, i64 et])]) (T := T3) (B := []) hO) hT3 huT3 cp kc cs (SlI.far hs hO.only (fun _ h => h.elim) (Ow.far (A := [(b1, 27, [.slice cp cs.length kc, .slice dp ds.length kd, i64 z, i64 et])]) (T := T3) (B := []) hO)) (by first | omega | (simp only [List.length_append, List.length_cons, List.length_nil]; omega)) (by omega)).mono ?_))
  rintro en w9 ⟨p3, c3, T4, rfl, hW, hT4⟩
  refine ⟨_, rfl, ?_⟩
  clear hA fr; intro fr hA
  replace hO := Ow.pass (A := [(b1, 27, [.slice cp cs.length kc, .slice dp ds.length kd, i64 z, i64 et])]) (T := T3) (B := []) hO hW; clear hW
  have huT4 : U8s (l2 ++ encI ((cs.length : Nat) : Int) ++ cs) := U8s.app (U8s.app huT3 (encI_u8 _)) hs.1
  generalize hl_l3 : l2 ++ encI ((cs.length : Nat) : Int) ++ cs = l3 at hA hT4 huT4
  have hn_l3 := congrArg List.length hl_l3; simp only [List.length_append, List.length_cons, List.length_nil, sealL_len] at hn_l3
  replace hO : Ow Tryd.prog none' w w9 ([(b1, 27, [.slice cp cs.length kc, .slice dp ds.length kd, i64 z, i64 et])] ++ (T4 ++ ([]))) := hO.to (by simp only [List.append_assoc, List.cons_append, List.nil_append, List.append_nil])
  refine ⟨(hO.sub [0]), ?_⟩
  replace hA := hA.sb (e' := [(2, .slice none 0 0), (3, i64 0), (4, .slice p2 l2.length c2), (19, .slice p3 l3.length c3), (21, .slice dp ds.length kd)])
  replace hO : Ow Tryd.prog none' w w9 ([(b1, 27, [.slice cp cs.length kc, .slice dp ds.length kd, i64 z, i64 et])] ++ (T4 ++ ([]))) := hO
  refine plan_mem (mC (f := 27) (args := [.slice p3 l3.length c3, .slice dp ds.length kd]) (d := (some 22)) hA Tryd.func27 ((bytes_any p3 c3 l3 T4 _ (Ow.self (A := [(b1, 27, [.slice cp cs.length kc, .slice dp ds.length kd, i64 z, i64 et])]) (T := T4) (B := []) hO) hT4 huT4 dp kd ds (SlI.far hs2 hO.only (fun _ h => h.elim) (Ow.far (A := [(b1, 27, [.slice cp cs.length kc, .slice dp ds.length kd, i64 z, i64 et])]) (T := T4) (B := []) hO)) (by first | omega | (simp only [List.length_append, List.length_cons, List.length_nil]; omega)) (by omega)).mono ?_))
  rintro en w10 ⟨p4, c4, T5, rfl, hW, hT5⟩
  refine ⟨_, rfl, ?_⟩
  clear hA fr; intro fr hA
  replace hO := Ow.pass (A := [(b1, 27, [.slice cp cs.length kc, .slice dp ds.length kd, i64 z, i64 et])]) (T := T4) (B := []) hO hW; clear hW
  have huT5 : U8s (l3 ++ encI ((ds.length : Nat) : Int) ++ ds) := U8s.app (U8s.app huT4 (encI_u8 _)) hs2.1
  generalize hl_l4 : l3 ++ encI ((ds.length : Nat) : Int) ++ ds = l4 at hA hT5 huT5
  have hn_l4 := congrArg List.length hl_l4; simp only [List.length_append, List.length_cons, List.length_nil, sealL_len] at hn_l4
  replace hO : Ow Tryd.prog none' w w10 ([(b1, 27, [.slice cp cs.length kc, .slice dp ds.length kd, i64 z, i64 et])] ++ (T5 ++ ([]))) := hO.to (by simp only [List.append_assoc, List.cons_append, List.nil_append, List.append_nil])
  refine ⟨(hO.sub [0]), ?_⟩
  replace hA := hA.sb (e' := [(2, .slice none 0 0), (3, i64 0), (4, .slice p2 l2.length c2), (22, .slice p4 l4.length c4)])
  replace hO : Ow Tryd.prog none' w w10 ([(b1, 27, [.slice cp cs.length kc, .slice dp ds.length kd, i64 z, i64 et])] ++ (T5 ++ ([]))) := hO
  refine plan_mem (mC (f := 26) (args := [.slice p4 l4.length c4]) (d := (some 23)) hA Tryd.func26 ((sealed_any p4 c4 l4 T5 _ (Ow.self (A := [(b1, 27, [.slice cp cs.length kc, .slice dp ds.length kd, i64 z, i64 et])]) (T := T5) (B := []) hO) hT5 huT5 (by first | omega | (simp only [List.length_append, List.length_cons, List.length_nil]; omega))).mono ?_))
  rintro en w11 ⟨p5, c5, T6, rfl, hW, hT6⟩
  refine ⟨_, rfl, ?_⟩
  clear hA fr; intro fr hA
  replace hO := Ow.pass (A := [(b1, 27, [.slice cp cs.length kc, .slice dp ds.length kd, i64 z, i64 et])]) (T := T5) (B := []) hO hW; clear hW
  have huT6 : U8s (sealL l4) := U8s.app huT5 (leL_u8 _ _)
  generalize hl_l5 : sealL l4 = l5 at hA hT6 huT6
  have hn_l5 := congrArg List.length hl_l5; simp only [List.length_append, List.length_cons, List.length_nil, sealL_len] at hn_l5
  replace hO : Ow Tryd.prog none' w w11 ([(b1, 27, [.slice cp cs.length kc, .slice dp ds.length kd, i64 z, i64 et])] ++ (T6 ++ ([]))) := hO.to (by simp only [List.append_assoc, List.cons_append, List.nil_append, List.append_nil])
  refine ⟨(hO.sub [0]), ?_⟩
  replace hA := hA.sb (e' := [(2, .slice none 0 0), (3, i64 0), (4, .slice p2 l2.length c2), (23, .slice p5 l5.length c5)])
  refine ckS (l := [8]) (r := []) (e' := [(2, .slice none 0 0), (3, i64 0), (4, .slice p5 l5.length c5)]) hA [] c0 ?_
  clear hA fr; intro fr hA
  refine end_plan ?_
  refine then_normal ?_
  refine wp_seq ?_
  refine sC (e' := [(2, .slice none 0 0), (3, i64 0), (4, .slice p5 l5.length c5), (26, bl (decide (((l5.length : Nat) : Int) > 1536)))]) 3 hA [] c0 ?_
  clear hA fr; intro fr hA
  rcases Bool.eq_false_or_eq_true (decide (((l5.length : Nat) : Int) > 1536)) with h1 | h1
  ·
    exfalso; have eF : l5 = fileL cs ds z et := (by rw [← hl_l5, ← hl_l4, ← hl_l3, ← hl_l2, ← hl_l1] <;> rfl); have q_ := of_decide_eq_true h1; rw [← eF] at hbig; omega
  ·
    replace hA := hA.bool (f := fun z_ => [(2, .slice none 0 0), (3, i64 0), (4, .slice p5 l5.length c5), (26, .bool z_)]) h1
    have h1p := of_decide_eq_false h1
    refine cF hA ?_
    refine wp_skip ?_
    refine then_normal ?_
    refine sC (e' := [(2, .slice p5 l5.length c5), (3, i64 0)]) 3 hA [] c0 ?_
    clear hA fr; intro fr hA
    refine wp_ret ?_
    refine cR (cs := [none, none]) (us := [.slice p5 l5.length c5, i64 0]) hA [] trivial ?_
    have eF : l5 = fileL cs ds z et := (by rw [← hl_l5, ← hl_l4, ← hl_l3, ← hl_l2, ← hl_l1] <;> rfl)
    rw [← eF]
    exact ⟨_, _, _, rfl, Ow.just (A := [(b1, 27, [.slice cp cs.length kc, .slice dp ds.length kd, i64 z, i64 et])]) (T := T6) (B := []) hO, hT6⟩

theorem size_ok (cp dp : Option Addr) (kc kd : Nat) (cs ds : List Int) (z et : Int) (w : World) (hc : cs.length ≤ 2000) (hd : ds.length ≤ 2000) (hT : Tab w) (hs : SlI w (.slice cp cs.length kc) cs) (hkc : cs.length ≤ kc) (hs2 : SlI w (.slice dp ds.length kd) ds) (hv : validB cs ((ds.length : Nat) : Int) z et = true) (hz0 : 0 ≤ z) (hz1 : z ≤ 3072) :
    Calls Tryd.prog 10 #[.agg #[.slice cp cs.length kc, .slice dp ds.length kd, i64 z, i64 et]] w fun e w' => e = .returned (.int .i64 (endP ((cs.length : Nat) : Int) ((ds.length : Nat) : Int) z / 128)) ∧ Only none' w w' := by
  refine c_enter (args := [.agg #[.slice cp cs.length kc, .slice dp ds.length kd, i64 z, i64 et]]) (m := 8) (n := 9) Tryd.func10 rfl (by kernel_rfl) (by kernel_rfl) fun fr hA => ?_
  have hO := Ow.nil Tryd.prog none' w
  have hu1 := upP_b (x := ((cs.length : Nat) : Int)) (by omega); have hu2 := upP_b (x := upP ((cs.length : Nat) : Int) + ((ds.length : Nat) : Int) + z) (by omega); have hu3 := upP_b (x := upP ((cs.length : Nat) : Int) + ((ds.length : Nat) : Int) + z) (by omega); have hend : endP ((cs.length : Nat) : Int) ((ds.length : Nat) : Int) z = upP (upP ((cs.length : Nat) : Int) + ((ds.length : Nat) : Int) + z) := rfl
  refine sR (l := [0, 1]) ?_
  refine wpOps_cons' (mN (l := [.slice cp cs.length kc, .slice dp ds.length kd, i64 z, i64 et]) (t := 27) (v := pt) (d := 1) hA hO ?_)
  clear hA hO fr; intro fr w1 b1 hA hO
  replace hA := hA.sb (e' := [(1, pt b1)])
  refine ck (l := [1]) (r := []) (e' := [(1, pt b1), (2, i64 0)]) hA [] c0 ?_
  clear hA fr; intro fr hA
  refine end_ops ?_
  refine then_normal ?_
  refine wp_seq ?_
  refine sR (l := [0, 1, 2]) ?_
  refine ck (l := [0]) (r := [1, 2]) (e' := [(1, pt b1), (2, i64 0), (3, .agg #[.slice cp cs.length kc, .slice dp ds.length kd, i64 z, i64 et])]) hA [.agg #[.slice cp cs.length kc, .slice dp ds.length kd, i64 z, i64 et]] (cc (hO.ln 0 0 27 [.slice cp cs.length kc, .slice dp ds.length kd, i64 z, i64 et]) c0) ?_
  clear hA fr; intro fr hA
  refine wpOps_cons' (mK (f := 9) (args := [.agg #[.slice cp cs.length kc, .slice dp ds.length kd, i64 z, i64 et]]) (d := (some 4)) (v := bl true) hA hO Tryd.func9 (rs (valid_any cp dp kc kd cs ds z et _ hc hd (hT.keep hO.only (fun h => h)) (hs.keep hO.only) hkc) (congrArg Value.bool hv)) ?_)
  clear hA hO fr; intro fr w2 hA hO
  replace hA := hA.sb (e' := [(1, pt b1), (2, i64 0), (4, bl true)])
  refine ck (l := [2]) (r := []) (e' := [(1, pt b1), (2, i64 0), (5, bl false)]) hA [] c0 ?_
  clear hA fr; intro fr hA
  refine end_ops ?_
  refine then_normal ?_
  refine cF hA ?_
  refine wp_skip ?_
  refine then_normal ?_
  refine sR (l := [0, 1, 2, 3]) ?_
  refine ck (l := [0]) (r := [1, 2, 3]) (e' := [(2, i64 0), (6, .agg #[.slice cp cs.length kc, .slice dp ds.length kd, i64 z, i64 et])]) hA [.agg #[.slice cp cs.length kc, .slice dp ds.length kd, i64 z, i64 et]] (cc (hO.ln 0 0 27 [.slice cp cs.length kc, .slice dp ds.length kd, i64 z, i64 et]) c0) ?_
  clear hA fr; intro fr hA
  refine wpOps_cons' (mK (f := 23) (args := [.agg #[.slice cp cs.length kc, .slice dp ds.length kd, i64 z, i64 et]]) (d := (some 7)) (v := i64 (endP ((cs.length : Nat) : Int) ((ds.length : Nat) : Int) z)) hA hO Tryd.func23 (end_any cp dp kc kd cs ds z et _ hc hd (by omega) (by omega)) ?_)
  clear hA hO fr; intro fr w3 hA hO
  replace hA := hA.sb (e' := [(2, i64 0), (7, i64 (endP ((cs.length : Nat) : Int) ((ds.length : Nat) : Int) z))])
  refine ck (l := [2, 3]) (r := []) (e' := [(2, i64 ((endP ((cs.length : Nat) : Int) ((ds.length : Nat) : Int) z) / 128))]) hA [bl true] (cc (⟨by omega, by omega, inK_i64 (by omega) (by omega)⟩ : (0 : Int) ≤ endP ((cs.length : Nat) : Int) ((ds.length : Nat) : Int) z ∧ (0 : Int) < 128 ∧ inK .i64 (endP ((cs.length : Nat) : Int) ((ds.length : Nat) : Int) z)) c0) ?_
  clear hA fr; intro fr hA
  refine end_ops ?_
  refine then_normal ?_
  refine wp_ret ?_
  refine cR (cs := [none]) (us := [i64 ((endP ((cs.length : Nat) : Int) ((ds.length : Nat) : Int) z) / 128)]) hA [] trivial ?_
  have hF := hO.only; clear hA hO
  exact ⟨rfl, hF⟩

theorem dataat_ok (cp dp : Option Addr) (kc kd : Nat) (cs ds : List Int) (z et : Int) (w : World) (hc : cs.length ≤ 2000) (hd : ds.length ≤ 2000) (hT : Tab w) (hs : SlI w (.slice cp cs.length kc) cs) (hkc : cs.length ≤ kc) (hs2 : SlI w (.slice dp ds.length kd) ds) (hv : validB cs ((ds.length : Nat) : Int) z et = true) (hz0 : 0 ≤ z) (hz1 : z ≤ 3072) :
    Calls Tryd.prog 11 #[.agg #[.slice cp cs.length kc, .slice dp ds.length kd, i64 z, i64 et]] w fun e w' => e = .returned (.int .i64 (upP ((cs.length : Nat) : Int))) ∧ Only none' w w' := by
  refine c_enter (args := [.agg #[.slice cp cs.length kc, .slice dp ds.length kd, i64 z, i64 et]]) (m := 9) (n := 10) Tryd.func11 rfl (by kernel_rfl) (by kernel_rfl) fun fr hA => ?_
  have hO := Ow.nil Tryd.prog none' w
  have hu1 := upP_b (x := ((cs.length : Nat) : Int)) (by omega); have hu2 := upP_b (x := upP ((cs.length : Nat) : Int) + ((ds.length : Nat) : Int) + z) (by omega); have hu3 := upP_b (x := upP ((cs.length : Nat) : Int) + ((ds.length : Nat) : Int) + z) (by omega); have hend : endP ((cs.length : Nat) : Int) ((ds.length : Nat) : Int) z = upP (upP ((cs.length : Nat) : Int) + ((ds.length : Nat) : Int) + z) := rfl
  refine sR (l := [0, 1]) ?_
  refine wpOps_cons' (mN (l := [.slice cp cs.length kc, .slice dp ds.length kd, i64 z, i64 et]) (t := 27) (v := pt) (d := 1) hA hO ?_)
  clear hA hO fr; intro fr w1 b1 hA hO
  replace hA := hA.sb (e' := [(1, pt b1)])
  refine ck (l := [1]) (r := []) (e' := [(1, pt b1), (2, i64 0)]) hA [] c0 ?_
  clear hA fr; intro fr hA
  refine end_ops ?_
  refine then_normal ?_
  refine wp_seq ?_
  refine sR (l := [0, 1, 2]) ?_
  refine ck (l := [0]) (r := [1, 2]) (e' := [(1, pt b1), (2, i64 0), (3, .agg #[.slice cp cs.length kc, .slice dp ds.length kd, i64 z, i64 et])]) hA [.agg #[.slice cp cs.length kc, .slice dp ds.length kd, i64 z, i64 et]] (cc (hO.ln 0 0 27 [.slice cp cs.length kc, .slice dp ds.length kd, i64 z, i64 et]) c0) ?_
  clear hA fr; intro fr hA
  refine wpOps_cons' (mK (f := 9) (args := [.agg #[.slice cp cs.length kc, .slice dp ds.length kd, i64 z, i64 et]]) (d := (some 4)) (v := bl true) hA hO Tryd.func9 (rs (valid_any cp dp kc kd cs ds z et _ hc hd (hT.keep hO.only (fun h => h)) (hs.keep hO.only) hkc) (congrArg Value.bool hv)) ?_)
  clear hA hO fr; intro fr w2 hA hO
  replace hA := hA.sb (e' := [(1, pt b1), (2, i64 0), (4, bl true)])
  refine ck (l := [2]) (r := []) (e' := [(1, pt b1), (2, i64 0), (5, bl false)]) hA [] c0 ?_
  clear hA fr; intro fr hA
  refine end_ops ?_
  refine then_normal ?_
  refine cF hA ?_
  refine wp_skip ?_
  refine then_normal ?_
  refine sR (l := (rg 0 5)) ?_
  refine ck (l := [0, 1, 2]) (r := [3, 4]) (e' := [(2, i64 0), (8, i64 ((cs.length : Nat) : Int))]) hA [.slice cp cs.length kc] (cc (hO.l1 0 0 22 (.slice cp cs.length kc)) c0) ?_
  clear hA fr; intro fr hA
  refine wpOps_cons' (mK (f := 22) (args := [i64 ((cs.length : Nat) : Int)]) (d := (some 9)) (v := i64 (upP ((cs.length : Nat) : Int))) hA hO Tryd.func22 (up_any ((cs.length : Nat) : Int) _ (by omega) (by omega)) ?_)
  clear hA hO fr; intro fr w3 hA hO
  replace hA := hA.sb (e' := [(2, i64 0), (9, i64 (upP ((cs.length : Nat) : Int)))])
  refine ck (l := [4]) (r := []) (e' := [(2, i64 (upP ((cs.length : Nat) : Int)))]) hA [] c0 ?_
  clear hA fr; intro fr hA
  refine end_ops ?_
  refine then_normal ?_
  refine wp_ret ?_
  refine cR (cs := [none]) (us := [i64 (upP ((cs.length : Nat) : Int))]) hA [] trivial ?_
  have hF := hO.only; clear hA hO
  exact ⟨rfl, hF⟩

theorem size_bad (cp dp : Option Addr) (kc kd : Nat) (cs ds : List Int) (z et : Int) (w : World) (hc : cs.length ≤ 2000) (hd : ds.length ≤ 2000) (hT : Tab w) (hs : SlI w (.slice cp cs.length kc) cs) (hkc : cs.length ≤ kc) (hs2 : SlI w (.slice dp ds.length kd) ds) (hv : validB cs ((ds.length : Nat) : Int) z et = false) :
    Calls Tryd.prog 10 #[.agg #[.slice cp cs.length kc, .slice dp ds.length kd, i64 z, i64 et]] w fun e w' => e = .returned (.int .i64 (0)) ∧ Only none' w w' := by
  refine c_enter (args := [.agg #[.slice cp cs.length kc, .slice dp ds.length kd, i64 z, i64 et]]) (m := 8) (n := 9) Tryd.func10 rfl (by kernel_rfl) (by kernel_rfl) fun fr hA => ?_
  have hO := Ow.nil Tryd.prog none' w
  refine sR (l := [0, 1]) ?_
  refine wpOps_cons' (mN (l := [.slice cp cs.length kc, .slice dp ds.length kd, i64 z, i64 et]) (t := 27) (v := pt) (d := 1) hA hO ?_)
  clear hA hO fr; intro fr w1 b1 hA hO
  replace hA := hA.sb (e' := [(1, pt b1)])
  refine ck (l := [1]) (r := []) (e' := [(1, pt b1), (2, i64 0)]) hA [] c0 ?_
  clear hA fr; intro fr hA
  refine end_ops ?_
  refine then_normal ?_
  refine wp_seq ?_
  refine sR (l := [0, 1, 2]) ?_
  refine ck (l := [0]) (r := [1, 2]) (e' := [(1, pt b1), (2, i64 0), (3, .agg #[.slice cp cs.length kc, .slice dp ds.length kd, i64 z, i64 et])]) hA [.agg #[.slice cp cs.length kc, .slice dp ds.length kd, i64 z, i64 et]] (cc (hO.ln 0 0 27 [.slice cp cs.length kc, .slice dp ds.length kd, i64 z, i64 et]) c0) ?_
  clear hA fr; intro fr hA
  refine wpOps_cons' (mK (f := 9) (args := [.agg #[.slice cp cs.length kc, .slice dp ds.length kd, i64 z, i64 et]]) (d := (some 4)) (v := bl false) hA hO Tryd.func9 (rs (valid_any cp dp kc kd cs ds z et _ hc hd (hT.keep hO.only (fun h => h)) (hs.keep hO.only) hkc) (congrArg Value.bool hv)) ?_)
  clear hA hO fr; intro fr w2 hA hO
  replace hA := hA.sb (e' := [(1, pt b1), (2, i64 0), (4, bl false)])
  refine ck (l := [2]) (r := []) (e' := [(1, pt b1), (2, i64 0), (5, bl true)]) hA [] c0 ?_
  clear hA fr; intro fr hA
  refine end_ops ?_
  refine then_normal ?_
  refine cT hA ?_
  refine sC (e' := [(1, pt b1), (2, i64 0)]) 1 hA [] c0 ?_
  clear hA fr; intro fr hA
  refine wp_ret ?_
  refine then_ret ?_
  refine cR (cs := [none]) (us := [i64 0]) hA [] trivial ?_
  have hF := hO.only; clear hA hO
  exact ⟨rfl, hF⟩

theorem dataat_bad (cp dp : Option Addr) (kc kd : Nat) (cs ds : List Int) (z et : Int) (w : World) (hc : cs.length ≤ 2000) (hd : ds.length ≤ 2000) (hT : Tab w) (hs : SlI w (.slice cp cs.length kc) cs) (hkc : cs.length ≤ kc) (hs2 : SlI w (.slice dp ds.length kd) ds) (hv : validB cs ((ds.length : Nat) : Int) z et = false) :
    Calls Tryd.prog 11 #[.agg #[.slice cp cs.length kc, .slice dp ds.length kd, i64 z, i64 et]] w fun e w' => e = .returned (.int .i64 (0)) ∧ Only none' w w' := by
  refine c_enter (args := [.agg #[.slice cp cs.length kc, .slice dp ds.length kd, i64 z, i64 et]]) (m := 9) (n := 10) Tryd.func11 rfl (by kernel_rfl) (by kernel_rfl) fun fr hA => ?_
  have hO := Ow.nil Tryd.prog none' w
  refine sR (l := [0, 1]) ?_
  refine wpOps_cons' (mN (l := [.slice cp cs.length kc, .slice dp ds.length kd, i64 z, i64 et]) (t := 27) (v := pt) (d := 1) hA hO ?_)
  clear hA hO fr; intro fr w1 b1 hA hO
  replace hA := hA.sb (e' := [(1, pt b1)])
  refine ck (l := [1]) (r := []) (e' := [(1, pt b1), (2, i64 0)]) hA [] c0 ?_
  clear hA fr; intro fr hA
  refine end_ops ?_
  refine then_normal ?_
  refine wp_seq ?_
  refine sR (l := [0, 1, 2]) ?_
  refine ck (l := [0]) (r := [1, 2]) (e' := [(1, pt b1), (2, i64 0), (3, .agg #[.slice cp cs.length kc, .slice dp ds.length kd, i64 z, i64 et])]) hA [.agg #[.slice cp cs.length kc, .slice dp ds.length kd, i64 z, i64 et]] (cc (hO.ln 0 0 27 [.slice cp cs.length kc, .slice dp ds.length kd, i64 z, i64 et]) c0) ?_
  clear hA fr; intro fr hA
  refine wpOps_cons' (mK (f := 9) (args := [.agg #[.slice cp cs.length kc, .slice dp ds.length kd, i64 z, i64 et]]) (d := (some 4)) (v := bl false) hA hO Tryd.func9 (rs (valid_any cp dp kc kd cs ds z et _ hc hd (hT.keep hO.only (fun h => h)) (hs.keep hO.only) hkc) (congrArg Value.bool hv)) ?_)
  clear hA hO fr; intro fr w2 hA hO
  replace hA := hA.sb (e' := [(1, pt b1), (2, i64 0), (4, bl false)])
  refine ck (l := [2]) (r := []) (e' := [(1, pt b1), (2, i64 0), (5, bl true)]) hA [] c0 ?_
  clear hA fr; intro fr hA
  refine end_ops ?_
  refine then_normal ?_
  refine cT hA ?_
  refine sC (e' := [(1, pt b1), (2, i64 0)]) 1 hA [] c0 ?_
  clear hA fr; intro fr hA
  refine wp_ret ?_
  refine then_ret ?_
  refine cR (cs := [none]) (us := [i64 0]) hA [] trivial ?_
  have hF := hO.only; clear hA hO
  exact ⟨rfl, hF⟩

end Go.Proofs.YtkfnkcpdabdboaaDoor
