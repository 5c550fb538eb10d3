/- The layer exe: Pages. -/
import Derived.Test.YtkfnkcpdabdboaaDoorMake
set_option linter.unusedVariables false
set_option linter.unusedSimpArgs false
set_option maxRecDepth 10000
namespace Go.Proofs.YtkfnkcpdabdboaaDoor
open Go Go.RowKit Go.Proofs.Sx

theorem pages_bad (cp dp : Option Addr) (kc kd : Nat) (cs ds : List Int) (z et : Int) (w : World) (hc : cs.length ≤ 2000) (hd : ds.length ≤ 2000) (hT : Tab w) (hs : SlI w (.slice cp cs.length kc) cs) (hkc : cs.length ≤ kc) (hs2 : SlI w (.slice dp ds.length kd) ds) (hv : validB cs ((ds.length : Nat) : Int) z et = false) :
    Calls Tryd.prog 8 #[.agg #[.slice cp cs.length kc, .slice dp ds.length kd, i64 z, i64 et]] w fun e w' => e = .returned (.slice none 0 0) ∧ Only none' w w' := by
  refine c_enter (args := [.agg #[.slice cp cs.length kc, .slice dp ds.length kd, i64 z, i64 et]]) (m := 42) (n := 43) Tryd.func8 rfl (by kernel_rfl) (by kernel_rfl) fun fr hA => ?_
  have hO := Ow.nil Tryd.prog none' w
  refine sR (l := [0, 1]) ?_
  refine wpOps_cons' (mN (l := [.slice cp cs.length kc, .slice dp ds.length kd, i64 z, i64 et]) (t := 27) (v := pt) (d := 1) hA hO ?_)
  clear hA hO fr; intro fr w1 b1 hA hO
  replace hA := hA.sb (e' := [(1, pt b1)])
  refine ck (l := [1]) (r := []) (e' := [(1, pt b1), (2, .slice none 0 0)]) hA [] c0 ?_
  clear hA fr; intro fr hA
  refine end_ops ?_
  refine then_normal ?_
  refine sR (l := (rg 0 5)) ?_
  refine ck (l := [0]) (r := [1, 2, 3, 4]) (e' := [(1, pt b1), (2, .slice none 0 0), (6, .agg #[.slice cp cs.length kc, .slice dp ds.length kd, i64 z, i64 et])]) hA [.agg #[.slice cp cs.length kc, .slice dp ds.length kd, i64 z, i64 et]] (cc (hO.ln 0 0 27 [.slice cp cs.length kc, .slice dp ds.length kd, i64 z, i64 et]) c0) ?_
  clear hA fr; intro fr hA
  refine wpOps_cons' (mK (f := 10) (args := [.agg #[.slice cp cs.length kc, .slice dp ds.length kd, i64 z, i64 et]]) (d := (some 7)) (v := i64 0) hA hO Tryd.func10 (size_bad cp dp kc kd cs ds z et _ hc hd (hT.keep hO.only (fun h => h)) (hs.keep hO.only) hkc (hs2.keep hO.only) hv) ?_)
  clear hA hO fr; intro fr w2 hA hO
  replace hA := hA.sb (e' := [(1, pt b1), (2, .slice none 0 0), (7, i64 0)])
  refine ck (l := [2]) (r := [3, 4]) (e' := [(1, pt b1), (2, .slice none 0 0), (8, i64 0)]) hA [bl false] c0 ?_
  clear hA fr; intro fr hA
  refine wpOps_cons' (mM (k := .i64) (k' := .i64) (el := 5) (bytes := 1) (z := u8 0) (t := 22) (m := 0) (d := 9) hA hO (by omega) (by omega) ?_)
  clear hA hO fr; intro fr w3 b2 hA hO
  replace hA := hA.sb (e' := [(1, pt b1), (2, .slice none 0 0), (9, .slice (some ⟨b2, 0, none⟩) 0 0)])
  refine ck (l := [4]) (r := []) (e' := [(1, pt b1), (2, .slice none 0 0), (3, .slice (some ⟨b2, 0, none⟩) 0 0)]) hA [] c0 ?_
  clear hA fr; intro fr hA
  refine end_ops ?_
  refine then_normal ?_
  refine sC (e' := [(1, pt b1), (2, .slice none 0 0), (3, .slice (some ⟨b2, 0, none⟩) 0 0), (4, .slice none 0 0)]) 1 hA [] c0 ?_
  clear hA fr; intro fr hA
  refine wp_seq ?_
  refine sC (e' := [(1, pt b1), (2, .slice none 0 0), (3, .slice (some ⟨b2, 0, none⟩) 0 0), (4, .slice none 0 0), (12, bl false)]) 3 hA [] c0 ?_
  clear hA fr; intro fr hA
  refine cF hA ?_
  refine wp_skip ?_
  refine then_normal ?_
  refine wp_seq ?_
  refine sC (e' := [(2, .slice none 0 0), (3, .slice (some ⟨b2, 0, none⟩) 0 0), (4, .slice none 0 0), (5, i64 0)]) 1 hA [] c0 ?_
  clear hA fr; intro fr hA
  refine wp_block ?_
  refine c_loop (fun mm fr W => (mm = 0 ∧ Holds 43 [] fr [(2, .slice none 0 0), (3, .slice (some ⟨b2, 0, none⟩) 0 0), (4, .slice none 0 0), (5, i64 0)] ∧ Ow Tryd.prog none' w W [(b2, 5, (List.replicate 0 (u8 0))), (b1, 27, [.slice cp cs.length kc, .slice dp ds.length kd, i64 z, i64 et])])) ?_ ?_
  · exact ⟨_, ⟨rfl, hA.sb, hO.to⟩⟩
  · rintro _ fr w4 (⟨rfl, hA, hO⟩)
    ·
      refine wp_seq ?_
      refine sC (e' := [(2, .slice none 0 0), (3, .slice (some ⟨b2, 0, none⟩) 0 0), (4, .slice none 0 0), (5, i64 0), (29, bl false)]) 4 hA [] c0 ?_
      clear hA fr; intro fr hA
      refine cF hA ?_
      refine wp_exit ?_
      refine then_exit ?_
      refine then_exit ?_
      refine inBlock_exit ?_
      refine then_normal ?_
      refine sC (e' := [(2, .slice none 0 0)]) 2 hA [] c0 ?_
      clear hA fr; intro fr hA
      refine wp_ret ?_
      refine cR (cs := [none]) (us := [.slice none 0 0]) hA [] trivial ?_
      have hF := hO.only; clear hA hO
      exact ⟨rfl, hF⟩

theorem pages_lt (cp dp : Option Addr) (kc kd : Nat) (cs ds : List Int) (z et : Int) (w : World) (hc : cs.length ≤ 2000) (hd : ds.length ≤ 2000) (hT : Tab w) (hs : SlI w (.slice cp cs.length kc) cs) (hkc : cs.length ≤ kc) (hs2 : SlI w (.slice dp ds.length kd) ds) (hv : validB cs ((ds.length : Nat) : Int) z et = true) (hz0 : 0 ≤ z) (hz1 : z ≤ 3072) (U N : Nat) (hN : endP ((cs.length : Nat) : Int) ((ds.length : Nat) : Int) z = ((N : Nat) : Int)) (hU : upP ((cs.length : Nat) : Int) = ((U : Nat) : Int)) (hUN : U < N) (hN1 : N ≤ 3072) (hcu : cs.length ≤ U) (hud : U + ds.length ≤ N) (hN0 : 0 < N) (hN8 : N % 128 = 0) :
    Calls Tryd.prog 8 #[.agg #[.slice cp cs.length kc, .slice dp ds.length kd, i64 z, i64 et]] w fun e w' => ∃ mb p' c' T', e = .returned (.slice p' (pagesV mb (N / 128)).length c') ∧ Ow Tryd.prog none' w w' ([(mb, 5, (memL cs ds U N).flatMap fB)] ++ (T' ++ [])) ∧ One fS 22 1 p' c' (pagesV mb (N / 128)) T' := by
  refine c_enter (args := [.agg #[.slice cp cs.length kc, .slice dp ds.length kd, i64 z, i64 et]]) (m := 42) (n := 43) Tryd.func8 rfl (by kernel_rfl) (by kernel_rfl) fun fr hA => ?_
  have hO := Ow.nil Tryd.prog none' w
  refine sR (l := [0, 1]) ?_
  refine wpOps_cons' (mN (l := [.slice cp cs.length kc, .slice dp ds.length kd, i64 z, i64 et]) (t := 27) (v := pt) (d := 1) hA hO ?_)
  clear hA hO fr; intro fr w1 b1 hA hO
  replace hA := hA.sb (e' := [(1, pt b1)])
  refine ck (l := [1]) (r := []) (e' := [(1, pt b1), (2, .slice none 0 0)]) hA [] c0 ?_
  clear hA fr; intro fr hA
  refine end_ops ?_
  refine then_normal ?_
  refine sR (l := (rg 0 5)) ?_
  refine ck (l := [0]) (r := [1, 2, 3, 4]) (e' := [(1, pt b1), (2, .slice none 0 0), (6, .agg #[.slice cp cs.length kc, .slice dp ds.length kd, i64 z, i64 et])]) hA [.agg #[.slice cp cs.length kc, .slice dp ds.length kd, i64 z, i64 et]] (cc (hO.ln 0 0 27 [.slice cp cs.length kc, .slice dp ds.length kd, i64 z, i64 et]) c0) ?_
  clear hA fr; intro fr hA
  refine wpOps_cons' (mK (f := 10) (args := [.agg #[.slice cp cs.length kc, .slice dp ds.length kd, i64 z, i64 et]]) (d := (some 7)) (v := i64 (endP ((cs.length : Nat) : Int) ((ds.length : Nat) : Int) z / 128)) hA hO Tryd.func10 (size_ok cp dp kc kd cs ds z et _ hc hd (hT.keep hO.only (fun h => h)) (hs.keep hO.only) hkc (hs2.keep hO.only) hv hz0 hz1) ?_)
  clear hA hO fr; intro fr w2 hA hO
  replace hA := hA.sb (e' := [(1, pt b1), (2, .slice none 0 0), (7, i64 (endP ((cs.length : Nat) : Int) ((ds.length : Nat) : Int) z / 128))])
  refine ck (l := [2]) (r := [3, 4]) (e' := [(1, pt b1), (2, .slice none 0 0), (8, i64 ((endP ((cs.length : Nat) : Int) ((ds.length : Nat) : Int) z / 128) * 128))]) hA [bl true] (cc ((inK_i64 (by omega) (by omega)) : inK .i64 ((endP ((cs.length : Nat) : Int) ((ds.length : Nat) : Int) z / 128) * 128)) c0) ?_
  clear hA fr; intro fr hA
  replace hA := hA.int (f := fun z_ => [(1, pt b1), (2, .slice none 0 0), (8, .int .i64 z_)]) (by omega : (endP ((cs.length : Nat) : Int) ((ds.length : Nat) : Int) z / 128) * 128 = ((N : Nat) : Int))
  refine wpOps_cons' (mM (k := .i64) (k' := .i64) (el := 5) (bytes := 1) (z := u8 0) (t := 22) (m := N) (d := 9) hA hO (by omega) (by omega) ?_)
  clear hA hO fr; intro fr w3 b2 hA hO
  replace hA := hA.sb (e' := [(1, pt b1), (2, .slice none 0 0), (9, .slice (some ⟨b2, 0, none⟩) N N)])
  refine ck (l := [4]) (r := []) (e' := [(1, pt b1), (2, .slice none 0 0), (3, .slice (some ⟨b2, 0, none⟩) N N)]) hA [] c0 ?_
  clear hA fr; intro fr hA
  refine end_ops ?_
  refine then_normal ?_
  refine sC (e' := [(1, pt b1), (2, .slice none 0 0), (3, .slice (some ⟨b2, 0, none⟩) N N), (4, .slice none 0 0)]) 1 hA [] c0 ?_
  clear hA fr; intro fr hA
  refine wp_seq ?_
  refine sC (e' := [(1, pt b1), (2, .slice none 0 0), (3, .slice (some ⟨b2, 0, none⟩) N N), (4, .slice none 0 0), (12, bl (decide (((N : Nat) : Int) > 0)))]) 3 hA [] c0 ?_
  clear hA fr; intro fr hA
  replace hA := hA.bool (f := fun z_ => [(1, pt b1), (2, .slice none 0 0), (3, .slice (some ⟨b2, 0, none⟩) N N), (4, .slice none 0 0), (12, .bool z_)]) (decide_eq_true (by omega) : (decide (((N : Nat) : Int) > 0)) = true)
  refine cT hA ?_
  refine sR (l := [0, 1, 2, 3]) ?_
  refine ck (l := [0, 1, 2]) (r := [3]) (e' := [(1, pt b1), (2, .slice none 0 0), (3, .slice (some ⟨b2, 0, none⟩) N N), (4, .slice none 0 0), (13, .slice (some ⟨b2, 0, none⟩) N N), (15, .slice cp cs.length kc)]) hA [.slice cp cs.length kc] (cc (hO.l1 1 0 22 (.slice cp cs.length kc)) c0) ?_
  clear hA fr; intro fr hA
  refine wpOps_cons' (mY (f := fB) (el := 5) (L := [(b2, 5, (List.replicate N (u8 0))), (b1, 27, [.slice cp cs.length kc, .slice dp ds.length kd, i64 z, i64 et])]) (t := 22) (tx := 22) (ty := 3) (x := .slice cp cs.length kc) (xs := cs) (off := 0) (dl := N) (dc := N) (m := cs.length) (d := (some 16)) (l' := setL (List.replicate N (u8 0)) 0 (cs.flatMap fB)) 0 encB hA hO ((hs.keep hO.only)).vw (by omega) (by show 0 + cs.length ≤ (List.replicate N (u8 0)).length; rw [List.length_replicate]; omega) (by rw [List.take_length]; rfl) ?_ (by omega))
  clear hA hO fr; intro fr w4 hA hO
  replace hO : Ow Tryd.prog none' w w4 [(b2, 5, (setL (List.replicate N (u8 0)) 0 (cs.flatMap fB))), (b1, 27, [.slice cp cs.length kc, .slice dp ds.length kd, i64 z, i64 et])] := hO
  replace hA := hA.sb (e' := [(1, pt b1), (2, .slice none 0 0), (3, .slice (some ⟨b2, 0, none⟩) N N), (4, .slice none 0 0)])
  refine end_ops ?_
  refine then_normal ?_
  have hS : Ow Tryd.prog none' w _ [(b1, 27, [.slice cp cs.length kc, .slice dp ds.length kd, i64 z, i64 et])] := hO.sub [1]
  refine rP [(0, true), (1, true), (2, true), (3, true), (6, true), (7, true), (4, false), (5, true), (8, false)] hS ?_
  intro w5 ho; replace hO := hO.st ho; clear ho
  refine ckS (l := [0, 1, 2, 3, 6, 7]) (r := [(4, false), (5, true), (8, false)]) (e' := [(2, .slice none 0 0), (3, .slice (some ⟨b2, 0, none⟩) N N), (4, .slice none 0 0), (17, .slice (some ⟨b2, 0, none⟩) N N), (20, i64 ((cs.length : Nat) : Int)), (24, .slice dp ds.length kd)]) hA [.slice cp cs.length kc, .slice dp ds.length kd] (cc (hS.s1 0 0 22 (.slice cp cs.length kc)) (cc (hS.s1 0 1 22 (.slice dp ds.length kd)) c0)) ?_
  clear hA fr; intro fr hA
  refine plan_mem (mK (f := 22) (args := [i64 ((cs.length : Nat) : Int)]) (d := (some 21)) (v := i64 ((U : Nat) : Int)) hA hO Tryd.func22 (rs (up_any ((cs.length : Nat) : Int) _ (by omega) (by omega)) (congrArg (Value.int .i64) hU)) ?_)
  clear hA hO fr; intro fr w6 hA hO
  refine ⟨(hO.sub [1]), ?_⟩
  replace hA := hA.sb (e' := [(2, .slice none 0 0), (3, .slice (some ⟨b2, 0, none⟩) N N), (4, .slice none 0 0), (17, .slice (some ⟨b2, 0, none⟩) N N), (21, i64 ((U : Nat) : Int)), (24, .slice dp ds.length kd)])
  refine ckS (l := [5]) (r := [(8, false)]) (e' := [(2, .slice none 0 0), (3, .slice (some ⟨b2, 0, none⟩) N N), (4, .slice none 0 0), (22, .slice (some (atIx (⟨b2, 0, none⟩ : Addr) 1 ((U : Nat) : Int))) ((N) - (U)) ((N) - (U))), (24, .slice dp ds.length kd)]) hA [bl true] (cc (⟨by omega, by omega, by omega, by omega, by omega⟩ : (0 : Int) ≤ ((U : Nat) : Int) ∧ ((U : Nat) : Int) ≤ ((N : Nat) : Int) ∧ ((N : Nat) : Int) ≤ ((N : Nat) : Int) ∧ ((N : Nat) : Int) ≤ ((N : Nat) : Int) ∧ ((U : Nat) : Int) < ((N : Nat) : Int)) c0) ?_
  clear hA fr; intro fr hA
  rw [show atIx (⟨b2, 0, none⟩ : Addr) 1 ((U : Nat) : Int) = (⟨b2, 0 + (U), none⟩ : Addr) from atIx_blk _ _ rfl] at hA
  refine plan_mem (mY (f := fB) (el := 5) (L := [(b2, 5, (setL (List.replicate N (u8 0)) 0 (cs.flatMap fB))), (b1, 27, [.slice cp cs.length kc, .slice dp ds.length kd, i64 z, i64 et])]) (t := 22) (tx := 22) (ty := 3) (x := .slice dp ds.length kd) (xs := ds) (off := 0 + (U)) (dl := (N) - (U)) (dc := (N) - (U)) (m := ds.length) (d := (some 25)) (l' := (memL cs ds U N).flatMap fB) 0 encB hA hO ((hs2.keep hO.only)).vw (by omega) (by show 0 + U + ds.length ≤ (setL (List.replicate N (u8 0)) 0 (cs.flatMap fB)).length; simp [setL, encB.flen]; omega) (by show setL (setL (List.replicate N (u8 0)) 0 (cs.flatMap fB)) (0 + U) ((ds.take ds.length).flatMap fB) = _; rw [List.take_length, Nat.zero_add]; exact mem_eq hcu hud) ?_ (by omega))
  clear hA hO fr; intro fr w7 hA hO
  replace hO : Ow Tryd.prog none' w w7 [(b2, 5, ((memL cs ds U N).flatMap fB)), (b1, 27, [.slice cp cs.length kc, .slice dp ds.length kd, i64 z, i64 et])] := hO
  refine ⟨(hO.sub [1]), ?_⟩
  replace hA := hA.sb (e' := [(2, .slice none 0 0), (3, .slice (some ⟨b2, 0, none⟩) N N), (4, .slice none 0 0)])
  refine end_plan ?_
  refine then_normal ?_
  refine wp_seq ?_
  refine sC (e' := [(2, .slice none 0 0), (3, .slice (some ⟨b2, 0, none⟩) N N), (4, .slice none 0 0), (5, i64 0)]) 1 hA [] c0 ?_
  clear hA fr; intro fr hA
  refine wp_block ?_
  have hT1 := One.nil fS 22 1
  replace hO : Ow Tryd.prog none' w w7 ([(b2, 5, ((memL cs ds U N).flatMap fB)), (b1, 27, [.slice cp cs.length kc, .slice dp ds.length kd, i64 z, i64 et])] ++ ([] ++ ([]))) := hO.to (by simp only [List.append_assoc, List.cons_append, List.nil_append, List.append_nil])
  refine c_loop (fun mm fr W => ∃ (k : Nat) (pL1 : Option Addr) (cL1 : Nat) (TL1 : OwL), mm = N - 128 * k ∧ Holds 43 [] fr [(2, .slice none 0 0), (3, .slice (some ⟨b2, 0, none⟩) N N), (4, .slice pL1 ((pagesV b2 k).length) cL1), (5, i64 ((128 * k : Nat) : Int))] ∧ Ow Tryd.prog none' w W ([(b2, 5, ((memL cs ds U N).flatMap fB)), (b1, 27, [.slice cp cs.length kc, .slice dp ds.length kd, i64 z, i64 et])] ++ (TL1 ++ ([]))) ∧ One fS 22 1 pL1 cL1 (pagesV b2 k) TL1 ∧ 128 * k ≤ N ∧ True) ?_ ?_
  · exact ⟨_, 0, none, 0, [], rfl, (hA.sub (e' := [(2, .slice none 0 0), (3, .slice (some ⟨b2, 0, none⟩) N N), (4, .slice none 0 0), (5, i64 0)]) [2, 3, 4, 5] (by kernel_rfl)).cast (by kernel_rfl), (hO : Ow Tryd.prog none' w _ ([(b2, 5, ((memL cs ds U N).flatMap fB)), (b1, 27, [.slice cp cs.length kc, .slice dp ds.length kd, i64 z, i64 et])] ++ ([] ++ ([])))), hT1, (by omega), trivial⟩
  · rintro _ fr w8 ⟨k, pL1, cL1, TL1, rfl, hA, hO, hTL1, hk, -⟩
    have hplen : (pagesV b2 k).length = k := pagesV_len _ _
    refine wp_seq ?_
    refine sC (e' := [(2, .slice none 0 0), (3, .slice (some ⟨b2, 0, none⟩) N N), (4, .slice pL1 ((pagesV b2 k).length) cL1), (5, i64 ((128 * k : Nat) : Int)), (26, i64 ((128 * k : Nat) : Int)), (27, .slice (some ⟨b2, 0, none⟩) N N), (28, i64 ((N : Nat) : Int)), (29, bl (decide (((128 * k : Nat) : Int) < ((N : Nat) : Int))))]) 4 hA [] c0 ?_
    clear hA fr; intro fr hA
    rcases Bool.eq_false_or_eq_true (decide (((128 * k : Nat) : Int) < ((N : Nat) : Int))) with h1 | h1
    ·
      replace hA := hA.bool (f := fun z_ => [(2, .slice none 0 0), (3, .slice (some ⟨b2, 0, none⟩) N N), (4, .slice pL1 ((pagesV b2 k).length) cL1), (5, i64 ((128 * k : Nat) : Int)), (26, i64 ((128 * k : Nat) : Int)), (27, .slice (some ⟨b2, 0, none⟩) N N), (28, i64 ((N : Nat) : Int)), (29, .bool z_)]) h1
      have h1p := of_decide_eq_true h1
      refine cT hA ?_
      refine wp_skip ?_
      refine then_normal ?_
      refine wp_seq ?_
      refine wp_block ?_
      refine rR (l := (rg 0 11)) ?_
      refine ck (l := (rg 0 8)) (r := [8, 9, 10]) (e' := [(2, .slice none 0 0), (3, .slice (some ⟨b2, 0, none⟩) N N), (4, .slice pL1 ((pagesV b2 k).length) cL1), (5, i64 ((128 * k : Nat) : Int)), (26, i64 ((128 * k : Nat) : Int)), (27, .slice (some ⟨b2, 0, none⟩) N N), (28, i64 ((N : Nat) : Int)), (29, bl true), (32, .slice pL1 ((pagesV b2 k).length) cL1), (33, .slice (some ⟨b2, 0, none⟩) N N), (34, i64 ((128 * k : Nat) : Int)), (35, i64 ((128 * k : Nat) : Int)), (36, i64 (((128 * k : Nat) : Int) + 128)), (37, i64 ((128 * k : Nat) : Int)), (38, i64 (((128 * k : Nat) : Int) + 128)), (39, .slice (some (atIx (⟨b2, 0, none⟩ : Addr) 1 ((128 * k : Nat) : Int))) (((((128 * k : Nat) : Int) + 128).toNat) - (128 * k)) (((((128 * k : Nat) : Int) + 128).toNat) - (128 * k)))]) hA [bl true, bl true, bl true] (cc ((inK_i64 (by omega) (by omega)) : inK .i64 (((128 * k : Nat) : Int) + 128)) (cc ((inK_i64 (by omega) (by omega)) : inK .i64 (((128 * k : Nat) : Int) + 128)) (cc (⟨by omega, by omega, by omega, by omega, by omega⟩ : (0 : Int) ≤ ((128 * k : Nat) : Int) ∧ ((128 * k : Nat) : Int) ≤ ((128 * k : Nat) : Int) + 128 ∧ ((128 * k : Nat) : Int) + 128 ≤ ((128 * k : Nat) : Int) + 128 ∧ ((128 * k : Nat) : Int) + 128 ≤ ((N : Nat) : Int) ∧ ((128 * k : Nat) : Int) < ((128 * k : Nat) : Int) + 128) c0))) ?_
      clear hA fr; intro fr hA
      rw [show atIx (⟨b2, 0, none⟩ : Addr) 1 ((128 * k : Nat) : Int) = (⟨b2, 0 + (128 * k), none⟩ : Addr) from atIx_blk _ _ rfl] at hA
      rw [show (((((128 * k : Nat) : Int) + 128).toNat) - (128 * k)) = 128 from (by omega)] at hA
      replace hA := hA.int (f := fun z_ => [(2, .slice none 0 0), (3, .slice (some ⟨b2, 0, none⟩) N N), (4, .slice pL1 ((pagesV b2 k).length) cL1), (5, i64 ((128 * k : Nat) : Int)), (26, i64 ((128 * k : Nat) : Int)), (27, .slice (some ⟨b2, 0, none⟩) N N), (28, i64 ((N : Nat) : Int)), (29, bl true), (32, .slice pL1 ((pagesV b2 k).length) cL1), (33, .slice (some ⟨b2, 0, none⟩) N N), (34, i64 ((128 * k : Nat) : Int)), (35, i64 ((128 * k : Nat) : Int)), (36, .int .i64 z_), (37, i64 ((128 * k : Nat) : Int)), (38, .int .i64 z_), (39, .slice (some ⟨b2, 0 + (128 * k), none⟩) 128 128)]) (by omega : ((128 * k : Nat) : Int) + 128 = ((128 * (k + 1) : Nat) : Int))
      refine wpOps_cons' (mN (l := [.slice (some ⟨b2, 0 + (128 * k), none⟩) 128 128]) (t := 22) (v := fun b => .slice (some ⟨b, 0, none⟩) 1 1) (d := 40) hA hO ?_)
      clear hA hO fr; intro fr w9 b3 hA hO
      replace hO : Ow Tryd.prog none' w w9 ([(b3, 22, [.slice (some ⟨b2, 0 + (128 * k), none⟩) 128 128]), (b2, 5, ((memL cs ds U N).flatMap fB)), (b1, 27, [.slice cp cs.length kc, .slice dp ds.length kd, i64 z, i64 et])] ++ (TL1 ++ ([]))) := hO
      refine wpOps_cons' (mA (f := fS) (el := 22) (sz := 1) (bytes := 24) (p := pL1) (c := cL1) (l := pagesV b2 k) (l' := ([(some ⟨b2, 0 + (128 * k), none⟩, 128, 128)] : List (Option Addr × Nat × Nat))) (T := TL1) (t := 28) (tx := 28) (ty := 28) (x := .slice (some ⟨b3, 0, none⟩) 1 1) (d := 41) [(b3, 22, [.slice (some ⟨b2, 0 + (128 * k), none⟩) 128 128]), (b2, 5, ((memL cs ds U N).flatMap fB)), (b1, 27, [.slice cp cs.length kc, .slice dp ds.length kd, i64 z, i64 et])] ([]) encS hA hO hTL1 (Vw.src (e' := 22) encS ((hO.b 0).vw (off := 0) (xs := ([(some ⟨b2, 0 + (128 * k), none⟩, 128, 128)] : List (Option Addr × Nat × Nat))) (by kernel_rfl)) (by kernel_rfl)) (by first | omega | (simp only [List.length_append, List.length_cons, List.length_nil]; omega)) (by unfold maxLen; first | omega | (simp only [List.length_append, List.length_cons, List.length_nil]; omega)) ?_)
      clear hA hO fr; intro fr w10 p1 c1 T2 hA hO hT2
      rw [show ((pagesV b2 k) ++ ([(some ⟨b2, 0 + (128 * k), none⟩, 128, 128)] : List (Option Addr × Nat × Nat))) = pagesV b2 (k + 1) from (pagesV_succ _ _)] at hA hT2
      refine ck (l := [10]) (r := []) (e' := [(2, .slice none 0 0), (3, .slice (some ⟨b2, 0, none⟩) N N), (4, .slice p1 ((pagesV b2 (k + 1)).length) c1), (5, i64 ((128 * k : Nat) : Int)), (26, i64 ((128 * k : Nat) : Int)), (27, .slice (some ⟨b2, 0, none⟩) N N), (28, i64 ((N : Nat) : Int)), (29, bl true), (32, .slice pL1 ((pagesV b2 k).length) cL1), (33, .slice (some ⟨b2, 0, none⟩) N N), (34, i64 ((128 * k : Nat) : Int)), (35, i64 ((128 * k : Nat) : Int)), (36, i64 ((128 * (k + 1) : Nat) : Int)), (37, i64 ((128 * k : Nat) : Int)), (38, i64 ((128 * (k + 1) : Nat) : Int)), (39, .slice (some ⟨b2, 0 + (128 * k), none⟩) 128 128), (40, .slice (some ⟨b3, 0, none⟩) 1 1), (41, .slice p1 ((pagesV b2 (k + 1)).length) c1)]) hA [] c0 ?_
      clear hA fr; intro fr hA
      refine end_ops ?_
      refine inBlock_normal ?_
      refine then_normal ?_
      refine rC (e' := [(2, .slice none 0 0), (3, .slice (some ⟨b2, 0, none⟩) N N), (4, .slice p1 ((pagesV b2 (k + 1)).length) c1), (5, i64 (((128 * k : Nat) : Int) + 128)), (26, i64 ((128 * k : Nat) : Int)), (27, .slice (some ⟨b2, 0, none⟩) N N), (28, i64 ((N : Nat) : Int)), (29, bl true), (30, i64 ((128 * k : Nat) : Int)), (31, i64 (((128 * k : Nat) : Int) + 128)), (32, .slice pL1 ((pagesV b2 k).length) cL1), (33, .slice (some ⟨b2, 0, none⟩) N N), (34, i64 ((128 * k : Nat) : Int)), (35, i64 ((128 * k : Nat) : Int)), (36, i64 ((128 * (k + 1) : Nat) : Int)), (37, i64 ((128 * k : Nat) : Int)), (38, i64 ((128 * (k + 1) : Nat) : Int)), (39, .slice (some ⟨b2, 0 + (128 * k), none⟩) 128 128), (40, .slice (some ⟨b3, 0, none⟩) 1 1), (41, .slice p1 ((pagesV b2 (k + 1)).length) c1)]) 3 hA [bl true] (cc ((inK_i64 (by omega) (by omega)) : inK .i64 (((128 * k : Nat) : Int) + 128)) c0) ?_
      clear hA fr; intro fr hA
      replace hA := hA.int (f := fun z_ => [(2, .slice none 0 0), (3, .slice (some ⟨b2, 0, none⟩) N N), (4, .slice p1 ((pagesV b2 (k + 1)).length) c1), (5, .int .i64 z_), (26, i64 ((128 * k : Nat) : Int)), (27, .slice (some ⟨b2, 0, none⟩) N N), (28, i64 ((N : Nat) : Int)), (29, bl true), (30, i64 ((128 * k : Nat) : Int)), (31, .int .i64 z_), (32, .slice pL1 ((pagesV b2 k).length) cL1), (33, .slice (some ⟨b2, 0, none⟩) N N), (34, i64 ((128 * k : Nat) : Int)), (35, i64 ((128 * k : Nat) : Int)), (36, i64 ((128 * (k + 1) : Nat) : Int)), (37, i64 ((128 * k : Nat) : Int)), (38, i64 ((128 * (k + 1) : Nat) : Int)), (39, .slice (some ⟨b2, 0 + (128 * k), none⟩) 128 128), (40, .slice (some ⟨b3, 0, none⟩) 1 1), (41, .slice p1 ((pagesV b2 (k + 1)).length) c1)]) (by omega : ((128 * k : Nat) : Int) + 128 = ((128 * (k + 1) : Nat) : Int))
      refine then_normal ?_
      exact ⟨_, by omega, k + 1, p1, c1, T2, rfl, (hA.sub (e' := [(2, .slice none 0 0), (3, .slice (some ⟨b2, 0, none⟩) N N), (4, .slice p1 ((pagesV b2 (k + 1)).length) c1), (5, i64 ((128 * (k + 1) : Nat) : Int))]) [2, 3, 4, 5] (by kernel_rfl)).cast (by kernel_rfl), (Ow.subP (A := [(b3, 22, [.slice (some ⟨b2, 0 + (128 * k), none⟩) 128 128]), (b2, 5, ((memL cs ds U N).flatMap fB)), (b1, 27, [.slice cp cs.length kc, .slice dp ds.length kd, i64 z, i64 et])]) (A' := [(b2, 5, ((memL cs ds U N).flatMap fB)), (b1, 27, [.slice cp cs.length kc, .slice dp ds.length kd, i64 z, i64 et])]) (B := T2 ++ ([])) hO (.cons _ (.cons_cons _ (.cons_cons _ .slnil)))), hT2, (by omega), trivial⟩
    ·
      replace hA := hA.bool (f := fun z_ => [(2, .slice none 0 0), (3, .slice (some ⟨b2, 0, none⟩) N N), (4, .slice pL1 ((pagesV b2 k).length) cL1), (5, i64 ((128 * k : Nat) : Int)), (26, i64 ((128 * k : Nat) : Int)), (27, .slice (some ⟨b2, 0, none⟩) N N), (28, i64 ((N : Nat) : Int)), (29, .bool z_)]) h1
      have h1p := of_decide_eq_false h1
      refine cF hA ?_
      refine wp_exit ?_
      refine then_exit ?_
      refine then_exit ?_
      refine inBlock_exit ?_
      refine then_normal ?_
      refine sC (e' := [(2, .slice pL1 ((pagesV b2 k).length) cL1)]) 2 hA [] c0 ?_
      clear hA fr; intro fr hA
      refine wp_ret ?_
      refine cR (cs := [none]) (us := [.slice pL1 ((pagesV b2 k).length) cL1]) hA [] trivial ?_
      obtain rfl : k = N / 128 := by omega
      exact ⟨b2, _, _, _, rfl, (Ow.subP (A := [(b2, 5, ((memL cs ds U N).flatMap fB)), (b1, 27, [.slice cp cs.length kc, .slice dp ds.length kd, i64 z, i64 et])]) (A' := [(b2, 5, ((memL cs ds U N).flatMap fB))]) (B := TL1 ++ ([])) hO (.cons_cons _ (.cons _ .slnil))), hTL1⟩

theorem pages_eq (cp dp : Option Addr) (kc kd : Nat) (cs ds : List Int) (z et : Int) (w : World) (hc : cs.length ≤ 2000) (hd : ds.length ≤ 2000) (hT : Tab w) (hs : SlI w (.slice cp cs.length kc) cs) (hkc : cs.length ≤ kc) (hs2 : SlI w (.slice dp ds.length kd) ds) (hv : validB cs ((ds.length : Nat) : Int) z et = true) (hz0 : 0 ≤ z) (hz1 : z ≤ 3072) (U N : Nat) (hN : endP ((cs.length : Nat) : Int) ((ds.length : Nat) : Int) z = ((N : Nat) : Int)) (hU : upP ((cs.length : Nat) : Int) = ((U : Nat) : Int)) (hUN : U = N) (hN1 : N ≤ 3072) (hcu : cs.length ≤ U) (hud : U + ds.length ≤ N) (hN0 : 0 < N) (hN8 : N % 128 = 0) :
    Calls Tryd.prog 8 #[.agg #[.slice cp cs.length kc, .slice dp ds.length kd, i64 z, i64 et]] w fun e w' => ∃ mb p' c' T', e = .returned (.slice p' (pagesV mb (N / 128)).length c') ∧ Ow Tryd.prog none' w w' ([(mb, 5, (memL cs ds U N).flatMap fB)] ++ (T' ++ [])) ∧ One fS 22 1 p' c' (pagesV mb (N / 128)) T' := by
  refine c_enter (args := [.agg #[.slice cp cs.length kc, .slice dp ds.length kd, i64 z, i64 et]]) (m := 42) (n := 43) Tryd.func8 rfl (by kernel_rfl) (by kernel_rfl) fun fr hA => ?_
  have hO := Ow.nil Tryd.prog none' w
  refine sR (l := [0, 1]) ?_
  refine wpOps_cons' (mN (l := [.slice cp cs.length kc, .slice dp ds.length kd, i64 z, i64 et]) (t := 27) (v := pt) (d := 1) hA hO ?_)
  clear hA hO fr; intro fr w1 b1 hA hO
  replace hA := hA.sb (e' := [(1, pt b1)])
  refine ck (l := [1]) (r := []) (e' := [(1, pt b1), (2, .slice none 0 0)]) hA [] c0 ?_
  clear hA fr; intro fr hA
  refine end_ops ?_
  refine then_normal ?_
  refine sR (l := (rg 0 5)) ?_
  refine ck (l := [0]) (r := [1, 2, 3, 4]) (e' := [(1, pt b1), (2, .slice none 0 0), (6, .agg #[.slice cp cs.length kc, .slice dp ds.length kd, i64 z, i64 et])]) hA [.agg #[.slice cp cs.length kc, .slice dp ds.length kd, i64 z, i64 et]] (cc (hO.ln 0 0 27 [.slice cp cs.length kc, .slice dp ds.length kd, i64 z, i64 et]) c0) ?_
  clear hA fr; intro fr hA
  refine wpOps_cons' (mK (f := 10) (args := [.agg #[.slice cp cs.length kc, .slice dp ds.length kd, i64 z, i64 et]]) (d := (some 7)) (v := i64 (endP ((cs.length : Nat) : Int) ((ds.length : Nat) : Int) z / 128)) hA hO Tryd.func10 (size_ok cp dp kc kd cs ds z et _ hc hd (hT.keep hO.only (fun h => h)) (hs.keep hO.only) hkc (hs2.keep hO.only) hv hz0 hz1) ?_)
  clear hA hO fr; intro fr w2 hA hO
  replace hA := hA.sb (e' := [(1, pt b1), (2, .slice none 0 0), (7, i64 (endP ((cs.length : Nat) : Int) ((ds.length : Nat) : Int) z / 128))])
  refine ck (l := [2]) (r := [3, 4]) (e' := [(1, pt b1), (2, .slice none 0 0), (8, i64 ((endP ((cs.length : Nat) : Int) ((ds.length : Nat) : Int) z / 128) * 128))]) hA [bl true] (cc ((inK_i64 (by omega) (by omega)) : inK .i64 ((endP ((cs.length : Nat) : Int) ((ds.length : Nat) : Int) z / 128) * 128)) c0) ?_
  clear hA fr; intro fr hA
  replace hA := hA.int (f := fun z_ => [(1, pt b1), (2, .slice none 0 0), (8, .int .i64 z_)]) (by omega : (endP ((cs.length : Nat) : Int) ((ds.length : Nat) : Int) z / 128) * 128 = ((N : Nat) : Int))
  refine wpOps_cons' (mM (k := .i64) (k' := .i64) (el := 5) (bytes := 1) (z := u8 0) (t := 22) (m := N) (d := 9) hA hO (by omega) (by omega) ?_)
  clear hA hO fr; intro fr w3 b2 hA hO
  replace hA := hA.sb (e' := [(1, pt b1), (2, .slice none 0 0), (9, .slice (some ⟨b2, 0, none⟩) N N)])
  refine ck (l := [4]) (r := []) (e' := [(1, pt b1), (2, .slice none 0 0), (3, .slice (some ⟨b2, 0, none⟩) N N)]) hA [] c0 ?_
  clear hA fr; intro fr hA
  refine end_ops ?_
  refine then_normal ?_
  refine sC (e' := [(1, pt b1), (2, .slice none 0 0), (3, .slice (some ⟨b2, 0, none⟩) N N), (4, .slice none 0 0)]) 1 hA [] c0 ?_
  clear hA fr; intro fr hA
  refine wp_seq ?_
  refine sC (e' := [(1, pt b1), (2, .slice none 0 0), (3, .slice (some ⟨b2, 0, none⟩) N N), (4, .slice none 0 0), (12, bl (decide (((N : Nat) : Int) > 0)))]) 3 hA [] c0 ?_
  clear hA fr; intro fr hA
  replace hA := hA.bool (f := fun z_ => [(1, pt b1), (2, .slice none 0 0), (3, .slice (some ⟨b2, 0, none⟩) N N), (4, .slice none 0 0), (12, .bool z_)]) (decide_eq_true (by omega) : (decide (((N : Nat) : Int) > 0)) = true)
  refine cT hA ?_
  refine sR (l := [0, 1, 2, 3]) ?_
  refine ck (l := [0, 1, 2]) (r := [3]) (e' := [(1, pt b1), (2, .slice none 0 0), (3, .slice (some ⟨b2, 0, none⟩) N N), (4, .slice none 0 0), (13, .slice (some ⟨b2, 0, none⟩) N N), (15, .slice cp cs.length kc)]) hA [.slice cp cs.length kc] (cc (hO.l1 1 0 22 (.slice cp cs.length kc)) c0) ?_
  clear hA fr; intro fr hA
  refine wpOps_cons' (mY (f := fB) (el := 5) (L := [(b2, 5, (List.replicate N (u8 0))), (b1, 27, [.slice cp cs.length kc, .slice dp ds.length kd, i64 z, i64 et])]) (t := 22) (tx := 22) (ty := 3) (x := .slice cp cs.length kc) (xs := cs) (off := 0) (dl := N) (dc := N) (m := cs.length) (d := (some 16)) (l' := setL (List.replicate N (u8 0)) 0 (cs.flatMap fB)) 0 encB hA hO ((hs.keep hO.only)).vw (by omega) (by show 0 + cs.length ≤ (List.replicate N (u8 0)).length; rw [List.length_replicate]; omega) (by rw [List.take_length]; rfl) ?_ (by omega))
  clear hA hO fr; intro fr w4 hA hO
  replace hO : Ow Tryd.prog none' w w4 [(b2, 5, (setL (List.replicate N (u8 0)) 0 (cs.flatMap fB))), (b1, 27, [.slice cp cs.length kc, .slice dp ds.length kd, i64 z, i64 et])] := hO
  replace hA := hA.sb (e' := [(1, pt b1), (2, .slice none 0 0), (3, .slice (some ⟨b2, 0, none⟩) N N), (4, .slice none 0 0)])
  refine end_ops ?_
  refine then_normal ?_
  have hS : Ow Tryd.prog none' w _ [(b1, 27, [.slice cp cs.length kc, .slice dp ds.length kd, i64 z, i64 et])] := hO.sub [1]
  refine rP [(0, true), (1, true), (2, true), (3, true), (6, true), (7, true), (4, false), (5, true), (8, false)] hS ?_
  intro w5 ho; replace hO := hO.st ho; clear ho
  refine ckS (l := [0, 1, 2, 3, 6, 7]) (r := [(4, false), (5, true), (8, false)]) (e' := [(2, .slice none 0 0), (3, .slice (some ⟨b2, 0, none⟩) N N), (4, .slice none 0 0), (17, .slice (some ⟨b2, 0, none⟩) N N), (20, i64 ((cs.length : Nat) : Int)), (24, .slice dp ds.length kd)]) hA [.slice cp cs.length kc, .slice dp ds.length kd] (cc (hS.s1 0 0 22 (.slice cp cs.length kc)) (cc (hS.s1 0 1 22 (.slice dp ds.length kd)) c0)) ?_
  clear hA fr; intro fr hA
  refine plan_mem (mK (f := 22) (args := [i64 ((cs.length : Nat) : Int)]) (d := (some 21)) (v := i64 ((U : Nat) : Int)) hA hO Tryd.func22 (rs (up_any ((cs.length : Nat) : Int) _ (by omega) (by omega)) (congrArg (Value.int .i64) hU)) ?_)
  clear hA hO fr; intro fr w6 hA hO
  refine ⟨(hO.sub [1]), ?_⟩
  replace hA := hA.sb (e' := [(2, .slice none 0 0), (3, .slice (some ⟨b2, 0, none⟩) N N), (4, .slice none 0 0), (17, .slice (some ⟨b2, 0, none⟩) N N), (21, i64 ((U : Nat) : Int)), (24, .slice dp ds.length kd)])
  refine ckS (l := [5]) (r := [(8, false)]) (e' := [(2, .slice none 0 0), (3, .slice (some ⟨b2, 0, none⟩) N N), (4, .slice none 0 0), (22, .slice (some ⟨b2, 0, none⟩) ((N) - (U)) ((N) - (U))), (24, .slice dp ds.length kd)]) hA [bl false] (cc (⟨by omega, by omega, by omega, by omega, by omega⟩ : (0 : Int) ≤ ((U : Nat) : Int) ∧ ((U : Nat) : Int) ≤ ((N : Nat) : Int) ∧ ((N : Nat) : Int) ≤ ((N : Nat) : Int) ∧ ((N : Nat) : Int) ≤ ((N : Nat) : Int) ∧ (((U : Nat) : Int) = ((N : Nat) : Int) ∨ ((U : Nat) : Int) = (0 : Int))) c0) ?_
  clear hA fr; intro fr hA
  refine plan_mem (mY (f := fB) (el := 5) (L := [(b2, 5, (setL (List.replicate N (u8 0)) 0 (cs.flatMap fB))), (b1, 27, [.slice cp cs.length kc, .slice dp ds.length kd, i64 z, i64 et])]) (t := 22) (tx := 22) (ty := 3) (x := .slice dp ds.length kd) (xs := ds) (off := 0) (dl := (N) - (U)) (dc := (N) - (U)) (m := 0) (d := (some 25)) (l' := (memL cs ds U N).flatMap fB) 0 encB hA hO ((hs2.keep hO.only)).vw (by omega) (by simp only [Nat.add_zero]; exact Nat.zero_le _) (by rw [← mem_eq hcu hud]; have h0 : ds = [] := List.eq_nil_of_length_eq_zero (by omega); subst h0; show setL (setL (List.replicate N (u8 0)) 0 (cs.flatMap fB)) 0 [] = _; simp [setL]; done) ?_ (by omega))
  clear hA hO fr; intro fr w7 hA hO
  replace hO : Ow Tryd.prog none' w w7 [(b2, 5, ((memL cs ds U N).flatMap fB)), (b1, 27, [.slice cp cs.length kc, .slice dp ds.length kd, i64 z, i64 et])] := hO
  refine ⟨(hO.sub [1]), ?_⟩
  replace hA := hA.sb (e' := [(2, .slice none 0 0), (3, .slice (some ⟨b2, 0, none⟩) N N), (4, .slice none 0 0)])
  refine end_plan ?_
  refine then_normal ?_
  refine wp_seq ?_
  refine sC (e' := [(2, .slice none 0 0), (3, .slice (some ⟨b2, 0, none⟩) N N), (4, .slice none 0 0), (5, i64 0)]) 1 hA [] c0 ?_
  clear hA fr; intro fr hA
  refine wp_block ?_
  have hT1 := One.nil fS 22 1
  replace hO : Ow Tryd.prog none' w w7 ([(b2, 5, ((memL cs ds U N).flatMap fB)), (b1, 27, [.slice cp cs.length kc, .slice dp ds.length kd, i64 z, i64 et])] ++ ([] ++ ([]))) := hO.to (by simp only [List.append_assoc, List.cons_append, List.nil_append, List.append_nil])
  refine c_loop (fun mm fr W => ∃ (k : Nat) (pL1 : Option Addr) (cL1 : Nat) (TL1 : OwL), mm = N - 128 * k ∧ Holds 43 [] fr [(2, .slice none 0 0), (3, .slice (some ⟨b2, 0, none⟩) N N), (4, .slice pL1 ((pagesV b2 k).length) cL1), (5, i64 ((128 * k : Nat) : Int))] ∧ Ow Tryd.prog none' w W ([(b2, 5, ((memL cs ds U N).flatMap fB)), (b1, 27, [.slice cp cs.length kc, .slice dp ds.length kd, i64 z, i64 et])] ++ (TL1 ++ ([]))) ∧ One fS 22 1 pL1 cL1 (pagesV b2 k) TL1 ∧ 128 * k ≤ N ∧ True) ?_ ?_
  · exact ⟨_, 0, none, 0, [], rfl, (hA.sub (e' := [(2, .slice none 0 0), (3, .slice (some ⟨b2, 0, none⟩) N N), (4, .slice none 0 0), (5, i64 0)]) [2, 3, 4, 5] (by kernel_rfl)).cast (by kernel_rfl), (hO : Ow Tryd.prog none' w _ ([(b2, 5, ((memL cs ds U N).flatMap fB)), (b1, 27, [.slice cp cs.length kc, .slice dp ds.length kd, i64 z, i64 et])] ++ ([] ++ ([])))), hT1, (by omega), trivial⟩
  · rintro _ fr w8 ⟨k, pL1, cL1, TL1, rfl, hA, hO, hTL1, hk, -⟩
    have hplen : (pagesV b2 k).length = k := pagesV_len _ _
    refine wp_seq ?_
    refine sC (e' := [(2, .slice none 0 0), (3, .slice (some ⟨b2, 0, none⟩) N N), (4, .slice pL1 ((pagesV b2 k).length) cL1), (5, i64 ((128 * k : Nat) : Int)), (26, i64 ((128 * k : Nat) : Int)), (27, .slice (some ⟨b2, 0, none⟩) N N), (28, i64 ((N : Nat) : Int)), (29, bl (decide (((128 * k : Nat) : Int) < ((N : Nat) : Int))))]) 4 hA [] c0 ?_
    clear hA fr; intro fr hA
    rcases Bool.eq_false_or_eq_true (decide (((128 * k : Nat) : Int) < ((N : Nat) : Int))) with h1 | h1
    ·
      replace hA := hA.bool (f := fun z_ => [(2, .slice none 0 0), (3, .slice (some ⟨b2, 0, none⟩) N N), (4, .slice pL1 ((pagesV b2 k).length) cL1), (5, i64 ((128 * k : Nat) : Int)), (26, i64 ((128 * k : Nat) : Int)), (27, .slice (some ⟨b2, 0, none⟩) N N), (28, i64 ((N : Nat) : Int)), (29, .bool z_)]) h1
      have h1p := of_decide_eq_true h1
      refine cT hA ?_
      refine wp_skip ?_
      refine then_normal ?_
      refine wp_seq ?_
      refine wp_block ?_
      refine rR (l := (rg 0 11)) ?_
      refine ck (l := (rg 0 8)) (r := [8, 9, 10]) (e' := [(2, .slice none 0 0), (3, .slice (some ⟨b2, 0, none⟩) N N), (4, .slice pL1 ((pagesV b2 k).length) cL1), (5, i64 ((128 * k : Nat) : Int)), (26, i64 ((128 * k : Nat) : Int)), (27, .slice (some ⟨b2, 0, none⟩) N N), (28, i64 ((N : Nat) : Int)), (29, bl true), (32, .slice pL1 ((pagesV b2 k).length) cL1), (33, .slice (some ⟨b2, 0, none⟩) N N), (34, i64 ((128 * k : Nat) : Int)), (35, i64 ((128 * k : Nat) : Int)), (36, i64 (((128 * k : Nat) : Int) + 128)), (37, i64 ((128 * k : Nat) : Int)), (38, i64 (((128 * k : Nat) : Int) + 128)), (39, .slice (some (atIx (⟨b2, 0, none⟩ : Addr) 1 ((128 * k : Nat) : Int))) (((((128 * k : Nat) : Int) + 128).toNat) - (128 * k)) (((((128 * k : Nat) : Int) + 128).toNat) - (128 * k)))]) hA [bl true, bl true, bl true] (cc ((inK_i64 (by omega) (by omega)) : inK .i64 (((128 * k : Nat) : Int) + 128)) (cc ((inK_i64 (by omega) (by omega)) : inK .i64 (((128 * k : Nat) : Int) + 128)) (cc (⟨by omega, by omega, by omega, by omega, by omega⟩ : (0 : Int) ≤ ((128 * k : Nat) : Int) ∧ ((128 * k : Nat) : Int) ≤ ((128 * k : Nat) : Int) + 128 ∧ ((128 * k : Nat) : Int) + 128 ≤ ((128 * k : Nat) : Int) + 128 ∧ ((128 * k : Nat) : Int) + 128 ≤ ((N : Nat) : Int) ∧ ((128 * k : Nat) : Int) < ((128 * k : Nat) : Int) + 128) c0))) ?_
      clear hA fr; intro fr hA
      rw [show atIx (⟨b2, 0, none⟩ : Addr) 1 ((128 * k : Nat) : Int) = (⟨b2, 0 + (128 * k), none⟩ : Addr) from atIx_blk _ _ rfl] at hA
      rw [show (((((128 * k : Nat) : Int) + 128).toNat) - (128 * k)) = 128 from (by omega)] at hA
      replace hA := hA.int (f := fun z_ => [(2, .slice none 0 0), (3, .slice (some ⟨b2, 0, none⟩) N N), (4, .slice pL1 ((pagesV b2 k).length) cL1), (5, i64 ((128 * k : Nat) : Int)), (26, i64 ((128 * k : Nat) : Int)), (27, .slice (some ⟨b2, 0, none⟩) N N), (28, i64 ((N : Nat) : Int)), (29, bl true), (32, .slice pL1 ((pagesV b2 k).length) cL1), (33, .slice (some ⟨b2, 0, none⟩) N N), (34, i64 ((128 * k : Nat) : Int)), (35, i64 ((128 * k : Nat) : Int)), (36, .int .i64 z_), (37, i64 ((128 * k : Nat) : Int)), (38, .int .i64 z_), (39, .slice (some ⟨b2, 0 + (128 * k), none⟩) 128 128)]) (by omega : ((128 * k : Nat) : Int) + 128 = ((128 * (k + 1) : Nat) : Int))
      refine wpOps_cons' (mN (l := [.slice (some ⟨b2, 0 + (128 * k), none⟩) 128 128]) (t := 22) (v := fun b => .slice (some ⟨b, 0, none⟩) 1 1) (d := 40) hA hO ?_)
      clear hA hO fr; intro fr w9 b3 hA hO
      replace hO : Ow Tryd.prog none' w w9 ([(b3, 22, [.slice (some ⟨b2, 0 + (128 * k), none⟩) 128 128]), (b2, 5, ((memL cs ds U N).flatMap fB)), (b1, 27, [.slice cp cs.length kc, .slice dp ds.length kd, i64 z, i64 et])] ++ (TL1 ++ ([]))) := hO
      refine wpOps_cons' (mA (f := fS) (el := 22) (sz := 1) (bytes := 24) (p := pL1) (c := cL1) (l := pagesV b2 k) (l' := ([(some ⟨b2, 0 + (128 * k), none⟩, 128, 128)] : List (Option Addr × Nat × Nat))) (T := TL1) (t := 28) (tx := 28) (ty := 28) (x := .slice (some ⟨b3, 0, none⟩) 1 1) (d := 41) [(b3, 22, [.slice (some ⟨b2, 0 + (128 * k), none⟩) 128 128]), (b2, 5, ((memL cs ds U N).flatMap fB)), (b1, 27, [.slice cp cs.length kc, .slice dp ds.length kd, i64 z, i64 et])] ([]) encS hA hO hTL1 (Vw.src (e' := 22) encS ((hO.b 0).vw (off := 0) (xs := ([(some ⟨b2, 0 + (128 * k), none⟩, 128, 128)] : List (Option Addr × Nat × Nat))) (by kernel_rfl)) (by kernel_rfl)) (by first | omega | (simp only [List.length_append, List.length_cons, List.length_nil]; omega)) (by unfold maxLen; first | omega | (simp only [List.length_append, List.length_cons, List.length_nil]; omega)) ?_)
      clear hA hO fr; intro fr w10 p1 c1 T2 hA hO hT2
      rw [show ((pagesV b2 k) ++ ([(some ⟨b2, 0 + (128 * k), none⟩, 128, 128)] : List (Option Addr × Nat × Nat))) = pagesV b2 (k + 1) from (pagesV_succ _ _)] at hA hT2
      refine ck (l := [10]) (r := []) (e' := [(2, .slice none 0 0), (3, .slice (some ⟨b2, 0, none⟩) N N), (4, .slice p1 ((pagesV b2 (k + 1)).length) c1), (5, i64 ((128 * k : Nat) : Int)), (26, i64 ((128 * k : Nat) : Int)), (27, .slice (some ⟨b2, 0, none⟩) N N), (28, i64 ((N : Nat) : Int)), (29, bl true), (32, .slice pL1 ((pagesV b2 k).length) cL1), (33, .slice (some ⟨b2, 0, none⟩) N N), (34, i64 ((128 * k : Nat) : Int)), (35, i64 ((128 * k : Nat) : Int)), (36, i64 ((128 * (k + 1) : Nat) : Int)), (37, i64 ((128 * k : Nat) : Int)), (38, i64 ((128 * (k + 1) : Nat) : Int)), (39, .slice (some ⟨b2, 0 + (128 * k), none⟩) 128 128), (40, .slice (some ⟨b3, 0, none⟩) 1 1), (41, .slice p1 ((pagesV b2 (k + 1)).length) c1)]) hA [] c0 ?_
      clear hA fr; intro fr hA
      refine end_ops ?_
      refine inBlock_normal ?_
      refine then_normal ?_
      refine rC (e' := [(2, .slice none 0 0), (3, .slice (some ⟨b2, 0, none⟩) N N), (4, .slice p1 ((pagesV b2 (k + 1)).length) c1), (5, i64 (((128 * k : Nat) : Int) + 128)), (26, i64 ((128 * k : Nat) : Int)), (27, .slice (some ⟨b2, 0, none⟩) N N), (28, i64 ((N : Nat) : Int)), (29, bl true), (30, i64 ((128 * k : Nat) : Int)), (31, i64 (((128 * k : Nat) : Int) + 128)), (32, .slice pL1 ((pagesV b2 k).length) cL1), (33, .slice (some ⟨b2, 0, none⟩) N N), (34, i64 ((128 * k : Nat) : Int)), (35, i64 ((128 * k : Nat) : Int)), (36, i64 ((128 * (k + 1) : Nat) : Int)), (37, i64 ((128 * k : Nat) : Int)), (38, i64 ((128 * (k + 1) : Nat) : Int)), (39, .slice (some ⟨b2, 0 + (128 * k), none⟩) 128 128), (40, .slice (some ⟨b3, 0, none⟩) 1 1), (41, .slice p1 ((pagesV b2 (k + 1)).length) c1)]) 3 hA [bl true] (cc ((inK_i64 (by omega) (by omega)) : inK .i64 (((128 * k : Nat) : Int) + 128)) c0) ?_
      clear hA fr; intro fr hA
      replace hA := hA.int (f := fun z_ => [(2, .slice none 0 0), (3, .slice (some ⟨b2, 0, none⟩) N N), (4, .slice p1 ((pagesV b2 (k + 1)).length) c1), (5, .int .i64 z_), (26, i64 ((128 * k : Nat) : Int)), (27, .slice (some ⟨b2, 0, none⟩) N N), (28, i64 ((N : Nat) : Int)), (29, bl true), (30, i64 ((128 * k : Nat) : Int)), (31, .int .i64 z_), (32, .slice pL1 ((pagesV b2 k).length) cL1), (33, .slice (some ⟨b2, 0, none⟩) N N), (34, i64 ((128 * k : Nat) : Int)), (35, i64 ((128 * k : Nat) : Int)), (36, i64 ((128 * (k + 1) : Nat) : Int)), (37, i64 ((128 * k : Nat) : Int)), (38, i64 ((128 * (k + 1) : Nat) : Int)), (39, .slice (some ⟨b2, 0 + (128 * k), none⟩) 128 128), (40, .slice (some ⟨b3, 0, none⟩) 1 1), (41, .slice p1 ((pagesV b2 (k + 1)).length) c1)]) (by omega : ((128 * k : Nat) : Int) + 128 = ((128 * (k + 1) : Nat) : Int))
      refine then_normal ?_
      exact ⟨_, by omega, k + 1, p1, c1, T2, rfl, (hA.sub (e' := [(2, .slice none 0 0), (3, .slice (some ⟨b2, 0, none⟩) N N), (4, .slice p1 ((pagesV b2 (k + 1)).length) c1), (5, i64 ((128 * (k + 1) : Nat) : Int))]) [2, 3, 4, 5] (by kernel_rfl)).cast (by kernel_rfl), (Ow.subP (A := [(b3, 22, [.slice (some ⟨b2, 0 + (128 * k), none⟩) 128 128]), (b2, 5, ((memL cs ds U N).flatMap fB)), (b1, 27, [.slice cp cs.length kc, .slice dp ds.length kd, i64 z, i64 et])]) (A' := [(b2, 5, ((memL cs ds U N).flatMap fB)), (b1, 27, [.slice cp cs.length kc, .slice dp ds.length kd, i64 z, i64 et])]) (B := T2 ++ ([])) hO (.cons _ (.cons_cons _ (.cons_cons _ .slnil)))), hT2, (by omega), trivial⟩
    ·
      replace hA := hA.bool (f := fun z_ => [(2, .slice none 0 0), (3, .slice (some ⟨b2, 0, none⟩) N N), (4, .slice pL1 ((pagesV b2 k).length) cL1), (5, i64 ((128 * k : Nat) : Int)), (26, i64 ((128 * k : Nat) : Int)), (27, .slice (some ⟨b2, 0, none⟩) N N), (28, i64 ((N : Nat) : Int)), (29, .bool z_)]) h1
      have h1p := of_decide_eq_false h1
      refine cF hA ?_
      refine wp_exit ?_
      refine then_exit ?_
      refine then_exit ?_
      refine inBlock_exit ?_
      refine then_normal ?_
      refine sC (e' := [(2, .slice pL1 ((pagesV b2 k).length) cL1)]) 2 hA [] c0 ?_
      clear hA fr; intro fr hA
      refine wp_ret ?_
      refine cR (cs := [none]) (us := [.slice pL1 ((pagesV b2 k).length) cL1]) hA [] trivial ?_
      obtain rfl : k = N / 128 := by omega
      exact ⟨b2, _, _, _, rfl, (Ow.subP (A := [(b2, 5, ((memL cs ds U N).flatMap fB)), (b1, 27, [.slice cp cs.length kc, .slice dp ds.length kd, i64 z, i64 et])]) (A' := [(b2, 5, ((memL cs ds U N).flatMap fB))]) (B := TL1 ++ ([])) hO (.cons_cons _ (.cons _ .slnil))), hTL1⟩

end Go.Proofs.YtkfnkcpdabdboaaDoor
