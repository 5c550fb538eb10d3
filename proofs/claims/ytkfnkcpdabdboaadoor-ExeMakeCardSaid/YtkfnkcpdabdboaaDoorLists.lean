/- The layer exe: the lists of both. -/
import Derived.Test.YtkfnkcpdabdboaaDoorLines
set_option linter.unusedVariables false
set_option linter.unusedSimpArgs false
set_option maxRecDepth 10000
namespace Go.Proofs.YtkfnkcpdabdboaaDoor
open Go Go.RowKit Go.Proofs.Sx

theorem valid4 {cs : List Int} {dn z en : Int} (h : validB cs dn z en = true) : cs.length % 4 = 0 ∧ 4 ≤ cs.length := by
  unfold validB headB at h
  rw [Bool.and_eq_true] at h
  have := of_decide_eq_true h.1
  omega

theorem list_ok (ca : Addr) (dp : Option Addr) (kc kd : Nat) (cs ds : List Int) (z et : Int) (w : World) (hc : cs.length ≤ 2000) (hd : ds.length ≤ 2000) (hs : SlI w (.slice (some ca) cs.length kc) cs) (hkc : cs.length ≤ kc) (hT : Tab w) (hP : Pow w) (hv : validB cs ((ds.length : Nat) : Int) z et = true) :
    Calls Tryd.prog 20 #[.agg #[.slice (some ca) cs.length kc, .slice dp ds.length kd, i64 z, i64 et]] w fun e w' => ∃ p c T, e = .returned (.slice p (listL cs (cs.length / 4)).length c) ∧ Ow Tryd.prog none' w w' T ∧ One fT 9 1 p c (listL cs (cs.length / 4)) T := by
  refine c_enter (args := [.agg #[.slice (some ca) cs.length kc, .slice dp ds.length kd, i64 z, i64 et]]) (m := 36) (n := 37) Tryd.func20 rfl (by kernel_rfl) (by kernel_rfl) fun fr hA => ?_
  have hO := Ow.nil Tryd.prog none' w
  have hq4 := valid4 hv
  refine sR (l := [0, 1]) ?_
  refine wpOps_cons' (mN (l := [.slice (some ca) cs.length kc, .slice dp ds.length kd, i64 z, i64 et]) (t := 27) (v := pt) (d := 1) hA hO ?_)
  clear hA hO fr; intro fr w1 b1 hA hO
  replace hA := hA.sb (e' := [(1, pt b1)])
  refine ck (l := [1]) (r := []) (e' := [(1, pt b1), (2, .slice none 0 0)]) hA [] c0 ?_
  clear hA fr; intro fr hA
  refine end_ops ?_
  refine then_normal ?_
  refine wp_seq ?_
  refine sR (l := [0, 1, 2]) ?_
  refine ck (l := [0]) (r := [1, 2]) (e' := [(1, pt b1), (2, .slice none 0 0), (7, .agg #[.slice (some ca) cs.length kc, .slice dp ds.length kd, i64 z, i64 et])]) hA [.agg #[.slice (some ca) cs.length kc, .slice dp ds.length kd, i64 z, i64 et]] (cc (hO.ln 0 0 27 [.slice (some ca) cs.length kc, .slice dp ds.length kd, i64 z, i64 et]) c0) ?_
  clear hA fr; intro fr hA
  refine wpOps_cons' (mK (f := 9) (args := [.agg #[.slice (some ca) cs.length kc, .slice dp ds.length kd, i64 z, i64 et]]) (d := (some 8)) (v := bl true) hA hO Tryd.func9 (rs (valid_any (some ca) dp kc kd cs ds z et _ hc hd (hT.keep hO.only (fun h => h)) (hs.keep hO.only) hkc) (congrArg Value.bool hv)) ?_)
  clear hA hO fr; intro fr w2 hA hO
  replace hA := hA.sb (e' := [(1, pt b1), (2, .slice none 0 0), (8, bl true)])
  refine ck (l := [2]) (r := []) (e' := [(1, pt b1), (2, .slice none 0 0), (9, bl false)]) hA [] c0 ?_
  clear hA fr; intro fr hA
  refine end_ops ?_
  refine then_normal ?_
  refine cF hA ?_
  refine wp_skip ?_
  refine then_normal ?_
  refine sC (e' := [(1, pt b1), (2, .slice none 0 0), (3, .slice none 0 0)]) 1 hA [] c0 ?_
  clear hA fr; intro fr hA
  refine wp_seq ?_
  refine sC (e' := [(1, pt b1), (2, .slice none 0 0), (3, .slice none 0 0), (4, i64 0)]) 1 hA [] c0 ?_
  clear hA fr; intro fr hA
  refine wp_block ?_
  have hT1 := One.nil fT 9 1
  replace hO : Ow Tryd.prog none' w w2 ([(b1, 27, [.slice (some ca) cs.length kc, .slice dp ds.length kd, i64 z, i64 et])] ++ ([] ++ ([]))) := hO.to (by simp only [List.append_assoc, List.cons_append, List.nil_append, List.append_nil])
  rw [show ([]) = listL cs 0 from rfl] at hT1
  refine c_loop (fun mm fr W => ∃ (i : Nat) (pL1 : Option Addr) (cL1 : Nat) (TL1 : OwL), mm = cs.length - 4 * i ∧ Holds 37 [] fr [(1, pt b1), (2, .slice none 0 0), (3, .slice pL1 ((listL cs i).length) cL1), (4, i64 ((4 * i : Nat) : Int))] ∧ Ow Tryd.prog none' w W ([(b1, 27, [.slice (some ca) cs.length kc, .slice dp ds.length kd, i64 z, i64 et])] ++ (TL1 ++ ([]))) ∧ One fT 9 1 pL1 cL1 (listL cs i) TL1 ∧ 4 * i ≤ cs.length ∧ True) ?_ ?_
  · exact ⟨_, 0, none, 0, [], rfl, (hA.sub (e' := [(1, pt b1), (2, .slice none 0 0), (3, .slice none ((listL cs 0).length) 0), (4, i64 0)]) [1, 2, 3, 4] (by kernel_rfl)).cast (by kernel_rfl), (hO : Ow Tryd.prog none' w _ ([(b1, 27, [.slice (some ca) cs.length kc, .slice dp ds.length kd, i64 z, i64 et])] ++ ([] ++ ([])))), hT1, (by omega), trivial⟩
  · rintro _ fr w3 ⟨i, pL1, cL1, TL1, rfl, hA, hO, hTL1, hi, -⟩
    have hlen : (listL cs i).length = i := listL_len _ _
    have hz1 := digS_size (4 * i)
    have hz2 := showD_size (decX (chunk cs i))
    have hz3 : (⟨#[58, 32]⟩ : ByteArray).size = 2 := rfl
    refine wp_seq ?_
    refine sC (e' := [(1, pt b1), (2, .slice none 0 0), (3, .slice pL1 ((listL cs i).length) cL1), (4, i64 ((4 * i : Nat) : Int)), (10, i64 ((4 * i : Nat) : Int)), (11, pt b1), (12, .slice (some ca) cs.length kc), (13, i64 ((cs.length : Nat) : Int)), (14, bl (decide (((4 * i : Nat) : Int) < ((cs.length : Nat) : Int))))]) 5 hA [.slice (some ca) cs.length kc] (cc (hO.l1 0 0 22 (.slice (some ca) cs.length kc)) c0) ?_
    clear hA fr; intro fr hA
    rcases Bool.eq_false_or_eq_true (decide (((4 * i : Nat) : Int) < ((cs.length : Nat) : Int))) with h1 | h1
    ·
      replace hA := hA.bool (f := fun z_ => [(1, pt b1), (2, .slice none 0 0), (3, .slice pL1 ((listL cs i).length) cL1), (4, i64 ((4 * i : Nat) : Int)), (10, i64 ((4 * i : Nat) : Int)), (11, pt b1), (12, .slice (some ca) cs.length kc), (13, i64 ((cs.length : Nat) : Int)), (14, .bool z_)]) h1
      have h1p := of_decide_eq_true h1
      refine cT hA ?_
      refine wp_skip ?_
      refine then_normal ?_
      refine wp_seq ?_
      refine wp_block ?_
      refine sR (l := (rg 0 13)) ?_
      refine ck (l := (rg 0 6)) (r := (rg 6 7)) (e' := [(1, pt b1), (2, .slice none 0 0), (3, .slice pL1 ((listL cs i).length) cL1), (4, i64 ((4 * i : Nat) : Int)), (10, i64 ((4 * i : Nat) : Int)), (11, pt b1), (12, .slice (some ca) cs.length kc), (13, i64 ((cs.length : Nat) : Int)), (14, bl true), (18, pt b1), (19, .slice (some ca) cs.length kc), (20, i64 ((4 * i : Nat) : Int)), (21, i64 ((4 * i : Nat) : Int)), (22, i64 (((4 * i : Nat) : Int) + 4)), (23, .slice (some (atIx ca 1 ((4 * i : Nat) : Int))) (((((4 * i : Nat) : Int) + 4).toNat) - (4 * i)) ((kc) - (4 * i)))]) hA [.slice (some ca) cs.length kc, bl true, bl true] (cc (hO.l1 0 0 22 (.slice (some ca) cs.length kc)) (cc ((inK_i64 (by omega) (by omega)) : inK .i64 (((4 * i : Nat) : Int) + 4)) (cc (⟨by omega, by omega, by omega, by omega, by omega⟩ : (0 : Int) ≤ ((4 * i : Nat) : Int) ∧ ((4 * i : Nat) : Int) ≤ ((4 * i : Nat) : Int) + 4 ∧ ((4 * i : Nat) : Int) + 4 ≤ ((kc : Nat) : Int) ∧ ((kc : Nat) : Int) ≤ ((kc : Nat) : Int) ∧ ((4 * i : Nat) : Int) < ((kc : Nat) : Int)) c0))) ?_
      clear hA fr; intro fr hA
      replace hA := hA.int (f := fun z_ => [(1, pt b1), (2, .slice none 0 0), (3, .slice pL1 ((listL cs i).length) cL1), (4, i64 ((4 * i : Nat) : Int)), (10, i64 ((4 * i : Nat) : Int)), (11, pt b1), (12, .slice (some ca) cs.length kc), (13, i64 ((cs.length : Nat) : Int)), (14, bl true), (18, pt b1), (19, .slice (some ca) cs.length kc), (20, i64 ((4 * i : Nat) : Int)), (21, i64 ((4 * i : Nat) : Int)), (22, .int .i64 z_), (23, .slice (some (atIx ca 1 ((4 * i : Nat) : Int))) (((((4 * i : Nat) : Int) + 4).toNat) - (4 * i)) ((kc) - (4 * i)))]) (by omega : ((4 * i : Nat) : Int) + 4 = ((4 * (i + 1) : Nat) : Int))
      obtain ⟨oq1, aq1, bq1, cq1, vq1, erq1, hiq1, hrq1, hzq1, hyq1⟩ := dec_form (decX (chunk cs i))
      refine wpOps_cons' (mK (f := 24) (args := [.slice (some (atIx ca 1 ((4 * i : Nat) : Int))) (((((4 * i : Nat) : Int) + 4).toNat) - (4 * i)) ((kc) - (4 * i))]) (d := (some 24)) (v := .tuple #[.agg #[i64 oq1, i64 aq1, i64 bq1, i64 cq1, i64 vq1], i64 erq1]) hA hO Tryd.func24 (rs (decode_any _ (chunk cs i) _ (hT.keep hO.only (fun h => h)) (SlI.as (SlI.cut (hs.keep hO.only) (by omega) (by omega) (by omega)) (chunk_cut cs i))) (by rw [hiq1, hrq1]; rfl)) ?_)
      clear hA hO fr; intro fr w4 hA hO
      refine ck (l := [7, 8, 9]) (r := [10, 11, 12]) (e' := [(1, pt b1), (2, .slice none 0 0), (3, .slice pL1 ((listL cs i).length) cL1), (4, i64 ((4 * i : Nat) : Int)), (10, i64 ((4 * i : Nat) : Int)), (11, pt b1), (12, .slice (some ca) cs.length kc), (13, i64 ((cs.length : Nat) : Int)), (14, bl true), (17, .tuple #[.agg #[i64 oq1, i64 aq1, i64 bq1, i64 cq1, i64 vq1], i64 erq1]), (18, pt b1), (19, .slice (some ca) cs.length kc), (20, i64 ((4 * i : Nat) : Int)), (21, i64 ((4 * i : Nat) : Int)), (22, i64 ((4 * (i + 1) : Nat) : Int)), (23, .slice (some (atIx ca 1 ((4 * i : Nat) : Int))) (((((4 * i : Nat) : Int) + 4).toNat) - (4 * i)) ((kc) - (4 * i))), (24, .tuple #[.agg #[i64 oq1, i64 aq1, i64 bq1, i64 cq1, i64 vq1], i64 erq1]), (25, .agg #[i64 oq1, i64 aq1, i64 bq1, i64 cq1, i64 vq1]), (26, i64 erq1)]) hA [] c0 ?_
      clear hA fr; intro fr hA
      refine wpOps_cons' (mN (l := [i64 0, i64 0, i64 0, i64 0, i64 0]) (t := 46) (v := pt) (d := 5) hA hO ?_)
      clear hA hO fr; intro fr w5 b2 hA hO
      refine wpOps_cons' (mS (off := 0) (vc := [i64 oq1, i64 aq1, i64 bq1, i64 cq1, i64 vq1]) 0 hA hO ?_)
      clear hO; intro w6 hO
      refine ck (l := [12]) (r := []) (e' := [(1, pt b1), (2, .slice none 0 0), (3, .slice pL1 ((listL cs i).length) cL1), (4, i64 ((4 * i : Nat) : Int)), (5, pt b2), (10, i64 ((4 * i : Nat) : Int)), (11, pt b1), (12, .slice (some ca) cs.length kc), (13, i64 ((cs.length : Nat) : Int)), (14, bl true), (17, .tuple #[.agg #[i64 oq1, i64 aq1, i64 bq1, i64 cq1, i64 vq1], i64 erq1]), (18, pt b1), (19, .slice (some ca) cs.length kc), (20, i64 ((4 * i : Nat) : Int)), (21, i64 ((4 * i : Nat) : Int)), (22, i64 ((4 * (i + 1) : Nat) : Int)), (23, .slice (some (atIx ca 1 ((4 * i : Nat) : Int))) (((((4 * i : Nat) : Int) + 4).toNat) - (4 * i)) ((kc) - (4 * i))), (24, .tuple #[.agg #[i64 oq1, i64 aq1, i64 bq1, i64 cq1, i64 vq1], i64 erq1]), (25, .agg #[i64 oq1, i64 aq1, i64 bq1, i64 cq1, i64 vq1]), (26, i64 erq1)]) hA [] c0 ?_
      clear hA fr; intro fr hA
      refine end_ops ?_
      refine then_normal ?_
      have hS : Ow Tryd.prog none' w _ [(b2, 46, [i64 oq1, i64 aq1, i64 bq1, i64 cq1, i64 vq1]), (b1, 27, [.slice (some ca) cs.length kc, .slice dp ds.length kd, i64 z, i64 et])] := hO.sub [0, 1]
      refine rP [(0, true), (1, true), (4, true), (2, false), (3, true), (5, false), (6, true), (7, false), (8, false), (9, true)] hS ?_
      intro w7 ho; replace hO := hO.st ho; clear ho
      refine ckS (l := [0, 1, 4]) (r := [(2, false), (3, true), (5, false), (6, true), (7, false), (8, false), (9, true)]) (e' := [(1, pt b1), (2, .slice none 0 0), (3, .slice pL1 ((listL cs i).length) cL1), (4, i64 ((4 * i : Nat) : Int)), (5, pt b2), (10, i64 ((4 * i : Nat) : Int)), (11, pt b1), (12, .slice (some ca) cs.length kc), (13, i64 ((cs.length : Nat) : Int)), (14, bl true), (17, .tuple #[.agg #[i64 oq1, i64 aq1, i64 bq1, i64 cq1, i64 vq1], i64 erq1]), (18, pt b1), (19, .slice (some ca) cs.length kc), (20, i64 ((4 * i : Nat) : Int)), (21, i64 ((4 * i : Nat) : Int)), (22, i64 ((4 * (i + 1) : Nat) : Int)), (23, .slice (some (atIx ca 1 ((4 * i : Nat) : Int))) (((((4 * i : Nat) : Int) + 4).toNat) - (4 * i)) ((kc) - (4 * i))), (24, .tuple #[.agg #[i64 oq1, i64 aq1, i64 bq1, i64 cq1, i64 vq1], i64 erq1]), (25, .agg #[i64 oq1, i64 aq1, i64 bq1, i64 cq1, i64 vq1]), (26, i64 erq1), (27, .slice pL1 ((listL cs i).length) cL1), (28, i64 ((4 * i : Nat) : Int)), (31, .agg #[i64 oq1, i64 aq1, i64 bq1, i64 cq1, i64 vq1])]) hA [.agg #[i64 oq1, i64 aq1, i64 bq1, i64 cq1, i64 vq1]] (cc (hS.sn 0 0 46 [i64 oq1, i64 aq1, i64 bq1, i64 cq1, i64 vq1]) c0) ?_
      clear hA fr; intro fr hA
      refine plan_mem (mK (f := 35) (args := [i64 ((4 * i : Nat) : Int)]) (d := (some 29)) (v := str (digS (4 * i))) hA hO Tryd.func35 (itoa_dig (4 * i) _ (by omega) (hP.keep hO.only)) ?_)
      clear hA hO fr; intro fr w8 hA hO
      refine ⟨(hO.sub [0, 1]), ?_⟩
      refine ckS (l := [3]) (r := [(5, false), (6, true), (7, false), (8, false), (9, true)]) (e' := [(1, pt b1), (2, .slice none 0 0), (3, .slice pL1 ((listL cs i).length) cL1), (4, i64 ((4 * i : Nat) : Int)), (5, pt b2), (10, i64 ((4 * i : Nat) : Int)), (11, pt b1), (12, .slice (some ca) cs.length kc), (13, i64 ((cs.length : Nat) : Int)), (14, bl true), (17, .tuple #[.agg #[i64 oq1, i64 aq1, i64 bq1, i64 cq1, i64 vq1], i64 erq1]), (18, pt b1), (19, .slice (some ca) cs.length kc), (20, i64 ((4 * i : Nat) : Int)), (21, i64 ((4 * i : Nat) : Int)), (22, i64 ((4 * (i + 1) : Nat) : Int)), (23, .slice (some (atIx ca 1 ((4 * i : Nat) : Int))) (((((4 * i : Nat) : Int) + 4).toNat) - (4 * i)) ((kc) - (4 * i))), (24, .tuple #[.agg #[i64 oq1, i64 aq1, i64 bq1, i64 cq1, i64 vq1], i64 erq1]), (25, .agg #[i64 oq1, i64 aq1, i64 bq1, i64 cq1, i64 vq1]), (26, i64 erq1), (27, .slice pL1 ((listL cs i).length) cL1), (28, i64 ((4 * i : Nat) : Int)), (29, str (digS (4 * i))), (30, str ((digS (4 * i)) ++ (⟨#[58, 32]⟩ : ByteArray))), (31, .agg #[i64 oq1, i64 aq1, i64 bq1, i64 cq1, i64 vq1])]) hA [] (cc ((by first | omega | (simp only [ByteArray.size_append]; omega)) : (digS (4 * i)).size + (⟨#[58, 32]⟩ : ByteArray).size ≤ 9223372036854775807) c0) ?_
      clear hA fr; intro fr hA
      refine plan_mem (mK (f := 36) (args := [.agg #[i64 oq1, i64 aq1, i64 bq1, i64 cq1, i64 vq1]]) (d := (some 32)) (v := str (showD (decX (chunk cs i)))) hA hO Tryd.func36 (showD_own (d := decX (chunk cs i)) hiq1 _ (hT.keep hO.only (fun h => h)) (hP.keep hO.only)) ?_)
      clear hA hO fr; intro fr w9 hA hO
      refine ⟨(hO.sub [0, 1]), ?_⟩
      refine ckS (l := [6]) (r := [(7, false), (8, false), (9, true)]) (e' := [(1, pt b1), (2, .slice none 0 0), (3, .slice pL1 ((listL cs i).length) cL1), (4, i64 ((4 * i : Nat) : Int)), (5, pt b2), (10, i64 ((4 * i : Nat) : Int)), (11, pt b1), (12, .slice (some ca) cs.length kc), (13, i64 ((cs.length : Nat) : Int)), (14, bl true), (17, .tuple #[.agg #[i64 oq1, i64 aq1, i64 bq1, i64 cq1, i64 vq1], i64 erq1]), (18, pt b1), (19, .slice (some ca) cs.length kc), (20, i64 ((4 * i : Nat) : Int)), (21, i64 ((4 * i : Nat) : Int)), (22, i64 ((4 * (i + 1) : Nat) : Int)), (23, .slice (some (atIx ca 1 ((4 * i : Nat) : Int))) (((((4 * i : Nat) : Int) + 4).toNat) - (4 * i)) ((kc) - (4 * i))), (24, .tuple #[.agg #[i64 oq1, i64 aq1, i64 bq1, i64 cq1, i64 vq1], i64 erq1]), (25, .agg #[i64 oq1, i64 aq1, i64 bq1, i64 cq1, i64 vq1]), (26, i64 erq1), (27, .slice pL1 ((listL cs i).length) cL1), (28, i64 ((4 * i : Nat) : Int)), (29, str (digS (4 * i))), (30, str ((digS (4 * i)) ++ (⟨#[58, 32]⟩ : ByteArray))), (31, .agg #[i64 oq1, i64 aq1, i64 bq1, i64 cq1, i64 vq1]), (32, str (showD (decX (chunk cs i)))), (33, str (((digS (4 * i)) ++ (⟨#[58, 32]⟩ : ByteArray)) ++ (showD (decX (chunk cs i)))))]) hA [] (cc ((by first | omega | (simp only [ByteArray.size_append]; omega)) : ((digS (4 * i)) ++ (⟨#[58, 32]⟩ : ByteArray)).size + (showD (decX (chunk cs i))).size ≤ 9223372036854775807) c0) ?_
      clear hA fr; intro fr hA
      refine plan_mem (mN (l := [str (((digS (4 * i)) ++ (⟨#[58, 32]⟩ : ByteArray)) ++ (showD (decX (chunk cs i))))]) (t := 9) (v := fun b => .slice (some ⟨b, 0, none⟩) 1 1) (d := 34) hA hO ?_)
      clear hA hO fr; intro fr w10 b3 hA hO
      refine ⟨(hO.sub [1, 2]), ?_⟩
      replace hO : Ow Tryd.prog none' w w10 ([(b3, 9, [str (((digS (4 * i)) ++ (⟨#[58, 32]⟩ : ByteArray)) ++ (showD (decX (chunk cs i))))]), (b2, 46, [i64 oq1, i64 aq1, i64 bq1, i64 cq1, i64 vq1]), (b1, 27, [.slice (some ca) cs.length kc, .slice dp ds.length kd, i64 z, i64 et])] ++ (TL1 ++ ([]))) := hO
      refine plan_mem (mA (f := fT) (el := 9) (sz := 1) (bytes := 16) (p := pL1) (c := cL1) (l := listL cs i) (l' := ([((digS (4 * i)) ++ (⟨#[58, 32]⟩ : ByteArray)) ++ (showD (decX (chunk cs i)))] : List ByteArray)) (T := TL1) (t := 40) (tx := 40) (ty := 40) (x := .slice (some ⟨b3, 0, none⟩) 1 1) (d := 35) [(b3, 9, [str (((digS (4 * i)) ++ (⟨#[58, 32]⟩ : ByteArray)) ++ (showD (decX (chunk cs i))))]), (b2, 46, [i64 oq1, i64 aq1, i64 bq1, i64 cq1, i64 vq1]), (b1, 27, [.slice (some ca) cs.length kc, .slice dp ds.length kd, i64 z, i64 et])] ([]) encT hA hO hTL1 (Vw.src (e' := 9) encT ((hO.b 0).vw (off := 0) (xs := ([((digS (4 * i)) ++ (⟨#[58, 32]⟩ : ByteArray)) ++ (showD (decX (chunk cs i)))] : List ByteArray)) (by kernel_rfl)) (by kernel_rfl)) (by first | omega | (simp only [listL_len, List.length_append, List.length_cons, List.length_nil]; omega)) (by unfold maxLen; first | omega | (simp only [listL_len, List.length_append, List.length_cons, List.length_nil]; omega)) ?_)
      clear hA hO fr; intro fr w11 p1 c1 T2 hA hO hT2
      rw [show ((listL cs i) ++ ([((digS (4 * i)) ++ (⟨#[58, 32]⟩ : ByteArray)) ++ (showD (decX (chunk cs i)))] : List ByteArray)) = listL cs (i + 1) from (by rw [← listL_succ]; rfl)] at hA hT2
      refine ⟨(hO.sub [1, 2]), ?_⟩
      refine ckS (l := [9]) (r := []) (e' := [(1, pt b1), (2, .slice none 0 0), (3, .slice p1 ((listL cs (i + 1)).length) c1), (4, i64 ((4 * i : Nat) : Int)), (5, pt b2), (10, i64 ((4 * i : Nat) : Int)), (11, pt b1), (12, .slice (some ca) cs.length kc), (13, i64 ((cs.length : Nat) : Int)), (14, bl true), (17, .tuple #[.agg #[i64 oq1, i64 aq1, i64 bq1, i64 cq1, i64 vq1], i64 erq1]), (18, pt b1), (19, .slice (some ca) cs.length kc), (20, i64 ((4 * i : Nat) : Int)), (21, i64 ((4 * i : Nat) : Int)), (22, i64 ((4 * (i + 1) : Nat) : Int)), (23, .slice (some (atIx ca 1 ((4 * i : Nat) : Int))) (((((4 * i : Nat) : Int) + 4).toNat) - (4 * i)) ((kc) - (4 * i))), (24, .tuple #[.agg #[i64 oq1, i64 aq1, i64 bq1, i64 cq1, i64 vq1], i64 erq1]), (25, .agg #[i64 oq1, i64 aq1, i64 bq1, i64 cq1, i64 vq1]), (26, i64 erq1), (27, .slice pL1 ((listL cs i).length) cL1), (28, i64 ((4 * i : Nat) : Int)), (29, str (digS (4 * i))), (30, str ((digS (4 * i)) ++ (⟨#[58, 32]⟩ : ByteArray))), (31, .agg #[i64 oq1, i64 aq1, i64 bq1, i64 cq1, i64 vq1]), (32, str (showD (decX (chunk cs i)))), (33, str (((digS (4 * i)) ++ (⟨#[58, 32]⟩ : ByteArray)) ++ (showD (decX (chunk cs i))))), (34, .slice (some ⟨b3, 0, none⟩) 1 1), (35, .slice p1 ((listL cs (i + 1)).length) c1)]) hA [] c0 ?_
      clear hA fr; intro fr hA
      refine end_plan ?_
      refine inBlock_normal ?_
      refine then_normal ?_
      refine rC (e' := [(1, pt b1), (2, .slice none 0 0), (3, .slice p1 ((listL cs (i + 1)).length) c1), (4, i64 (((4 * i : Nat) : Int) + 4)), (5, pt b2), (10, i64 ((4 * i : Nat) : Int)), (11, pt b1), (12, .slice (some ca) cs.length kc), (13, i64 ((cs.length : Nat) : Int)), (14, bl true), (15, i64 ((4 * i : Nat) : Int)), (16, i64 (((4 * i : Nat) : Int) + 4)), (17, .tuple #[.agg #[i64 oq1, i64 aq1, i64 bq1, i64 cq1, i64 vq1], i64 erq1]), (18, pt b1), (19, .slice (some ca) cs.length kc), (20, i64 ((4 * i : Nat) : Int)), (21, i64 ((4 * i : Nat) : Int)), (22, i64 ((4 * (i + 1) : Nat) : Int)), (23, .slice (some (atIx ca 1 ((4 * i : Nat) : Int))) (((((4 * i : Nat) : Int) + 4).toNat) - (4 * i)) ((kc) - (4 * i))), (24, .tuple #[.agg #[i64 oq1, i64 aq1, i64 bq1, i64 cq1, i64 vq1], i64 erq1]), (25, .agg #[i64 oq1, i64 aq1, i64 bq1, i64 cq1, i64 vq1]), (26, i64 erq1), (27, .slice pL1 ((listL cs i).length) cL1), (28, i64 ((4 * i : Nat) : Int)), (29, str (digS (4 * i))), (30, str ((digS (4 * i)) ++ (⟨#[58, 32]⟩ : ByteArray))), (31, .agg #[i64 oq1, i64 aq1, i64 bq1, i64 cq1, i64 vq1]), (32, str (showD (decX (chunk cs i)))), (33, str (((digS (4 * i)) ++ (⟨#[58, 32]⟩ : ByteArray)) ++ (showD (decX (chunk cs i))))), (34, .slice (some ⟨b3, 0, none⟩) 1 1), (35, .slice p1 ((listL cs (i + 1)).length) c1)]) 3 hA [bl true] (cc ((inK_i64 (by omega) (by omega)) : inK .i64 (((4 * i : Nat) : Int) + 4)) c0) ?_
      clear hA fr; intro fr hA
      replace hA := hA.int (f := fun z_ => [(1, pt b1), (2, .slice none 0 0), (3, .slice p1 ((listL cs (i + 1)).length) c1), (4, .int .i64 z_), (5, pt b2), (10, i64 ((4 * i : Nat) : Int)), (11, pt b1), (12, .slice (some ca) cs.length kc), (13, i64 ((cs.length : Nat) : Int)), (14, bl true), (15, i64 ((4 * i : Nat) : Int)), (16, .int .i64 z_), (17, .tuple #[.agg #[i64 oq1, i64 aq1, i64 bq1, i64 cq1, i64 vq1], i64 erq1]), (18, pt b1), (19, .slice (some ca) cs.length kc), (20, i64 ((4 * i : Nat) : Int)), (21, i64 ((4 * i : Nat) : Int)), (22, i64 ((4 * (i + 1) : Nat) : Int)), (23, .slice (some (atIx ca 1 ((4 * i : Nat) : Int))) (((((4 * i : Nat) : Int) + 4).toNat) - (4 * i)) ((kc) - (4 * i))), (24, .tuple #[.agg #[i64 oq1, i64 aq1, i64 bq1, i64 cq1, i64 vq1], i64 erq1]), (25, .agg #[i64 oq1, i64 aq1, i64 bq1, i64 cq1, i64 vq1]), (26, i64 erq1), (27, .slice pL1 ((listL cs i).length) cL1), (28, i64 ((4 * i : Nat) : Int)), (29, str (digS (4 * i))), (30, str ((digS (4 * i)) ++ (⟨#[58, 32]⟩ : ByteArray))), (31, .agg #[i64 oq1, i64 aq1, i64 bq1, i64 cq1, i64 vq1]), (32, str (showD (decX (chunk cs i)))), (33, str (((digS (4 * i)) ++ (⟨#[58, 32]⟩ : ByteArray)) ++ (showD (decX (chunk cs i))))), (34, .slice (some ⟨b3, 0, none⟩) 1 1), (35, .slice p1 ((listL cs (i + 1)).length) c1)]) (by omega : ((4 * i : Nat) : Int) + 4 = ((4 * (i + 1) : Nat) : Int))
      refine then_normal ?_
      exact ⟨_, by omega, i + 1, p1, c1, T2, rfl, (hA.sub (e' := [(1, pt b1), (2, .slice none 0 0), (3, .slice p1 ((listL cs (i + 1)).length) c1), (4, i64 ((4 * (i + 1) : Nat) : Int))]) [1, 2, 3, 4] (by kernel_rfl)).cast (by kernel_rfl), (Ow.subP (A := [(b3, 9, [str (((digS (4 * i)) ++ (⟨#[58, 32]⟩ : ByteArray)) ++ (showD (decX (chunk cs i))))]), (b2, 46, [i64 oq1, i64 aq1, i64 bq1, i64 cq1, i64 vq1]), (b1, 27, [.slice (some ca) cs.length kc, .slice dp ds.length kd, i64 z, i64 et])]) (A' := [(b1, 27, [.slice (some ca) cs.length kc, .slice dp ds.length kd, i64 z, i64 et])]) (B := T2 ++ ([])) hO (.cons _ (.cons _ (.cons_cons _ .slnil)))), hT2, (by omega), trivial⟩
    ·
      replace hA := hA.bool (f := fun z_ => [(1, pt b1), (2, .slice none 0 0), (3, .slice pL1 ((listL cs i).length) cL1), (4, i64 ((4 * i : Nat) : Int)), (10, i64 ((4 * i : Nat) : Int)), (11, pt b1), (12, .slice (some ca) cs.length kc), (13, i64 ((cs.length : Nat) : Int)), (14, .bool z_)]) h1
      have h1p := of_decide_eq_false h1
      refine cF hA ?_
      refine wp_exit ?_
      refine then_exit ?_
      refine then_exit ?_
      refine inBlock_exit ?_
      refine then_normal ?_
      refine sC (e' := [(2, .slice pL1 ((listL cs i).length) cL1)]) 2 hA [] c0 ?_
      clear hA fr; intro fr hA
      refine wp_ret ?_
      refine cR (cs := [none]) (us := [.slice pL1 ((listL cs i).length) cL1]) hA [] trivial ?_
      obtain rfl : i = cs.length / 4 := by omega
      exact ⟨_, _, _, rfl, Ow.just (A := [(b1, 27, [.slice (some ca) cs.length kc, .slice dp ds.length kd, i64 z, i64 et])]) (T := TL1) (B := []) hO, hTL1⟩

theorem rlist_ok (ca : Addr) (dp : Option Addr) (kc kd : Nat) (cs ds : List Int) (z et : Int) (w : World) (hc : cs.length ≤ 2000) (hd : ds.length ≤ 2000) (hs : SlI w (.slice (some ca) cs.length kc) cs) (hkc : cs.length ≤ kc) (hv : validB cs ((ds.length : Nat) : Int) z et = true) :
    Calls Tryd.prog 21 #[.agg #[.slice (some ca) cs.length kc, .slice dp ds.length kd, i64 z, i64 et]] w fun e w' => ∃ p c T, e = .returned (.slice p (listL cs (cs.length / 4)).length c) ∧ Ow Tryd.prog none' w w' T ∧ One fT 9 1 p c (listL cs (cs.length / 4)) T := by
  refine c_enter (args := [.agg #[.slice (some ca) cs.length kc, .slice dp ds.length kd, i64 z, i64 et]]) (m := 37) (n := 38) Tryd.func21 rfl (by kernel_rfl) (by kernel_rfl) fun fr hA => ?_
  have hO := Ow.nil Tryd.prog none' w
  have hq4 := valid4 hv
  refine sR (l := [0, 1]) ?_
  refine wpOps_cons' (mN (l := [.slice (some ca) cs.length kc, .slice dp ds.length kd, i64 z, i64 et]) (t := 24) (v := pt) (d := 1) hA hO ?_)
  clear hA hO fr; intro fr w1 b1 hA hO
  replace hA := hA.sb (e' := [(1, pt b1)])
  refine ck (l := [1]) (r := []) (e' := [(1, pt b1), (2, .slice none 0 0)]) hA [] c0 ?_
  clear hA fr; intro fr hA
  refine end_ops ?_
  refine then_normal ?_
  refine sC (e' := [(1, pt b1), (2, .slice none 0 0), (3, .slice none 0 0)]) 1 hA [] c0 ?_
  clear hA fr; intro fr hA
  refine wp_seq ?_
  refine sC (e' := [(1, pt b1), (2, .slice none 0 0), (3, .slice none 0 0), (4, i64 0)]) 1 hA [] c0 ?_
  clear hA fr; intro fr hA
  refine wp_block ?_
  have hT1 := One.nil fT 9 1
  replace hO : Ow Tryd.prog none' w w1 ([(b1, 24, [.slice (some ca) cs.length kc, .slice dp ds.length kd, i64 z, i64 et])] ++ ([] ++ ([]))) := hO.to (by simp only [List.append_assoc, List.cons_append, List.nil_append, List.append_nil])
  rw [show ([]) = listL cs 0 from rfl] at hT1
  refine c_loop (fun mm fr W => ∃ (i : Nat) (pL1 : Option Addr) (cL1 : Nat) (TL1 : OwL), mm = cs.length - 4 * i ∧ Holds 38 [] fr [(1, pt b1), (2, .slice none 0 0), (3, .slice pL1 ((listL cs i).length) cL1), (4, i64 ((4 * i : Nat) : Int))] ∧ Ow Tryd.prog none' w W ([(b1, 24, [.slice (some ca) cs.length kc, .slice dp ds.length kd, i64 z, i64 et])] ++ (TL1 ++ ([]))) ∧ One fT 9 1 pL1 cL1 (listL cs i) TL1 ∧ 4 * i ≤ cs.length ∧ True) ?_ ?_
  · exact ⟨_, 0, none, 0, [], rfl, (hA.sub (e' := [(1, pt b1), (2, .slice none 0 0), (3, .slice none ((listL cs 0).length) 0), (4, i64 0)]) [1, 2, 3, 4] (by kernel_rfl)).cast (by kernel_rfl), (hO : Ow Tryd.prog none' w _ ([(b1, 24, [.slice (some ca) cs.length kc, .slice dp ds.length kd, i64 z, i64 et])] ++ ([] ++ ([])))), hT1, (by omega), trivial⟩
  · rintro _ fr w2 ⟨i, pL1, cL1, TL1, rfl, hA, hO, hTL1, hi, -⟩
    have hlen : (listL cs i).length = i := listL_len _ _
    have hz1 := digS_size (4 * i)
    have hz2 := showD_size (decX (chunk cs i))
    have hz3 : (⟨#[58, 32]⟩ : ByteArray).size = 2 := rfl
    refine wp_seq ?_
    refine sR (l := (rg 0 9)) ?_
    refine ck (l := (rg 0 6)) (r := [6, 7, 8]) (e' := [(1, pt b1), (2, .slice none 0 0), (3, .slice pL1 ((listL cs i).length) cL1), (4, i64 ((4 * i : Nat) : Int)), (7, i64 ((4 * i : Nat) : Int)), (8, pt b1), (9, .slice (some ca) cs.length kc), (10, i64 ((cs.length : Nat) : Int)), (11, bl (decide (((4 * i : Nat) : Int) < ((cs.length : Nat) : Int)))), (12, bl (decide (((4 * i : Nat) : Int) < ((cs.length : Nat) : Int))))]) hA [.slice (some ca) cs.length kc] (cc (hO.l1 0 0 22 (.slice (some ca) cs.length kc)) c0) ?_
    clear hA fr; intro fr hA
    rcases Bool.eq_false_or_eq_true (decide (((4 * i : Nat) : Int) < ((cs.length : Nat) : Int))) with h1 | h1
    ·
      replace hA := hA.bool (f := fun z_ => [(1, pt b1), (2, .slice none 0 0), (3, .slice pL1 ((listL cs i).length) cL1), (4, i64 ((4 * i : Nat) : Int)), (7, i64 ((4 * i : Nat) : Int)), (8, pt b1), (9, .slice (some ca) cs.length kc), (10, i64 ((cs.length : Nat) : Int)), (11, .bool z_), (12, .bool z_)]) h1
      have h1p := of_decide_eq_true h1
      refine ck (l := [6]) (r := [7, 8]) (e' := [(1, pt b1), (2, .slice none 0 0), (3, .slice pL1 ((listL cs i).length) cL1), (4, i64 ((4 * i : Nat) : Int)), (7, i64 ((4 * i : Nat) : Int)), (8, pt b1), (9, .slice (some ca) cs.length kc), (10, i64 ((cs.length : Nat) : Int)), (11, bl true), (12, bl true), (13, .agg #[.slice (some ca) cs.length kc, .slice dp ds.length kd, i64 z, i64 et])]) hA [.agg #[.slice (some ca) cs.length kc, .slice dp ds.length kd, i64 z, i64 et]] (cc (hO.ln 0 0 24 [.slice (some ca) cs.length kc, .slice dp ds.length kd, i64 z, i64 et]) c0) ?_
      clear hA fr; intro fr hA
      refine wpOps_cons' (mK (f := 16) (args := [.agg #[.slice (some ca) cs.length kc, .slice dp ds.length kd, i64 z, i64 et]]) (d := (some 14)) (v := bl true) hA hO Tryd.func16 (rs (rvalid_any (some ca) dp kc kd cs ds z et _ hc hd (hs.keep hO.only) hkc) (congrArg Value.bool hv)) ?_)
      clear hA hO fr; intro fr w3 hA hO
      refine ck (l := [8]) (r := []) (e' := [(1, pt b1), (2, .slice none 0 0), (3, .slice pL1 ((listL cs i).length) cL1), (4, i64 ((4 * i : Nat) : Int)), (7, i64 ((4 * i : Nat) : Int)), (8, pt b1), (9, .slice (some ca) cs.length kc), (10, i64 ((cs.length : Nat) : Int)), (11, bl true), (12, bl true), (13, .agg #[.slice (some ca) cs.length kc, .slice dp ds.length kd, i64 z, i64 et]), (14, bl true), (15, bl true)]) hA [] c0 ?_
      clear hA fr; intro fr hA
      refine end_ops ?_
      refine then_normal ?_
      refine cT hA ?_
      refine wp_skip ?_
      refine then_normal ?_
      refine wp_seq ?_
      refine wp_block ?_
      refine sR (l := (rg 0 13)) ?_
      refine ck (l := (rg 0 6)) (r := (rg 6 7)) (e' := [(1, pt b1), (2, .slice none 0 0), (3, .slice pL1 ((listL cs i).length) cL1), (4, i64 ((4 * i : Nat) : Int)), (7, i64 ((4 * i : Nat) : Int)), (8, pt b1), (9, .slice (some ca) cs.length kc), (10, i64 ((cs.length : Nat) : Int)), (11, bl true), (12, bl true), (13, .agg #[.slice (some ca) cs.length kc, .slice dp ds.length kd, i64 z, i64 et]), (14, bl true), (15, bl true), (19, pt b1), (20, .slice (some ca) cs.length kc), (21, i64 ((4 * i : Nat) : Int)), (22, i64 ((4 * i : Nat) : Int)), (23, i64 (((4 * i : Nat) : Int) + 4)), (24, .slice (some (atIx ca 1 ((4 * i : Nat) : Int))) (((((4 * i : Nat) : Int) + 4).toNat) - (4 * i)) ((kc) - (4 * i)))]) hA [.slice (some ca) cs.length kc, bl true, bl true] (cc (hO.l1 0 0 22 (.slice (some ca) cs.length kc)) (cc ((inK_i64 (by omega) (by omega)) : inK .i64 (((4 * i : Nat) : Int) + 4)) (cc (⟨by omega, by omega, by omega, by omega, by omega⟩ : (0 : Int) ≤ ((4 * i : Nat) : Int) ∧ ((4 * i : Nat) : Int) ≤ ((4 * i : Nat) : Int) + 4 ∧ ((4 * i : Nat) : Int) + 4 ≤ ((kc : Nat) : Int) ∧ ((kc : Nat) : Int) ≤ ((kc : Nat) : Int) ∧ ((4 * i : Nat) : Int) < ((kc : Nat) : Int)) c0))) ?_
      clear hA fr; intro fr hA
      replace hA := hA.int (f := fun z_ => [(1, pt b1), (2, .slice none 0 0), (3, .slice pL1 ((listL cs i).length) cL1), (4, i64 ((4 * i : Nat) : Int)), (7, i64 ((4 * i : Nat) : Int)), (8, pt b1), (9, .slice (some ca) cs.length kc), (10, i64 ((cs.length : Nat) : Int)), (11, bl true), (12, bl true), (13, .agg #[.slice (some ca) cs.length kc, .slice dp ds.length kd, i64 z, i64 et]), (14, bl true), (15, bl true), (19, pt b1), (20, .slice (some ca) cs.length kc), (21, i64 ((4 * i : Nat) : Int)), (22, i64 ((4 * i : Nat) : Int)), (23, .int .i64 z_), (24, .slice (some (atIx ca 1 ((4 * i : Nat) : Int))) (((((4 * i : Nat) : Int) + 4).toNat) - (4 * i)) ((kc) - (4 * i)))]) (by omega : ((4 * i : Nat) : Int) + 4 = ((4 * (i + 1) : Nat) : Int))
      obtain ⟨oq1, aq1, bq1, cq1, vq1, erq1, hiq1, hrq1, hzq1, hyq1⟩ := dec_form (decX (chunk cs i))
      refine wpOps_cons' (mK (f := 32) (args := [.slice (some (atIx ca 1 ((4 * i : Nat) : Int))) (((((4 * i : Nat) : Int) + 4).toNat) - (4 * i)) ((kc) - (4 * i))]) (d := (some 25)) (v := .tuple #[.agg #[i64 oq1, i64 aq1, i64 bq1, i64 cq1, i64 vq1], i64 erq1]) hA hO Tryd.func32 (rs (rdecode_any _ (chunk cs i) _ (SlI.as (SlI.cut (hs.keep hO.only) (by omega) (by omega) (by omega)) (chunk_cut cs i))) (by rw [hiq1, hrq1]; rfl)) ?_)
      clear hA hO fr; intro fr w4 hA hO
      refine ck (l := [7, 8, 9]) (r := [10, 11, 12]) (e' := [(1, pt b1), (2, .slice none 0 0), (3, .slice pL1 ((listL cs i).length) cL1), (4, i64 ((4 * i : Nat) : Int)), (7, i64 ((4 * i : Nat) : Int)), (8, pt b1), (9, .slice (some ca) cs.length kc), (10, i64 ((cs.length : Nat) : Int)), (11, bl true), (12, bl true), (13, .agg #[.slice (some ca) cs.length kc, .slice dp ds.length kd, i64 z, i64 et]), (14, bl true), (15, bl true), (18, .tuple #[.agg #[i64 oq1, i64 aq1, i64 bq1, i64 cq1, i64 vq1], i64 erq1]), (19, pt b1), (20, .slice (some ca) cs.length kc), (21, i64 ((4 * i : Nat) : Int)), (22, i64 ((4 * i : Nat) : Int)), (23, i64 ((4 * (i + 1) : Nat) : Int)), (24, .slice (some (atIx ca 1 ((4 * i : Nat) : Int))) (((((4 * i : Nat) : Int) + 4).toNat) - (4 * i)) ((kc) - (4 * i))), (25, .tuple #[.agg #[i64 oq1, i64 aq1, i64 bq1, i64 cq1, i64 vq1], i64 erq1]), (26, .agg #[i64 oq1, i64 aq1, i64 bq1, i64 cq1, i64 vq1]), (27, i64 erq1)]) hA [] c0 ?_
      clear hA fr; intro fr hA
      refine wpOps_cons' (mN (l := [i64 0, i64 0, i64 0, i64 0, i64 0]) (t := 56) (v := pt) (d := 5) hA hO ?_)
      clear hA hO fr; intro fr w5 b2 hA hO
      refine wpOps_cons' (mS (off := 0) (vc := [i64 oq1, i64 aq1, i64 bq1, i64 cq1, i64 vq1]) 0 hA hO ?_)
      clear hO; intro w6 hO
      refine ck (l := [12]) (r := []) (e' := [(1, pt b1), (2, .slice none 0 0), (3, .slice pL1 ((listL cs i).length) cL1), (4, i64 ((4 * i : Nat) : Int)), (5, pt b2), (7, i64 ((4 * i : Nat) : Int)), (8, pt b1), (9, .slice (some ca) cs.length kc), (10, i64 ((cs.length : Nat) : Int)), (11, bl true), (12, bl true), (13, .agg #[.slice (some ca) cs.length kc, .slice dp ds.length kd, i64 z, i64 et]), (14, bl true), (15, bl true), (18, .tuple #[.agg #[i64 oq1, i64 aq1, i64 bq1, i64 cq1, i64 vq1], i64 erq1]), (19, pt b1), (20, .slice (some ca) cs.length kc), (21, i64 ((4 * i : Nat) : Int)), (22, i64 ((4 * i : Nat) : Int)), (23, i64 ((4 * (i + 1) : Nat) : Int)), (24, .slice (some (atIx ca 1 ((4 * i : Nat) : Int))) (((((4 * i : Nat) : Int) + 4).toNat) - (4 * i)) ((kc) - (4 * i))), (25, .tuple #[.agg #[i64 oq1, i64 aq1, i64 bq1, i64 cq1, i64 vq1], i64 erq1]), (26, .agg #[i64 oq1, i64 aq1, i64 bq1, i64 cq1, i64 vq1]), (27, i64 erq1)]) hA [] c0 ?_
      clear hA fr; intro fr hA
      refine end_ops ?_
      refine then_normal ?_
      have hS : Ow Tryd.prog none' w _ [(b2, 56, [i64 oq1, i64 aq1, i64 bq1, i64 cq1, i64 vq1]), (b1, 24, [.slice (some ca) cs.length kc, .slice dp ds.length kd, i64 z, i64 et])] := hO.sub [0, 1]
      refine rP [(0, true), (1, true), (4, true), (2, false), (3, true), (5, false), (6, true), (7, false), (8, false), (9, true)] hS ?_
      intro w7 ho; replace hO := hO.st ho; clear ho
      refine ckS (l := [0, 1, 4]) (r := [(2, false), (3, true), (5, false), (6, true), (7, false), (8, false), (9, true)]) (e' := [(1, pt b1), (2, .slice none 0 0), (3, .slice pL1 ((listL cs i).length) cL1), (4, i64 ((4 * i : Nat) : Int)), (5, pt b2), (7, i64 ((4 * i : Nat) : Int)), (8, pt b1), (9, .slice (some ca) cs.length kc), (10, i64 ((cs.length : Nat) : Int)), (11, bl true), (12, bl true), (13, .agg #[.slice (some ca) cs.length kc, .slice dp ds.length kd, i64 z, i64 et]), (14, bl true), (15, bl true), (18, .tuple #[.agg #[i64 oq1, i64 aq1, i64 bq1, i64 cq1, i64 vq1], i64 erq1]), (19, pt b1), (20, .slice (some ca) cs.length kc), (21, i64 ((4 * i : Nat) : Int)), (22, i64 ((4 * i : Nat) : Int)), (23, i64 ((4 * (i + 1) : Nat) : Int)), (24, .slice (some (atIx ca 1 ((4 * i : Nat) : Int))) (((((4 * i : Nat) : Int) + 4).toNat) - (4 * i)) ((kc) - (4 * i))), (25, .tuple #[.agg #[i64 oq1, i64 aq1, i64 bq1, i64 cq1, i64 vq1], i64 erq1]), (26, .agg #[i64 oq1, i64 aq1, i64 bq1, i64 cq1, i64 vq1]), (27, i64 erq1), (28, .slice pL1 ((listL cs i).length) cL1), (29, i64 ((4 * i : Nat) : Int)), (32, .agg #[i64 oq1, i64 aq1, i64 bq1, i64 cq1, i64 vq1])]) hA [.agg #[i64 oq1, i64 aq1, i64 bq1, i64 cq1, i64 vq1]] (cc (hS.sn 0 0 56 [i64 oq1, i64 aq1, i64 bq1, i64 cq1, i64 vq1]) c0) ?_
      clear hA fr; intro fr hA
      refine plan_mem (mK (f := 37) (args := [i64 ((4 * i : Nat) : Int)]) (d := (some 30)) (v := str (digS (4 * i))) hA hO Tryd.func37 (lnumber_any (4 * i + 1) (4 * i) (by omega) (by omega) _) ?_)
      clear hA hO fr; intro fr w8 hA hO
      refine ⟨(hO.sub [0, 1]), ?_⟩
      refine ckS (l := [3]) (r := [(5, false), (6, true), (7, false), (8, false), (9, true)]) (e' := [(1, pt b1), (2, .slice none 0 0), (3, .slice pL1 ((listL cs i).length) cL1), (4, i64 ((4 * i : Nat) : Int)), (5, pt b2), (7, i64 ((4 * i : Nat) : Int)), (8, pt b1), (9, .slice (some ca) cs.length kc), (10, i64 ((cs.length : Nat) : Int)), (11, bl true), (12, bl true), (13, .agg #[.slice (some ca) cs.length kc, .slice dp ds.length kd, i64 z, i64 et]), (14, bl true), (15, bl true), (18, .tuple #[.agg #[i64 oq1, i64 aq1, i64 bq1, i64 cq1, i64 vq1], i64 erq1]), (19, pt b1), (20, .slice (some ca) cs.length kc), (21, i64 ((4 * i : Nat) : Int)), (22, i64 ((4 * i : Nat) : Int)), (23, i64 ((4 * (i + 1) : Nat) : Int)), (24, .slice (some (atIx ca 1 ((4 * i : Nat) : Int))) (((((4 * i : Nat) : Int) + 4).toNat) - (4 * i)) ((kc) - (4 * i))), (25, .tuple #[.agg #[i64 oq1, i64 aq1, i64 bq1, i64 cq1, i64 vq1], i64 erq1]), (26, .agg #[i64 oq1, i64 aq1, i64 bq1, i64 cq1, i64 vq1]), (27, i64 erq1), (28, .slice pL1 ((listL cs i).length) cL1), (29, i64 ((4 * i : Nat) : Int)), (30, str (digS (4 * i))), (31, str ((digS (4 * i)) ++ (⟨#[58, 32]⟩ : ByteArray))), (32, .agg #[i64 oq1, i64 aq1, i64 bq1, i64 cq1, i64 vq1])]) hA [] (cc ((by first | omega | (simp only [ByteArray.size_append]; omega)) : (digS (4 * i)).size + (⟨#[58, 32]⟩ : ByteArray).size ≤ 9223372036854775807) c0) ?_
      clear hA fr; intro fr hA
      refine plan_mem (mK (f := 38) (args := [.agg #[i64 oq1, i64 aq1, i64 bq1, i64 cq1, i64 vq1]]) (d := (some 33)) (v := str (showD (decX (chunk cs i)))) hA hO Tryd.func38 (showD_ref (d := decX (chunk cs i)) hiq1 _) ?_)
      clear hA hO fr; intro fr w9 hA hO
      refine ⟨(hO.sub [0, 1]), ?_⟩
      refine ckS (l := [6]) (r := [(7, false), (8, false), (9, true)]) (e' := [(1, pt b1), (2, .slice none 0 0), (3, .slice pL1 ((listL cs i).length) cL1), (4, i64 ((4 * i : Nat) : Int)), (5, pt b2), (7, i64 ((4 * i : Nat) : Int)), (8, pt b1), (9, .slice (some ca) cs.length kc), (10, i64 ((cs.length : Nat) : Int)), (11, bl true), (12, bl true), (13, .agg #[.slice (some ca) cs.length kc, .slice dp ds.length kd, i64 z, i64 et]), (14, bl true), (15, bl true), (18, .tuple #[.agg #[i64 oq1, i64 aq1, i64 bq1, i64 cq1, i64 vq1], i64 erq1]), (19, pt b1), (20, .slice (some ca) cs.length kc), (21, i64 ((4 * i : Nat) : Int)), (22, i64 ((4 * i : Nat) : Int)), (23, i64 ((4 * (i + 1) : Nat) : Int)), (24, .slice (some (atIx ca 1 ((4 * i : Nat) : Int))) (((((4 * i : Nat) : Int) + 4).toNat) - (4 * i)) ((kc) - (4 * i))), (25, .tuple #[.agg #[i64 oq1, i64 aq1, i64 bq1, i64 cq1, i64 vq1], i64 erq1]), (26, .agg #[i64 oq1, i64 aq1, i64 bq1, i64 cq1, i64 vq1]), (27, i64 erq1), (28, .slice pL1 ((listL cs i).length) cL1), (29, i64 ((4 * i : Nat) : Int)), (30, str (digS (4 * i))), (31, str ((digS (4 * i)) ++ (⟨#[58, 32]⟩ : ByteArray))), (32, .agg #[i64 oq1, i64 aq1, i64 bq1, i64 cq1, i64 vq1]), (33, str (showD (decX (chunk cs i)))), (34, str (((digS (4 * i)) ++ (⟨#[58, 32]⟩ : ByteArray)) ++ (showD (decX (chunk cs i)))))]) hA [] (cc ((by first | omega | (simp only [ByteArray.size_append]; omega)) : ((digS (4 * i)) ++ (⟨#[58, 32]⟩ : ByteArray)).size + (showD (decX (chunk cs i))).size ≤ 9223372036854775807) c0) ?_
      clear hA fr; intro fr hA
      refine plan_mem (mN (l := [str (((digS (4 * i)) ++ (⟨#[58, 32]⟩ : ByteArray)) ++ (showD (decX (chunk cs i))))]) (t := 9) (v := fun b => .slice (some ⟨b, 0, none⟩) 1 1) (d := 35) hA hO ?_)
      clear hA hO fr; intro fr w10 b3 hA hO
      refine ⟨(hO.sub [1, 2]), ?_⟩
      replace hO : Ow Tryd.prog none' w w10 ([(b3, 9, [str (((digS (4 * i)) ++ (⟨#[58, 32]⟩ : ByteArray)) ++ (showD (decX (chunk cs i))))]), (b2, 56, [i64 oq1, i64 aq1, i64 bq1, i64 cq1, i64 vq1]), (b1, 24, [.slice (some ca) cs.length kc, .slice dp ds.length kd, i64 z, i64 et])] ++ (TL1 ++ ([]))) := hO
      refine plan_mem (mA (f := fT) (el := 9) (sz := 1) (bytes := 16) (p := pL1) (c := cL1) (l := listL cs i) (l' := ([((digS (4 * i)) ++ (⟨#[58, 32]⟩ : ByteArray)) ++ (showD (decX (chunk cs i)))] : List ByteArray)) (T := TL1) (t := 40) (tx := 40) (ty := 40) (x := .slice (some ⟨b3, 0, none⟩) 1 1) (d := 36) [(b3, 9, [str (((digS (4 * i)) ++ (⟨#[58, 32]⟩ : ByteArray)) ++ (showD (decX (chunk cs i))))]), (b2, 56, [i64 oq1, i64 aq1, i64 bq1, i64 cq1, i64 vq1]), (b1, 24, [.slice (some ca) cs.length kc, .slice dp ds.length kd, i64 z, i64 et])] ([]) encT hA hO hTL1 (Vw.src (e' := 9) encT ((hO.b 0).vw (off := 0) (xs := ([((digS (4 * i)) ++ (⟨#[58, 32]⟩ : ByteArray)) ++ (showD (decX (chunk cs i)))] : List ByteArray)) (by kernel_rfl)) (by kernel_rfl)) (by first | omega | (simp only [listL_len, List.length_append, List.length_cons, List.length_nil]; omega)) (by unfold maxLen; first | omega | (simp only [listL_len, List.length_append, List.length_cons, List.length_nil]; omega)) ?_)
      clear hA hO fr; intro fr w11 p1 c1 T2 hA hO hT2
      rw [show ((listL cs i) ++ ([((digS (4 * i)) ++ (⟨#[58, 32]⟩ : ByteArray)) ++ (showD (decX (chunk cs i)))] : List ByteArray)) = listL cs (i + 1) from (by rw [← listL_succ]; rfl)] at hA hT2
      refine ⟨(hO.sub [1, 2]), ?_⟩
      refine ckS (l := [9]) (r := []) (e' := [(1, pt b1), (2, .slice none 0 0), (3, .slice p1 ((listL cs (i + 1)).length) c1), (4, i64 ((4 * i : Nat) : Int)), (5, pt b2), (7, i64 ((4 * i : Nat) : Int)), (8, pt b1), (9, .slice (some ca) cs.length kc), (10, i64 ((cs.length : Nat) : Int)), (11, bl true), (12, bl true), (13, .agg #[.slice (some ca) cs.length kc, .slice dp ds.length kd, i64 z, i64 et]), (14, bl true), (15, bl true), (18, .tuple #[.agg #[i64 oq1, i64 aq1, i64 bq1, i64 cq1, i64 vq1], i64 erq1]), (19, pt b1), (20, .slice (some ca) cs.length kc), (21, i64 ((4 * i : Nat) : Int)), (22, i64 ((4 * i : Nat) : Int)), (23, i64 ((4 * (i + 1) : Nat) : Int)), (24, .slice (some (atIx ca 1 ((4 * i : Nat) : Int))) (((((4 * i : Nat) : Int) + 4).toNat) - (4 * i)) ((kc) - (4 * i))), (25, .tuple #[.agg #[i64 oq1, i64 aq1, i64 bq1, i64 cq1, i64 vq1], i64 erq1]), (26, .agg #[i64 oq1, i64 aq1, i64 bq1, i64 cq1, i64 vq1]), (27, i64 erq1), (28, .slice pL1 ((listL cs i).length) cL1), (29, i64 ((4 * i : Nat) : Int)), (30, str (digS (4 * i))), (31, str ((digS (4 * i)) ++ (⟨#[58, 32]⟩ : ByteArray))), (32, .agg #[i64 oq1, i64 aq1, i64 bq1, i64 cq1, i64 vq1]), (33, str (showD (decX (chunk cs i)))), (34, str (((digS (4 * i)) ++ (⟨#[58, 32]⟩ : ByteArray)) ++ (showD (decX (chunk cs i))))), (35, .slice (some ⟨b3, 0, none⟩) 1 1), (36, .slice p1 ((listL cs (i + 1)).length) c1)]) hA [] c0 ?_
      clear hA fr; intro fr hA
      refine end_plan ?_
      refine inBlock_normal ?_
      refine then_normal ?_
      refine rC (e' := [(1, pt b1), (2, .slice none 0 0), (3, .slice p1 ((listL cs (i + 1)).length) c1), (4, i64 (((4 * i : Nat) : Int) + 4)), (5, pt b2), (7, i64 ((4 * i : Nat) : Int)), (8, pt b1), (9, .slice (some ca) cs.length kc), (10, i64 ((cs.length : Nat) : Int)), (11, bl true), (12, bl true), (13, .agg #[.slice (some ca) cs.length kc, .slice dp ds.length kd, i64 z, i64 et]), (14, bl true), (15, bl true), (16, i64 ((4 * i : Nat) : Int)), (17, i64 (((4 * i : Nat) : Int) + 4)), (18, .tuple #[.agg #[i64 oq1, i64 aq1, i64 bq1, i64 cq1, i64 vq1], i64 erq1]), (19, pt b1), (20, .slice (some ca) cs.length kc), (21, i64 ((4 * i : Nat) : Int)), (22, i64 ((4 * i : Nat) : Int)), (23, i64 ((4 * (i + 1) : Nat) : Int)), (24, .slice (some (atIx ca 1 ((4 * i : Nat) : Int))) (((((4 * i : Nat) : Int) + 4).toNat) - (4 * i)) ((kc) - (4 * i))), (25, .tuple #[.agg #[i64 oq1, i64 aq1, i64 bq1, i64 cq1, i64 vq1], i64 erq1]), (26, .agg #[i64 oq1, i64 aq1, i64 bq1, i64 cq1, i64 vq1]), (27, i64 erq1), (28, .slice pL1 ((listL cs i).length) cL1), (29, i64 ((4 * i : Nat) : Int)), (30, str (digS (4 * i))), (31, str ((digS (4 * i)) ++ (⟨#[58, 32]⟩ : ByteArray))), (32, .agg #[i64 oq1, i64 aq1, i64 bq1, i64 cq1, i64 vq1]), (33, str (showD (decX (chunk cs i)))), (34, str (((digS (4 * i)) ++ (⟨#[58, 32]⟩ : ByteArray)) ++ (showD (decX (chunk cs i))))), (35, .slice (some ⟨b3, 0, none⟩) 1 1), (36, .slice p1 ((listL cs (i + 1)).length) c1)]) 3 hA [bl true] (cc ((inK_i64 (by omega) (by omega)) : inK .i64 (((4 * i : Nat) : Int) + 4)) c0) ?_
      clear hA fr; intro fr hA
      replace hA := hA.int (f := fun z_ => [(1, pt b1), (2, .slice none 0 0), (3, .slice p1 ((listL cs (i + 1)).length) c1), (4, .int .i64 z_), (5, pt b2), (7, i64 ((4 * i : Nat) : Int)), (8, pt b1), (9, .slice (some ca) cs.length kc), (10, i64 ((cs.length : Nat) : Int)), (11, bl true), (12, bl true), (13, .agg #[.slice (some ca) cs.length kc, .slice dp ds.length kd, i64 z, i64 et]), (14, bl true), (15, bl true), (16, i64 ((4 * i : Nat) : Int)), (17, .int .i64 z_), (18, .tuple #[.agg #[i64 oq1, i64 aq1, i64 bq1, i64 cq1, i64 vq1], i64 erq1]), (19, pt b1), (20, .slice (some ca) cs.length kc), (21, i64 ((4 * i : Nat) : Int)), (22, i64 ((4 * i : Nat) : Int)), (23, i64 ((4 * (i + 1) : Nat) : Int)), (24, .slice (some (atIx ca 1 ((4 * i : Nat) : Int))) (((((4 * i : Nat) : Int) + 4).toNat) - (4 * i)) ((kc) - (4 * i))), (25, .tuple #[.agg #[i64 oq1, i64 aq1, i64 bq1, i64 cq1, i64 vq1], i64 erq1]), (26, .agg #[i64 oq1, i64 aq1, i64 bq1, i64 cq1, i64 vq1]), (27, i64 erq1), (28, .slice pL1 ((listL cs i).length) cL1), (29, i64 ((4 * i : Nat) : Int)), (30, str (digS (4 * i))), (31, str ((digS (4 * i)) ++ (⟨#[58, 32]⟩ : ByteArray))), (32, .agg #[i64 oq1, i64 aq1, i64 bq1, i64 cq1, i64 vq1]), (33, str (showD (decX (chunk cs i)))), (34, str (((digS (4 * i)) ++ (⟨#[58, 32]⟩ : ByteArray)) ++ (showD (decX (chunk cs i))))), (35, .slice (some ⟨b3, 0, none⟩) 1 1), (36, .slice p1 ((listL cs (i + 1)).length) c1)]) (by omega : ((4 * i : Nat) : Int) + 4 = ((4 * (i + 1) : Nat) : Int))
      refine then_normal ?_
      exact ⟨_, by omega, i + 1, p1, c1, T2, rfl, (hA.sub (e' := [(1, pt b1), (2, .slice none 0 0), (3, .slice p1 ((listL cs (i + 1)).length) c1), (4, i64 ((4 * (i + 1) : Nat) : Int))]) [1, 2, 3, 4] (by kernel_rfl)).cast (by kernel_rfl), (Ow.subP (A := [(b3, 9, [str (((digS (4 * i)) ++ (⟨#[58, 32]⟩ : ByteArray)) ++ (showD (decX (chunk cs i))))]), (b2, 56, [i64 oq1, i64 aq1, i64 bq1, i64 cq1, i64 vq1]), (b1, 24, [.slice (some ca) cs.length kc, .slice dp ds.length kd, i64 z, i64 et])]) (A' := [(b1, 24, [.slice (some ca) cs.length kc, .slice dp ds.length kd, i64 z, i64 et])]) (B := T2 ++ ([])) hO (.cons _ (.cons _ (.cons_cons _ .slnil)))), hT2, (by omega), trivial⟩
    ·
      replace hA := hA.bool (f := fun z_ => [(1, pt b1), (2, .slice none 0 0), (3, .slice pL1 ((listL cs i).length) cL1), (4, i64 ((4 * i : Nat) : Int)), (7, i64 ((4 * i : Nat) : Int)), (8, pt b1), (9, .slice (some ca) cs.length kc), (10, i64 ((cs.length : Nat) : Int)), (11, .bool z_), (12, .bool z_)]) h1
      have h1p := of_decide_eq_false h1
      refine ck (l := [6, 7, 8]) (r := []) (e' := [(1, pt b1), (2, .slice none 0 0), (3, .slice pL1 ((listL cs i).length) cL1), (4, i64 ((4 * i : Nat) : Int)), (7, i64 ((4 * i : Nat) : Int)), (8, pt b1), (9, .slice (some ca) cs.length kc), (10, i64 ((cs.length : Nat) : Int)), (11, bl false), (12, bl false), (13, .tuple #[]), (14, .tuple #[]), (15, bl false)]) hA [] c0 ?_
      clear hA fr; intro fr hA
      refine end_ops ?_
      refine then_normal ?_
      refine cF hA ?_
      refine wp_exit ?_
      refine then_exit ?_
      refine then_exit ?_
      refine inBlock_exit ?_
      refine then_normal ?_
      refine sC (e' := [(2, .slice pL1 ((listL cs i).length) cL1)]) 2 hA [] c0 ?_
      clear hA fr; intro fr hA
      refine wp_ret ?_
      refine cR (cs := [none]) (us := [.slice pL1 ((listL cs i).length) cL1]) hA [] trivial ?_
      obtain rfl : i = cs.length / 4 := by omega
      exact ⟨_, _, _, rfl, Ow.just (A := [(b1, 24, [.slice (some ca) cs.length kc, .slice dp ds.length kd, i64 z, i64 et])]) (T := TL1) (B := []) hO, hTL1⟩

theorem list_bad (cp dp : Option Addr) (kc kd : Nat) (cs ds : List Int) (z et : Int) (w : World) (hc : cs.length ≤ 2000) (hd : ds.length ≤ 2000) (hT : Tab w) (hs : SlI w (.slice cp cs.length kc) cs) (hkc : cs.length ≤ kc) (hv : validB cs ((ds.length : Nat) : Int) z et = false) :
    Calls Tryd.prog 20 #[.agg #[.slice cp cs.length kc, .slice dp ds.length kd, i64 z, i64 et]] w fun e w' => e = .returned (.slice none 0 0) ∧ Only none' w w' := by
  refine c_enter (args := [.agg #[.slice cp cs.length kc, .slice dp ds.length kd, i64 z, i64 et]]) (m := 36) (n := 37) Tryd.func20 rfl (by kernel_rfl) (by kernel_rfl) fun fr hA => ?_
  have hO := Ow.nil Tryd.prog none' w
  refine sR (l := [0, 1]) ?_
  refine wpOps_cons' (mN (l := [.slice cp cs.length kc, .slice dp ds.length kd, i64 z, i64 et]) (t := 27) (v := pt) (d := 1) hA hO ?_)
  clear hA hO fr; intro fr w1 b1 hA hO
  replace hA := hA.sb (e' := [(1, pt b1)])
  refine ck (l := [1]) (r := []) (e' := [(1, pt b1), (2, .slice none 0 0)]) hA [] c0 ?_
  clear hA fr; intro fr hA
  refine end_ops ?_
  refine then_normal ?_
  refine wp_seq ?_
  refine sR (l := [0, 1, 2]) ?_
  refine ck (l := [0]) (r := [1, 2]) (e' := [(1, pt b1), (2, .slice none 0 0), (7, .agg #[.slice cp cs.length kc, .slice dp ds.length kd, i64 z, i64 et])]) hA [.agg #[.slice cp cs.length kc, .slice dp ds.length kd, i64 z, i64 et]] (cc (hO.ln 0 0 27 [.slice cp cs.length kc, .slice dp ds.length kd, i64 z, i64 et]) c0) ?_
  clear hA fr; intro fr hA
  refine wpOps_cons' (mK (f := 9) (args := [.agg #[.slice cp cs.length kc, .slice dp ds.length kd, i64 z, i64 et]]) (d := (some 8)) (v := bl false) hA hO Tryd.func9 (rs (valid_any cp dp kc kd cs ds z et _ hc hd (hT.keep hO.only (fun h => h)) (hs.keep hO.only) hkc) (congrArg Value.bool hv)) ?_)
  clear hA hO fr; intro fr w2 hA hO
  replace hA := hA.sb (e' := [(1, pt b1), (2, .slice none 0 0), (8, bl false)])
  refine ck (l := [2]) (r := []) (e' := [(1, pt b1), (2, .slice none 0 0), (9, bl true)]) hA [] c0 ?_
  clear hA fr; intro fr hA
  refine end_ops ?_
  refine then_normal ?_
  refine cT hA ?_
  refine sC (e' := [(1, pt b1), (2, .slice none 0 0)]) 1 hA [] c0 ?_
  clear hA fr; intro fr hA
  refine wp_ret ?_
  refine then_ret ?_
  refine cR (cs := [none]) (us := [.slice none 0 0]) hA [] trivial ?_
  have hF := hO.only; clear hA hO
  exact ⟨rfl, hF⟩

theorem rlist_bad (cp dp : Option Addr) (kc kd : Nat) (cs ds : List Int) (z et : Int) (w : World) (hc : cs.length ≤ 2000) (hd : ds.length ≤ 2000) (hs : SlI w (.slice cp cs.length kc) cs) (hkc : cs.length ≤ kc) (hv : validB cs ((ds.length : Nat) : Int) z et = false) :
    Calls Tryd.prog 21 #[.agg #[.slice cp cs.length kc, .slice dp ds.length kd, i64 z, i64 et]] w fun e w' => e = .returned (.slice none 0 0) ∧ Only none' w w' := by
  refine c_enter (args := [.agg #[.slice cp cs.length kc, .slice dp ds.length kd, i64 z, i64 et]]) (m := 37) (n := 38) Tryd.func21 rfl (by kernel_rfl) (by kernel_rfl) fun fr hA => ?_
  have hO := Ow.nil Tryd.prog none' w
  refine sR (l := [0, 1]) ?_
  refine wpOps_cons' (mN (l := [.slice cp cs.length kc, .slice dp ds.length kd, i64 z, i64 et]) (t := 24) (v := pt) (d := 1) hA hO ?_)
  clear hA hO fr; intro fr w1 b1 hA hO
  replace hA := hA.sb (e' := [(1, pt b1)])
  refine ck (l := [1]) (r := []) (e' := [(1, pt b1), (2, .slice none 0 0)]) hA [] c0 ?_
  clear hA fr; intro fr hA
  refine end_ops ?_
  refine then_normal ?_
  refine sC (e' := [(1, pt b1), (2, .slice none 0 0), (3, .slice none 0 0)]) 1 hA [] c0 ?_
  clear hA fr; intro fr hA
  refine wp_seq ?_
  refine sC (e' := [(1, pt b1), (2, .slice none 0 0), (3, .slice none 0 0), (4, i64 0)]) 1 hA [] c0 ?_
  clear hA fr; intro fr hA
  refine wp_block ?_
  refine c_loop (fun mm fr W => (mm = 0 ∧ Holds 38 [] fr [(1, pt b1), (2, .slice none 0 0), (3, .slice none 0 0), (4, i64 0)] ∧ Ow Tryd.prog none' w W [(b1, 24, [.slice cp cs.length kc, .slice dp ds.length kd, i64 z, i64 et])])) ?_ ?_
  · exact ⟨_, ⟨rfl, hA.sb, hO.to⟩⟩
  · rintro _ fr w2 (⟨rfl, hA, hO⟩)
    ·
      refine wp_seq ?_
      refine sR (l := (rg 0 9)) ?_
      refine ck (l := (rg 0 6)) (r := [6, 7, 8]) (e' := [(1, pt b1), (2, .slice none 0 0), (3, .slice none 0 0), (4, i64 0), (11, bl (decide (0 < ((cs.length : Nat) : Int)))), (12, bl (decide (0 < ((cs.length : Nat) : Int))))]) hA [.slice cp cs.length kc] (cc (hO.l1 0 0 22 (.slice cp cs.length kc)) c0) ?_
      clear hA fr; intro fr hA
      rcases Bool.eq_false_or_eq_true (decide (0 < ((cs.length : Nat) : Int))) with h1 | h1
      ·
        replace hA := hA.bool (f := fun z_ => [(1, pt b1), (2, .slice none 0 0), (3, .slice none 0 0), (4, i64 0), (11, .bool z_), (12, .bool z_)]) h1
        have h1p := of_decide_eq_true h1
        refine ck (l := [6]) (r := [7, 8]) (e' := [(1, pt b1), (2, .slice none 0 0), (3, .slice none 0 0), (4, i64 0), (12, bl true), (13, .agg #[.slice cp cs.length kc, .slice dp ds.length kd, i64 z, i64 et])]) hA [.agg #[.slice cp cs.length kc, .slice dp ds.length kd, i64 z, i64 et]] (cc (hO.ln 0 0 24 [.slice cp cs.length kc, .slice dp ds.length kd, i64 z, i64 et]) c0) ?_
        clear hA fr; intro fr hA
        refine wpOps_cons' (mK (f := 16) (args := [.agg #[.slice cp cs.length kc, .slice dp ds.length kd, i64 z, i64 et]]) (d := (some 14)) (v := bl false) hA hO Tryd.func16 (rs (rvalid_any cp dp kc kd cs ds z et _ hc hd (hs.keep hO.only) hkc) (congrArg Value.bool hv)) ?_)
        clear hA hO fr; intro fr w3 hA hO
        replace hA := hA.sb (e' := [(1, pt b1), (2, .slice none 0 0), (3, .slice none 0 0), (4, i64 0), (12, bl true), (14, bl false)])
        refine ck (l := [8]) (r := []) (e' := [(1, pt b1), (2, .slice none 0 0), (3, .slice none 0 0), (4, i64 0), (15, bl false)]) hA [] c0 ?_
        clear hA fr; intro fr hA
        refine end_ops ?_
        refine then_normal ?_
        refine cF hA ?_
        refine wp_exit ?_
        refine then_exit ?_
        refine then_exit ?_
        refine inBlock_exit ?_
        refine then_normal ?_
        refine sC (e' := [(2, .slice none 0 0)]) 2 hA [] c0 ?_
        clear hA fr; intro fr hA
        refine wp_ret ?_
        refine cR (cs := [none]) (us := [.slice none 0 0]) hA [] trivial ?_
        have hF := hO.only; clear hA hO
        exact ⟨rfl, hF⟩
      ·
        replace hA := hA.bool (f := fun z_ => [(1, pt b1), (2, .slice none 0 0), (3, .slice none 0 0), (4, i64 0), (11, .bool z_), (12, .bool z_)]) h1
        have h1p := of_decide_eq_false h1
        refine ck (l := [6, 7, 8]) (r := []) (e' := [(1, pt b1), (2, .slice none 0 0), (3, .slice none 0 0), (4, i64 0), (15, bl false)]) hA [] c0 ?_
        clear hA fr; intro fr hA
        refine end_ops ?_
        refine then_normal ?_
        refine cF hA ?_
        refine wp_exit ?_
        refine then_exit ?_
        refine then_exit ?_
        refine inBlock_exit ?_
        refine then_normal ?_
        refine sC (e' := [(2, .slice none 0 0)]) 2 hA [] c0 ?_
        clear hA fr; intro fr hA
        refine wp_ret ?_
        refine cR (cs := [none]) (us := [.slice none 0 0]) hA [] trivial ?_
        have hF := hO.only; clear hA hO
        exact ⟨rfl, hF⟩

end Go.Proofs.YtkfnkcpdabdboaaDoor
