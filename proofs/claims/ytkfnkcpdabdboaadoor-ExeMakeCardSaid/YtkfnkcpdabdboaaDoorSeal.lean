/- The layer exe: sum.Of, sealed, Same. -/
import Derived.Test.YtkfnkcpdabdboaaDoorSums
set_option linter.unusedVariables false
set_option linter.unusedSimpArgs false
set_option maxRecDepth 10000
namespace Go.Proofs.YtkfnkcpdabdboaaDoor
open Go Go.RowKit Go.Proofs.Sx

theorem of_any (v : Option Addr) (c : Nat) (xs : List Int) (w : World) (hs : SlI w (.slice v xs.length c) xs) (hl : xs.length ≤ 900000) :
    Calls Tryd.prog 40 #[.slice v xs.length c] w fun e w' => e = .returned (.int .u64 (sumO xs)) ∧ Only none' w w' := by
  refine c_enter (args := [.slice v xs.length c]) (m := 8) (n := 9) Tryd.func40 rfl (by kernel_rfl) (by kernel_rfl) fun fr hA => ?_
  have hO := Ow.nil Tryd.prog none' w
  refine sC (e' := [(0, .slice v xs.length c), (2, u64 0)]) 1 hA [] c0 ?_
  clear hA fr; intro fr hA
  refine sR (l := (rg 0 7)) ?_
  refine ck (l := [0]) (r := (rg 1 6)) (e' := [(0, .slice v xs.length c), (2, u64 0), (3, .slice v xs.length c)]) hA [] c0 ?_
  clear hA fr; intro fr hA
  refine wpOps_cons' (mK (f := 49) (args := [u64 125762890854254, .slice v xs.length c]) (d := (some 4)) (v := u64 (sumF 125762890854254 xs)) hA hO Tryd.func49 (from_any 125762890854254 _ xs _ (hs.keep hO.only) (by first | omega | (simp only [List.length_append, List.length_nil, leL_len]; omega))) ?_)
  clear hA hO fr; intro fr w1 hA hO
  replace hA := hA.sb (e' := [(0, .slice v xs.length c), (2, u64 0), (4, u64 (sumF 125762890854254 xs))])
  refine ck (l := [2, 3]) (r := [4, 5, 6]) (e' := [(2, u64 0), (4, u64 (sumF 125762890854254 xs)), (6, i64 ((xs.length : Nat) : Int))]) hA [] c0 ?_
  clear hA fr; intro fr hA
  have hT1 := One.nil fB 5 1
  replace hO : Ow Tryd.prog none' w w1 ([] ++ ([] ++ ([]))) := hO.to (by simp only [List.append_assoc, List.cons_append, List.nil_append, List.append_nil])
  replace hO : Ow Tryd.prog none' w w1 ([] ++ ([] ++ ([]))) := hO
  refine wpOps_cons' (mC (f := 50) (args := [.slice none ([]).length 0, i64 ((xs.length : Nat) : Int)]) (d := (some 7)) hA Tryd.func50 ((eight_any none 0 ([]) ([]) _ (Ow.self (A := []) (T := []) (B := []) hO) hT1 U8s.nil ((xs.length : Nat) : Int) (by first | omega | (simp only [List.length_append, List.length_nil, leL_len]; omega))).mono ?_))
  rintro en w2 ⟨p1, c1, T2, rfl, hW, hT2⟩
  refine ⟨_, rfl, ?_⟩
  clear hA fr; intro fr hA
  replace hO := Ow.pass (A := []) (T := []) (B := []) hO hW; clear hW
  have huT2 : U8s (([]) ++ leL (IntKind.u64.wrap ((xs.length : Nat) : Int)) 8) := U8s.app U8s.nil (leL_u8 _ _)
  replace hO : Ow Tryd.prog none' w w2 ([] ++ (T2 ++ ([]))) := hO.to (by simp only [List.append_assoc, List.cons_append, List.nil_append, List.append_nil])
  replace hA := hA.sb (e' := [(2, u64 0), (4, u64 (sumF 125762890854254 xs)), (7, .slice p1 ((([]) ++ leL (IntKind.u64.wrap ((xs.length : Nat) : Int)) 8).length) c1)])
  refine wpOps_cons' (mK (f := 49) (args := [u64 (sumF 125762890854254 xs), .slice p1 ((([]) ++ leL (IntKind.u64.wrap ((xs.length : Nat) : Int)) 8).length) c1]) (d := (some 8)) (v := u64 (sumF (sumF 125762890854254 xs) (([]) ++ leL (IntKind.u64.wrap ((xs.length : Nat) : Int)) 8))) hA hO Tryd.func49 (from_any (sumF 125762890854254 xs) _ (([]) ++ leL (IntKind.u64.wrap ((xs.length : Nat) : Int)) 8) _ (Vw.sl (hT2.vw (A := []) (B := []) hO.m) huT2) (by first | omega | (simp only [List.length_append, List.length_nil, leL_len]; omega))) ?_)
  clear hA hO fr; intro fr w3 hA hO
  replace hA := hA.sb (e' := [(2, u64 0), (8, u64 (sumF (sumF 125762890854254 xs) (([]) ++ leL (IntKind.u64.wrap ((xs.length : Nat) : Int)) 8)))])
  refine ck (l := [6]) (r := []) (e' := [(2, u64 (sumF (sumF 125762890854254 xs) (([]) ++ leL (IntKind.u64.wrap ((xs.length : Nat) : Int)) 8)))]) hA [] c0 ?_
  clear hA fr; intro fr hA
  refine end_ops ?_
  refine then_normal ?_
  refine wp_ret ?_
  refine cR (cs := [none]) (us := [u64 (sumF (sumF 125762890854254 xs) (([]) ++ leL (IntKind.u64.wrap ((xs.length : Nat) : Int)) 8))]) hA [] trivial ?_
  have hF := hO.only; clear hA hO
  exact ⟨by simp only [List.nil_append]; rfl, hF⟩

theorem sealed_S (p : Option Addr) (c : Nat) (xs : List Int) (T : OwL) (w : World) (h0 : Ow Tryd.prog (inT T) w w T) (hT : One fB 5 1 p c xs T) (hu : U8s xs) (hb : xs.length ≤ 800000) (S : Int) (hS : sumO xs = S) :
    Calls Tryd.prog 26 #[.slice p xs.length c] w fun e w' => ∃ p' c' T', e = .returned (.slice p' (xs ++ leL S 8).length c') ∧ Ow Tryd.prog (inT T) w w' T' ∧ One fB 5 1 p' c' (xs ++ leL S 8) T' := by
  refine c_enter (args := [.slice p xs.length c]) (m := 19) (n := 20) Tryd.func26 rfl (by kernel_rfl) (by kernel_rfl) fun fr hA => ?_
  have hO : Ow Tryd.prog (inT T) w w ([] ++ (T ++ ([]))) := h0.to (by simp only [List.nil_append, List.append_nil])
  refine sC (e' := [(0, .slice p xs.length c), (2, .slice none 0 0)]) 1 hA [] c0 ?_
  clear hA fr; intro fr hA
  refine sR (l := [0, 1, 2]) ?_
  refine ck (l := [0]) (r := [1, 2]) (e' := [(0, .slice p xs.length c), (2, .slice none 0 0), (5, .slice p xs.length c)]) hA [] c0 ?_
  clear hA fr; intro fr hA
  refine wpOps_cons' (mK (f := 40) (args := [.slice p xs.length c]) (d := (some 6)) (v := u64 S) hA hO Tryd.func40 (rs (of_any p c xs _ (Vw.sl (hT.vw (A := []) (B := []) hO.m) hu) (by omega)) (congrArg (Value.int .u64) hS)) ?_)
  clear hA hO fr; intro fr w1 hA hO
  replace hA := hA.sb (e' := [(0, .slice p xs.length c), (2, .slice none 0 0), (6, u64 S)])
  refine ck (l := [2]) (r := []) (e' := [(0, .slice p xs.length c), (2, .slice none 0 0), (3, u64 S)]) hA [] c0 ?_
  clear hA fr; intro fr hA
  refine end_ops ?_
  refine then_normal ?_
  refine wp_seq ?_
  refine sC (e' := [(0, .slice p xs.length c), (2, .slice none 0 0), (3, u64 S), (7, i64 0)]) 1 hA [] c0 ?_
  clear hA fr; intro fr hA
  refine wp_block ?_
  rw [show xs = xs ++ leL (S) 0 from (by simp only [leL, List.range_zero, List.map_nil, List.append_nil])] at hA hT hu
  refine c_loop (fun mm fr W => ∃ (i : Nat) (pL1 : Option Addr) (cL1 : Nat) (TL1 : OwL), mm = 8 - i ∧ Holds 20 [] fr [(0, .slice pL1 ((xs ++ leL (S) i).length) cL1), (2, .slice none 0 0), (3, u64 S), (7, i64 ((i : Nat) : Int))] ∧ Ow Tryd.prog (inT T) w W ([] ++ (TL1 ++ ([]))) ∧ One fB 5 1 pL1 cL1 (xs ++ leL (S) i) TL1 ∧ U8s (xs ++ leL (S) i) ∧ i ≤ 8 ∧ True) ?_ ?_
  · exact ⟨_, 0, p, c, T, rfl, (hA.sub (e' := [(0, .slice p ((xs ++ leL (S) 0).length) c), (2, .slice none 0 0), (3, u64 S), (7, i64 0)]) [0, 2, 3, 7] (by kernel_rfl)).cast (by kernel_rfl), (hO : Ow Tryd.prog (inT T) w _ ([] ++ (T ++ ([])))), hT, hu, (by omega), trivial⟩
  · rintro _ fr w2 ⟨i, pL1, cL1, TL1, rfl, hA, hO, hTL1, huL1, hi, -⟩
    have hlen : (leL (S) i).length = i := leL_len _ _
    refine sC (e' := [(0, .slice pL1 ((xs ++ leL (S) i).length) cL1), (2, .slice none 0 0), (3, u64 S), (7, i64 ((i : Nat) : Int)), (8, bl (decide (((i : Nat) : Int) < 8)))]) 1 hA [] c0 ?_
    clear hA fr; intro fr hA
    refine wp_seq ?_
    rcases Bool.eq_false_or_eq_true (decide (((i : Nat) : Int) < 8)) with h1 | h1
    ·
      replace hA := hA.bool (f := fun z_ => [(0, .slice pL1 ((xs ++ leL (S) i).length) cL1), (2, .slice none 0 0), (3, u64 S), (7, i64 ((i : Nat) : Int)), (8, .bool z_)]) h1
      have h1p := of_decide_eq_true h1
      refine cT hA ?_
      refine wp_skip ?_
      refine then_normal ?_
      refine wp_seq ?_
      refine wp_block ?_
      refine sC (e' := [(0, .slice pL1 ((xs ++ leL (S) i).length) cL1), (2, .slice none 0 0), (3, u64 S), (4, i64 ((i : Nat) : Int)), (7, i64 ((i : Nat) : Int)), (8, bl true), (9, i64 ((i : Nat) : Int))]) 2 hA [] c0 ?_
      clear hA fr; intro fr hA
      refine rR (l := (rg 0 9)) ?_
      refine ck (l := (rg 0 6)) (r := [6, 7, 8]) (e' := [(0, .slice pL1 ((xs ++ leL (S) i).length) cL1), (2, .slice none 0 0), (3, u64 S), (4, i64 ((i : Nat) : Int)), (7, i64 ((i : Nat) : Int)), (8, bl true), (9, i64 ((i : Nat) : Int)), (10, .slice pL1 ((xs ++ leL (S) i).length) cL1), (11, u64 S), (12, i64 ((i : Nat) : Int)), (13, i64 (8 * ((i : Nat) : Int))), (14, u64 (S / 2 ^ (min (8 * ((i : Nat) : Int)).toNat 64))), (15, u8 (IntKind.u8.wrap (S / 2 ^ (min (8 * ((i : Nat) : Int)).toNat 64))))]) hA [bl true, bl false, bl false] (cc ((inK_i64 (by omega) (by omega)) : inK .i64 (8 * ((i : Nat) : Int))) (cc (by omega : (0 : Int) ≤ 8 * ((i : Nat) : Int)) c0)) ?_
      clear hA fr; intro fr hA
      refine wpOps_cons' (mN (l := [u8 (IntKind.u8.wrap (S / 2 ^ (min (8 * ((i : Nat) : Int)).toNat 64)))]) (t := 5) (v := fun b => .slice (some ⟨b, 0, none⟩) 1 1) (d := 16) hA hO ?_)
      clear hA hO fr; intro fr w3 b1 hA hO
      replace hO : Ow Tryd.prog (inT T) w w3 ([(b1, 5, [u8 (IntKind.u8.wrap (S / 2 ^ (min (8 * ((i : Nat) : Int)).toNat 64)))])] ++ (TL1 ++ ([]))) := hO
      refine wpOps_cons' (mA (f := fB) (el := 5) (sz := 1) (bytes := 1) (p := pL1) (c := cL1) (l := xs ++ leL (S) i) (l' := [IntKind.u8.wrap (S / 2 ^ (min (8 * ((i : Nat) : Int)).toNat 64))]) (T := TL1) (t := 22) (tx := 22) (ty := 22) (x := .slice (some ⟨b1, 0, none⟩) 1 1) (d := 17) [(b1, 5, [u8 (IntKind.u8.wrap (S / 2 ^ (min (8 * ((i : Nat) : Int)).toNat 64)))])] ([]) encB hA hO hTL1 (Vw.src (e' := 5) encB ((hO.b 0).vw (off := 0) (xs := [IntKind.u8.wrap (S / 2 ^ (min (8 * ((i : Nat) : Int)).toNat 64))]) (by kernel_rfl)) (by kernel_rfl)) (by first | omega | (simp only [List.length_append, List.length_cons, List.length_nil]; omega)) (by unfold maxLen; first | omega | (simp only [List.length_append, List.length_cons, List.length_nil]; omega)) ?_)
      clear hA hO fr; intro fr w4 p1 c1 T1 hA hO hT1
      have huT1 : U8s ((xs ++ leL (S) i) ++ ([IntKind.u8.wrap (S / 2 ^ (min (8 * ((i : Nat) : Int)).toNat 64))])) := (U8s.app huL1 (U8s.cons (wrap_inK .u8 _) U8s.nil))
      rw [show ((xs ++ leL (S) i) ++ ([IntKind.u8.wrap (S / 2 ^ (min (8 * ((i : Nat) : Int)).toNat 64))])) = xs ++ leL (S) (i + 1) from (by rw [← leL_succ, List.append_assoc]; rfl)] at hA hT1 huT1
      refine ck (l := [8]) (r := []) (e' := [(0, .slice p1 ((xs ++ leL (S) (i + 1)).length) c1), (2, .slice none 0 0), (3, u64 S), (4, i64 ((i : Nat) : Int)), (7, i64 ((i : Nat) : Int)), (8, bl true), (9, i64 ((i : Nat) : Int)), (10, .slice pL1 ((xs ++ leL (S) i).length) cL1), (11, u64 S), (12, i64 ((i : Nat) : Int)), (13, i64 (8 * ((i : Nat) : Int))), (14, u64 (S / 2 ^ (min (8 * ((i : Nat) : Int)).toNat 64))), (15, u8 (IntKind.u8.wrap (S / 2 ^ (min (8 * ((i : Nat) : Int)).toNat 64)))), (16, .slice (some ⟨b1, 0, none⟩) 1 1), (17, .slice p1 ((xs ++ leL (S) (i + 1)).length) c1)]) hA [] c0 ?_
      clear hA fr; intro fr hA
      refine end_ops ?_
      refine inBlock_normal ?_
      refine then_normal ?_
      refine rC (e' := [(0, .slice p1 ((xs ++ leL (S) (i + 1)).length) c1), (2, .slice none 0 0), (3, u64 S), (4, i64 ((i : Nat) : Int)), (7, i64 (((i : Nat) : Int) + 1)), (8, bl true), (9, i64 ((i : Nat) : Int)), (10, .slice pL1 ((xs ++ leL (S) i).length) cL1), (11, u64 S), (12, i64 ((i : Nat) : Int)), (13, i64 (8 * ((i : Nat) : Int))), (14, u64 (S / 2 ^ (min (8 * ((i : Nat) : Int)).toNat 64))), (15, u8 (IntKind.u8.wrap (S / 2 ^ (min (8 * ((i : Nat) : Int)).toNat 64)))), (16, .slice (some ⟨b1, 0, none⟩) 1 1), (17, .slice p1 ((xs ++ leL (S) (i + 1)).length) c1), (18, i64 (((i : Nat) : Int) + 1))]) 2 hA [bl true] (cc ((inK_i64 (by omega) (by omega)) : inK .i64 (((i : Nat) : Int) + 1)) c0) ?_
      clear hA fr; intro fr hA
      refine then_normal ?_
      exact ⟨_, by omega, i + 1, p1, c1, T1, rfl, (hA.sub (e' := [(0, .slice p1 ((xs ++ leL (S) (i + 1)).length) c1), (2, .slice none 0 0), (3, u64 S), (7, i64 (((i : Nat) : Int) + 1))]) [0, 2, 3, 7] (by kernel_rfl)).cast (by kernel_rfl), (Ow.subP (A := [(b1, 5, [u8 (IntKind.u8.wrap (S / 2 ^ (min (8 * ((i : Nat) : Int)).toNat 64)))])]) (A' := []) (B := T1 ++ ([])) hO (.cons _ .slnil)), hT1, huT1, (by omega), trivial⟩
    ·
      replace hA := hA.bool (f := fun z_ => [(0, .slice pL1 ((xs ++ leL (S) i).length) cL1), (2, .slice none 0 0), (3, u64 S), (7, i64 ((i : Nat) : Int)), (8, .bool z_)]) h1
      have h1p := of_decide_eq_false h1
      refine cF hA ?_
      refine wp_exit ?_
      refine then_exit ?_
      refine then_exit ?_
      refine inBlock_exit ?_
      refine then_normal ?_
      refine sC (e' := [(2, .slice pL1 ((xs ++ leL (S) i).length) cL1)]) 2 hA [] c0 ?_
      clear hA fr; intro fr hA
      refine wp_ret ?_
      refine cR (cs := [none]) (us := [.slice pL1 ((xs ++ leL (S) i).length) cL1]) hA [] trivial ?_
      obtain rfl : i = 8 := by omega
      exact ⟨_, _, _, rfl, Ow.just (A := []) (T := TL1) (B := []) hO, hTL1⟩

theorem sealed_any (p : Option Addr) (c : Nat) (xs : List Int) (T : OwL) (w : World) (h0 : Ow Tryd.prog (inT T) w w T) (hT : One fB 5 1 p c xs T) (hu : U8s xs) (hb : xs.length ≤ 800000) : Calls Tryd.prog 26 #[.slice p xs.length c] w fun e w' => ∃ p' c' T', e = .returned (.slice p' (sealL xs).length c') ∧ Ow Tryd.prog (inT T) w w' T' ∧ One fB 5 1 p' c' (sealL xs) T' := by
  unfold sealL
  exact sealed_S p c xs T w h0 hT hu hb _ rfl

theorem same_nn (w : World)  :
    Calls Tryd.prog 13 #[.slice none 0 0, .slice none 0 0] w fun e w' => e = .returned (.bool (decide (([] : List Int) = ([] : List Int)))) ∧ Only none' w w' := by
  refine c_enter (args := [.slice none 0 0, .slice none 0 0]) (m := 8) (n := 10) Tryd.func13 rfl (by kernel_rfl) (by kernel_rfl) fun fr hA => ?_
  have hO := Ow.nil Tryd.prog none' w
  refine sC (e' := [(0, .slice none 0 0), (1, .slice none 0 0), (4, bl false)]) 1 hA [] c0 ?_
  clear hA fr; intro fr hA
  refine sC (e' := [(4, bl true)]) 6 hA [] c0 ?_
  clear hA fr; intro fr hA
  refine wp_ret ?_
  refine cR (cs := [none]) (us := [bl true]) hA [] trivial ?_
  have hF := hO.only; clear hA hO
  exact ⟨congrArg (fun b => Ending.returned (.bool b)) rfl, hF⟩

theorem same_ns (w : World) (ys : List Int) (q : Addr) (cq : Nat) (uq : U8s ys) (hq : Cel w q ys) :
    Calls Tryd.prog 13 #[.slice none 0 0, .slice (some q) ys.length cq] w fun e w' => e = .returned (.bool (decide (([] : List Int) = ys))) ∧ Only none' w w' := by
  refine c_enter (args := [.slice none 0 0, .slice (some q) ys.length cq]) (m := 8) (n := 10) Tryd.func13 rfl (by kernel_rfl) (by kernel_rfl) fun fr hA => ?_
  have hO := Ow.nil Tryd.prog none' w
  refine sC (e' := [(0, .slice none 0 0), (1, .slice (some q) ys.length cq), (4, bl false)]) 1 hA [] c0 ?_
  clear hA fr; intro fr hA
  refine sC (e' := [(4, bl ((bsI []).toList == (bsI ys).toList))]) 6 hA [str (bsI ys)] (cc (⟨bsI_size _, fun i hi => ld_cell (by kernel_rfl) (by rw [sb_bsI uq hi]; exact hO.only.cell (hq i hi) (fun h => h))⟩ : (bsI ys).size = ys.length ∧ ∀ i, i < ys.length → Ld Tryd.prog w (q.add i) 5 (.int .u8 (sb (bsI ys) i))) c0) ?_
  clear hA fr; intro fr hA
  refine wp_ret ?_
  refine cR (cs := [none]) (us := [bl ((bsI []).toList == (bsI ys).toList)]) hA [] trivial ?_
  have hF := hO.only; clear hA hO
  exact ⟨congrArg (fun b => Ending.returned (.bool b)) (toList_beq [] ys (fun x h => absurd h List.not_mem_nil) uq), hF⟩

theorem same_sn (w : World) (xs : List Int) (p : Addr) (cp : Nat) (up : U8s xs) (hp : Cel w p xs) :
    Calls Tryd.prog 13 #[.slice (some p) xs.length cp, .slice none 0 0] w fun e w' => e = .returned (.bool (decide (xs = ([] : List Int)))) ∧ Only none' w w' := by
  refine c_enter (args := [.slice (some p) xs.length cp, .slice none 0 0]) (m := 8) (n := 10) Tryd.func13 rfl (by kernel_rfl) (by kernel_rfl) fun fr hA => ?_
  have hO := Ow.nil Tryd.prog none' w
  refine sC (e' := [(0, .slice (some p) xs.length cp), (1, .slice none 0 0), (4, bl false)]) 1 hA [] c0 ?_
  clear hA fr; intro fr hA
  refine sC (e' := [(4, bl ((bsI xs).toList == (bsI []).toList))]) 6 hA [str (bsI xs)] (cc (⟨bsI_size _, fun i hi => ld_cell (by kernel_rfl) (by rw [sb_bsI up hi]; exact hO.only.cell (hp i hi) (fun h => h))⟩ : (bsI xs).size = xs.length ∧ ∀ i, i < xs.length → Ld Tryd.prog w (p.add i) 5 (.int .u8 (sb (bsI xs) i))) c0) ?_
  clear hA fr; intro fr hA
  refine wp_ret ?_
  refine cR (cs := [none]) (us := [bl ((bsI xs).toList == (bsI []).toList)]) hA [] trivial ?_
  have hF := hO.only; clear hA hO
  exact ⟨congrArg (fun b => Ending.returned (.bool b)) (toList_beq xs [] up (fun x h => absurd h List.not_mem_nil)), hF⟩

theorem same_ss (w : World) (xs : List Int) (p : Addr) (cp : Nat) (up : U8s xs) (hp : Cel w p xs) (ys : List Int) (q : Addr) (cq : Nat) (uq : U8s ys) (hq : Cel w q ys) :
    Calls Tryd.prog 13 #[.slice (some p) xs.length cp, .slice (some q) ys.length cq] w fun e w' => e = .returned (.bool (decide (xs = ys))) ∧ Only none' w w' := by
  refine c_enter (args := [.slice (some p) xs.length cp, .slice (some q) ys.length cq]) (m := 8) (n := 10) Tryd.func13 rfl (by kernel_rfl) (by kernel_rfl) fun fr hA => ?_
  have hO := Ow.nil Tryd.prog none' w
  refine sC (e' := [(0, .slice (some p) xs.length cp), (1, .slice (some q) ys.length cq), (4, bl false)]) 1 hA [] c0 ?_
  clear hA fr; intro fr hA
  refine sC (e' := [(4, bl ((bsI xs).toList == (bsI ys).toList))]) 6 hA [str (bsI xs), str (bsI ys)] (cc (⟨bsI_size _, fun i hi => ld_cell (by kernel_rfl) (by rw [sb_bsI up hi]; exact hO.only.cell (hp i hi) (fun h => h))⟩ : (bsI xs).size = xs.length ∧ ∀ i, i < xs.length → Ld Tryd.prog w (p.add i) 5 (.int .u8 (sb (bsI xs) i))) (cc (⟨bsI_size _, fun i hi => ld_cell (by kernel_rfl) (by rw [sb_bsI uq hi]; exact hO.only.cell (hq i hi) (fun h => h))⟩ : (bsI ys).size = ys.length ∧ ∀ i, i < ys.length → Ld Tryd.prog w (q.add i) 5 (.int .u8 (sb (bsI ys) i))) c0)) ?_
  clear hA fr; intro fr hA
  refine wp_ret ?_
  refine cR (cs := [none]) (us := [bl ((bsI xs).toList == (bsI ys).toList)]) hA [] trivial ?_
  have hF := hO.only; clear hA hO
  exact ⟨congrArg (fun b => Ending.returned (.bool b)) (toList_beq xs ys up uq), hF⟩

theorem same_any (xs ys : List Int) (a b : Value) (w : World) (ha : SlI w a xs) (hb : SlI w b ys) : Calls Tryd.prog 13 #[a, b] w fun e w' => e = .returned (.bool (decide (xs = ys))) ∧ Only none' w w' := by
  obtain ⟨ua, ⟨rfl, rfl⟩ | ⟨p, cp, rfl, hp⟩⟩ := ha <;> obtain ⟨ub, ⟨rfl, rfl⟩ | ⟨q, cq, rfl, hq⟩⟩ := hb
  · exact same_nn w
  · exact same_ns w ys q cq ub hq
  · exact same_sn w xs p cp ua hp
  · exact same_ss w xs p cp ua hp ys q cq ub hq

end Go.Proofs.YtkfnkcpdabdboaaDoor
