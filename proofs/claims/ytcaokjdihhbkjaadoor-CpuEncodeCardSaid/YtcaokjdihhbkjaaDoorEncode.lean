/- The layer cpu: walks of Encode, Same, Start and awake. -/
import Derived.Test.YtcaokjdihhbkjaaDoorExecc
set_option linter.unusedVariables false
set_option linter.unusedSimpArgs false
set_option maxRecDepth 10000
namespace Go.Proofs.YtcaokjdihhbkjaaDoor
open Go Go.RowKit Go.Proofs.Sx

theorem same_nn (w : World)  :
    Calls Tryd.prog 16 #[.slice none 0 0, .slice none 0 0] w fun e w' => e = .returned (.bool (decide (([] : List Int) = ([] : List Int)))) ∧ Only none' w w' := by
  refine c_enter (args := [.slice none 0 0, .slice none 0 0]) (m := 8) (n := 10) Tryd.func16 rfl (by kernel_rfl) (by kernel_rfl) fun fr hA => ?_
  have hO := Ow.nil Tryd.prog none' w
  refine sC (e' := [(0, .slice none 0 0), (1, .slice none 0 0), (4, bl false)]) 1 hA [] c0 ?_
  clear hA fr; intro fr hA
  refine sC (e' := [(4, bl true)]) 6 hA [] c0 ?_
  clear hA fr; intro fr hA
  refine wp_ret ?_
  refine cR (cs := [none]) (us := [bl true]) hA [] trivial ?_
  have hF := hO.only; clear hA hO
  exact ⟨congrArg (fun b => Ending.returned (.bool b)) rfl, hF⟩

theorem same_ns (w : World) (ys : List Int) (q : Addr) (cq : Nat) (uq : U8s ys) (hq : Cel w q ys) :
    Calls Tryd.prog 16 #[.slice none 0 0, .slice (some q) ys.length cq] w fun e w' => e = .returned (.bool (decide (([] : List Int) = ys))) ∧ Only none' w w' := by
  refine c_enter (args := [.slice none 0 0, .slice (some q) ys.length cq]) (m := 8) (n := 10) Tryd.func16 rfl (by kernel_rfl) (by kernel_rfl) fun fr hA => ?_
  have hO := Ow.nil Tryd.prog none' w
  refine sC (e' := [(0, .slice none 0 0), (1, .slice (some q) ys.length cq), (4, bl false)]) 1 hA [] c0 ?_
  clear hA fr; intro fr hA
  refine sC (e' := [(4, bl ((bsI []).toList == (bsI ys).toList))]) 6 hA [str (bsI ys)] (cc (⟨bsI_size _, fun i hi => ld_cell (by kernel_rfl) (by rw [sb_bsI uq hi]; exact hO.only.cell (hq i hi) (fun h => h))⟩ : (bsI ys).size = ys.length ∧ ∀ i, i < ys.length → Ld Tryd.prog w (q.add i) 5 (.int .u8 (sb (bsI ys) i))) c0) ?_
  clear hA fr; intro fr hA
  refine wp_ret ?_
  refine cR (cs := [none]) (us := [bl ((bsI []).toList == (bsI ys).toList)]) hA [] trivial ?_
  have hF := hO.only; clear hA hO
  exact ⟨congrArg (fun b => Ending.returned (.bool b)) (toList_beq [] ys (fun x h => absurd h List.not_mem_nil) uq), hF⟩

theorem same_sn (w : World) (xs : List Int) (p : Addr) (cp : Nat) (up : U8s xs) (hp : Cel w p xs) :
    Calls Tryd.prog 16 #[.slice (some p) xs.length cp, .slice none 0 0] w fun e w' => e = .returned (.bool (decide (xs = ([] : List Int)))) ∧ Only none' w w' := by
  refine c_enter (args := [.slice (some p) xs.length cp, .slice none 0 0]) (m := 8) (n := 10) Tryd.func16 rfl (by kernel_rfl) (by kernel_rfl) fun fr hA => ?_
  have hO := Ow.nil Tryd.prog none' w
  refine sC (e' := [(0, .slice (some p) xs.length cp), (1, .slice none 0 0), (4, bl false)]) 1 hA [] c0 ?_
  clear hA fr; intro fr hA
  refine sC (e' := [(4, bl ((bsI xs).toList == (bsI []).toList))]) 6 hA [str (bsI xs)] (cc (⟨bsI_size _, fun i hi => ld_cell (by kernel_rfl) (by rw [sb_bsI up hi]; exact hO.only.cell (hp i hi) (fun h => h))⟩ : (bsI xs).size = xs.length ∧ ∀ i, i < xs.length → Ld Tryd.prog w (p.add i) 5 (.int .u8 (sb (bsI xs) i))) c0) ?_
  clear hA fr; intro fr hA
  refine wp_ret ?_
  refine cR (cs := [none]) (us := [bl ((bsI xs).toList == (bsI []).toList)]) hA [] trivial ?_
  have hF := hO.only; clear hA hO
  exact ⟨congrArg (fun b => Ending.returned (.bool b)) (toList_beq xs [] up (fun x h => absurd h List.not_mem_nil)), hF⟩

theorem same_ss (w : World) (xs : List Int) (p : Addr) (cp : Nat) (up : U8s xs) (hp : Cel w p xs) (ys : List Int) (q : Addr) (cq : Nat) (uq : U8s ys) (hq : Cel w q ys) :
    Calls Tryd.prog 16 #[.slice (some p) xs.length cp, .slice (some q) ys.length cq] w fun e w' => e = .returned (.bool (decide (xs = ys))) ∧ Only none' w w' := by
  refine c_enter (args := [.slice (some p) xs.length cp, .slice (some q) ys.length cq]) (m := 8) (n := 10) Tryd.func16 rfl (by kernel_rfl) (by kernel_rfl) fun fr hA => ?_
  have hO := Ow.nil Tryd.prog none' w
  refine sC (e' := [(0, .slice (some p) xs.length cp), (1, .slice (some q) ys.length cq), (4, bl false)]) 1 hA [] c0 ?_
  clear hA fr; intro fr hA
  refine sC (e' := [(4, bl ((bsI xs).toList == (bsI ys).toList))]) 6 hA [str (bsI xs), str (bsI ys)] (cc (⟨bsI_size _, fun i hi => ld_cell (by kernel_rfl) (by rw [sb_bsI up hi]; exact hO.only.cell (hp i hi) (fun h => h))⟩ : (bsI xs).size = xs.length ∧ ∀ i, i < xs.length → Ld Tryd.prog w (p.add i) 5 (.int .u8 (sb (bsI xs) i))) (cc (⟨bsI_size _, fun i hi => ld_cell (by kernel_rfl) (by rw [sb_bsI uq hi]; exact hO.only.cell (hq i hi) (fun h => h))⟩ : (bsI ys).size = ys.length ∧ ∀ i, i < ys.length → Ld Tryd.prog w (q.add i) 5 (.int .u8 (sb (bsI ys) i))) c0)) ?_
  clear hA fr; intro fr hA
  refine wp_ret ?_
  refine cR (cs := [none]) (us := [bl ((bsI xs).toList == (bsI ys).toList)]) hA [] trivial ?_
  have hF := hO.only; clear hA hO
  exact ⟨congrArg (fun b => Ending.returned (.bool b)) (toList_beq xs ys up uq), hF⟩

theorem same_any (xs ys : List Int) (a b : Value) (w : World) (ha : SlI w a xs) (hb : SlI w b ys) : Calls Tryd.prog 16 #[a, b] w fun e w' => e = .returned (.bool (decide (xs = ys))) ∧ Only none' w w' := by
  obtain ⟨ua, ⟨rfl, rfl⟩ | ⟨p, cp, rfl, hp⟩⟩ := ha <;> obtain ⟨ub, ⟨rfl, rfl⟩ | ⟨q, cq, rfl, hq⟩⟩ := hb
  · exact same_nn w
  · exact same_ns w ys q cq ub hq
  · exact same_sn w xs p cp ua hp
  · exact same_ss w xs p cp ua hp ys q cq ub hq

theorem encode_bad (o a b c v : Int) (w : World) (hT : Tab w) (hl : legalB o a b c v = false) :
    Calls Tryd.prog 15 #[.agg #[i64 o, i64 a, i64 b, i64 c, i64 v]] w fun e w' => e = .returned (.tuple #[.slice none 0 0, .int .i64 1]) ∧ Only none' w w' := by
  refine c_enter (args := [.agg #[i64 o, i64 a, i64 b, i64 c, i64 v]]) (m := 38) (n := 39) Tryd.func15 rfl (by kernel_rfl) (by kernel_rfl) fun fr hA => ?_
  have hO := Ow.nil Tryd.prog none' w
  refine sR (l := [0, 1, 2]) ?_
  refine wpOps_cons' (mN (l := [i64 o, i64 a, i64 b, i64 c, i64 v]) (t := 25) (v := pt) (d := 1) hA hO ?_)
  clear hA hO fr; intro fr w1 b1 hA hO
  replace hA := hA.sb (e' := [(1, pt b1)])
  refine ck (l := [1, 2]) (r := []) (e' := [(1, pt b1), (2, .slice none 0 0), (3, i64 0)]) hA [] c0 ?_
  clear hA fr; intro fr hA
  refine end_ops ?_
  refine then_normal ?_
  refine wp_seq ?_
  refine sR (l := [0, 1, 2]) ?_
  refine ck (l := [0]) (r := [1, 2]) (e' := [(1, pt b1), (2, .slice none 0 0), (3, i64 0), (4, .agg #[i64 o, i64 a, i64 b, i64 c, i64 v])]) hA [.agg #[i64 o, i64 a, i64 b, i64 c, i64 v]] (cc (hO.ln 0 0 25 [i64 o, i64 a, i64 b, i64 c, i64 v]) c0) ?_
  clear hA fr; intro fr hA
  refine wpOps_cons' (mK (f := 30) (args := [.agg #[i64 o, i64 a, i64 b, i64 c, i64 v]]) (d := (some 5)) (v := bl (legalB o a b c v)) hA hO Tryd.func30 (legal_any o a b c v _ (hT.keep hO.only (fun h => h))) ?_)
  clear hA hO fr; intro fr w2 hA hO
  replace hA := hA.sb (e' := [(1, pt b1), (2, .slice none 0 0), (3, i64 0), (5, bl (legalB o a b c v))])
  refine ck (l := [2]) (r := []) (e' := [(1, pt b1), (2, .slice none 0 0), (3, i64 0), (6, bl (!(legalB o a b c v)))]) hA [] c0 ?_
  clear hA fr; intro fr hA
  refine end_ops ?_
  refine then_normal ?_
  rcases Bool.eq_false_or_eq_true (legalB o a b c v) with h1 | h1
  ·
    rw [hl] at h1; cases h1
  ·
    replace hA := hA.bool (f := fun z_ => [(1, pt b1), (2, .slice none 0 0), (3, i64 0), (6, .bool !z_)]) h1
    refine cT hA ?_
    refine sC (e' := [(1, pt b1), (2, .slice none 0 0), (3, i64 1)]) 2 hA [] c0 ?_
    clear hA fr; intro fr hA
    refine wp_ret ?_
    refine then_ret ?_
    refine cR (cs := [none, none]) (us := [.slice none 0 0, i64 1]) hA [] trivial ?_
    have hF := hO.only; clear hA hO
    exact ⟨rfl, hF⟩

theorem encode_k (k : Nat) (a b c v : Int) (w : World) (hT : Tab w) (k1 : 1 ≤ k) (k2 : k ≤ 22) (hl : legalB ((k : Nat) : Int) a b c v = true) :
    Calls Tryd.prog 15 #[.agg #[i64 ((k : Nat) : Int), i64 a, i64 b, i64 c, i64 v]] w fun e w' => ∃ bk, e = .returned (.tuple #[.slice (some ⟨bk, 0, none⟩) 4 4, .int .i64 0]) ∧ Only none' w w' ∧ Blk w' bk 5 ((encX ((k : Nat) : Int) a b c v).map (.int .u8 ·)) ∧ w.heap.size ≤ bk := by
  refine c_enter (args := [.agg #[i64 ((k : Nat) : Int), i64 a, i64 b, i64 c, i64 v]]) (m := 38) (n := 39) Tryd.func15 rfl (by kernel_rfl) (by kernel_rfl) fun fr hA => ?_
  have hO := Ow.nil Tryd.prog none' w
  refine sR (l := [0, 1, 2]) ?_
  refine wpOps_cons' (mN (l := [i64 ((k : Nat) : Int), i64 a, i64 b, i64 c, i64 v]) (t := 25) (v := pt) (d := 1) hA hO ?_)
  clear hA hO fr; intro fr w1 b1 hA hO
  replace hA := hA.sb (e' := [(1, pt b1)])
  refine ck (l := [1, 2]) (r := []) (e' := [(1, pt b1), (2, .slice none 0 0), (3, i64 0)]) hA [] c0 ?_
  clear hA fr; intro fr hA
  refine end_ops ?_
  refine then_normal ?_
  refine wp_seq ?_
  refine sR (l := [0, 1, 2]) ?_
  refine ck (l := [0]) (r := [1, 2]) (e' := [(1, pt b1), (2, .slice none 0 0), (3, i64 0), (4, .agg #[i64 ((k : Nat) : Int), i64 a, i64 b, i64 c, i64 v])]) hA [.agg #[i64 ((k : Nat) : Int), i64 a, i64 b, i64 c, i64 v]] (cc (hO.ln 0 0 25 [i64 ((k : Nat) : Int), i64 a, i64 b, i64 c, i64 v]) c0) ?_
  clear hA fr; intro fr hA
  refine wpOps_cons' (mK (f := 30) (args := [.agg #[i64 ((k : Nat) : Int), i64 a, i64 b, i64 c, i64 v]]) (d := (some 5)) (v := bl (legalB ((k : Nat) : Int) a b c v)) hA hO Tryd.func30 (legal_any ((k : Nat) : Int) a b c v _ (hT.keep hO.only (fun h => h))) ?_)
  clear hA hO fr; intro fr w2 hA hO
  replace hA := hA.sb (e' := [(1, pt b1), (2, .slice none 0 0), (3, i64 0), (5, bl (legalB ((k : Nat) : Int) a b c v))])
  refine ck (l := [2]) (r := []) (e' := [(1, pt b1), (2, .slice none 0 0), (3, i64 0), (6, bl (!(legalB ((k : Nat) : Int) a b c v)))]) hA [] c0 ?_
  clear hA fr; intro fr hA
  refine end_ops ?_
  refine then_normal ?_
  rcases Bool.eq_false_or_eq_true (legalB ((k : Nat) : Int) a b c v) with h1 | h1
  ·
    replace hA := hA.bool (f := fun z_ => [(1, pt b1), (2, .slice none 0 0), (3, i64 0), (6, .bool !z_)]) h1
    refine cF hA ?_
    refine wp_skip ?_
    refine then_normal ?_
    refine wp_seq ?_
    refine sC (e' := [(1, pt b1), (2, .slice none 0 0), (3, i64 0), (11, bl (opV ((k : Nat) : Int)))]) 5 hA [i64 ((k : Nat) : Int), bl (opV ((k : Nat) : Int))] (cc (hO.l1 0 0 3 (i64 ((k : Nat) : Int))) (cc (⟨by omega, by omega⟩ : (0 : Int) ≤ ((k : Nat) : Int) ∧ ((k : Nat) : Int) < ((23 : Nat) : Int)) (cc ((ld_cell (by kernel_rfl) (hO.only.cell (hT.fv k1 k2) (fun h => h))) : Ld Tryd.prog w2 (((⟨0, 0, none⟩ : Addr).add (k * 6)).add 4) 4 (bl (opV ((k : Nat) : Int)))) c0))) ?_
    clear hA fr; intro fr hA
    rcases Bool.eq_false_or_eq_true (opV ((k : Nat) : Int)) with h2 | h2
    ·
      replace hA := hA.bool (f := fun z_ => [(1, pt b1), (2, .slice none 0 0), (3, i64 0), (11, .bool z_)]) h2
      refine cT hA ?_
      refine sR (l := (rg 0 16)) ?_
      refine ck (l := (rg 0 13)) (r := [13, 14, 15]) (e' := [(1, pt b1), (2, .slice none 0 0), (3, i64 0), (14, u8 (IntKind.u8.wrap ((k : Nat) : Int))), (17, u8 (IntKind.u8.wrap a)), (21, u8 (IntKind.u8.wrap (v / 256))), (24, u8 (IntKind.u8.wrap v))]) hA [i64 ((k : Nat) : Int), bl false, i64 a, bl false, i64 v, bl false, bl false, i64 v, bl false] (cc (hO.l1 0 0 3 (i64 ((k : Nat) : Int))) (cc (hO.l1 0 1 3 (i64 a)) (cc (hO.l1 0 4 3 (i64 v)) (cc (by omega : (0 : Int) ≤ 8) (cc (hO.l1 0 4 3 (i64 v)) c0))))) ?_
      clear hA fr; intro fr hA
      refine wpOps_cons' (mN (l := [u8 (IntKind.u8.wrap ((k : Nat) : Int)), u8 (IntKind.u8.wrap a), u8 (IntKind.u8.wrap (v / 256)), u8 (IntKind.u8.wrap v)]) (t := 5) (v := fun b => .slice (some ⟨b, 0, none⟩) 4 4) (d := 25) hA hO ?_)
      clear hA hO fr; intro fr w3 b2 hA hO
      replace hA := hA.sb (e' := [(1, pt b1), (2, .slice none 0 0), (3, i64 0), (25, .slice (some ⟨b2, 0, none⟩) 4 4)])
      refine ck (l := [14, 15]) (r := []) (e' := [(1, pt b1), (2, .slice (some ⟨b2, 0, none⟩) 4 4), (3, i64 0)]) hA [] c0 ?_
      clear hA fr; intro fr hA
      refine end_ops ?_
      refine then_normal ?_
      refine wp_ret ?_
      refine then_ret ?_
      refine cR (cs := [none, none]) (us := [.slice (some ⟨b2, 0, none⟩) 4 4, i64 0]) hA [] trivial ?_
      refine ⟨b2, rfl, hO.only, ?_, hO.fresh 0⟩
      rw [encX, h2]; exact hO.b 0
    ·
      replace hA := hA.bool (f := fun z_ => [(1, pt b1), (2, .slice none 0 0), (3, i64 0), (11, .bool z_)]) h2
      refine cF hA ?_
      refine wp_skip ?_
      refine then_normal ?_
      refine sR (l := (rg 0 15)) ?_
      refine ck (l := (rg 0 12)) (r := [12, 13, 14]) (e' := [(2, .slice none 0 0), (3, i64 0), (28, u8 (IntKind.u8.wrap ((k : Nat) : Int))), (31, u8 (IntKind.u8.wrap a)), (34, u8 (IntKind.u8.wrap b)), (37, u8 (IntKind.u8.wrap c))]) hA [i64 ((k : Nat) : Int), bl false, i64 a, bl false, i64 b, bl false, i64 c, bl false] (cc (hO.l1 0 0 3 (i64 ((k : Nat) : Int))) (cc (hO.l1 0 1 3 (i64 a)) (cc (hO.l1 0 2 3 (i64 b)) (cc (hO.l1 0 3 3 (i64 c)) c0)))) ?_
      clear hA fr; intro fr hA
      refine wpOps_cons' (mN (l := [u8 (IntKind.u8.wrap ((k : Nat) : Int)), u8 (IntKind.u8.wrap a), u8 (IntKind.u8.wrap b), u8 (IntKind.u8.wrap c)]) (t := 5) (v := fun b => .slice (some ⟨b, 0, none⟩) 4 4) (d := 38) hA hO ?_)
      clear hA hO fr; intro fr w4 b3 hA hO
      replace hA := hA.sb (e' := [(2, .slice none 0 0), (3, i64 0), (38, .slice (some ⟨b3, 0, none⟩) 4 4)])
      refine ck (l := [13, 14]) (r := []) (e' := [(2, .slice (some ⟨b3, 0, none⟩) 4 4), (3, i64 0)]) hA [] c0 ?_
      clear hA fr; intro fr hA
      refine end_ops ?_
      refine then_normal ?_
      refine wp_ret ?_
      refine cR (cs := [none, none]) (us := [.slice (some ⟨b3, 0, none⟩) 4 4, i64 0]) hA [] trivial ?_
      refine ⟨b3, rfl, hO.only, ?_, hO.fresh 0⟩
      rw [encX, h2]; exact hO.b 0
  ·
    rw [hl] at h1; cases h1

theorem encode_ok (o a b c v : Int) (w : World) (hT : Tab w) (hl : legalB o a b c v = true) : Calls Tryd.prog 15 #[insV o a b c v] w fun e w' => ∃ bk, e = .returned (.tuple #[.slice (some ⟨bk, 0, none⟩) 4 4, .int .i64 0]) ∧ Only none' w w' ∧ Blk w' bk 5 ((encX o a b c v).map (.int .u8 ·)) ∧ w.heap.size ≤ bk := by
  have h : 1 ≤ o ∧ o ≤ 22 := by simp only [legalB, Bool.and_eq_true, decide_eq_true_eq] at hl; exact hl.1
  obtain ⟨k, rfl⟩ := Int.eq_ofNat_of_zero_le (show 0 ≤ o by omega)
  exact encode_k k a b c v w hT (by omega) (by omega) hl

theorem start_any (x : Int) (w : World) :
    Calls Tryd.prog 21 #[i64 x] w fun e w' => e = .returned (.agg (regsL (upd (fun _ => 0) 15 4096) x).toArray) ∧ Only none' w w' := by
  refine c_enter (args := [i64 x]) (m := 8) (n := 9) Tryd.func21 rfl (by kernel_rfl) (by kernel_rfl) fun fr hA => ?_
  have hO := Ow.nil Tryd.prog none' w
  refine sR (l := [0]) ?_
  refine wpOps_cons' (mN (l := [i32 0, i32 0, i32 0, i32 0, i32 0, i32 0, i32 0, i32 0, i32 0, i32 0, i32 0, i32 0, i32 0, i32 0, i32 0, i32 0, i64 0]) (t := 40) (v := pt) (d := 2) hA hO ?_)
  clear hA hO fr; intro fr w1 b1 hA hO
  refine end_ops ?_
  refine then_normal ?_
  refine sR (l := [0, 1, 2, 3]) ?_
  refine ck (l := [0, 1]) (r := [2, 3]) (e' := [(2, pt b1), (5, .agg #[i32 0, i32 0, i32 0, i32 0, i32 0, i32 0, i32 0, i32 0, i32 0, i32 0, i32 0, i32 0, i32 0, i32 0, i32 0, i32 0, i64 x])]) hA [] c0 ?_
  clear hA fr; intro fr hA
  refine wpOps_cons' (mN (l := [i32 0, i32 0, i32 0, i32 0, i32 0, i32 0, i32 0, i32 0, i32 0, i32 0, i32 0, i32 0, i32 0, i32 0, i32 0, i32 0, i64 0]) (t := 40) (v := pt) (d := 3) hA hO ?_)
  clear hA hO fr; intro fr w2 b2 hA hO
  refine wpOps_cons' (mS (off := 0) (vc := [i32 0, i32 0, i32 0, i32 0, i32 0, i32 0, i32 0, i32 0, i32 0, i32 0, i32 0, i32 0, i32 0, i32 0, i32 0, i32 0, i64 x]) 0 hA hO ?_)
  clear hO; intro w3 hO
  replace hA := hA.sb (e' := [(2, pt b1), (3, pt b2)])
  refine end_ops ?_
  refine then_normal ?_
  refine sR (l := [0, 1, 2]) ?_
  refine ck (l := [0, 1]) (r := [2]) (e' := [(2, pt b1), (3, pt b2), (7, pf b2 15)]) hA [] (cc (⟨by omega, by omega⟩ : (0 : Int) ≤ 15 ∧ 15 < ((16 : Nat) : Int)) c0) ?_
  clear hA fr; intro fr hA
  refine wpOps_cons' (mS (off := 15) (vc := [i32 4096]) 0 hA hO ?_)
  clear hO; intro w4 hO
  replace hA := hA.sb (e' := [(2, pt b1), (3, pt b2)])
  refine end_ops ?_
  refine then_normal ?_
  refine sR (l := [0, 1]) ?_
  refine ck (l := [0]) (r := [1]) (e' := [(2, pt b1), (8, .agg #[i32 0, i32 0, i32 0, i32 0, i32 0, i32 0, i32 0, i32 0, i32 0, i32 0, i32 0, i32 0, i32 0, i32 0, i32 0, i32 4096, i64 x])]) hA [.agg #[i32 0, i32 0, i32 0, i32 0, i32 0, i32 0, i32 0, i32 0, i32 0, i32 0, i32 0, i32 0, i32 0, i32 0, i32 0, i32 4096, i64 x]] (cc (hO.ln 0 0 40 [i32 0, i32 0, i32 0, i32 0, i32 0, i32 0, i32 0, i32 0, i32 0, i32 0, i32 0, i32 0, i32 0, i32 0, i32 0, i32 4096, i64 x]) c0) ?_
  clear hA fr; intro fr hA
  refine wpOps_cons' (mS (off := 0) (vc := [i32 0, i32 0, i32 0, i32 0, i32 0, i32 0, i32 0, i32 0, i32 0, i32 0, i32 0, i32 0, i32 0, i32 0, i32 0, i32 4096, i64 x]) 1 hA hO ?_)
  clear hO; intro w5 hO
  replace hA := hA.sb (e' := [(2, pt b1)])
  refine end_ops ?_
  refine then_normal ?_
  refine wp_ret ?_
  refine cR (cs := [some (⟨b1, 0, none⟩, 40)]) (us := [.agg #[i32 0, i32 0, i32 0, i32 0, i32 0, i32 0, i32 0, i32 0, i32 0, i32 0, i32 0, i32 0, i32 0, i32 0, i32 0, i32 4096, i64 x]]) hA [.agg #[i32 0, i32 0, i32 0, i32 0, i32 0, i32 0, i32 0, i32 0, i32 0, i32 0, i32 0, i32 0, i32 0, i32 0, i32 0, i32 4096, i64 x]] ⟨(hO.ln 1 0 40 [i32 0, i32 0, i32 0, i32 0, i32 0, i32 0, i32 0, i32 0, i32 0, i32 0, i32 0, i32 0, i32 0, i32 0, i32 0, i32 4096, i64 x]), trivial⟩ ?_
  have hF := hO.only; clear hA hO
  exact ⟨rfl, hF⟩

theorem awake_any (w : World) (hT : Tab w) :
    Calls Tryd.prog 12 #[] w fun e w' => e = .returned (.bool true) ∧ Only none' w w' := by
  refine c_enter (args := []) (m := 48) (n := 48) Tryd.func12 rfl (by kernel_rfl) (by kernel_rfl) fun fr hA => ?_
  have hO := Ow.nil Tryd.prog none' w
  refine sC (e' := [(0, bl false)]) 1 hA [] c0 ?_
  clear hA fr; intro fr hA
  refine sR (l := (rg 0 7)) ?_
  refine ck (l := [0]) (r := (rg 1 6)) (e' := [(0, bl false), (7, .agg #[i64 3, i64 15, i64 15, i64 (-4), i64 0])]) hA [] c0 ?_
  clear hA fr; intro fr hA
  refine wpOps_cons' (mC (f := 15) (args := [.agg #[i64 3, i64 15, i64 15, i64 (-4), i64 0]]) (d := (some 8)) hA Tryd.func15 ((encode_ok 3 15 15 (-4) 0 _ (hT.keep hO.only (fun h => h)) (by kernel_rfl)).mono ?_))
  rintro en w1 ⟨k1, rfl, ho, hbk, hge⟩
  refine ⟨_, rfl, ?_⟩
  clear hA fr; intro fr hA
  replace hO := hO.add ho hbk hge; clear ho hbk hge
  replace hA := hA.sb (e' := [(0, bl false), (8, .tuple #[.slice (some ⟨k1, 0, none⟩) 4 4, i64 0])])
  refine ck (l := (rg 2 5)) (r := []) (e' := [(0, bl false), (1, .slice (some ⟨k1, 0, none⟩) 4 4), (2, i64 0)]) hA [] c0 ?_
  clear hA fr; intro fr hA
  refine end_ops ?_
  refine then_normal ?_
  refine sR (l := (rg 0 13)) ?_
  refine ck (l := [0, 1]) (r := (rg 2 11)) (e' := [(0, bl false), (1, .slice (some ⟨k1, 0, none⟩) 4 4), (2, i64 0), (13, .agg #[i32 0, i32 (-7), i32 2, i32 0, i32 0, i32 0, i32 0, i32 0, i32 0, i32 0, i32 0, i32 0, i32 0, i32 0, i32 0, i32 0, i64 0])]) hA [] c0 ?_
  clear hA fr; intro fr hA
  refine wpOps_cons' (mN (l := [u8 7, u8 3, u8 1, u8 2]) (t := 5) (v := fun b => .slice (some ⟨b, 0, none⟩) 4 4) (d := 14) hA hO ?_)
  clear hA hO fr; intro fr w2 b1 hA hO
  refine wpOps_cons' (mK (f := 18) (args := [.agg (List.toArray (regsL (rgs [0, (-7), 2, 0, 0, 0, 0, 0, 0, 0, 0, 0, 0, 0, 0, 0]) 0)), .slice (some ⟨b1, 0, none⟩) 4 4, i64 0]) (d := (some 15)) (v := .tuple #[.agg #[i32 0, i32 (-7), i32 2, i32 (-3), i32 0, i32 0, i32 0, i32 0, i32 0, i32 0, i32 0, i32 0, i32 0, i32 0, i32 0, i32 0, i64 4], i64 0, .agg #[i64 0, i64 0, i64 0, i64 0, i64 0, i64 0, i64 0]]) hA hO Tryd.func18 (rs (exec_any (rgs [0, (-7), 2, 0, 0, 0, 0, 0, 0, 0, 0, 0, 0, 0, 0, 0]) 0 0 _ [7, 3, 1, 2] _ (hT.keep hO.only (fun h => h)) (rgs_ok (by decide)) (by decide) (by decide) ((hO.b 0).sl (xs := [7, 3, 1, 2]) (U8s.cons (inK_u8 (by decide) (by decide)) (U8s.cons (inK_u8 (by decide) (by decide)) (U8s.cons (inK_u8 (by decide) (by decide)) (U8s.cons (inK_u8 (by decide) (by decide)) U8s.nil)))) rfl (by kernel_rfl)))) ?_)
  clear hA hO fr; intro fr w3 hA hO
  replace hA := hA.sb (e' := [(0, bl false), (1, .slice (some ⟨k1, 0, none⟩) 4 4), (2, i64 0), (15, .tuple #[.agg #[i32 0, i32 (-7), i32 2, i32 (-3), i32 0, i32 0, i32 0, i32 0, i32 0, i32 0, i32 0, i32 0, i32 0, i32 0, i32 0, i32 0, i64 4], i64 0, .agg #[i64 0, i64 0, i64 0, i64 0, i64 0, i64 0, i64 0]])])
  refine ck (l := [4, 5, 6, 7]) (r := (rg 8 5)) (e' := [(0, bl false), (1, .slice (some ⟨k1, 0, none⟩) 4 4), (2, i64 0), (16, .agg #[i32 0, i32 (-7), i32 2, i32 (-3), i32 0, i32 0, i32 0, i32 0, i32 0, i32 0, i32 0, i32 0, i32 0, i32 0, i32 0, i32 0, i64 4]), (17, i64 0), (18, .agg #[i64 0, i64 0, i64 0, i64 0, i64 0, i64 0, i64 0])]) hA [] c0 ?_
  clear hA fr; intro fr hA
  refine wpOps_cons' (mN (l := [i32 0, i32 0, i32 0, i32 0, i32 0, i32 0, i32 0, i32 0, i32 0, i32 0, i32 0, i32 0, i32 0, i32 0, i32 0, i32 0, i64 0]) (t := 40) (v := pt) (d := 3) hA hO ?_)
  clear hA hO fr; intro fr w4 b2 hA hO
  refine wpOps_cons' (mN (l := [i64 0, i64 0, i64 0, i64 0, i64 0, i64 0, i64 0]) (t := 43) (v := pt) (d := 5) hA hO ?_)
  clear hA hO fr; intro fr w5 b3 hA hO
  refine wpOps_cons' (mS (off := 0) (vc := [i32 0, i32 (-7), i32 2, i32 (-3), i32 0, i32 0, i32 0, i32 0, i32 0, i32 0, i32 0, i32 0, i32 0, i32 0, i32 0, i32 0, i64 4]) 1 hA hO ?_)
  clear hO; intro w6 hO
  replace hA := hA.sb (e' := [(0, bl false), (1, .slice (some ⟨k1, 0, none⟩) 4 4), (2, i64 0), (3, pt b2), (5, pt b3), (17, i64 0), (18, .agg #[i64 0, i64 0, i64 0, i64 0, i64 0, i64 0, i64 0])])
  refine ck (l := [11]) (r := [12]) (e' := [(0, bl false), (1, .slice (some ⟨k1, 0, none⟩) 4 4), (2, i64 0), (3, pt b2), (5, pt b3), (18, .agg #[i64 0, i64 0, i64 0, i64 0, i64 0, i64 0, i64 0])]) hA [] c0 ?_
  clear hA fr; intro fr hA
  refine wpOps_cons' (mS (off := 0) (vc := [i64 0, i64 0, i64 0, i64 0, i64 0, i64 0, i64 0]) 0 hA hO ?_)
  clear hO; intro w7 hO
  replace hA := hA.sb (e' := [(0, bl false), (1, .slice (some ⟨k1, 0, none⟩) 4 4), (2, i64 0), (3, pt b2), (5, pt b3)])
  refine end_ops ?_
  refine then_normal ?_
  refine sR (l := (rg 0 30)) ?_
  refine ck (l := [0, 1, 2, 3]) (r := (rg 4 26)) (e' := [(0, bl false), (3, pt b2), (5, pt b3), (21, bl true), (22, .slice (some ⟨k1, 0, none⟩) 4 4)]) hA [] c0 ?_
  clear hA fr; intro fr hA
  refine wpOps_cons' (mN (l := [u8 3, u8 15, u8 15, u8 252]) (t := 5) (v := fun b => .slice (some ⟨b, 0, none⟩) 4 4) (d := 23) hA hO ?_)
  clear hA hO fr; intro fr w8 b4 hA hO
  refine wpOps_cons' (mK (f := 16) (args := [.slice (some ⟨k1, 0, none⟩) 4 4, .slice (some ⟨b4, 0, none⟩) 4 4]) (d := (some 24)) (v := bl true) hA hO Tryd.func16 (rs (same_any ([3, 15, 15, 252]) ([3, 15, 15, 252]) _ _ _ ((hO.b 4).sl (xs := [3, 15, 15, 252]) (U8s.cons (inK_u8 (by decide) (by decide)) (U8s.cons (inK_u8 (by decide) (by decide)) (U8s.cons (inK_u8 (by decide) (by decide)) (U8s.cons (inK_u8 (by decide) (by decide)) U8s.nil)))) rfl (by kernel_rfl)) ((hO.b 0).sl (xs := [3, 15, 15, 252]) (U8s.cons (inK_u8 (by decide) (by decide)) (U8s.cons (inK_u8 (by decide) (by decide)) (U8s.cons (inK_u8 (by decide) (by decide)) (U8s.cons (inK_u8 (by decide) (by decide)) U8s.nil)))) rfl (by kernel_rfl)))) ?_)
  clear hA hO fr; intro fr w9 hA hO
  replace hA := hA.sb (e' := [(0, bl false), (3, pt b2), (5, pt b3), (21, bl true), (24, bl true)])
  refine ck (l := (rg 6 18)) (r := (rg 24 6)) (e' := [(0, bl false), (42, bl true)]) hA [i32 (-3), i64 4, .agg #[i64 0, i64 0, i64 0, i64 0, i64 0, i64 0, i64 0], bl true] (cc (⟨by omega, by omega⟩ : (0 : Int) ≤ 3 ∧ 3 < ((16 : Nat) : Int)) (cc (hO.l1 2 3 21 (i32 (-3))) (cc (hO.l1 2 16 3 (i64 4)) (cc (hO.ln 1 0 43 [i64 0, i64 0, i64 0, i64 0, i64 0, i64 0, i64 0]) (cc ((eqG_of (by kernel_rfl) (by kernel_rfl)) : EqG Tryd.prog 43 (.agg #[i64 0, i64 0, i64 0, i64 0, i64 0, i64 0, i64 0]) (.agg #[i64 0, i64 0, i64 0, i64 0, i64 0, i64 0, i64 0]) true) c0))))) ?_
  clear hA fr; intro fr hA
  refine wpOps_cons' (mK (f := 21) (args := [i64 8]) (d := (some 43)) (v := .agg (List.toArray (regsL (upd (fun _ => 0) 15 4096) 8))) hA hO Tryd.func21 (start_any 8 _) ?_)
  clear hA hO fr; intro fr w10 hA hO
  refine ck (l := (rg 25 5)) (r := []) (e' := [(0, bl (((upd (fun _ => 0) 15 4096) 15) == 4096))]) hA [i32 ((upd (fun _ => 0) 15 4096) 15)] (cc (⟨by omega, by omega, by kernel_rfl⟩ : (0 : Int) ≤ 15 ∧ 15 < ((16 : Nat) : Int) ∧ (List.toArray (regsA (upd (fun _ => 0) 15 4096)))[(15 : Int).toNat * 1]? = some (i32 ((upd (fun _ => 0) 15 4096) 15))) c0) ?_
  clear hA fr; intro fr hA
  refine end_ops ?_
  refine then_normal ?_
  refine wp_ret ?_
  refine cR (cs := [none]) (us := [bl (((upd (fun _ => 0) 15 4096) 15) == 4096)]) hA [] trivial ?_
  have hF := hO.only; clear hA hO
  exact ⟨rfl, hF⟩

end Go.Proofs.YtcaokjdihhbkjaaDoor
