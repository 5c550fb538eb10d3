/- The layer command: the law CommandOrder. -/
import Derived.Test.YtfhcpegemapbkaaLawlib
import Derived.Test.YtfhcpegemapbkaaCmdSeq
set_option linter.unusedVariables false
set_option linter.unusedSimpArgs false
set_option maxRecDepth 10000
namespace Go.Proofs.Ytfhcpegemapbkaa
open Go Go.Shelf Go.RowKit Go.Proofs Go.Proofs.Sx

theorem VL_mem {w : World} {p3 p2 p : Option Addr} {k3 c2 c : Nat} {d : CmdL} {b : Bool} (h1 : Vw fJ w (.slice p3 ([⟨p2, c2, [⟨p, c, d⟩], b⟩] : List JV).length k3) [⟨p2, c2, [⟨p, c, d⟩], b⟩]) (h2 : Vw fC w (.slice p2 ([⟨p, c, d⟩] : List CV).length c2) [⟨p, c, d⟩]) (h3 : Vw fT w (.slice p d.words.length c) d.words) : VL w (.slice p3 ([⟨p2, c2, [⟨p, c, d⟩], b⟩] : List JV).length k3) [⟨p2, c2, [⟨p, c, d⟩], b⟩] :=
  ⟨h1, fun x hx => by
    rw [List.mem_singleton.1 hx]
    exact ⟨h2, fun y hy => by rw [List.mem_singleton.1 hy]; exact h3⟩⟩
theorem smL_one {N : Nat} {d : CmdL} (hN : 1 ≤ N) (h : smC N d) : smL N [⟨[d], false⟩] :=
  ⟨hN, fun x hx => by rw [List.mem_singleton.1 hx]; exact ⟨hN, fun c hc => by rw [List.mem_singleton.1 hc]; exact h⟩⟩
theorem valid_one {d : CmdL} (h : validL [⟨[d], false⟩] = true) : validC d = true := by
 have h1 := (validL_parts h).1 _ List.mem_cons_self
 unfold validJ at h1
 rw [Bool.and_eq_true, List.all_eq_true] at h1
 exact h1.2 d List.mem_cons_self
section
variable {d : CmdL}
theorem ordO_0 (h : d.out.size = 0) : (⟨#[]⟩ : ByteArray) = bA (ordO d) := by unfold ordO; rw [if_pos h]; rfl
theorem ordO_1 (h : ¬ d.out.size = 0) (ha : d.app = false) : ((⟨#[62]⟩ : ByteArray) ++ d.out) ++ (⟨#[32]⟩ : ByteArray) = bA (ordO d) := by
 unfold ordO; rw [if_neg h, ha]
 refine ba_ext ?_
 rw [bA_list, ByteArray.data_append, ByteArray.data_append, Array.toList_append, Array.toList_append]; simp
theorem ordO_2 (h : ¬ d.out.size = 0) (ha : d.app = true) : (⟨#[62]⟩ : ByteArray) ++ (((⟨#[62]⟩ : ByteArray) ++ d.out) ++ (⟨#[32]⟩ : ByteArray)) = bA (ordO d) := by
 unfold ordO; rw [if_neg h, ha]
 refine ba_ext ?_
 rw [bA_list, ByteArray.data_append, ByteArray.data_append, ByteArray.data_append, Array.toList_append, Array.toList_append, Array.toList_append]; simp
theorem ordI_0 (h : d.inp.size = 0) : bA (ordO d) = bA (ordO d ++ ordI d) := by unfold ordI; rw [if_pos h, List.append_nil]
theorem ordI_1 (h : ¬ d.inp.size = 0) : bA (ordO d) ++ ((⟨#[60]⟩ : ByteArray) ++ d.inp) = bA (ordO d ++ ordI d) := by
 unfold ordI; rw [if_neg h, bA_app, ByteArray.data_append, Array.toList_append]; rfl
theorem ordO_len (h : validC d = true) : (ordO d).length ≤ 64 := by
 have h1 := optB_size (validC_facts h).2.2.2.1
 unfold ordO
 split
 · simp
 split <;> simp only [List.length_append, List.length_cons, List.length_nil, size_list] <;> omega
theorem ordI_len (h : validC d = true) : (ordI d).length ≤ 61 := by
 have h1 := optB_size (validC_facts h).2.2.1
 unfold ordI
 split
 · simp
 simp only [List.length_cons, size_list]; omega
def ordW (d : CmdL) (j : Nat) : List UInt8 := Lib.joinTail [32] ((d.words.take j).map (·.data.toList))
theorem ordW_step {z : ByteArray} {j : Nat} (hz : d.words[j]? = some z) : ordW d (j + 1) = ordW d j ++ (32 :: z.data.toList) := by
 unfold ordW
 rw [List.take_add_one, hz, List.map_append]
 simp [Lib.joinTail]
theorem ordW_len (h : validC d = true) : ∀ j, (ordW d j).length ≤ j * 61
  | 0 => by simp [ordW, Lib.joinTail]
  | j + 1 => by
    have ih := ordW_len h j
    cases hz : d.words[j]? with
    | none =>
      have : ordW d (j + 1) = ordW d j := by unfold ordW; rw [List.take_add_one, hz]; simp
      rw [this]; omega
    | some z =>
      have := (isw_size ((validC_facts h).1 z (List.mem_of_getElem? hz))).2
      rw [ordW_step hz, List.length_append, List.length_cons, size_list]; omega
theorem ordW_end {j : Nat} (h : ¬ j < d.words.length) : (bA (ordO d ++ (ordI d ++ ordW d j))).data.toList = ordL d := by
 rw [bA_list]
 unfold ordW ordL
 rw [List.take_of_length_le (by omega)]
end

theorem law_order (p : Option Addr) (c : Nat) (d : CmdL) (w : World) (hv : Vw fT w (.slice p d.words.length c) d.words) (hsb : smC 1000000000000000000 d) :
    Calls Try.prog 8 #[.agg #[.slice p d.words.length c, str d.inp, str d.out, bl d.app]] w fun e w' => e = .returned (.bool true) ∧ Only none' w w' := by
 refine c_enter (args := [.agg #[.slice p d.words.length c, str d.inp, str d.out, bl d.app]]) (m := 70) (n := 71) Try.func8 rfl (by kernel_rfl) (by kernel_rfl) fun fr hA => ?_
 have hO := Ow.nil Try.prog none' w
 have hsb1 := smL_one (by decide) hsb
 have hlit32 : (⟨#[32]⟩ : ByteArray).size = 1 := rfl
 have hlit60 : (⟨#[60]⟩ : ByteArray).size = 1 := rfl
 have hlit62 : (⟨#[62]⟩ : ByteArray).size = 1 := rfl
 refine sR (l := [0, 1]) ?_
 refine wpOps_cons' (mN (l := [.slice p d.words.length c, str d.inp, str d.out, bl d.app]) (t := 49) (v := pt) (d := 1) hA hO ?_)
 clear hA hO fr; intro fr w1 b1 hA hO
 replace hA := hA.sb (e' := [(1, pt b1)])
 refine ck (l := [1]) (r := []) (e' := [(1, pt b1), (2, bl false)]) hA [] c0 ?_
 clear hA fr; intro fr hA
 refine end_ops ?_
 refine then_normal ?_
 refine wp_seq ?_
 refine sR (l := [0, 1]) ?_
 refine wpOps_cons' (mK (f := 9) (args := []) (d := (some 9)) (v := bl true) hA hO Try.func9 (awake_any _) ?_)
 clear hA hO fr; intro fr w2 hA hO
 replace hA := hA.sb (e' := [(1, pt b1), (2, bl false), (9, bl true)])
 refine ck (l := [1]) (r := []) (e' := [(1, pt b1), (2, bl false), (10, bl false)]) hA [] c0 ?_
 clear hA fr; intro fr hA
 refine end_ops ?_
 refine then_normal ?_
 refine cF hA ?_
 refine wp_skip ?_
 refine then_normal ?_
 refine sR (l := (rg 0 5)) ?_
 refine ck (l := [0]) (r := [1, 2, 3, 4]) (e' := [(1, pt b1), (2, bl false), (11, .agg #[.slice p d.words.length c, str d.inp, str d.out, bl d.app])]) hA [.agg #[.slice p d.words.length c, str d.inp, str d.out, bl d.app]] (cc (hO.ln 0 0 49 [.slice p d.words.length c, str d.inp, str d.out, bl d.app]) c0) ?_
 clear hA fr; intro fr hA
 refine wpOps_cons' (mN (l := [.slice p d.words.length c, str d.inp, str d.out, bl d.app]) (t := 49) (v := fun b => .slice (some ⟨b, 0, none⟩) 1 1) (d := 12) hA hO ?_)
 clear hA hO fr; intro fr w3 b2 hA hO
 replace hA := hA.sb (e' := [(1, pt b1), (2, bl false), (12, .slice (some ⟨b2, 0, none⟩) 1 1)])
 refine ck (l := [2]) (r := [3, 4]) (e' := [(1, pt b1), (2, bl false), (13, .agg #[.slice (some ⟨b2, 0, none⟩) 1 1, bl false])]) hA [] c0 ?_
 clear hA fr; intro fr hA
 refine wpOps_cons' (mN (l := [.slice (some ⟨b2, 0, none⟩) 1 1, bl false]) (t := 45) (v := fun b => .slice (some ⟨b, 0, none⟩) 1 1) (d := 14) hA hO ?_)
 clear hA hO fr; intro fr w4 b3 hA hO
 replace hA := hA.sb (e' := [(1, pt b1), (2, bl false), (14, .slice (some ⟨b3, 0, none⟩) 1 1)])
 refine ck (l := [4]) (r := []) (e' := [(1, pt b1), (2, bl false), (3, .slice (some ⟨b3, 0, none⟩) 1 1)]) hA [] c0 ?_
 clear hA fr; intro fr hA
 refine end_ops ?_
 refine then_normal ?_
 refine wp_seq ?_
 refine sR (l := (rg 0 8)) ?_
 refine ck (l := [0]) (r := (rg 1 7)) (e' := [(1, pt b1), (2, bl false), (3, .slice (some ⟨b3, 0, none⟩) 1 1), (15, .slice (some ⟨b3, 0, none⟩) 1 1)]) hA [] c0 ?_
 clear hA fr; intro fr hA
 refine wpOps_cons' (mK (f := 15) (args := [.slice (some ⟨b3, 0, none⟩) 1 1]) (d := (some 16)) (v := bl (fewL ([⟨[d], false⟩] : List JobL))) hA hO Try.func15 (rs (Few_any (some ⟨b3, 0, none⟩) 1 ([⟨some ⟨b2, 0, none⟩, 1, ([⟨p, c, d⟩] : List CV), false⟩] : List JV) _ (VL_mem ((hO.b 0).vw (off := 0) (xs := ([⟨some ⟨b2, 0, none⟩, 1, ([⟨p, c, d⟩] : List CV), false⟩] : List JV)) (by kernel_rfl)) ((hO.b 1).vw (off := 0) (xs := ([⟨p, c, d⟩] : List CV)) (by kernel_rfl)) (hv.keep hO.only)) hsb1) (congrArg Value.bool (rfl : fewL (([⟨some ⟨b2, 0, none⟩, 1, ([⟨p, c, d⟩] : List CV), false⟩] : List JV).map JV.d) = fewL ([⟨[d], false⟩] : List JobL)))) ?_)
 clear hA hO fr; intro fr w5 hA hO
 replace hA := hA.sb (e' := [(1, pt b1), (2, bl false), (3, .slice (some ⟨b3, 0, none⟩) 1 1), (16, bl (fewL ([⟨[d], false⟩] : List JobL)))])
 refine ck (l := [2, 3]) (r := [4, 5, 6, 7]) (e' := [(1, pt b1), (2, bl false), (3, .slice (some ⟨b3, 0, none⟩) 1 1), (17, bl (!(fewL ([⟨[d], false⟩] : List JobL)))), (18, bl (!(fewL ([⟨[d], false⟩] : List JobL))))]) hA [] c0 ?_
 clear hA fr; intro fr hA
 rcases Bool.eq_false_or_eq_true (fewL ([⟨[d], false⟩] : List JobL)) with h1 | h1
 · rw [h1] at hA
   refine ck (l := [4]) (r := [5, 6, 7]) (e' := [(1, pt b1), (2, bl false), (3, .slice (some ⟨b3, 0, none⟩) 1 1), (18, bl false), (19, .slice (some ⟨b3, 0, none⟩) 1 1)]) hA [] c0 ?_
   clear hA fr; intro fr hA
   refine wpOps_cons' (mK (f := 19) (args := [.slice (some ⟨b3, 0, none⟩) 1 1]) (d := (some 20)) (v := bl (validL ([⟨[d], false⟩] : List JobL))) hA hO Try.func19 (rs (RValid_any (some ⟨b3, 0, none⟩) 1 ([⟨some ⟨b2, 0, none⟩, 1, ([⟨p, c, d⟩] : List CV), false⟩] : List JV) _ (VL_mem ((hO.b 0).vw (off := 0) (xs := ([⟨some ⟨b2, 0, none⟩, 1, ([⟨p, c, d⟩] : List CV), false⟩] : List JV)) (by kernel_rfl)) ((hO.b 1).vw (off := 0) (xs := ([⟨p, c, d⟩] : List CV)) (by kernel_rfl)) (hv.keep hO.only)) (fewL_small (l := ([⟨[d], false⟩] : List JobL)) h1)) (congrArg Value.bool (by rw [show ([⟨some ⟨b2, 0, none⟩, 1, ([⟨p, c, d⟩] : List CV), false⟩] : List JV).map JV.d = ([⟨[d], false⟩] : List JobL) from rfl]))) ?_)
   clear hA hO fr; intro fr w6 hA hO
   replace hA := hA.sb (e' := [(1, pt b1), (2, bl false), (3, .slice (some ⟨b3, 0, none⟩) 1 1), (18, bl false), (20, bl (validL ([⟨[d], false⟩] : List JobL)))])
   refine ck (l := [6, 7]) (r := []) (e' := [(1, pt b1), (2, bl false), (3, .slice (some ⟨b3, 0, none⟩) 1 1), (22, bl (!(validL ([⟨[d], false⟩] : List JobL))))]) hA [] c0 ?_
   clear hA fr; intro fr hA
   refine end_ops ?_
   refine then_normal ?_
   rcases Bool.eq_false_or_eq_true (validL ([⟨[d], false⟩] : List JobL)) with h2 | h2
   · rw [h2] at hA
     have hvC := valid_one h2
     have hvf := (validC_facts hvC).2.1
     have hsi_ := optB_size (validC_facts hvC).2.2.1
     have hso_ := optB_size (validC_facts hvC).2.2.2.1
     have hlo_ := ordO_len hvC
     have hli_ := ordI_len hvC
     refine cF hA ?_
     refine wp_skip ?_
     refine then_normal ?_
     refine sC (e' := [(1, pt b1), (2, bl false), (3, .slice (some ⟨b3, 0, none⟩) 1 1), (4, str (⟨#[]⟩))]) 1 hA [] c0 ?_
     clear hA fr; intro fr hA
     refine sJ (fun fr W => Holds 71 [] fr [(1, pt b1), (2, bl false), (3, .slice (some ⟨b3, 0, none⟩) 1 1), (4, str (bA (ordO d)))] ∧ Ow Try.prog none' w W [(b3, 45, [.slice (some ⟨b2, 0, none⟩) 1 1, bl false]), (b2, 49, [.slice p d.words.length c, str d.inp, str d.out, bl d.app]), (b1, 49, [.slice p d.words.length c, str d.inp, str d.out, bl d.app])] ∧ True) ?_ ?_
     · rintro fr w7 ⟨hA, hO, -⟩
       refine sJ (fun fr W => Holds 71 [] fr [(1, pt b1), (2, bl false), (3, .slice (some ⟨b3, 0, none⟩) 1 1), (4, str (bA (ordO d ++ ordI d)))] ∧ Ow Try.prog none' w W [(b3, 45, [.slice (some ⟨b2, 0, none⟩) 1 1, bl false]), (b2, 49, [.slice p d.words.length c, str d.inp, str d.out, bl d.app]), (b1, 49, [.slice p d.words.length c, str d.inp, str d.out, bl d.app])] ∧ True) ?_ ?_
       · rintro fr w8 ⟨hA, hO, -⟩
         refine wp_seq ?_
         refine sC (e' := [(1, pt b1), (2, bl false), (3, .slice (some ⟨b3, 0, none⟩) 1 1), (4, str (bA (ordO d ++ ordI d))), (5, i64 0)]) 1 hA [] c0 ?_
         clear hA fr; intro fr hA
         refine wp_block ?_
         rw [show ordO d ++ ordI d = ordO d ++ (ordI d ++ ordW d 0) from by simp [ordW, Lib.joinTail]] at hA
         refine c_loop (fun mm fr W => ∃ (j : Nat), mm = d.words.length - j ∧ Holds 71 [] fr [(1, pt b1), (2, bl false), (3, .slice (some ⟨b3, 0, none⟩) 1 1), (4, str (bA (ordO d ++ (ordI d ++ ordW d j)))), (5, i64 ((j : Nat) : Int))] ∧ Ow Try.prog none' w W [(b3, 45, [.slice (some ⟨b2, 0, none⟩) 1 1, bl false]), (b2, 49, [.slice p d.words.length c, str d.inp, str d.out, bl d.app]), (b1, 49, [.slice p d.words.length c, str d.inp, str d.out, bl d.app])] ∧ j ≤ d.words.length ∧ True) ?_ ?_
         · exact ⟨_, 0, rfl, (hA.sub (e' := [(1, pt b1), (2, bl false), (3, .slice (some ⟨b3, 0, none⟩) 1 1), (4, str (bA (ordO d ++ (ordI d ++ ordW d 0)))), (5, i64 0)]) [1, 2, 3, 4, 5] (by kernel_rfl)).cast (by kernel_rfl), hO.to, (Nat.zero_le _), trivial⟩
         rintro _ fr w9 ⟨j, rfl, hA, hO, hi_j, -⟩
         have hlw_ := ordW_len hvC j
         refine wp_seq ?_
         refine sC (e' := [(1, pt b1), (2, bl false), (3, .slice (some ⟨b3, 0, none⟩) 1 1), (4, str (bA (ordO d ++ (ordI d ++ ordW d j)))), (5, i64 ((j : Nat) : Int)), (46, bl (decide (((j : Nat) : Int) < ((d.words.length : Nat) : Int))))]) 5 hA [.slice p d.words.length c] (cc (hO.l1 2 0 47 (.slice p d.words.length c)) c0) ?_
         clear hA fr; intro fr hA
         rcases Bool.eq_false_or_eq_true (decide (((j : Nat) : Int) < ((d.words.length : Nat) : Int))) with h3 | h3
         · rw [h3] at hA
           have h3p := of_decide_eq_true h3
           obtain ⟨ad1, rfl⟩ := (hv).pos (by omega)
           obtain ⟨z1, hz1⟩ : ∃ x, d.words[j]? = some x := ⟨_, getD_at _ ⟨#[]⟩ (by omega)⟩
           have hzs_z1 := (isw_size ((validC_facts hvC).1 _ (List.mem_of_getElem? hz1))).2
           refine cT hA ?_
           refine wp_skip ?_
           refine then_normal ?_
           refine wp_seq ?_
           refine wp_block ?_
           refine rC (e' := [(1, pt b1), (2, bl false), (3, .slice (some ⟨b3, 0, none⟩) 1 1), (4, str ((bA (ordO d ++ (ordI d ++ ordW d j))) ++ ((⟨#[32]⟩ : ByteArray) ++ z1))), (5, i64 ((j : Nat) : Int))]) 9 hA [.slice (some ad1) d.words.length c, str z1] (cc (hO.l1 2 0 47 (.slice (some ad1) d.words.length c)) (cc (⟨by omega, by omega⟩ : (0 : Int) ≤ ((j : Nat) : Int) ∧ ((j : Nat) : Int) < ((d.words.length : Nat) : Int)) (cc (((hv.keep hO.only).ldT hz1) : Ld Try.prog w9 (ad1.add j) 9 (str z1)) (cc ((by first | omega | (simp only [bA_size, ByteArray.size_append, List.length_append, List.length_cons, List.length_nil, size_list]; omega)) : (⟨#[32]⟩ : ByteArray).size + z1.size ≤ 9223372036854775807) (cc ((by first | omega | (simp only [bA_size, ByteArray.size_append, List.length_append, List.length_cons, List.length_nil, size_list]; omega)) : (bA (ordO d ++ (ordI d ++ ordW d j))).size + ((⟨#[32]⟩ : ByteArray) ++ z1).size ≤ 9223372036854775807) c0))))) ?_
           clear hA fr; intro fr hA
           rw [show ((bA (ordO d ++ (ordI d ++ ordW d j))) ++ ((⟨#[32]⟩ : ByteArray) ++ z1)) = (bA ((ordO d ++ (ordI d ++ ordW d j)) ++ ([32] ++ z1.data.toList))) from (bA_app _ _).trans (by rw [str_app])] at hA
           refine inBlock_normal ?_
           refine then_normal ?_
           refine rC (e' := [(1, pt b1), (2, bl false), (3, .slice (some ⟨b3, 0, none⟩) 1 1), (4, str (bA ((ordO d ++ (ordI d ++ ordW d j)) ++ ([32] ++ z1.data.toList)))), (5, i64 (((j : Nat) : Int) + 1))]) 3 hA [bl true] (cc ((inK_i64 (by omega) (by omega)) : inK .i64 (((j : Nat) : Int) + 1)) c0) ?_
           clear hA fr; intro fr hA
           refine then_normal ?_
           rw [show (ordO d ++ (ordI d ++ ordW d j)) ++ ([32] ++ z1.data.toList) = ordO d ++ (ordI d ++ ordW d (j + 1)) by rw [ordW_step hz1]; simp only [List.append_assoc, List.cons_append, List.nil_append]] at hA
           exact ⟨_, by omega, j + 1, rfl, (hA.sub (e' := [(1, pt b1), (2, bl false), (3, .slice (some ⟨b3, 0, none⟩) 1 1), (4, str (bA (ordO d ++ (ordI d ++ ordW d (j + 1))))), (5, i64 (((j : Nat) : Int) + 1))]) [1, 2, 3, 4, 5] (by kernel_rfl)).cast (by kernel_rfl), hO.to, (by omega), trivial⟩
         rw [h3] at hA
         have h3p := of_decide_eq_false h3
         refine cF hA ?_
         refine wp_exit ?_
         refine then_exit ?_
         refine then_exit ?_
         refine inBlock_exit ?_
         refine then_normal ?_
         refine sR (l := (rg 0 9)) ?_
         refine ck (l := [0]) (r := (rg 1 8)) (e' := [(2, bl false), (3, .slice (some ⟨b3, 0, none⟩) 1 1), (58, str (bA (ordO d ++ (ordI d ++ ordW d j))))]) hA [] c0 ?_
         clear hA fr; intro fr hA
         have hpo := lineP_ord hvC (ordW_end (d := d) (j := j) (by omega))
         refine wpOps_cons' (mC (f := 10) (args := [str (bA (ordO d ++ (ordI d ++ ordW d j)))]) (d := (some 59)) hA Try.func10 ((parse_ok (sv := (bA (ordO d ++ (ordI d ++ ordW d j)))) _ (by rw [bA_size]; simp only [List.length_append]; omega) hpo).mono ?_))
         rintro en w10 ⟨p1, k1, l1, T1, T2, hj1, rfl, hT1, hT2, hW⟩
         refine ⟨_, rfl, ?_⟩
         clear hA fr; intro fr hA
         replace hO : Ow Try.prog none' w _ ([(b3, 45, [.slice (some ⟨b2, 0, none⟩) 1 1, bl false]), (b2, 49, [.slice p d.words.length c, str d.inp, str d.out, bl d.app]), (b1, 49, [.slice p d.words.length c, str d.inp, str d.out, bl d.app])] ++ []) := hO.to (List.append_nil _).symm
         replace hO := Ow.join hO hW; clear hW
         replace hO : Ow Try.prog none' w _ ([(b3, 45, [.slice (some ⟨b2, 0, none⟩) 1 1, bl false]), (b2, 49, [.slice p d.words.length c, str d.inp, str d.out, bl d.app]), (b1, 49, [.slice p d.words.length c, str d.inp, str d.out, bl d.app])] ++ (T1 ++ (T2 ++ ([])))) := hO.to (by first | rfl | (simp only [TP, apd]))
         have hsml1 : smL 1000000 (l1.map JV.d) := by rw [hj1]; exact valid_small (lineP_valid hpo)
         replace hA := hA.sb (e' := [(2, bl false), (3, .slice (some ⟨b3, 0, none⟩) 1 1), (59, .tuple #[.slice p1 l1.length k1, i64 0, i64 0])])
         refine ck (l := (rg 2 7)) (r := []) (e' := [(2, bl false), (3, .slice (some ⟨b3, 0, none⟩) 1 1), (6, .slice p1 l1.length k1), (8, i64 0)]) hA [] c0 ?_
         clear hA fr; intro fr hA
         refine end_ops ?_
         refine then_normal ?_
         refine sR (l := (rg 0 9)) ?_
         refine ck (l := [0, 1, 2, 3]) (r := (rg 4 5)) (e' := [(2, bl false), (3, .slice (some ⟨b3, 0, none⟩) 1 1), (65, bl true), (66, .slice p1 l1.length k1)]) hA [] c0 ?_
         clear hA fr; intro fr hA
         refine wpOps_cons' (mC (f := 13) (args := [.slice p1 l1.length k1]) (d := (some 67)) hA Try.func13 ((Theirs_any p1 k1 l1 _ (VL_own (A := ([(b3, 45, [.slice (some ⟨b2, 0, none⟩) 1 1, bl false]), (b2, 49, [.slice p d.words.length c, str d.inp, str d.out, bl d.app]), (b1, 49, [.slice p d.words.length c, str d.inp, str d.out, bl d.app])] ++ ([]))) (B := []) hT1 hT2 (hO.to (by first | rfl | (simp only [TP, apd])))) hsml1).mono ?_))
         rintro en w11 ⟨p2, k2, r1, T3, T4, rfl, hT3, hT4, hsim1, hW⟩
         refine ⟨_, rfl, ?_⟩
         clear hA fr; intro fr hA
         replace hO := Ow.join hO hW; clear hW
         replace hO : Ow Try.prog none' w _ ([(b3, 45, [.slice (some ⟨b2, 0, none⟩) 1 1, bl false]), (b2, 49, [.slice p d.words.length c, str d.inp, str d.out, bl d.app]), (b1, 49, [.slice p d.words.length c, str d.inp, str d.out, bl d.app])] ++ (T1 ++ (T2 ++ (T3 ++ (T4 ++ ([])))))) := hO.to (by first | rfl | (simp only [TP, apd]))
         replace hA := hA.sb (e' := [(2, bl false), (3, .slice (some ⟨b3, 0, none⟩) 1 1), (65, bl true), (67, .slice p2 r1.length k2)])
         refine ck (l := [5]) (r := [6, 7, 8]) (e' := [(2, bl false), (65, bl true), (67, .slice p2 r1.length k2), (68, .slice (some ⟨b3, 0, none⟩) 1 1)]) hA [] c0 ?_
         clear hA fr; intro fr hA
         refine wpOps_cons' (mK (f := 12) (args := [.slice p2 r1.length k2, .slice (some ⟨b3, 0, none⟩) 1 1]) (d := (some 69)) (v := bl true) hA hO Try.func12 (rs (REqual_any p2 (some ⟨b3, 0, none⟩) k2 1 r1 ([⟨some ⟨b2, 0, none⟩, 1, ([⟨p, c, d⟩] : List CV), false⟩] : List JV) _ (VL_copy (A := ([(b3, 45, [.slice (some ⟨b2, 0, none⟩) 1 1, bl false]), (b2, 49, [.slice p d.words.length c, str d.inp, str d.out, bl d.app]), (b1, 49, [.slice p d.words.length c, str d.inp, str d.out, bl d.app])] ++ (T1 ++ (T2 ++ ([]))))) (B := []) hT3 hT4 hsim1 (VL_own (A := ([(b3, 45, [.slice (some ⟨b2, 0, none⟩) 1 1, bl false]), (b2, 49, [.slice p d.words.length c, str d.inp, str d.out, bl d.app]), (b1, 49, [.slice p d.words.length c, str d.inp, str d.out, bl d.app])] ++ ([]))) (B := T3 ++ (T4 ++ ([]))) hT1 hT2 (hO.to (by first | rfl | (simp only [TP, apd])))) (hO.to (by first | rfl | (simp only [TP, apd])))) (VL_mem ((hO.b 0).vw (off := 0) (xs := ([⟨some ⟨b2, 0, none⟩, 1, ([⟨p, c, d⟩] : List CV), false⟩] : List JV)) (by kernel_rfl)) ((hO.b 1).vw (off := 0) (xs := ([⟨p, c, d⟩] : List CV)) (by kernel_rfl)) (hv.keep hO.only)) (sim_sm hsim1 hsml1)) (congrArg Value.bool (eqL_of (((sim_d hsim1).trans hj1).trans ((rfl).trans (rfl).symm))))) ?_)
         clear hA hO fr; intro fr w12 hA hO
         replace hA := hA.sb (e' := [(2, bl false), (65, bl true), (69, bl true)])
         refine ck (l := [7, 8]) (r := []) (e' := [(2, bl true)]) hA [] c0 ?_
         clear hA fr; intro fr hA
         refine end_ops ?_
         refine then_normal ?_
         refine wp_ret ?_
         refine cR (cs := [none]) (us := [bl true]) hA [] trivial ?_
         have hF := hO.only; clear hA hO
         exact ⟨rfl, hF⟩
       refine sC (e' := [(1, pt b1), (2, bl false), (3, .slice (some ⟨b3, 0, none⟩) 1 1), (4, str (bA (ordO d))), (36, bl (!(d.inp.toList == (⟨#[]⟩ : ByteArray).toList)))]) 3 hA [str d.inp] (cc (hO.l1 2 1 9 (str d.inp)) c0) ?_
       clear hA fr; intro fr hA
       replace hA := hA.bool (f := fun z_ => [(1, pt b1), (2, bl false), (3, .slice (some ⟨b3, 0, none⟩) 1 1), (4, str (bA (ordO d))), (36, .bool !z_)]) (str_empty d.inp : (d.inp.toList == (⟨#[]⟩ : ByteArray).toList) = (decide (d.inp.size = 0)))
       rcases Bool.eq_false_or_eq_true (decide (d.inp.size = 0)) with h4 | h4
       · rw [h4] at hA
         have h4p := of_decide_eq_true h4
         refine cF hA ?_
         refine wp_skip ?_
         refine then_normal ?_
         exact ⟨(hA.sub (e' := [(1, pt b1), (2, bl false), (3, .slice (some ⟨b3, 0, none⟩) 1 1), (4, str (bA (ordO d)))]) [1, 2, 3, 4] (by kernel_rfl)).cast (by first | rw [ordI_0 (by omega)] | rw [ordI_1 (by omega)]), hO.to, trivial⟩
       rw [h4] at hA
       have h4p := of_decide_eq_false h4
       refine cT hA ?_
       refine rC (e' := [(1, pt b1), (2, bl false), (3, .slice (some ⟨b3, 0, none⟩) 1 1), (4, str ((bA (ordO d)) ++ ((⟨#[60]⟩ : ByteArray) ++ d.inp)))]) 6 hA [str d.inp] (cc (hO.l1 2 1 9 (str d.inp)) (cc ((by first | omega | (simp only [bA_size, ByteArray.size_append, List.length_append, List.length_cons, List.length_nil, size_list]; omega)) : (⟨#[60]⟩ : ByteArray).size + d.inp.size ≤ 9223372036854775807) (cc ((by first | omega | (simp only [bA_size, ByteArray.size_append, List.length_append, List.length_cons, List.length_nil, size_list]; omega)) : (bA (ordO d)).size + ((⟨#[60]⟩ : ByteArray) ++ d.inp).size ≤ 9223372036854775807) c0))) ?_
       clear hA fr; intro fr hA
       refine then_normal ?_
       exact ⟨(hA.sub (e' := [(1, pt b1), (2, bl false), (3, .slice (some ⟨b3, 0, none⟩) 1 1), (4, str ((bA (ordO d)) ++ ((⟨#[60]⟩ : ByteArray) ++ d.inp)))]) [1, 2, 3, 4] (by kernel_rfl)).cast (by first | rw [ordI_0 (by omega)] | rw [ordI_1 (by omega)]), hO.to, trivial⟩
     refine sC (e' := [(1, pt b1), (2, bl false), (3, .slice (some ⟨b3, 0, none⟩) 1 1), (4, str (⟨#[]⟩)), (25, bl (!(d.out.toList == (⟨#[]⟩ : ByteArray).toList)))]) 3 hA [str d.out] (cc (hO.l1 2 2 9 (str d.out)) c0) ?_
     clear hA fr; intro fr hA
     replace hA := hA.bool (f := fun z_ => [(1, pt b1), (2, bl false), (3, .slice (some ⟨b3, 0, none⟩) 1 1), (4, str (⟨#[]⟩)), (25, .bool !z_)]) (str_empty d.out : (d.out.toList == (⟨#[]⟩ : ByteArray).toList) = (decide (d.out.size = 0)))
     rcases Bool.eq_false_or_eq_true (decide (d.out.size = 0)) with h5 | h5
     · rw [h5] at hA
       have h5p := of_decide_eq_true h5
       refine cF hA ?_
       refine wp_skip ?_
       refine then_normal ?_
       exact ⟨(hA.sub (e' := [(1, pt b1), (2, bl false), (3, .slice (some ⟨b3, 0, none⟩) 1 1), (4, str (⟨#[]⟩))]) [1, 2, 3, 4] (by kernel_rfl)).cast (by first | rw [ordO_0 (by omega)] | rw [ordO_1 (by omega) (by assumption)] | rw [ordO_2 (by omega) (by assumption)]), hO.to, trivial⟩
     rw [h5] at hA
     have h5p := of_decide_eq_false h5
     refine cT hA ?_
     refine sC (e' := [(1, pt b1), (2, bl false), (3, .slice (some ⟨b3, 0, none⟩) 1 1), (4, str (((⟨#[62]⟩ : ByteArray) ++ d.out) ++ (⟨#[32]⟩ : ByteArray)))]) 5 hA [str d.out] (cc (hO.l1 2 2 9 (str d.out)) (cc ((by first | omega | (simp only [bA_size, ByteArray.size_append, List.length_append, List.length_cons, List.length_nil, size_list]; omega)) : (⟨#[62]⟩ : ByteArray).size + d.out.size ≤ 9223372036854775807) (cc ((by first | omega | (simp only [bA_size, ByteArray.size_append, List.length_append, List.length_cons, List.length_nil, size_list]; omega)) : ((⟨#[62]⟩ : ByteArray) ++ d.out).size + (⟨#[32]⟩ : ByteArray).size ≤ 9223372036854775807) c0))) ?_
     clear hA fr; intro fr hA
     refine sC (e' := [(1, pt b1), (2, bl false), (3, .slice (some ⟨b3, 0, none⟩) 1 1), (4, str (((⟨#[62]⟩ : ByteArray) ++ d.out) ++ (⟨#[32]⟩ : ByteArray))), (31, bl d.app)]) 2 hA [bl d.app] (cc (hO.l1 2 3 4 (bl d.app)) c0) ?_
     clear hA fr; intro fr hA
     rcases Bool.eq_false_or_eq_true (d.app) with h6 | h6
     · rw [h6] at hA
       refine cT hA ?_
       refine rC (e' := [(1, pt b1), (2, bl false), (3, .slice (some ⟨b3, 0, none⟩) 1 1), (4, str ((⟨#[62]⟩ : ByteArray) ++ (((⟨#[62]⟩ : ByteArray) ++ d.out) ++ (⟨#[32]⟩ : ByteArray))))]) 3 hA [] (cc ((by first | omega | (simp only [bA_size, ByteArray.size_append, List.length_append, List.length_cons, List.length_nil, size_list]; omega)) : (⟨#[62]⟩ : ByteArray).size + (((⟨#[62]⟩ : ByteArray) ++ d.out) ++ (⟨#[32]⟩ : ByteArray)).size ≤ 9223372036854775807) c0) ?_
       clear hA fr; intro fr hA
       refine then_normal ?_
       exact ⟨(hA.sub (e' := [(1, pt b1), (2, bl false), (3, .slice (some ⟨b3, 0, none⟩) 1 1), (4, str ((⟨#[62]⟩ : ByteArray) ++ (((⟨#[62]⟩ : ByteArray) ++ d.out) ++ (⟨#[32]⟩ : ByteArray))))]) [1, 2, 3, 4] (by kernel_rfl)).cast (by first | rw [ordO_0 (by omega)] | rw [ordO_1 (by omega) (by assumption)] | rw [ordO_2 (by omega) (by assumption)]), hO.to, trivial⟩
     rw [h6] at hA
     refine cF hA ?_
     refine wp_skip ?_
     refine then_normal ?_
     exact ⟨(hA.sub (e' := [(1, pt b1), (2, bl false), (3, .slice (some ⟨b3, 0, none⟩) 1 1), (4, str (((⟨#[62]⟩ : ByteArray) ++ d.out) ++ (⟨#[32]⟩ : ByteArray)))]) [1, 2, 3, 4] (by kernel_rfl)).cast (by first | rw [ordO_0 (by omega)] | rw [ordO_1 (by omega) (by assumption)] | rw [ordO_2 (by omega) (by assumption)]), hO.to, trivial⟩
   rw [h2] at hA
   refine cT hA ?_
   refine sC (e' := [(2, bl true)]) 1 hA [] c0 ?_
   clear hA fr; intro fr hA
   refine wp_ret ?_
   refine then_ret ?_
   refine cR (cs := [none]) (us := [bl true]) hA [] trivial ?_
   have hF := hO.only; clear hA hO
   exact ⟨rfl, hF⟩
 rw [h1] at hA
 refine ck (l := [4, 5, 6, 7]) (r := []) (e' := [(1, pt b1), (2, bl false), (3, .slice (some ⟨b3, 0, none⟩) 1 1), (22, bl true)]) hA [] c0 ?_
 clear hA fr; intro fr hA
 refine end_ops ?_
 refine then_normal ?_
 refine cT hA ?_
 refine sC (e' := [(2, bl true)]) 1 hA [] c0 ?_
 clear hA fr; intro fr hA
 refine wp_ret ?_
 refine then_ret ?_
 refine cR (cs := [none]) (us := [bl true]) hA [] trivial ?_
 have hF := hO.only; clear hA hO
 exact ⟨rfl, hF⟩

end Go.Proofs.Ytfhcpegemapbkaa
