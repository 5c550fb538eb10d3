/- The layer command: Print of the reference. -/
import Derived.Test.YtfhcpegemapbkaaPrintd
set_option linter.unusedVariables false
set_option linter.unusedSimpArgs false
set_option maxRecDepth 10000
namespace Go.Proofs.Ytfhcpegemapbkaa
open Go Go.Shelf Go.RowKit Go.Proofs Go.Proofs.Sx

theorem joinw_one {d : CmdL} {z : ByteArray} (hz : d.words[0]? = some z) : Lib.join ((d.words.take 1).map (·.data.toList)) [32] = z.data.toList := by
 cases hw : d.words with
 | nil => rw [hw] at hz; simp at hz
 | cons x r => rw [hw] at hz; simp at hz; subst hz; simp [Lib.join_one]
theorem joinw_step {d : CmdL} {z : ByteArray} {j : Nat} (hz : d.words[j]? = some z) (hj : 1 ≤ j) : Lib.join ((d.words.take (j + 1)).map (·.data.toList)) [32] = Lib.join ((d.words.take j).map (·.data.toList)) [32] ++ (32 :: z.data.toList) := by
 have hlt := (List.getElem?_eq_some_iff.1 hz).1
 rw [List.take_add_one, hz, List.map_append]
 refine join_snoc (fun h => ?_) _
 have := congrArg List.length h
 rw [List.length_map, List.length_take] at this
 simp only [List.length_nil] at this
 omega
theorem joinw_end {d : CmdL} {j : Nat} (hj : ¬ j < d.words.length) : Lib.join ((d.words.take j).map (·.data.toList)) [32] = Lib.join (d.words.map (·.data.toList)) [32] := by rw [List.take_of_length_le (by omega)]
theorem joinw_len {d : CmdL} (h : validC d = true) (j : Nat) : (Lib.join ((d.words.take j).map (·.data.toList)) [32]).length ≤ 244 := by
 have h1 := validC_facts h
 have h2 := join_le (d.words.take j) fun x hx => (isw_size (h1.1 x (List.mem_of_mem_take hx))).2
 have h3 : (d.words.take j).length ≤ 4 := by rw [List.length_take]; omega
 omega
theorem prC_eq {d : CmdL} (h : 1 ≤ d.words.length) : prC d = Lib.join (d.words.map (·.data.toList)) [32] ++ ((if d.inp.size = 0 then [] else [32, 60, 32] ++ d.inp.data.toList) ++ (if d.app = true then [32, 62, 62, 32] ++ d.out.data.toList else if d.out.size = 0 then [] else [32, 62, 32] ++ d.out.data.toList)) := by
  have hne : d.words.map (·.data.toList) ≠ [] := fun h0 => by have := congrArg List.length h0; simp at this; rw [this] at h; simp at h
  have two : ∀ (xs : List (List UInt8)) (a b : List UInt8), xs ≠ [] → Lib.join (xs ++ [a, b]) [32] = Lib.join xs [32] ++ (32 :: a ++ (32 :: b)) := fun xs a b hx => by
    rw [show xs ++ [a, b] = (xs ++ [a]) ++ [b] by simp, join_snoc (by simp) b, join_snoc hx a]; simp
  unfold prC extL
  rw [List.map_append, List.map_append]
  have k1 : (⟨#[60]⟩ : ByteArray).data.toList = [60] := rfl
  have k2 : (⟨#[62, 62]⟩ : ByteArray).data.toList = [62, 62] := rfl
  have k3 : (⟨#[62]⟩ : ByteArray).data.toList = [62] := rfl
  by_cases hi : d.inp.size = 0
  · rw [if_pos hi, if_pos hi]
    by_cases ha : d.app = true
    · rw [if_pos ha, if_pos ha]
      simp only [List.map_nil, List.nil_append, List.map_cons, k2]
      rw [two _ _ _ hne]; simp
    · rw [if_neg ha, if_neg ha]
      by_cases ho : d.out.size = 0
      · rw [if_pos ho, if_pos ho]; simp
      · rw [if_neg ho, if_neg ho]
        simp only [List.map_nil, List.nil_append, List.map_cons, k3]
        rw [two _ _ _ hne]; simp
  · rw [if_neg hi, if_neg hi]
    have hne2 : d.words.map (·.data.toList) ++ [[60], d.inp.data.toList] ≠ [] := by simp
    by_cases ha : d.app = true
    · rw [if_pos ha, if_pos ha]
      simp only [List.map_nil, List.map_cons, k1, k2]
      rw [← List.append_assoc, two _ _ _ hne2, two _ _ _ hne]; simp
    · rw [if_neg ha, if_neg ha]
      by_cases ho : d.out.size = 0
      · rw [if_pos ho, if_pos ho]
        simp only [List.map_nil, List.map_cons, k1, List.append_nil]
        rw [two _ _ _ hne]; simp
      · rw [if_neg ho, if_neg ho]
        simp only [List.map_nil, List.map_cons, k1, k3]
        rw [← List.append_assoc, two _ _ _ hne2, two _ _ _ hne]; simp

theorem RPrint_bad (p : Option Addr) (c : Nat) (l : List JV) (w : World) (hv : VL w (.slice p l.length c) l) (hsm : smL 1000000 (l.map JV.d)) (hvl : validL (l.map JV.d) = false) :
    Calls Try.prog 18 #[.slice p l.length c] w fun e w' => e = .returned (.tuple #[str ⟨#[]⟩, i64 1]) ∧ Only none' w w' := by
 refine c_enter (args := [.slice p l.length c]) (m := 117) (n := 118) Try.func18 rfl (by kernel_rfl) (by kernel_rfl) fun fr hA => ?_
 have hO := Ow.nil Try.prog none' w
 refine sC (e' := [(0, .slice p l.length c), (2, str (⟨#[]⟩)), (3, i64 0)]) 2 hA [] c0 ?_
 clear hA fr; intro fr hA
 refine wp_seq ?_
 refine sR (l := [0, 1, 2]) ?_
 refine ck (l := [0]) (r := [1, 2]) (e' := [(0, .slice p l.length c), (2, str (⟨#[]⟩)), (3, i64 0), (9, .slice p l.length c)]) hA [] c0 ?_
 clear hA fr; intro fr hA
 refine wpOps_cons' (mK (f := 19) (args := [.slice p l.length c]) (d := (some 10)) (v := bl false) hA hO Try.func19 (rs (RValid_any p c l _ (hv.keep hO.only) hsm) (congrArg Value.bool hvl)) ?_)
 clear hA hO fr; intro fr w1 hA hO
 replace hA := hA.sb (e' := [(0, .slice p l.length c), (2, str (⟨#[]⟩)), (3, i64 0), (10, bl false)])
 refine ck (l := [2]) (r := []) (e' := [(0, .slice p l.length c), (2, str (⟨#[]⟩)), (3, i64 0), (11, bl true)]) hA [] c0 ?_
 clear hA fr; intro fr hA
 refine end_ops ?_
 refine then_normal ?_
 refine cT hA ?_
 refine sC (e' := [(2, str (⟨#[]⟩)), (3, i64 1)]) 2 hA [] c0 ?_
 clear hA fr; intro fr hA
 refine wp_ret ?_
 refine then_ret ?_
 refine cR (cs := [none, none]) (us := [str (⟨#[]⟩), i64 1]) hA [] trivial ?_
 have hF := hO.only; clear hA hO
 exact ⟨rfl, hF⟩

set_option maxHeartbeats 4000000 in
theorem RPrint_ok (p : Option Addr) (c : Nat) (l : List JV) (w : World) (hv : VL w (.slice p l.length c) l) (hsm : smL 1000000 (l.map JV.d)) (hvl : validL (l.map JV.d) = true) :
    Calls Try.prog 18 #[.slice p l.length c] w fun e w' => e = .returned (.tuple #[str (bA (prL (l.map JV.d))), i64 0]) ∧ Only none' w w' := by
 refine c_enter (args := [.slice p l.length c]) (m := 117) (n := 118) Try.func18 rfl (by kernel_rfl) (by kernel_rfl) fun fr hA => ?_
 have hO := Ow.nil Try.prog none' w
 have hsl := hsm.len
 have hl8 := (validL_facts hvl).1
 have hlit0 : (⟨#[32]⟩ : ByteArray).size = 1 := rfl
 have hlit1 : (⟨#[32, 124, 32]⟩ : ByteArray).size = 3 := rfl
 have hlit2 : (⟨#[32, 60, 32]⟩ : ByteArray).size = 3 := rfl
 have hlit3 : (⟨#[32, 62, 62, 32]⟩ : ByteArray).size = 4 := rfl
 have hlit4 : (⟨#[32, 62, 32]⟩ : ByteArray).size = 3 := rfl
 have hlit5 : (⟨#[32, 38, 32]⟩ : ByteArray).size = 3 := rfl
 have hlit6 : (⟨#[32, 38]⟩ : ByteArray).size = 2 := rfl
 have hlit7 : (⟨#[59, 32]⟩ : ByteArray).size = 2 := rfl
 refine sC (e' := [(0, .slice p l.length c), (2, str (⟨#[]⟩)), (3, i64 0)]) 2 hA [] c0 ?_
 clear hA fr; intro fr hA
 refine wp_seq ?_
 refine sR (l := [0, 1, 2]) ?_
 refine ck (l := [0]) (r := [1, 2]) (e' := [(0, .slice p l.length c), (2, str (⟨#[]⟩)), (3, i64 0), (9, .slice p l.length c)]) hA [] c0 ?_
 clear hA fr; intro fr hA
 refine wpOps_cons' (mK (f := 19) (args := [.slice p l.length c]) (d := (some 10)) (v := bl true) hA hO Try.func19 (rs (RValid_any p c l _ (hv.keep hO.only) hsm) (congrArg Value.bool hvl)) ?_)
 clear hA hO fr; intro fr w1 hA hO
 replace hA := hA.sb (e' := [(0, .slice p l.length c), (2, str (⟨#[]⟩)), (3, i64 0), (10, bl true)])
 refine ck (l := [2]) (r := []) (e' := [(0, .slice p l.length c), (2, str (⟨#[]⟩)), (3, i64 0), (11, bl false)]) hA [] c0 ?_
 clear hA fr; intro fr hA
 refine end_ops ?_
 refine then_normal ?_
 refine cF hA ?_
 refine wp_skip ?_
 refine then_normal ?_
 refine sC (e' := [(0, .slice p l.length c), (2, str (⟨#[]⟩)), (3, i64 0), (4, str (⟨#[]⟩))]) 1 hA [] c0 ?_
 clear hA fr; intro fr hA
 refine wp_seq ?_
 refine sC (e' := [(0, .slice p l.length c), (2, str (⟨#[]⟩)), (3, i64 0), (4, str (⟨#[]⟩)), (5, i64 0)]) 1 hA [] c0 ?_
 clear hA fr; intro fr hA
 refine wp_block ?_
 refine c_loop (fun mm fr W => ∃ (i : Nat), mm = l.length - i ∧ Holds 118 [] fr [(0, .slice p l.length c), (2, str (⟨#[]⟩)), (3, i64 0), (4, str (bA (prP (l.map JV.d) i))), (5, i64 ((i : Nat) : Int))] ∧ Ow Try.prog none' w W [] ∧ i ≤ l.length ∧ True) ?_ ?_
 · exact ⟨_, 0, rfl, (hA.sub (e' := [(0, .slice p l.length c), (2, str (⟨#[]⟩)), (3, i64 0), (4, str (⟨#[]⟩)), (5, i64 0)]) [0, 2, 3, 4, 5] (by kernel_rfl)).cast (by kernel_rfl), hO.to, (Nat.zero_le _), trivial⟩
 rintro _ fr w2 ⟨i, rfl, hA, hO, hi_i, -⟩
 have hq1_ := prP_len hvl i hi_i
 refine wp_seq ?_
 refine sC (e' := [(0, .slice p l.length c), (2, str (⟨#[]⟩)), (3, i64 0), (4, str (bA (prP (l.map JV.d) i))), (5, i64 ((i : Nat) : Int)), (15, bl (decide (((i : Nat) : Int) < ((l.length : Nat) : Int))))]) 4 hA [] c0 ?_
 clear hA fr; intro fr hA
 rcases Bool.eq_false_or_eq_true (decide (((i : Nat) : Int) < ((l.length : Nat) : Int))) with h1 | h1
 · rw [h1] at hA
   have h1p := of_decide_eq_true h1
   obtain ⟨ad1, rfl⟩ := (hv.1).pos (by omega)
   obtain ⟨⟨xp1, xc1, xl1, xb1⟩, hx1⟩ : ∃ x, l[i]? = some x := ⟨_, getD_at _ JV0 (by omega)⟩
   have hvx1 : Vw fC _ (.slice xp1 xl1.length xc1) xl1 ∧ ∀ y ∈ xl1, VC _ y := hv.2 _ (List.mem_of_getElem? hx1)
   have hsj1 : smJ _ (JV.d ⟨xp1, xc1, xl1, xb1⟩) := hsm.at hx1
   have hsjl1 : xl1.length ≤ _ := smJ.len (x := ⟨xp1, xc1, xl1, xb1⟩) hsj1
   obtain ⟨hvj, hvjc⟩ : (1 ≤ xl1.length ∧ xl1.length ≤ 4) ∧ ∀ y ∈ xl1, validC y.d = true := (validL_facts hvl).2 _ (List.mem_of_getElem? hx1)
   refine cT hA ?_
   refine wp_skip ?_
   refine then_normal ?_
   refine wp_seq ?_
   refine wp_block ?_
   refine wp_seq ?_
   refine sC (e' := [(0, .slice (some ad1) l.length c), (2, str (⟨#[]⟩)), (3, i64 0), (4, str (bA (prP (l.map JV.d) i))), (5, i64 ((i : Nat) : Int)), (6, i64 0)]) 1 hA [] c0 ?_
   clear hA fr; intro fr hA
   refine wp_block ?_
   rw [show prP (l.map JV.d) i = prP (l.map JV.d) i ++ prJP (xl1.map CV.d) 0 by exact (List.append_nil _).symm] at hA
   refine c_loop (fun mm fr W => ∃ (k : Nat), mm = xl1.length - k ∧ Holds 118 [] fr [(0, .slice (some ad1) l.length c), (2, str (⟨#[]⟩)), (3, i64 0), (4, str (bA (prP (l.map JV.d) i ++ prJP (xl1.map CV.d) k))), (5, i64 ((i : Nat) : Int)), (6, i64 ((k : Nat) : Int))] ∧ Ow Try.prog none' w W [] ∧ k ≤ xl1.length ∧ True) ?_ ?_
   · exact ⟨_, 0, rfl, (hA.sub (e' := [(0, .slice (some ad1) l.length c), (2, str (⟨#[]⟩)), (3, i64 0), (4, str (bA (prP (l.map JV.d) i ++ prJP (xl1.map CV.d) 0))), (5, i64 ((i : Nat) : Int)), (6, i64 0)]) [0, 2, 3, 4, 5, 6] (by kernel_rfl)).cast (by kernel_rfl), hO.to, (Nat.zero_le _), trivial⟩
   rintro _ fr w3 ⟨k, rfl, hA, hO, hi_k, -⟩
   have hq2_ := prJP_len hvjc k hi_k
   refine wp_seq ?_
   refine sC (e' := [(0, .slice (some ad1) l.length c), (2, str (⟨#[]⟩)), (3, i64 0), (4, str (bA (prP (l.map JV.d) i ++ prJP (xl1.map CV.d) k))), (5, i64 ((i : Nat) : Int)), (6, i64 ((k : Nat) : Int)), (25, bl (decide (((k : Nat) : Int) < ((xl1.length : Nat) : Int))))]) 8 hA [.slice xp1 xl1.length xc1] (cc (⟨by omega, by omega⟩ : (0 : Int) ≤ ((i : Nat) : Int) ∧ ((i : Nat) : Int) < ((l.length : Nat) : Int)) (cc (((hv.1.keep hO.only).ld0 encJ hx1 (by rfl)) : Ld Try.prog w3 (ad1.add (i * 2)) 43 (.slice xp1 xl1.length xc1)) c0)) ?_
   clear hA fr; intro fr hA
   rcases Bool.eq_false_or_eq_true (decide (((k : Nat) : Int) < ((xl1.length : Nat) : Int))) with h2 | h2
   · rw [h2] at hA
     have h2p := of_decide_eq_true h2
     obtain ⟨ad2, rfl⟩ := (hvx1.1).pos (by omega)
     obtain ⟨⟨yp1, yc1, yd1⟩, hy1⟩ : ∃ x, xl1[k]? = some x := ⟨_, getD_at _ CV0 (by omega)⟩
     have hvy1 : Vw fT _ (.slice yp1 yd1.words.length yc1) yd1.words := hvx1.2 _ (List.mem_of_getElem? hy1)
     have hsc1 : smC _ yd1 := smJ.at (x := ⟨_, _, xl1, _⟩) hsj1 hy1
     obtain ⟨-, smi1, smo1, sml1⟩ := id hsc1
     have hvc_ : validC yd1 = true := hvjc _ (List.mem_of_getElem? hy1)
     have hwl_ := (validC_facts hvc_).2.1
     have hsi_ := optB_size (validC_facts hvc_).2.2.1
     have hso_ := optB_size (validC_facts hvc_).2.2.2.1
     obtain ⟨ad3, rfl⟩ := (hvy1).pos (by omega)
     obtain ⟨z1, hz1⟩ : ∃ x, yd1.words[0]? = some x := ⟨_, getD_at _ ⟨#[]⟩ (by omega)⟩
     have hszz1 := smC.at hsc1 hz1
     have hzs_z1 := (isw_size ((validC_facts hvc_).1 _ (List.mem_of_getElem? hz1))).2
     refine cT hA ?_
     refine wp_skip ?_
     refine then_normal ?_
     refine wp_seq ?_
     refine wp_block ?_
     refine sR (l := (rg 0 10)) ?_
     refine ck (l := (rg 0 8)) (r := [8, 9]) (e' := [(0, .slice (some ad1) l.length c), (2, str (⟨#[]⟩)), (3, i64 0), (4, str (bA (prP (l.map JV.d) i ++ prJP (xl1.map CV.d) k))), (5, i64 ((i : Nat) : Int)), (6, i64 ((k : Nat) : Int)), (35, .agg #[.slice (some ad3) yd1.words.length yc1, str yd1.inp, str yd1.out, bl yd1.app])]) hA [.slice (some ad2) xl1.length xc1, .agg #[.slice (some ad3) yd1.words.length yc1, str yd1.inp, str yd1.out, bl yd1.app]] (cc (⟨by omega, by omega⟩ : (0 : Int) ≤ ((i : Nat) : Int) ∧ ((i : Nat) : Int) < ((l.length : Nat) : Int)) (cc (((hv.1.keep hO.only).ld0 encJ hx1 (by rfl)) : Ld Try.prog w3 (ad1.add (i * 2)) 43 (.slice (some ad2) xl1.length xc1)) (cc (⟨by omega, by omega⟩ : (0 : Int) ≤ ((k : Nat) : Int) ∧ ((k : Nat) : Int) < ((xl1.length : Nat) : Int)) (cc (((hvx1.1.keep hO.only).ldn encC hy1) : Ld Try.prog w3 (ad2.add (k * 4)) 49 (.agg #[.slice (some ad3) yd1.words.length yc1, str yd1.inp, str yd1.out, bl yd1.app])) c0)))) ?_
     clear hA fr; intro fr hA
     refine wpOps_cons' (mN (l := [.slice none 0 0, str (⟨#[]⟩), str (⟨#[]⟩), bl false]) (t := 49) (v := pt) (d := 7) hA hO ?_)
     clear hA hO fr; intro fr w4 b1 hA hO
     replace hA := hA.sb (e' := [(0, .slice (some ad1) l.length c), (2, str (⟨#[]⟩)), (3, i64 0), (4, str (bA (prP (l.map JV.d) i ++ prJP (xl1.map CV.d) k))), (5, i64 ((i : Nat) : Int)), (6, i64 ((k : Nat) : Int)), (7, pt b1), (35, .agg #[.slice (some ad3) yd1.words.length yc1, str yd1.inp, str yd1.out, bl yd1.app])])
     refine wpOps_cons' (mS (off := 0) (vc := [.slice (some ad3) yd1.words.length yc1, str yd1.inp, str yd1.out, bl yd1.app]) 0 hA hO ?_)
     clear hO; intro w5 hO
     replace hA := hA.sb (e' := [(0, .slice (some ad1) l.length c), (2, str (⟨#[]⟩)), (3, i64 0), (4, str (bA (prP (l.map JV.d) i ++ prJP (xl1.map CV.d) k))), (5, i64 ((i : Nat) : Int)), (6, i64 ((k : Nat) : Int)), (7, pt b1)])
     refine end_ops ?_
     refine then_normal ?_
     refine wp_seq ?_
     refine sC (e' := [(0, .slice (some ad1) l.length c), (2, str (⟨#[]⟩)), (3, i64 0), (4, str (bA (prP (l.map JV.d) i ++ prJP (xl1.map CV.d) k))), (5, i64 ((i : Nat) : Int)), (6, i64 ((k : Nat) : Int)), (7, pt b1), (37, bl (decide (((k : Nat) : Int) > 0)))]) 2 hA [] c0 ?_
     clear hA fr; intro fr hA
     rcases Bool.eq_false_or_eq_true (decide (((k : Nat) : Int) > 0)) with h3 | h3
     · rw [h3] at hA
       have h3p := of_decide_eq_true h3
       refine cT hA ?_
       refine rC (e' := [(0, .slice (some ad1) l.length c), (2, str (⟨#[]⟩)), (3, i64 0), (4, str ((bA (prP (l.map JV.d) i ++ prJP (xl1.map CV.d) k)) ++ (⟨#[32, 124, 32]⟩ : ByteArray))), (5, i64 ((i : Nat) : Int)), (6, i64 ((k : Nat) : Int)), (7, pt b1)]) 3 hA [] (cc ((by first | omega | (simp only [bA_size, ByteArray.size_append, List.length_append, List.length_cons, List.length_nil, size_list]; omega)) : (bA (prP (l.map JV.d) i ++ prJP (xl1.map CV.d) k)).size + (⟨#[32, 124, 32]⟩ : ByteArray).size ≤ 9223372036854775807) c0) ?_
       clear hA fr; intro fr hA
       rw [show ((bA (prP (l.map JV.d) i ++ prJP (xl1.map CV.d) k)) ++ (⟨#[32, 124, 32]⟩ : ByteArray)) = (bA ((prP (l.map JV.d) i ++ prJP (xl1.map CV.d) k) ++ [32, 124, 32])) from bA_app _ _] at hA
       refine then_normal ?_
       refine sC (e' := [(0, .slice (some ad1) l.length c), (2, str (⟨#[]⟩)), (3, i64 0), (4, str ((bA ((prP (l.map JV.d) i ++ prJP (xl1.map CV.d) k) ++ [32, 124, 32])) ++ z1)), (5, i64 ((i : Nat) : Int)), (6, i64 ((k : Nat) : Int)), (7, pt b1)]) 7 hA [.slice (some ad3) yd1.words.length yc1, str z1] (cc (hO.l1 0 0 47 (.slice (some ad3) yd1.words.length yc1)) (cc (⟨by omega, by omega⟩ : (0 : Int) ≤ 0 ∧ 0 < ((yd1.words.length : Nat) : Int)) (cc (((hvy1.keep hO.only).ldT hz1) : Ld Try.prog w5 (ad3.add 0) 9 (str z1)) (cc ((by first | omega | (simp only [bA_size, ByteArray.size_append, List.length_append, List.length_cons, List.length_nil, size_list]; omega)) : (bA ((prP (l.map JV.d) i ++ prJP (xl1.map CV.d) k) ++ [32, 124, 32])).size + z1.size ≤ 9223372036854775807) c0)))) ?_
       clear hA fr; intro fr hA
       rw [show ((bA ((prP (l.map JV.d) i ++ prJP (xl1.map CV.d) k) ++ [32, 124, 32])) ++ z1) = (bA (((prP (l.map JV.d) i ++ prJP (xl1.map CV.d) k) ++ [32, 124, 32]) ++ z1.data.toList)) from bA_app _ _] at hA
       refine wp_seq ?_
       refine sC (e' := [(0, .slice (some ad1) l.length c), (2, str (⟨#[]⟩)), (3, i64 0), (4, str (bA (((prP (l.map JV.d) i ++ prJP (xl1.map CV.d) k) ++ [32, 124, 32]) ++ z1.data.toList))), (5, i64 ((i : Nat) : Int)), (6, i64 ((k : Nat) : Int)), (7, pt b1), (8, i64 1)]) 1 hA [] c0 ?_
       clear hA fr; intro fr hA
       refine wp_block ?_
       rw [show ((prP (l.map JV.d) i ++ prJP (xl1.map CV.d) k) ++ [32, 124, 32]) ++ z1.data.toList = ((prP (l.map JV.d) i ++ prJP (xl1.map CV.d) k) ++ [32, 124, 32]) ++ Lib.join ((yd1.words.take 1).map (·.data.toList)) [32] by rw [joinw_one hz1]] at hA
       refine c_loop (fun mm fr W => ∃ (j : Nat), mm = yd1.words.length - j ∧ Holds 118 [] fr [(0, .slice (some ad1) l.length c), (2, str (⟨#[]⟩)), (3, i64 0), (4, str (bA (((prP (l.map JV.d) i ++ prJP (xl1.map CV.d) k) ++ [32, 124, 32]) ++ Lib.join ((yd1.words.take j).map (·.data.toList)) [32]))), (5, i64 ((i : Nat) : Int)), (6, i64 ((k : Nat) : Int)), (7, pt b1), (8, i64 ((j : Nat) : Int))] ∧ Ow Try.prog none' w W [(b1, 49, [.slice (some ad3) yd1.words.length yc1, str yd1.inp, str yd1.out, bl yd1.app])] ∧ j ≤ yd1.words.length ∧ 1 ≤ j ∧ True) ?_ ?_
       · exact ⟨_, 1, rfl, (hA.sub (e' := [(0, .slice (some ad1) l.length c), (2, str (⟨#[]⟩)), (3, i64 0), (4, str (bA (((prP (l.map JV.d) i ++ prJP (xl1.map CV.d) k) ++ [32, 124, 32]) ++ Lib.join ((yd1.words.take 1).map (·.data.toList)) [32]))), (5, i64 ((i : Nat) : Int)), (6, i64 ((k : Nat) : Int)), (7, pt b1), (8, i64 1)]) [0, 2, 3, 4, 5, 6, 7, 8] (by kernel_rfl)).cast (by kernel_rfl), hO.to, (by omega), (Nat.le_refl _), trivial⟩
       rintro _ fr w6 ⟨j, rfl, hA, hO, hi_j, hj1, -⟩
       have hq3_ := joinw_len hvc_ j
       refine wp_seq ?_
       refine sC (e' := [(0, .slice (some ad1) l.length c), (2, str (⟨#[]⟩)), (3, i64 0), (4, str (bA (((prP (l.map JV.d) i ++ prJP (xl1.map CV.d) k) ++ [32, 124, 32]) ++ Lib.join ((yd1.words.take j).map (·.data.toList)) [32]))), (5, i64 ((i : Nat) : Int)), (6, i64 ((k : Nat) : Int)), (7, pt b1), (8, i64 ((j : Nat) : Int)), (50, bl (decide (((j : Nat) : Int) < ((yd1.words.length : Nat) : Int))))]) 5 hA [.slice (some ad3) yd1.words.length yc1] (cc (hO.l1 0 0 47 (.slice (some ad3) yd1.words.length yc1)) c0) ?_
       clear hA fr; intro fr hA
       rcases Bool.eq_false_or_eq_true (decide (((j : Nat) : Int) < ((yd1.words.length : Nat) : Int))) with h4 | h4
       · rw [h4] at hA
         have h4p := of_decide_eq_true h4
         obtain ⟨z2, hz2⟩ : ∃ x, yd1.words[j]? = some x := ⟨_, getD_at _ ⟨#[]⟩ (by omega)⟩
         have hszz2 := smC.at hsc1 hz2
         have hzs_z2 := (isw_size ((validC_facts hvc_).1 _ (List.mem_of_getElem? hz2))).2
         refine cT hA ?_
         refine wp_skip ?_
         refine then_normal ?_
         refine wp_seq ?_
         refine wp_block ?_
         refine rC (e' := [(0, .slice (some ad1) l.length c), (2, str (⟨#[]⟩)), (3, i64 0), (4, str ((bA (((prP (l.map JV.d) i ++ prJP (xl1.map CV.d) k) ++ [32, 124, 32]) ++ Lib.join ((yd1.words.take j).map (·.data.toList)) [32])) ++ ((⟨#[32]⟩ : ByteArray) ++ z2))), (5, i64 ((i : Nat) : Int)), (6, i64 ((k : Nat) : Int)), (7, pt b1), (8, i64 ((j : Nat) : Int))]) 9 hA [.slice (some ad3) yd1.words.length yc1, str z2] (cc (hO.l1 0 0 47 (.slice (some ad3) yd1.words.length yc1)) (cc (⟨by omega, by omega⟩ : (0 : Int) ≤ ((j : Nat) : Int) ∧ ((j : Nat) : Int) < ((yd1.words.length : Nat) : Int)) (cc (((hvy1.keep hO.only).ldT hz2) : Ld Try.prog w6 (ad3.add j) 9 (str z2)) (cc ((by first | omega | (simp only [bA_size, ByteArray.size_append, List.length_append, List.length_cons, List.length_nil, size_list]; omega)) : (⟨#[32]⟩ : ByteArray).size + z2.size ≤ 9223372036854775807) (cc ((by first | omega | (simp only [bA_size, ByteArray.size_append, List.length_append, List.length_cons, List.length_nil, size_list]; omega)) : (bA (((prP (l.map JV.d) i ++ prJP (xl1.map CV.d) k) ++ [32, 124, 32]) ++ Lib.join ((yd1.words.take j).map (·.data.toList)) [32])).size + ((⟨#[32]⟩ : ByteArray) ++ z2).size ≤ 9223372036854775807) c0))))) ?_
         clear hA fr; intro fr hA
         rw [show ((bA (((prP (l.map JV.d) i ++ prJP (xl1.map CV.d) k) ++ [32, 124, 32]) ++ Lib.join ((yd1.words.take j).map (·.data.toList)) [32])) ++ ((⟨#[32]⟩ : ByteArray) ++ z2)) = (bA ((((prP (l.map JV.d) i ++ prJP (xl1.map CV.d) k) ++ [32, 124, 32]) ++ Lib.join ((yd1.words.take j).map (·.data.toList)) [32]) ++ ([32] ++ z2.data.toList))) from (bA_app _ _).trans (by rw [str_app])] at hA
         refine inBlock_normal ?_
         refine then_normal ?_
         refine rC (e' := [(0, .slice (some ad1) l.length c), (2, str (⟨#[]⟩)), (3, i64 0), (4, str (bA ((((prP (l.map JV.d) i ++ prJP (xl1.map CV.d) k) ++ [32, 124, 32]) ++ Lib.join ((yd1.words.take j).map (·.data.toList)) [32]) ++ ([32] ++ z2.data.toList)))), (5, i64 ((i : Nat) : Int)), (6, i64 ((k : Nat) : Int)), (7, pt b1), (8, i64 (((j : Nat) : Int) + 1))]) 3 hA [bl true] (cc ((inK_i64 (by omega) (by omega)) : inK .i64 (((j : Nat) : Int) + 1)) c0) ?_
         clear hA fr; intro fr hA
         refine then_normal ?_
         rw [show (((prP (l.map JV.d) i ++ prJP (xl1.map CV.d) k) ++ [32, 124, 32]) ++ Lib.join ((yd1.words.take j).map (·.data.toList)) [32]) ++ ([32] ++ z2.data.toList) = ((prP (l.map JV.d) i ++ prJP (xl1.map CV.d) k) ++ [32, 124, 32]) ++ Lib.join ((yd1.words.take (j + 1)).map (·.data.toList)) [32] by rw [joinw_step hz2 hj1]; simp only [List.append_assoc, List.cons_append, List.nil_append]] at hA
         exact ⟨_, by omega, j + 1, rfl, (hA.sub (e' := [(0, .slice (some ad1) l.length c), (2, str (⟨#[]⟩)), (3, i64 0), (4, str (bA (((prP (l.map JV.d) i ++ prJP (xl1.map CV.d) k) ++ [32, 124, 32]) ++ Lib.join ((yd1.words.take (j + 1)).map (·.data.toList)) [32]))), (5, i64 ((i : Nat) : Int)), (6, i64 ((k : Nat) : Int)), (7, pt b1), (8, i64 (((j : Nat) : Int) + 1))]) [0, 2, 3, 4, 5, 6, 7, 8] (by kernel_rfl)).cast (by kernel_rfl), hO.to, (by omega), (by omega), trivial⟩
       rw [h4] at hA
       have h4p := of_decide_eq_false h4
       refine cF hA ?_
       refine wp_exit ?_
       refine then_exit ?_
       refine then_exit ?_
       refine inBlock_exit ?_
       refine then_normal ?_
       refine wp_seq ?_
       refine sC (e' := [(0, .slice (some ad1) l.length c), (2, str (⟨#[]⟩)), (3, i64 0), (4, str (bA (((prP (l.map JV.d) i ++ prJP (xl1.map CV.d) k) ++ [32, 124, 32]) ++ Lib.join ((yd1.words.take j).map (·.data.toList)) [32]))), (5, i64 ((i : Nat) : Int)), (6, i64 ((k : Nat) : Int)), (7, pt b1), (63, bl (!(yd1.inp.toList == (⟨#[]⟩ : ByteArray).toList)))]) 3 hA [str yd1.inp] (cc (hO.l1 0 1 9 (str yd1.inp)) c0) ?_
       clear hA fr; intro fr hA
       replace hA := hA.bool (f := fun z_ => [(0, .slice (some ad1) l.length c), (2, str (⟨#[]⟩)), (3, i64 0), (4, str (bA (((prP (l.map JV.d) i ++ prJP (xl1.map CV.d) k) ++ [32, 124, 32]) ++ Lib.join ((yd1.words.take j).map (·.data.toList)) [32]))), (5, i64 ((i : Nat) : Int)), (6, i64 ((k : Nat) : Int)), (7, pt b1), (63, .bool !z_)]) (str_empty yd1.inp : (yd1.inp.toList == (⟨#[]⟩ : ByteArray).toList) = (decide (yd1.inp.size = 0)))
       rcases Bool.eq_false_or_eq_true (decide (yd1.inp.size = 0)) with h5 | h5
       · rw [h5] at hA
         have h5p := of_decide_eq_true h5
         refine cF hA ?_
         refine wp_skip ?_
         refine then_normal ?_
         refine wp_block ?_
         refine sC (e' := [(0, .slice (some ad1) l.length c), (2, str (⟨#[]⟩)), (3, i64 0), (4, str (bA (((prP (l.map JV.d) i ++ prJP (xl1.map CV.d) k) ++ [32, 124, 32]) ++ Lib.join ((yd1.words.take j).map (·.data.toList)) [32]))), (5, i64 ((i : Nat) : Int)), (6, i64 ((k : Nat) : Int)), (7, pt b1), (69, bl yd1.app)]) 3 hA [bl yd1.app] (cc (hO.l1 0 3 4 (bl yd1.app)) c0) ?_
         clear hA fr; intro fr hA
         rcases Bool.eq_false_or_eq_true (yd1.app) with h6 | h6
         · rw [h6] at hA
           refine cT hA ?_
           refine rC (e' := [(0, .slice (some ad1) l.length c), (2, str (⟨#[]⟩)), (3, i64 0), (4, str ((bA (((prP (l.map JV.d) i ++ prJP (xl1.map CV.d) k) ++ [32, 124, 32]) ++ Lib.join ((yd1.words.take j).map (·.data.toList)) [32])) ++ ((⟨#[32, 62, 62, 32]⟩ : ByteArray) ++ yd1.out))), (5, i64 ((i : Nat) : Int)), (6, i64 ((k : Nat) : Int))]) 6 hA [str yd1.out] (cc (hO.l1 0 2 9 (str yd1.out)) (cc ((by first | omega | (simp only [bA_size, ByteArray.size_append, List.length_append, List.length_cons, List.length_nil, size_list]; omega)) : (⟨#[32, 62, 62, 32]⟩ : ByteArray).size + yd1.out.size ≤ 9223372036854775807) (cc ((by first | omega | (simp only [bA_size, ByteArray.size_append, List.length_append, List.length_cons, List.length_nil, size_list]; omega)) : (bA (((prP (l.map JV.d) i ++ prJP (xl1.map CV.d) k) ++ [32, 124, 32]) ++ Lib.join ((yd1.words.take j).map (·.data.toList)) [32])).size + ((⟨#[32, 62, 62, 32]⟩ : ByteArray) ++ yd1.out).size ≤ 9223372036854775807) c0))) ?_
           clear hA fr; intro fr hA
           rw [show ((bA (((prP (l.map JV.d) i ++ prJP (xl1.map CV.d) k) ++ [32, 124, 32]) ++ Lib.join ((yd1.words.take j).map (·.data.toList)) [32])) ++ ((⟨#[32, 62, 62, 32]⟩ : ByteArray) ++ yd1.out)) = (bA ((((prP (l.map JV.d) i ++ prJP (xl1.map CV.d) k) ++ [32, 124, 32]) ++ Lib.join ((yd1.words.take j).map (·.data.toList)) [32]) ++ ([32, 62, 62, 32] ++ yd1.out.data.toList))) from (bA_app _ _).trans (by rw [str_app])] at hA
           refine inBlock_normal ?_
           refine inBlock_normal ?_
           refine then_normal ?_
           refine rC (e' := [(0, .slice (some ad1) l.length c), (2, str (⟨#[]⟩)), (3, i64 0), (4, str (bA ((((prP (l.map JV.d) i ++ prJP (xl1.map CV.d) k) ++ [32, 124, 32]) ++ Lib.join ((yd1.words.take j).map (·.data.toList)) [32]) ++ ([32, 62, 62, 32] ++ yd1.out.data.toList)))), (5, i64 ((i : Nat) : Int)), (6, i64 (((k : Nat) : Int) + 1))]) 3 hA [bl true] (cc ((inK_i64 (by omega) (by omega)) : inK .i64 (((k : Nat) : Int) + 1)) c0) ?_
           clear hA fr; intro fr hA
           refine then_normal ?_
           rw [show (((prP (l.map JV.d) i ++ prJP (xl1.map CV.d) k) ++ [32, 124, 32]) ++ Lib.join ((yd1.words.take j).map (·.data.toList)) [32]) ++ ([32, 62, 62, 32] ++ yd1.out.data.toList) = prP (l.map JV.d) i ++ prJP (xl1.map CV.d) (k + 1) by rw [prJP_step hy1, prC_eq (d := yd1) hwl_.1, joinw_end (by omega)]; (first | rw [if_pos (show k = 0 by omega)] | rw [if_neg (show ¬ k = 0 by omega)]); simp_all] at hA
           exact ⟨_, by omega, k + 1, rfl, (hA.sub (e' := [(0, .slice (some ad1) l.length c), (2, str (⟨#[]⟩)), (3, i64 0), (4, str (bA (prP (l.map JV.d) i ++ prJP (xl1.map CV.d) (k + 1)))), (5, i64 ((i : Nat) : Int)), (6, i64 (((k : Nat) : Int) + 1))]) [0, 2, 3, 4, 5, 6] (by kernel_rfl)).cast (by kernel_rfl), (hO.sub []), (by omega), trivial⟩
         rw [h6] at hA
         refine cF hA ?_
         refine sC (e' := [(0, .slice (some ad1) l.length c), (2, str (⟨#[]⟩)), (3, i64 0), (4, str (bA (((prP (l.map JV.d) i ++ prJP (xl1.map CV.d) k) ++ [32, 124, 32]) ++ Lib.join ((yd1.words.take j).map (·.data.toList)) [32]))), (5, i64 ((i : Nat) : Int)), (6, i64 ((k : Nat) : Int)), (7, pt b1), (77, bl (!(yd1.out.toList == (⟨#[]⟩ : ByteArray).toList)))]) 4 hA [str yd1.out] (cc (hO.l1 0 2 9 (str yd1.out)) c0) ?_
         clear hA fr; intro fr hA
         replace hA := hA.bool (f := fun z_ => [(0, .slice (some ad1) l.length c), (2, str (⟨#[]⟩)), (3, i64 0), (4, str (bA (((prP (l.map JV.d) i ++ prJP (xl1.map CV.d) k) ++ [32, 124, 32]) ++ Lib.join ((yd1.words.take j).map (·.data.toList)) [32]))), (5, i64 ((i : Nat) : Int)), (6, i64 ((k : Nat) : Int)), (7, pt b1), (77, .bool !z_)]) (str_empty yd1.out : (yd1.out.toList == (⟨#[]⟩ : ByteArray).toList) = (decide (yd1.out.size = 0)))
         rcases Bool.eq_false_or_eq_true (decide (yd1.out.size = 0)) with h7 | h7
         · rw [h7] at hA
           have h7p := of_decide_eq_true h7
           refine cF hA ?_
           refine wp_skip ?_
           refine inBlock_normal ?_
           refine inBlock_normal ?_
           refine then_normal ?_
           refine rC (e' := [(0, .slice (some ad1) l.length c), (2, str (⟨#[]⟩)), (3, i64 0), (4, str (bA (((prP (l.map JV.d) i ++ prJP (xl1.map CV.d) k) ++ [32, 124, 32]) ++ Lib.join ((yd1.words.take j).map (·.data.toList)) [32]))), (5, i64 ((i : Nat) : Int)), (6, i64 (((k : Nat) : Int) + 1))]) 3 hA [bl true] (cc ((inK_i64 (by omega) (by omega)) : inK .i64 (((k : Nat) : Int) + 1)) c0) ?_
           clear hA fr; intro fr hA
           refine then_normal ?_
           rw [show ((prP (l.map JV.d) i ++ prJP (xl1.map CV.d) k) ++ [32, 124, 32]) ++ Lib.join ((yd1.words.take j).map (·.data.toList)) [32] = prP (l.map JV.d) i ++ prJP (xl1.map CV.d) (k + 1) by rw [prJP_step hy1, prC_eq (d := yd1) hwl_.1, joinw_end (by omega)]; (first | rw [if_pos (show k = 0 by omega)] | rw [if_neg (show ¬ k = 0 by omega)]); simp_all] at hA
           exact ⟨_, by omega, k + 1, rfl, (hA.sub (e' := [(0, .slice (some ad1) l.length c), (2, str (⟨#[]⟩)), (3, i64 0), (4, str (bA (prP (l.map JV.d) i ++ prJP (xl1.map CV.d) (k + 1)))), (5, i64 ((i : Nat) : Int)), (6, i64 (((k : Nat) : Int) + 1))]) [0, 2, 3, 4, 5, 6] (by kernel_rfl)).cast (by kernel_rfl), (hO.sub []), (by omega), trivial⟩
         rw [h7] at hA
         have h7p := of_decide_eq_false h7
         refine cT hA ?_
         refine rC (e' := [(0, .slice (some ad1) l.length c), (2, str (⟨#[]⟩)), (3, i64 0), (4, str ((bA (((prP (l.map JV.d) i ++ prJP (xl1.map CV.d) k) ++ [32, 124, 32]) ++ Lib.join ((yd1.words.take j).map (·.data.toList)) [32])) ++ ((⟨#[32, 62, 32]⟩ : ByteArray) ++ yd1.out))), (5, i64 ((i : Nat) : Int)), (6, i64 ((k : Nat) : Int))]) 6 hA [str yd1.out] (cc (hO.l1 0 2 9 (str yd1.out)) (cc ((by first | omega | (simp only [bA_size, ByteArray.size_append, List.length_append, List.length_cons, List.length_nil, size_list]; omega)) : (⟨#[32, 62, 32]⟩ : ByteArray).size + yd1.out.size ≤ 9223372036854775807) (cc ((by first | omega | (simp only [bA_size, ByteArray.size_append, List.length_append, List.length_cons, List.length_nil, size_list]; omega)) : (bA (((prP (l.map JV.d) i ++ prJP (xl1.map CV.d) k) ++ [32, 124, 32]) ++ Lib.join ((yd1.words.take j).map (·.data.toList)) [32])).size + ((⟨#[32, 62, 32]⟩ : ByteArray) ++ yd1.out).size ≤ 9223372036854775807) c0))) ?_
         clear hA fr; intro fr hA
         rw [show ((bA (((prP (l.map JV.d) i ++ prJP (xl1.map CV.d) k) ++ [32, 124, 32]) ++ Lib.join ((yd1.words.take j).map (·.data.toList)) [32])) ++ ((⟨#[32, 62, 32]⟩ : ByteArray) ++ yd1.out)) = (bA ((((prP (l.map JV.d) i ++ prJP (xl1.map CV.d) k) ++ [32, 124, 32]) ++ Lib.join ((yd1.words.take j).map (·.data.toList)) [32]) ++ ([32, 62, 32] ++ yd1.out.data.toList))) from (bA_app _ _).trans (by rw [str_app])] at hA
         refine inBlock_normal ?_
         refine inBlock_normal ?_
         refine then_normal ?_
         refine rC (e' := [(0, .slice (some ad1) l.length c), (2, str (⟨#[]⟩)), (3, i64 0), (4, str (bA ((((prP (l.map JV.d) i ++ prJP (xl1.map CV.d) k) ++ [32, 124, 32]) ++ Lib.join ((yd1.words.take j).map (·.data.toList)) [32]) ++ ([32, 62, 32] ++ yd1.out.data.toList)))), (5, i64 ((i : Nat) : Int)), (6, i64 (((k : Nat) : Int) + 1))]) 3 hA [bl true] (cc ((inK_i64 (by omega) (by omega)) : inK .i64 (((k : Nat) : Int) + 1)) c0) ?_
         clear hA fr; intro fr hA
         refine then_normal ?_
         rw [show (((prP (l.map JV.d) i ++ prJP (xl1.map CV.d) k) ++ [32, 124, 32]) ++ Lib.join ((yd1.words.take j).map (·.data.toList)) [32]) ++ ([32, 62, 32] ++ yd1.out.data.toList) = prP (l.map JV.d) i ++ prJP (xl1.map CV.d) (k + 1) by rw [prJP_step hy1, prC_eq (d := yd1) hwl_.1, joinw_end (by omega)]; (first | rw [if_pos (show k = 0 by omega)] | rw [if_neg (show ¬ k = 0 by omega)]); simp_all] at hA
         exact ⟨_, by omega, k + 1, rfl, (hA.sub (e' := [(0, .slice (some ad1) l.length c), (2, str (⟨#[]⟩)), (3, i64 0), (4, str (bA (prP (l.map JV.d) i ++ prJP (xl1.map CV.d) (k + 1)))), (5, i64 ((i : Nat) : Int)), (6, i64 (((k : Nat) : Int) + 1))]) [0, 2, 3, 4, 5, 6] (by kernel_rfl)).cast (by kernel_rfl), (hO.sub []), (by omega), trivial⟩
       rw [h5] at hA
       have h5p := of_decide_eq_false h5
       refine cT hA ?_
       refine rC (e' := [(0, .slice (some ad1) l.length c), (2, str (⟨#[]⟩)), (3, i64 0), (4, str ((bA (((prP (l.map JV.d) i ++ prJP (xl1.map CV.d) k) ++ [32, 124, 32]) ++ Lib.join ((yd1.words.take j).map (·.data.toList)) [32])) ++ ((⟨#[32, 60, 32]⟩ : ByteArray) ++ yd1.inp))), (5, i64 ((i : Nat) : Int)), (6, i64 ((k : Nat) : Int)), (7, pt b1)]) 6 hA [str yd1.inp] (cc (hO.l1 0 1 9 (str yd1.inp)) (cc ((by first | omega | (simp only [bA_size, ByteArray.size_append, List.length_append, List.length_cons, List.length_nil, size_list]; omega)) : (⟨#[32, 60, 32]⟩ : ByteArray).size + yd1.inp.size ≤ 9223372036854775807) (cc ((by first | omega | (simp only [bA_size, ByteArray.size_append, List.length_append, List.length_cons, List.length_nil, size_list]; omega)) : (bA (((prP (l.map JV.d) i ++ prJP (xl1.map CV.d) k) ++ [32, 124, 32]) ++ Lib.join ((yd1.words.take j).map (·.data.toList)) [32])).size + ((⟨#[32, 60, 32]⟩ : ByteArray) ++ yd1.inp).size ≤ 9223372036854775807) c0))) ?_
       clear hA fr; intro fr hA
       rw [show ((bA (((prP (l.map JV.d) i ++ prJP (xl1.map CV.d) k) ++ [32, 124, 32]) ++ Lib.join ((yd1.words.take j).map (·.data.toList)) [32])) ++ ((⟨#[32, 60, 32]⟩ : ByteArray) ++ yd1.inp)) = (bA ((((prP (l.map JV.d) i ++ prJP (xl1.map CV.d) k) ++ [32, 124, 32]) ++ Lib.join ((yd1.words.take j).map (·.data.toList)) [32]) ++ ([32, 60, 32] ++ yd1.inp.data.toList))) from (bA_app _ _).trans (by rw [str_app])] at hA
       refine then_normal ?_
       refine wp_block ?_
       refine sC (e' := [(0, .slice (some ad1) l.length c), (2, str (⟨#[]⟩)), (3, i64 0), (4, str (bA ((((prP (l.map JV.d) i ++ prJP (xl1.map CV.d) k) ++ [32, 124, 32]) ++ Lib.join ((yd1.words.take j).map (·.data.toList)) [32]) ++ ([32, 60, 32] ++ yd1.inp.data.toList)))), (5, i64 ((i : Nat) : Int)), (6, i64 ((k : Nat) : Int)), (7, pt b1), (69, bl yd1.app)]) 3 hA [bl yd1.app] (cc (hO.l1 0 3 4 (bl yd1.app)) c0) ?_
       clear hA fr; intro fr hA
       rcases Bool.eq_false_or_eq_true (yd1.app) with h8 | h8
       · rw [h8] at hA
         refine cT hA ?_
         refine rC (e' := [(0, .slice (some ad1) l.length c), (2, str (⟨#[]⟩)), (3, i64 0), (4, str ((bA ((((prP (l.map JV.d) i ++ prJP (xl1.map CV.d) k) ++ [32, 124, 32]) ++ Lib.join ((yd1.words.take j).map (·.data.toList)) [32]) ++ ([32, 60, 32] ++ yd1.inp.data.toList))) ++ ((⟨#[32, 62, 62, 32]⟩ : ByteArray) ++ yd1.out))), (5, i64 ((i : Nat) : Int)), (6, i64 ((k : Nat) : Int))]) 6 hA [str yd1.out] (cc (hO.l1 0 2 9 (str yd1.out)) (cc ((by first | omega | (simp only [bA_size, ByteArray.size_append, List.length_append, List.length_cons, List.length_nil, size_list]; omega)) : (⟨#[32, 62, 62, 32]⟩ : ByteArray).size + yd1.out.size ≤ 9223372036854775807) (cc ((by first | omega | (simp only [bA_size, ByteArray.size_append, List.length_append, List.length_cons, List.length_nil, size_list]; omega)) : (bA ((((prP (l.map JV.d) i ++ prJP (xl1.map CV.d) k) ++ [32, 124, 32]) ++ Lib.join ((yd1.words.take j).map (·.data.toList)) [32]) ++ ([32, 60, 32] ++ yd1.inp.data.toList))).size + ((⟨#[32, 62, 62, 32]⟩ : ByteArray) ++ yd1.out).size ≤ 9223372036854775807) c0))) ?_
         clear hA fr; intro fr hA
         rw [show ((bA ((((prP (l.map JV.d) i ++ prJP (xl1.map CV.d) k) ++ [32, 124, 32]) ++ Lib.join ((yd1.words.take j).map (·.data.toList)) [32]) ++ ([32, 60, 32] ++ yd1.inp.data.toList))) ++ ((⟨#[32, 62, 62, 32]⟩ : ByteArray) ++ yd1.out)) = (bA (((((prP (l.map JV.d) i ++ prJP (xl1.map CV.d) k) ++ [32, 124, 32]) ++ Lib.join ((yd1.words.take j).map (·.data.toList)) [32]) ++ ([32, 60, 32] ++ yd1.inp.data.toList)) ++ ([32, 62, 62, 32] ++ yd1.out.data.toList))) from (bA_app _ _).trans (by rw [str_app])] at hA
         refine inBlock_normal ?_
         refine inBlock_normal ?_
         refine then_normal ?_
         refine rC (e' := [(0, .slice (some ad1) l.length c), (2, str (⟨#[]⟩)), (3, i64 0), (4, str (bA (((((prP (l.map JV.d) i ++ prJP (xl1.map CV.d) k) ++ [32, 124, 32]) ++ Lib.join ((yd1.words.take j).map (·.data.toList)) [32]) ++ ([32, 60, 32] ++ yd1.inp.data.toList)) ++ ([32, 62, 62, 32] ++ yd1.out.data.toList)))), (5, i64 ((i : Nat) : Int)), (6, i64 (((k : Nat) : Int) + 1))]) 3 hA [bl true] (cc ((inK_i64 (by omega) (by omega)) : inK .i64 (((k : Nat) : Int) + 1)) c0) ?_
         clear hA fr; intro fr hA
         refine then_normal ?_
         rw [show ((((prP (l.map JV.d) i ++ prJP (xl1.map CV.d) k) ++ [32, 124, 32]) ++ Lib.join ((yd1.words.take j).map (·.data.toList)) [32]) ++ ([32, 60, 32] ++ yd1.inp.data.toList)) ++ ([32, 62, 62, 32] ++ yd1.out.data.toList) = prP (l.map JV.d) i ++ prJP (xl1.map CV.d) (k + 1) by rw [prJP_step hy1, prC_eq (d := yd1) hwl_.1, joinw_end (by omega)]; (first | rw [if_pos (show k = 0 by omega)] | rw [if_neg (show ¬ k = 0 by omega)]); simp_all] at hA
         exact ⟨_, by omega, k + 1, rfl, (hA.sub (e' := [(0, .slice (some ad1) l.length c), (2, str (⟨#[]⟩)), (3, i64 0), (4, str (bA (prP (l.map JV.d) i ++ prJP (xl1.map CV.d) (k + 1)))), (5, i64 ((i : Nat) : Int)), (6, i64 (((k : Nat) : Int) + 1))]) [0, 2, 3, 4, 5, 6] (by kernel_rfl)).cast (by kernel_rfl), (hO.sub []), (by omega), trivial⟩
       rw [h8] at hA
       refine cF hA ?_
       refine sC (e' := [(0, .slice (some ad1) l.length c), (2, str (⟨#[]⟩)), (3, i64 0), (4, str (bA ((((prP (l.map JV.d) i ++ prJP (xl1.map CV.d) k) ++ [32, 124, 32]) ++ Lib.join ((yd1.words.take j).map (·.data.toList)) [32]) ++ ([32, 60, 32] ++ yd1.inp.data.toList)))), (5, i64 ((i : Nat) : Int)), (6, i64 ((k : Nat) : Int)), (7, pt b1), (77, bl (!(yd1.out.toList == (⟨#[]⟩ : ByteArray).toList)))]) 4 hA [str yd1.out] (cc (hO.l1 0 2 9 (str yd1.out)) c0) ?_
       clear hA fr; intro fr hA
       replace hA := hA.bool (f := fun z_ => [(0, .slice (some ad1) l.length c), (2, str (⟨#[]⟩)), (3, i64 0), (4, str (bA ((((prP (l.map JV.d) i ++ prJP (xl1.map CV.d) k) ++ [32, 124, 32]) ++ Lib.join ((yd1.words.take j).map (·.data.toList)) [32]) ++ ([32, 60, 32] ++ yd1.inp.data.toList)))), (5, i64 ((i : Nat) : Int)), (6, i64 ((k : Nat) : Int)), (7, pt b1), (77, .bool !z_)]) (str_empty yd1.out : (yd1.out.toList == (⟨#[]⟩ : ByteArray).toList) = (decide (yd1.out.size = 0)))
       rcases Bool.eq_false_or_eq_true (decide (yd1.out.size = 0)) with h9 | h9
       · rw [h9] at hA
         have h9p := of_decide_eq_true h9
         refine cF hA ?_
         refine wp_skip ?_
         refine inBlock_normal ?_
         refine inBlock_normal ?_
         refine then_normal ?_
         refine rC (e' := [(0, .slice (some ad1) l.length c), (2, str (⟨#[]⟩)), (3, i64 0), (4, str (bA ((((prP (l.map JV.d) i ++ prJP (xl1.map CV.d) k) ++ [32, 124, 32]) ++ Lib.join ((yd1.words.take j).map (·.data.toList)) [32]) ++ ([32, 60, 32] ++ yd1.inp.data.toList)))), (5, i64 ((i : Nat) : Int)), (6, i64 (((k : Nat) : Int) + 1))]) 3 hA [bl true] (cc ((inK_i64 (by omega) (by omega)) : inK .i64 (((k : Nat) : Int) + 1)) c0) ?_
         clear hA fr; intro fr hA
         refine then_normal ?_
         rw [show (((prP (l.map JV.d) i ++ prJP (xl1.map CV.d) k) ++ [32, 124, 32]) ++ Lib.join ((yd1.words.take j).map (·.data.toList)) [32]) ++ ([32, 60, 32] ++ yd1.inp.data.toList) = prP (l.map JV.d) i ++ prJP (xl1.map CV.d) (k + 1) by rw [prJP_step hy1, prC_eq (d := yd1) hwl_.1, joinw_end (by omega)]; (first | rw [if_pos (show k = 0 by omega)] | rw [if_neg (show ¬ k = 0 by omega)]); simp_all] at hA
         exact ⟨_, by omega, k + 1, rfl, (hA.sub (e' := [(0, .slice (some ad1) l.length c), (2, str (⟨#[]⟩)), (3, i64 0), (4, str (bA (prP (l.map JV.d) i ++ prJP (xl1.map CV.d) (k + 1)))), (5, i64 ((i : Nat) : Int)), (6, i64 (((k : Nat) : Int) + 1))]) [0, 2, 3, 4, 5, 6] (by kernel_rfl)).cast (by kernel_rfl), (hO.sub []), (by omega), trivial⟩
       rw [h9] at hA
       have h9p := of_decide_eq_false h9
       refine cT hA ?_
       refine rC (e' := [(0, .slice (some ad1) l.length c), (2, str (⟨#[]⟩)), (3, i64 0), (4, str ((bA ((((prP (l.map JV.d) i ++ prJP (xl1.map CV.d) k) ++ [32, 124, 32]) ++ Lib.join ((yd1.words.take j).map (·.data.toList)) [32]) ++ ([32, 60, 32] ++ yd1.inp.data.toList))) ++ ((⟨#[32, 62, 32]⟩ : ByteArray) ++ yd1.out))), (5, i64 ((i : Nat) : Int)), (6, i64 ((k : Nat) : Int))]) 6 hA [str yd1.out] (cc (hO.l1 0 2 9 (str yd1.out)) (cc ((by first | omega | (simp only [bA_size, ByteArray.size_append, List.length_append, List.length_cons, List.length_nil, size_list]; omega)) : (⟨#[32, 62, 32]⟩ : ByteArray).size + yd1.out.size ≤ 9223372036854775807) (cc ((by first | omega | (simp only [bA_size, ByteArray.size_append, List.length_append, List.length_cons, List.length_nil, size_list]; omega)) : (bA ((((prP (l.map JV.d) i ++ prJP (xl1.map CV.d) k) ++ [32, 124, 32]) ++ Lib.join ((yd1.words.take j).map (·.data.toList)) [32]) ++ ([32, 60, 32] ++ yd1.inp.data.toList))).size + ((⟨#[32, 62, 32]⟩ : ByteArray) ++ yd1.out).size ≤ 9223372036854775807) c0))) ?_
       clear hA fr; intro fr hA
       rw [show ((bA ((((prP (l.map JV.d) i ++ prJP (xl1.map CV.d) k) ++ [32, 124, 32]) ++ Lib.join ((yd1.words.take j).map (·.data.toList)) [32]) ++ ([32, 60, 32] ++ yd1.inp.data.toList))) ++ ((⟨#[32, 62, 32]⟩ : ByteArray) ++ yd1.out)) = (bA (((((prP (l.map JV.d) i ++ prJP (xl1.map CV.d) k) ++ [32, 124, 32]) ++ Lib.join ((yd1.words.take j).map (·.data.toList)) [32]) ++ ([32, 60, 32] ++ yd1.inp.data.toList)) ++ ([32, 62, 32] ++ yd1.out.data.toList))) from (bA_app _ _).trans (by rw [str_app])] at hA
       refine inBlock_normal ?_
       refine inBlock_normal ?_
       refine then_normal ?_
       refine rC (e' := [(0, .slice (some ad1) l.length c), (2, str (⟨#[]⟩)), (3, i64 0), (4, str (bA (((((prP (l.map JV.d) i ++ prJP (xl1.map CV.d) k) ++ [32, 124, 32]) ++ Lib.join ((yd1.words.take j).map (·.data.toList)) [32]) ++ ([32, 60, 32] ++ yd1.inp.data.toList)) ++ ([32, 62, 32] ++ yd1.out.data.toList)))), (5, i64 ((i : Nat) : Int)), (6, i64 (((k : Nat) : Int) + 1))]) 3 hA [bl true] (cc ((inK_i64 (by omega) (by omega)) : inK .i64 (((k : Nat) : Int) + 1)) c0) ?_
       clear hA fr; intro fr hA
       refine then_normal ?_
       rw [show ((((prP (l.map JV.d) i ++ prJP (xl1.map CV.d) k) ++ [32, 124, 32]) ++ Lib.join ((yd1.words.take j).map (·.data.toList)) [32]) ++ ([32, 60, 32] ++ yd1.inp.data.toList)) ++ ([32, 62, 32] ++ yd1.out.data.toList) = prP (l.map JV.d) i ++ prJP (xl1.map CV.d) (k + 1) by rw [prJP_step hy1, prC_eq (d := yd1) hwl_.1, joinw_end (by omega)]; (first | rw [if_pos (show k = 0 by omega)] | rw [if_neg (show ¬ k = 0 by omega)]); simp_all] at hA
       exact ⟨_, by omega, k + 1, rfl, (hA.sub (e' := [(0, .slice (some ad1) l.length c), (2, str (⟨#[]⟩)), (3, i64 0), (4, str (bA (prP (l.map JV.d) i ++ prJP (xl1.map CV.d) (k + 1)))), (5, i64 ((i : Nat) : Int)), (6, i64 (((k : Nat) : Int) + 1))]) [0, 2, 3, 4, 5, 6] (by kernel_rfl)).cast (by kernel_rfl), (hO.sub []), (by omega), trivial⟩
     rw [h3] at hA
     have h3p := of_decide_eq_false h3
     refine cF hA ?_
     refine wp_skip ?_
     refine then_normal ?_
     refine sC (e' := [(0, .slice (some ad1) l.length c), (2, str (⟨#[]⟩)), (3, i64 0), (4, str ((bA (prP (l.map JV.d) i ++ prJP (xl1.map CV.d) k)) ++ z1)), (5, i64 ((i : Nat) : Int)), (6, i64 ((k : Nat) : Int)), (7, pt b1)]) 7 hA [.slice (some ad3) yd1.words.length yc1, str z1] (cc (hO.l1 0 0 47 (.slice (some ad3) yd1.words.length yc1)) (cc (⟨by omega, by omega⟩ : (0 : Int) ≤ 0 ∧ 0 < ((yd1.words.length : Nat) : Int)) (cc (((hvy1.keep hO.only).ldT hz1) : Ld Try.prog w5 (ad3.add 0) 9 (str z1)) (cc ((by first | omega | (simp only [bA_size, ByteArray.size_append, List.length_append, List.length_cons, List.length_nil, size_list]; omega)) : (bA (prP (l.map JV.d) i ++ prJP (xl1.map CV.d) k)).size + z1.size ≤ 9223372036854775807) c0)))) ?_
     clear hA fr; intro fr hA
     rw [show ((bA (prP (l.map JV.d) i ++ prJP (xl1.map CV.d) k)) ++ z1) = (bA ((prP (l.map JV.d) i ++ prJP (xl1.map CV.d) k) ++ z1.data.toList)) from bA_app _ _] at hA
     refine wp_seq ?_
     refine sC (e' := [(0, .slice (some ad1) l.length c), (2, str (⟨#[]⟩)), (3, i64 0), (4, str (bA ((prP (l.map JV.d) i ++ prJP (xl1.map CV.d) k) ++ z1.data.toList))), (5, i64 ((i : Nat) : Int)), (6, i64 ((k : Nat) : Int)), (7, pt b1), (8, i64 1)]) 1 hA [] c0 ?_
     clear hA fr; intro fr hA
     refine wp_block ?_
     rw [show (prP (l.map JV.d) i ++ prJP (xl1.map CV.d) k) ++ z1.data.toList = (prP (l.map JV.d) i ++ prJP (xl1.map CV.d) k) ++ Lib.join ((yd1.words.take 1).map (·.data.toList)) [32] by rw [joinw_one hz1]] at hA
     refine c_loop (fun mm fr W => ∃ (j : Nat), mm = yd1.words.length - j ∧ Holds 118 [] fr [(0, .slice (some ad1) l.length c), (2, str (⟨#[]⟩)), (3, i64 0), (4, str (bA ((prP (l.map JV.d) i ++ prJP (xl1.map CV.d) k) ++ Lib.join ((yd1.words.take j).map (·.data.toList)) [32]))), (5, i64 ((i : Nat) : Int)), (6, i64 ((k : Nat) : Int)), (7, pt b1), (8, i64 ((j : Nat) : Int))] ∧ Ow Try.prog none' w W [(b1, 49, [.slice (some ad3) yd1.words.length yc1, str yd1.inp, str yd1.out, bl yd1.app])] ∧ j ≤ yd1.words.length ∧ 1 ≤ j ∧ True) ?_ ?_
     · exact ⟨_, 1, rfl, (hA.sub (e' := [(0, .slice (some ad1) l.length c), (2, str (⟨#[]⟩)), (3, i64 0), (4, str (bA ((prP (l.map JV.d) i ++ prJP (xl1.map CV.d) k) ++ Lib.join ((yd1.words.take 1).map (·.data.toList)) [32]))), (5, i64 ((i : Nat) : Int)), (6, i64 ((k : Nat) : Int)), (7, pt b1), (8, i64 1)]) [0, 2, 3, 4, 5, 6, 7, 8] (by kernel_rfl)).cast (by kernel_rfl), hO.to, (by omega), (Nat.le_refl _), trivial⟩
     rintro _ fr w7 ⟨j, rfl, hA, hO, hi_j, hj1, -⟩
     have hq3_ := joinw_len hvc_ j
     refine wp_seq ?_
     refine sC (e' := [(0, .slice (some ad1) l.length c), (2, str (⟨#[]⟩)), (3, i64 0), (4, str (bA ((prP (l.map JV.d) i ++ prJP (xl1.map CV.d) k) ++ Lib.join ((yd1.words.take j).map (·.data.toList)) [32]))), (5, i64 ((i : Nat) : Int)), (6, i64 ((k : Nat) : Int)), (7, pt b1), (8, i64 ((j : Nat) : Int)), (50, bl (decide (((j : Nat) : Int) < ((yd1.words.length : Nat) : Int))))]) 5 hA [.slice (some ad3) yd1.words.length yc1] (cc (hO.l1 0 0 47 (.slice (some ad3) yd1.words.length yc1)) c0) ?_
     clear hA fr; intro fr hA
     rcases Bool.eq_false_or_eq_true (decide (((j : Nat) : Int) < ((yd1.words.length : Nat) : Int))) with h10 | h10
     · rw [h10] at hA
       have h10p := of_decide_eq_true h10
       obtain ⟨z3, hz3⟩ : ∃ x, yd1.words[j]? = some x := ⟨_, getD_at _ ⟨#[]⟩ (by omega)⟩
       have hszz3 := smC.at hsc1 hz3
       have hzs_z3 := (isw_size ((validC_facts hvc_).1 _ (List.mem_of_getElem? hz3))).2
       refine cT hA ?_
       refine wp_skip ?_
       refine then_normal ?_
       refine wp_seq ?_
       refine wp_block ?_
       refine rC (e' := [(0, .slice (some ad1) l.length c), (2, str (⟨#[]⟩)), (3, i64 0), (4, str ((bA ((prP (l.map JV.d) i ++ prJP (xl1.map CV.d) k) ++ Lib.join ((yd1.words.take j).map (·.data.toList)) [32])) ++ ((⟨#[32]⟩ : ByteArray) ++ z3))), (5, i64 ((i : Nat) : Int)), (6, i64 ((k : Nat) : Int)), (7, pt b1), (8, i64 ((j : Nat) : Int))]) 9 hA [.slice (some ad3) yd1.words.length yc1, str z3] (cc (hO.l1 0 0 47 (.slice (some ad3) yd1.words.length yc1)) (cc (⟨by omega, by omega⟩ : (0 : Int) ≤ ((j : Nat) : Int) ∧ ((j : Nat) : Int) < ((yd1.words.length : Nat) : Int)) (cc (((hvy1.keep hO.only).ldT hz3) : Ld Try.prog w7 (ad3.add j) 9 (str z3)) (cc ((by first | omega | (simp only [bA_size, ByteArray.size_append, List.length_append, List.length_cons, List.length_nil, size_list]; omega)) : (⟨#[32]⟩ : ByteArray).size + z3.size ≤ 9223372036854775807) (cc ((by first | omega | (simp only [bA_size, ByteArray.size_append, List.length_append, List.length_cons, List.length_nil, size_list]; omega)) : (bA ((prP (l.map JV.d) i ++ prJP (xl1.map CV.d) k) ++ Lib.join ((yd1.words.take j).map (·.data.toList)) [32])).size + ((⟨#[32]⟩ : ByteArray) ++ z3).size ≤ 9223372036854775807) c0))))) ?_
       clear hA fr; intro fr hA
       rw [show ((bA ((prP (l.map JV.d) i ++ prJP (xl1.map CV.d) k) ++ Lib.join ((yd1.words.take j).map (·.data.toList)) [32])) ++ ((⟨#[32]⟩ : ByteArray) ++ z3)) = (bA (((prP (l.map JV.d) i ++ prJP (xl1.map CV.d) k) ++ Lib.join ((yd1.words.take j).map (·.data.toList)) [32]) ++ ([32] ++ z3.data.toList))) from (bA_app _ _).trans (by rw [str_app])] at hA
       refine inBlock_normal ?_
       refine then_normal ?_
       refine rC (e' := [(0, .slice (some ad1) l.length c), (2, str (⟨#[]⟩)), (3, i64 0), (4, str (bA (((prP (l.map JV.d) i ++ prJP (xl1.map CV.d) k) ++ Lib.join ((yd1.words.take j).map (·.data.toList)) [32]) ++ ([32] ++ z3.data.toList)))), (5, i64 ((i : Nat) : Int)), (6, i64 ((k : Nat) : Int)), (7, pt b1), (8, i64 (((j : Nat) : Int) + 1))]) 3 hA [bl true] (cc ((inK_i64 (by omega) (by omega)) : inK .i64 (((j : Nat) : Int) + 1)) c0) ?_
       clear hA fr; intro fr hA
       refine then_normal ?_
       rw [show ((prP (l.map JV.d) i ++ prJP (xl1.map CV.d) k) ++ Lib.join ((yd1.words.take j).map (·.data.toList)) [32]) ++ ([32] ++ z3.data.toList) = (prP (l.map JV.d) i ++ prJP (xl1.map CV.d) k) ++ Lib.join ((yd1.words.take (j + 1)).map (·.data.toList)) [32] by rw [joinw_step hz3 hj1]; simp only [List.append_assoc, List.cons_append, List.nil_append]] at hA
       exact ⟨_, by omega, j + 1, rfl, (hA.sub (e' := [(0, .slice (some ad1) l.length c), (2, str (⟨#[]⟩)), (3, i64 0), (4, str (bA ((prP (l.map JV.d) i ++ prJP (xl1.map CV.d) k) ++ Lib.join ((yd1.words.take (j + 1)).map (·.data.toList)) [32]))), (5, i64 ((i : Nat) : Int)), (6, i64 ((k : Nat) : Int)), (7, pt b1), (8, i64 (((j : Nat) : Int) + 1))]) [0, 2, 3, 4, 5, 6, 7, 8] (by kernel_rfl)).cast (by kernel_rfl), hO.to, (by omega), (by omega), trivial⟩
     rw [h10] at hA
     have h10p := of_decide_eq_false h10
     refine cF hA ?_
     refine wp_exit ?_
     refine then_exit ?_
     refine then_exit ?_
     refine inBlock_exit ?_
     refine then_normal ?_
     refine wp_seq ?_
     refine sC (e' := [(0, .slice (some ad1) l.length c), (2, str (⟨#[]⟩)), (3, i64 0), (4, str (bA ((prP (l.map JV.d) i ++ prJP (xl1.map CV.d) k) ++ Lib.join ((yd1.words.take j).map (·.data.toList)) [32]))), (5, i64 ((i : Nat) : Int)), (6, i64 ((k : Nat) : Int)), (7, pt b1), (63, bl (!(yd1.inp.toList == (⟨#[]⟩ : ByteArray).toList)))]) 3 hA [str yd1.inp] (cc (hO.l1 0 1 9 (str yd1.inp)) c0) ?_
     clear hA fr; intro fr hA
     replace hA := hA.bool (f := fun z_ => [(0, .slice (some ad1) l.length c), (2, str (⟨#[]⟩)), (3, i64 0), (4, str (bA ((prP (l.map JV.d) i ++ prJP (xl1.map CV.d) k) ++ Lib.join ((yd1.words.take j).map (·.data.toList)) [32]))), (5, i64 ((i : Nat) : Int)), (6, i64 ((k : Nat) : Int)), (7, pt b1), (63, .bool !z_)]) (str_empty yd1.inp : (yd1.inp.toList == (⟨#[]⟩ : ByteArray).toList) = (decide (yd1.inp.size = 0)))
     rcases Bool.eq_false_or_eq_true (decide (yd1.inp.size = 0)) with h11 | h11
     · rw [h11] at hA
       have h11p := of_decide_eq_true h11
       refine cF hA ?_
       refine wp_skip ?_
       refine then_normal ?_
       refine wp_block ?_
       refine sC (e' := [(0, .slice (some ad1) l.length c), (2, str (⟨#[]⟩)), (3, i64 0), (4, str (bA ((prP (l.map JV.d) i ++ prJP (xl1.map CV.d) k) ++ Lib.join ((yd1.words.take j).map (·.data.toList)) [32]))), (5, i64 ((i : Nat) : Int)), (6, i64 ((k : Nat) : Int)), (7, pt b1), (69, bl yd1.app)]) 3 hA [bl yd1.app] (cc (hO.l1 0 3 4 (bl yd1.app)) c0) ?_
       clear hA fr; intro fr hA
       rcases Bool.eq_false_or_eq_true (yd1.app) with h12 | h12
       · rw [h12] at hA
         refine cT hA ?_
         refine rC (e' := [(0, .slice (some ad1) l.length c), (2, str (⟨#[]⟩)), (3, i64 0), (4, str ((bA ((prP (l.map JV.d) i ++ prJP (xl1.map CV.d) k) ++ Lib.join ((yd1.words.take j).map (·.data.toList)) [32])) ++ ((⟨#[32, 62, 62, 32]⟩ : ByteArray) ++ yd1.out))), (5, i64 ((i : Nat) : Int)), (6, i64 ((k : Nat) : Int))]) 6 hA [str yd1.out] (cc (hO.l1 0 2 9 (str yd1.out)) (cc ((by first | omega | (simp only [bA_size, ByteArray.size_append, List.length_append, List.length_cons, List.length_nil, size_list]; omega)) : (⟨#[32, 62, 62, 32]⟩ : ByteArray).size + yd1.out.size ≤ 9223372036854775807) (cc ((by first | omega | (simp only [bA_size, ByteArray.size_append, List.length_append, List.length_cons, List.length_nil, size_list]; omega)) : (bA ((prP (l.map JV.d) i ++ prJP (xl1.map CV.d) k) ++ Lib.join ((yd1.words.take j).map (·.data.toList)) [32])).size + ((⟨#[32, 62, 62, 32]⟩ : ByteArray) ++ yd1.out).size ≤ 9223372036854775807) c0))) ?_
         clear hA fr; intro fr hA
         rw [show ((bA ((prP (l.map JV.d) i ++ prJP (xl1.map CV.d) k) ++ Lib.join ((yd1.words.take j).map (·.data.toList)) [32])) ++ ((⟨#[32, 62, 62, 32]⟩ : ByteArray) ++ yd1.out)) = (bA (((prP (l.map JV.d) i ++ prJP (xl1.map CV.d) k) ++ Lib.join ((yd1.words.take j).map (·.data.toList)) [32]) ++ ([32, 62, 62, 32] ++ yd1.out.data.toList))) from (bA_app _ _).trans (by rw [str_app])] at hA
         refine inBlock_normal ?_
         refine inBlock_normal ?_
         refine then_normal ?_
         refine rC (e' := [(0, .slice (some ad1) l.length c), (2, str (⟨#[]⟩)), (3, i64 0), (4, str (bA (((prP (l.map JV.d) i ++ prJP (xl1.map CV.d) k) ++ Lib.join ((yd1.words.take j).map (·.data.toList)) [32]) ++ ([32, 62, 62, 32] ++ yd1.out.data.toList)))), (5, i64 ((i : Nat) : Int)), (6, i64 (((k : Nat) : Int) + 1))]) 3 hA [bl true] (cc ((inK_i64 (by omega) (by omega)) : inK .i64 (((k : Nat) : Int) + 1)) c0) ?_
         clear hA fr; intro fr hA
         refine then_normal ?_
         rw [show ((prP (l.map JV.d) i ++ prJP (xl1.map CV.d) k) ++ Lib.join ((yd1.words.take j).map (·.data.toList)) [32]) ++ ([32, 62, 62, 32] ++ yd1.out.data.toList) = prP (l.map JV.d) i ++ prJP (xl1.map CV.d) (k + 1) by rw [prJP_step hy1, prC_eq (d := yd1) hwl_.1, joinw_end (by omega)]; (first | rw [if_pos (show k = 0 by omega)] | rw [if_neg (show ¬ k = 0 by omega)]); simp_all] at hA
         exact ⟨_, by omega, k + 1, rfl, (hA.sub (e' := [(0, .slice (some ad1) l.length c), (2, str (⟨#[]⟩)), (3, i64 0), (4, str (bA (prP (l.map JV.d) i ++ prJP (xl1.map CV.d) (k + 1)))), (5, i64 ((i : Nat) : Int)), (6, i64 (((k : Nat) : Int) + 1))]) [0, 2, 3, 4, 5, 6] (by kernel_rfl)).cast (by kernel_rfl), (hO.sub []), (by omega), trivial⟩
       rw [h12] at hA
       refine cF hA ?_
       refine sC (e' := [(0, .slice (some ad1) l.length c), (2, str (⟨#[]⟩)), (3, i64 0), (4, str (bA ((prP (l.map JV.d) i ++ prJP (xl1.map CV.d) k) ++ Lib.join ((yd1.words.take j).map (·.data.toList)) [32]))), (5, i64 ((i : Nat) : Int)), (6, i64 ((k : Nat) : Int)), (7, pt b1), (77, bl (!(yd1.out.toList == (⟨#[]⟩ : ByteArray).toList)))]) 4 hA [str yd1.out] (cc (hO.l1 0 2 9 (str yd1.out)) c0) ?_
       clear hA fr; intro fr hA
       replace hA := hA.bool (f := fun z_ => [(0, .slice (some ad1) l.length c), (2, str (⟨#[]⟩)), (3, i64 0), (4, str (bA ((prP (l.map JV.d) i ++ prJP (xl1.map CV.d) k) ++ Lib.join ((yd1.words.take j).map (·.data.toList)) [32]))), (5, i64 ((i : Nat) : Int)), (6, i64 ((k : Nat) : Int)), (7, pt b1), (77, .bool !z_)]) (str_empty yd1.out : (yd1.out.toList == (⟨#[]⟩ : ByteArray).toList) = (decide (yd1.out.size = 0)))
       rcases Bool.eq_false_or_eq_true (decide (yd1.out.size = 0)) with h13 | h13
       · rw [h13] at hA
         have h13p := of_decide_eq_true h13
         refine cF hA ?_
         refine wp_skip ?_
         refine inBlock_normal ?_
         refine inBlock_normal ?_
         refine then_normal ?_
         refine rC (e' := [(0, .slice (some ad1) l.length c), (2, str (⟨#[]⟩)), (3, i64 0), (4, str (bA ((prP (l.map JV.d) i ++ prJP (xl1.map CV.d) k) ++ Lib.join ((yd1.words.take j).map (·.data.toList)) [32]))), (5, i64 ((i : Nat) : Int)), (6, i64 (((k : Nat) : Int) + 1))]) 3 hA [bl true] (cc ((inK_i64 (by omega) (by omega)) : inK .i64 (((k : Nat) : Int) + 1)) c0) ?_
         clear hA fr; intro fr hA
         refine then_normal ?_
         rw [show (prP (l.map JV.d) i ++ prJP (xl1.map CV.d) k) ++ Lib.join ((yd1.words.take j).map (·.data.toList)) [32] = prP (l.map JV.d) i ++ prJP (xl1.map CV.d) (k + 1) by rw [prJP_step hy1, prC_eq (d := yd1) hwl_.1, joinw_end (by omega)]; (first | rw [if_pos (show k = 0 by omega)] | rw [if_neg (show ¬ k = 0 by omega)]); simp_all] at hA
         exact ⟨_, by omega, k + 1, rfl, (hA.sub (e' := [(0, .slice (some ad1) l.length c), (2, str (⟨#[]⟩)), (3, i64 0), (4, str (bA (prP (l.map JV.d) i ++ prJP (xl1.map CV.d) (k + 1)))), (5, i64 ((i : Nat) : Int)), (6, i64 (((k : Nat) : Int) + 1))]) [0, 2, 3, 4, 5, 6] (by kernel_rfl)).cast (by kernel_rfl), (hO.sub []), (by omega), trivial⟩
       rw [h13] at hA
       have h13p := of_decide_eq_false h13
       refine cT hA ?_
       refine rC (e' := [(0, .slice (some ad1) l.length c), (2, str (⟨#[]⟩)), (3, i64 0), (4, str ((bA ((prP (l.map JV.d) i ++ prJP (xl1.map CV.d) k) ++ Lib.join ((yd1.words.take j).map (·.data.toList)) [32])) ++ ((⟨#[32, 62, 32]⟩ : ByteArray) ++ yd1.out))), (5, i64 ((i : Nat) : Int)), (6, i64 ((k : Nat) : Int))]) 6 hA [str yd1.out] (cc (hO.l1 0 2 9 (str yd1.out)) (cc ((by first | omega | (simp only [bA_size, ByteArray.size_append, List.length_append, List.length_cons, List.length_nil, size_list]; omega)) : (⟨#[32, 62, 32]⟩ : ByteArray).size + yd1.out.size ≤ 9223372036854775807) (cc ((by first | omega | (simp only [bA_size, ByteArray.size_append, List.length_append, List.length_cons, List.length_nil, size_list]; omega)) : (bA ((prP (l.map JV.d) i ++ prJP (xl1.map CV.d) k) ++ Lib.join ((yd1.words.take j).map (·.data.toList)) [32])).size + ((⟨#[32, 62, 32]⟩ : ByteArray) ++ yd1.out).size ≤ 9223372036854775807) c0))) ?_
       clear hA fr; intro fr hA
       rw [show ((bA ((prP (l.map JV.d) i ++ prJP (xl1.map CV.d) k) ++ Lib.join ((yd1.words.take j).map (·.data.toList)) [32])) ++ ((⟨#[32, 62, 32]⟩ : ByteArray) ++ yd1.out)) = (bA (((prP (l.map JV.d) i ++ prJP (xl1.map CV.d) k) ++ Lib.join ((yd1.words.take j).map (·.data.toList)) [32]) ++ ([32, 62, 32] ++ yd1.out.data.toList))) from (bA_app _ _).trans (by rw [str_app])] at hA
       refine inBlock_normal ?_
       refine inBlock_normal ?_
       refine then_normal ?_
       refine rC (e' := [(0, .slice (some ad1) l.length c), (2, str (⟨#[]⟩)), (3, i64 0), (4, str (bA (((prP (l.map JV.d) i ++ prJP (xl1.map CV.d) k) ++ Lib.join ((yd1.words.take j).map (·.data.toList)) [32]) ++ ([32, 62, 32] ++ yd1.out.data.toList)))), (5, i64 ((i : Nat) : Int)), (6, i64 (((k : Nat) : Int) + 1))]) 3 hA [bl true] (cc ((inK_i64 (by omega) (by omega)) : inK .i64 (((k : Nat) : Int) + 1)) c0) ?_
       clear hA fr; intro fr hA
       refine then_normal ?_
       rw [show ((prP (l.map JV.d) i ++ prJP (xl1.map CV.d) k) ++ Lib.join ((yd1.words.take j).map (·.data.toList)) [32]) ++ ([32, 62, 32] ++ yd1.out.data.toList) = prP (l.map JV.d) i ++ prJP (xl1.map CV.d) (k + 1) by rw [prJP_step hy1, prC_eq (d := yd1) hwl_.1, joinw_end (by omega)]; (first | rw [if_pos (show k = 0 by omega)] | rw [if_neg (show ¬ k = 0 by omega)]); simp_all] at hA
       exact ⟨_, by omega, k + 1, rfl, (hA.sub (e' := [(0, .slice (some ad1) l.length c), (2, str (⟨#[]⟩)), (3, i64 0), (4, str (bA (prP (l.map JV.d) i ++ prJP (xl1.map CV.d) (k + 1)))), (5, i64 ((i : Nat) : Int)), (6, i64 (((k : Nat) : Int) + 1))]) [0, 2, 3, 4, 5, 6] (by kernel_rfl)).cast (by kernel_rfl), (hO.sub []), (by omega), trivial⟩
     rw [h11] at hA
     have h11p := of_decide_eq_false h11
     refine cT hA ?_
     refine rC (e' := [(0, .slice (some ad1) l.length c), (2, str (⟨#[]⟩)), (3, i64 0), (4, str ((bA ((prP (l.map JV.d) i ++ prJP (xl1.map CV.d) k) ++ Lib.join ((yd1.words.take j).map (·.data.toList)) [32])) ++ ((⟨#[32, 60, 32]⟩ : ByteArray) ++ yd1.inp))), (5, i64 ((i : Nat) : Int)), (6, i64 ((k : Nat) : Int)), (7, pt b1)]) 6 hA [str yd1.inp] (cc (hO.l1 0 1 9 (str yd1.inp)) (cc ((by first | omega | (simp only [bA_size, ByteArray.size_append, List.length_append, List.length_cons, List.length_nil, size_list]; omega)) : (⟨#[32, 60, 32]⟩ : ByteArray).size + yd1.inp.size ≤ 9223372036854775807) (cc ((by first | omega | (simp only [bA_size, ByteArray.size_append, List.length_append, List.length_cons, List.length_nil, size_list]; omega)) : (bA ((prP (l.map JV.d) i ++ prJP (xl1.map CV.d) k) ++ Lib.join ((yd1.words.take j).map (·.data.toList)) [32])).size + ((⟨#[32, 60, 32]⟩ : ByteArray) ++ yd1.inp).size ≤ 9223372036854775807) c0))) ?_
     clear hA fr; intro fr hA
     rw [show ((bA ((prP (l.map JV.d) i ++ prJP (xl1.map CV.d) k) ++ Lib.join ((yd1.words.take j).map (·.data.toList)) [32])) ++ ((⟨#[32, 60, 32]⟩ : ByteArray) ++ yd1.inp)) = (bA (((prP (l.map JV.d) i ++ prJP (xl1.map CV.d) k) ++ Lib.join ((yd1.words.take j).map (·.data.toList)) [32]) ++ ([32, 60, 32] ++ yd1.inp.data.toList))) from (bA_app _ _).trans (by rw [str_app])] at hA
     refine then_normal ?_
     refine wp_block ?_
     refine sC (e' := [(0, .slice (some ad1) l.length c), (2, str (⟨#[]⟩)), (3, i64 0), (4, str (bA (((prP (l.map JV.d) i ++ prJP (xl1.map CV.d) k) ++ Lib.join ((yd1.words.take j).map (·.data.toList)) [32]) ++ ([32, 60, 32] ++ yd1.inp.data.toList)))), (5, i64 ((i : Nat) : Int)), (6, i64 ((k : Nat) : Int)), (7, pt b1), (69, bl yd1.app)]) 3 hA [bl yd1.app] (cc (hO.l1 0 3 4 (bl yd1.app)) c0) ?_
     clear hA fr; intro fr hA
     rcases Bool.eq_false_or_eq_true (yd1.app) with h14 | h14
     · rw [h14] at hA
       refine cT hA ?_
       refine rC (e' := [(0, .slice (some ad1) l.length c), (2, str (⟨#[]⟩)), (3, i64 0), (4, str ((bA (((prP (l.map JV.d) i ++ prJP (xl1.map CV.d) k) ++ Lib.join ((yd1.words.take j).map (·.data.toList)) [32]) ++ ([32, 60, 32] ++ yd1.inp.data.toList))) ++ ((⟨#[32, 62, 62, 32]⟩ : ByteArray) ++ yd1.out))), (5, i64 ((i : Nat) : Int)), (6, i64 ((k : Nat) : Int))]) 6 hA [str yd1.out] (cc (hO.l1 0 2 9 (str yd1.out)) (cc ((by first | omega | (simp only [bA_size, ByteArray.size_append, List.length_append, List.length_cons, List.length_nil, size_list]; omega)) : (⟨#[32, 62, 62, 32]⟩ : ByteArray).size + yd1.out.size ≤ 9223372036854775807) (cc ((by first | omega | (simp only [bA_size, ByteArray.size_append, List.length_append, List.length_cons, List.length_nil, size_list]; omega)) : (bA (((prP (l.map JV.d) i ++ prJP (xl1.map CV.d) k) ++ Lib.join ((yd1.words.take j).map (·.data.toList)) [32]) ++ ([32, 60, 32] ++ yd1.inp.data.toList))).size + ((⟨#[32, 62, 62, 32]⟩ : ByteArray) ++ yd1.out).size ≤ 9223372036854775807) c0))) ?_
       clear hA fr; intro fr hA
       rw [show ((bA (((prP (l.map JV.d) i ++ prJP (xl1.map CV.d) k) ++ Lib.join ((yd1.words.take j).map (·.data.toList)) [32]) ++ ([32, 60, 32] ++ yd1.inp.data.toList))) ++ ((⟨#[32, 62, 62, 32]⟩ : ByteArray) ++ yd1.out)) = (bA ((((prP (l.map JV.d) i ++ prJP (xl1.map CV.d) k) ++ Lib.join ((yd1.words.take j).map (·.data.toList)) [32]) ++ ([32, 60, 32] ++ yd1.inp.data.toList)) ++ ([32, 62, 62, 32] ++ yd1.out.data.toList))) from (bA_app _ _).trans (by rw [str_app])] at hA
       refine inBlock_normal ?_
       refine inBlock_normal ?_
       refine then_normal ?_
       refine rC (e' := [(0, .slice (some ad1) l.length c), (2, str (⟨#[]⟩)), (3, i64 0), (4, str (bA ((((prP (l.map JV.d) i ++ prJP (xl1.map CV.d) k) ++ Lib.join ((yd1.words.take j).map (·.data.toList)) [32]) ++ ([32, 60, 32] ++ yd1.inp.data.toList)) ++ ([32, 62, 62, 32] ++ yd1.out.data.toList)))), (5, i64 ((i : Nat) : Int)), (6, i64 (((k : Nat) : Int) + 1))]) 3 hA [bl true] (cc ((inK_i64 (by omega) (by omega)) : inK .i64 (((k : Nat) : Int) + 1)) c0) ?_
       clear hA fr; intro fr hA
       refine then_normal ?_
       rw [show (((prP (l.map JV.d) i ++ prJP (xl1.map CV.d) k) ++ Lib.join ((yd1.words.take j).map (·.data.toList)) [32]) ++ ([32, 60, 32] ++ yd1.inp.data.toList)) ++ ([32, 62, 62, 32] ++ yd1.out.data.toList) = prP (l.map JV.d) i ++ prJP (xl1.map CV.d) (k + 1) by rw [prJP_step hy1, prC_eq (d := yd1) hwl_.1, joinw_end (by omega)]; (first | rw [if_pos (show k = 0 by omega)] | rw [if_neg (show ¬ k = 0 by omega)]); simp_all] at hA
       exact ⟨_, by omega, k + 1, rfl, (hA.sub (e' := [(0, .slice (some ad1) l.length c), (2, str (⟨#[]⟩)), (3, i64 0), (4, str (bA (prP (l.map JV.d) i ++ prJP (xl1.map CV.d) (k + 1)))), (5, i64 ((i : Nat) : Int)), (6, i64 (((k : Nat) : Int) + 1))]) [0, 2, 3, 4, 5, 6] (by kernel_rfl)).cast (by kernel_rfl), (hO.sub []), (by omega), trivial⟩
     rw [h14] at hA
     refine cF hA ?_
     refine sC (e' := [(0, .slice (some ad1) l.length c), (2, str (⟨#[]⟩)), (3, i64 0), (4, str (bA (((prP (l.map JV.d) i ++ prJP (xl1.map CV.d) k) ++ Lib.join ((yd1.words.take j).map (·.data.toList)) [32]) ++ ([32, 60, 32] ++ yd1.inp.data.toList)))), (5, i64 ((i : Nat) : Int)), (6, i64 ((k : Nat) : Int)), (7, pt b1), (77, bl (!(yd1.out.toList == (⟨#[]⟩ : ByteArray).toList)))]) 4 hA [str yd1.out] (cc (hO.l1 0 2 9 (str yd1.out)) c0) ?_
     clear hA fr; intro fr hA
     replace hA := hA.bool (f := fun z_ => [(0, .slice (some ad1) l.length c), (2, str (⟨#[]⟩)), (3, i64 0), (4, str (bA (((prP (l.map JV.d) i ++ prJP (xl1.map CV.d) k) ++ Lib.join ((yd1.words.take j).map (·.data.toList)) [32]) ++ ([32, 60, 32] ++ yd1.inp.data.toList)))), (5, i64 ((i : Nat) : Int)), (6, i64 ((k : Nat) : Int)), (7, pt b1), (77, .bool !z_)]) (str_empty yd1.out : (yd1.out.toList == (⟨#[]⟩ : ByteArray).toList) = (decide (yd1.out.size = 0)))
     rcases Bool.eq_false_or_eq_true (decide (yd1.out.size = 0)) with h15 | h15
     · rw [h15] at hA
       have h15p := of_decide_eq_true h15
       refine cF hA ?_
       refine wp_skip ?_
       refine inBlock_normal ?_
       refine inBlock_normal ?_
       refine then_normal ?_
       refine rC (e' := [(0, .slice (some ad1) l.length c), (2, str (⟨#[]⟩)), (3, i64 0), (4, str (bA (((prP (l.map JV.d) i ++ prJP (xl1.map CV.d) k) ++ Lib.join ((yd1.words.take j).map (·.data.toList)) [32]) ++ ([32, 60, 32] ++ yd1.inp.data.toList)))), (5, i64 ((i : Nat) : Int)), (6, i64 (((k : Nat) : Int) + 1))]) 3 hA [bl true] (cc ((inK_i64 (by omega) (by omega)) : inK .i64 (((k : Nat) : Int) + 1)) c0) ?_
       clear hA fr; intro fr hA
       refine then_normal ?_
       rw [show ((prP (l.map JV.d) i ++ prJP (xl1.map CV.d) k) ++ Lib.join ((yd1.words.take j).map (·.data.toList)) [32]) ++ ([32, 60, 32] ++ yd1.inp.data.toList) = prP (l.map JV.d) i ++ prJP (xl1.map CV.d) (k + 1) by rw [prJP_step hy1, prC_eq (d := yd1) hwl_.1, joinw_end (by omega)]; (first | rw [if_pos (show k = 0 by omega)] | rw [if_neg (show ¬ k = 0 by omega)]); simp_all] at hA
       exact ⟨_, by omega, k + 1, rfl, (hA.sub (e' := [(0, .slice (some ad1) l.length c), (2, str (⟨#[]⟩)), (3, i64 0), (4, str (bA (prP (l.map JV.d) i ++ prJP (xl1.map CV.d) (k + 1)))), (5, i64 ((i : Nat) : Int)), (6, i64 (((k : Nat) : Int) + 1))]) [0, 2, 3, 4, 5, 6] (by kernel_rfl)).cast (by kernel_rfl), (hO.sub []), (by omega), trivial⟩
     rw [h15] at hA
     have h15p := of_decide_eq_false h15
     refine cT hA ?_
     refine rC (e' := [(0, .slice (some ad1) l.length c), (2, str (⟨#[]⟩)), (3, i64 0), (4, str ((bA (((prP (l.map JV.d) i ++ prJP (xl1.map CV.d) k) ++ Lib.join ((yd1.words.take j).map (·.data.toList)) [32]) ++ ([32, 60, 32] ++ yd1.inp.data.toList))) ++ ((⟨#[32, 62, 32]⟩ : ByteArray) ++ yd1.out))), (5, i64 ((i : Nat) : Int)), (6, i64 ((k : Nat) : Int))]) 6 hA [str yd1.out] (cc (hO.l1 0 2 9 (str yd1.out)) (cc ((by first | omega | (simp only [bA_size, ByteArray.size_append, List.length_append, List.length_cons, List.length_nil, size_list]; omega)) : (⟨#[32, 62, 32]⟩ : ByteArray).size + yd1.out.size ≤ 9223372036854775807) (cc ((by first | omega | (simp only [bA_size, ByteArray.size_append, List.length_append, List.length_cons, List.length_nil, size_list]; omega)) : (bA (((prP (l.map JV.d) i ++ prJP (xl1.map CV.d) k) ++ Lib.join ((yd1.words.take j).map (·.data.toList)) [32]) ++ ([32, 60, 32] ++ yd1.inp.data.toList))).size + ((⟨#[32, 62, 32]⟩ : ByteArray) ++ yd1.out).size ≤ 9223372036854775807) c0))) ?_
     clear hA fr; intro fr hA
     rw [show ((bA (((prP (l.map JV.d) i ++ prJP (xl1.map CV.d) k) ++ Lib.join ((yd1.words.take j).map (·.data.toList)) [32]) ++ ([32, 60, 32] ++ yd1.inp.data.toList))) ++ ((⟨#[32, 62, 32]⟩ : ByteArray) ++ yd1.out)) = (bA ((((prP (l.map JV.d) i ++ prJP (xl1.map CV.d) k) ++ Lib.join ((yd1.words.take j).map (·.data.toList)) [32]) ++ ([32, 60, 32] ++ yd1.inp.data.toList)) ++ ([32, 62, 32] ++ yd1.out.data.toList))) from (bA_app _ _).trans (by rw [str_app])] at hA
     refine inBlock_normal ?_
     refine inBlock_normal ?_
     refine then_normal ?_
     refine rC (e' := [(0, .slice (some ad1) l.length c), (2, str (⟨#[]⟩)), (3, i64 0), (4, str (bA ((((prP (l.map JV.d) i ++ prJP (xl1.map CV.d) k) ++ Lib.join ((yd1.words.take j).map (·.data.toList)) [32]) ++ ([32, 60, 32] ++ yd1.inp.data.toList)) ++ ([32, 62, 32] ++ yd1.out.data.toList)))), (5, i64 ((i : Nat) : Int)), (6, i64 (((k : Nat) : Int) + 1))]) 3 hA [bl true] (cc ((inK_i64 (by omega) (by omega)) : inK .i64 (((k : Nat) : Int) + 1)) c0) ?_
     clear hA fr; intro fr hA
     refine then_normal ?_
     rw [show (((prP (l.map JV.d) i ++ prJP (xl1.map CV.d) k) ++ Lib.join ((yd1.words.take j).map (·.data.toList)) [32]) ++ ([32, 60, 32] ++ yd1.inp.data.toList)) ++ ([32, 62, 32] ++ yd1.out.data.toList) = prP (l.map JV.d) i ++ prJP (xl1.map CV.d) (k + 1) by rw [prJP_step hy1, prC_eq (d := yd1) hwl_.1, joinw_end (by omega)]; (first | rw [if_pos (show k = 0 by omega)] | rw [if_neg (show ¬ k = 0 by omega)]); simp_all] at hA
     exact ⟨_, by omega, k + 1, rfl, (hA.sub (e' := [(0, .slice (some ad1) l.length c), (2, str (⟨#[]⟩)), (3, i64 0), (4, str (bA (prP (l.map JV.d) i ++ prJP (xl1.map CV.d) (k + 1)))), (5, i64 ((i : Nat) : Int)), (6, i64 (((k : Nat) : Int) + 1))]) [0, 2, 3, 4, 5, 6] (by kernel_rfl)).cast (by kernel_rfl), (hO.sub []), (by omega), trivial⟩
   rw [h2] at hA
   have h2p := of_decide_eq_false h2
   refine cF hA ?_
   refine wp_exit ?_
   refine then_exit ?_
   refine then_exit ?_
   refine inBlock_exit ?_
   refine then_normal ?_
   refine wp_block ?_
   refine sR (l := (rg 0 13)) ?_
   refine ck (l := (rg 0 6)) (r := (rg 6 7)) (e' := [(0, .slice (some ad1) l.length c), (2, str (⟨#[]⟩)), (3, i64 0), (4, str (bA (prP (l.map JV.d) i ++ prJP (xl1.map CV.d) k))), (5, i64 ((i : Nat) : Int)), (91, bl xb1), (92, bl xb1)]) hA [bl xb1] (cc (⟨by omega, by omega⟩ : (0 : Int) ≤ ((i : Nat) : Int) ∧ ((i : Nat) : Int) < ((l.length : Nat) : Int)) (cc (((hv.1.keep hO.only).ld1 encJ hx1 (k := 1) (by rfl)) : Ld Try.prog w3 ((ad1.add (i * 2)).add 1) 4 (bl xb1)) c0)) ?_
   clear hA fr; intro fr hA
   rcases Bool.eq_false_or_eq_true (xb1) with h16 | h16
   · rw [h16] at hA
     refine ck (l := (rg 6 7)) (r := []) (e' := [(0, .slice (some ad1) l.length c), (2, str (⟨#[]⟩)), (3, i64 0), (4, str (bA (prP (l.map JV.d) i ++ prJP (xl1.map CV.d) k))), (5, i64 ((i : Nat) : Int)), (86, bl (decide (((i : Nat) : Int) < (((l.length : Nat) : Int) - 1))))]) hA [bl true] (cc ((inK_i64 (by omega) (by omega)) : inK .i64 (((l.length : Nat) : Int) - 1)) c0) ?_
     clear hA fr; intro fr hA
     refine end_ops ?_
     refine then_normal ?_
     rcases Bool.eq_false_or_eq_true (decide (((i : Nat) : Int) < (((l.length : Nat) : Int) - 1))) with h17 | h17
     · rw [h17] at hA
       have h17p := of_decide_eq_true h17
       refine cT hA ?_
       refine rC (e' := [(0, .slice (some ad1) l.length c), (2, str (⟨#[]⟩)), (3, i64 0), (4, str ((bA (prP (l.map JV.d) i ++ prJP (xl1.map CV.d) k)) ++ (⟨#[32, 38, 32]⟩ : ByteArray))), (5, i64 ((i : Nat) : Int))]) 3 hA [] (cc ((by first | omega | (simp only [bA_size, ByteArray.size_append, List.length_append, List.length_cons, List.length_nil, size_list]; omega)) : (bA (prP (l.map JV.d) i ++ prJP (xl1.map CV.d) k)).size + (⟨#[32, 38, 32]⟩ : ByteArray).size ≤ 9223372036854775807) c0) ?_
       clear hA fr; intro fr hA
       rw [show ((bA (prP (l.map JV.d) i ++ prJP (xl1.map CV.d) k)) ++ (⟨#[32, 38, 32]⟩ : ByteArray)) = (bA ((prP (l.map JV.d) i ++ prJP (xl1.map CV.d) k) ++ [32, 38, 32])) from bA_app _ _] at hA
       refine inBlock_normal ?_
       refine inBlock_normal ?_
       refine then_normal ?_
       refine rC (e' := [(0, .slice (some ad1) l.length c), (2, str (⟨#[]⟩)), (3, i64 0), (4, str (bA ((prP (l.map JV.d) i ++ prJP (xl1.map CV.d) k) ++ [32, 38, 32]))), (5, i64 (((i : Nat) : Int) + 1))]) 3 hA [bl true] (cc ((inK_i64 (by omega) (by omega)) : inK .i64 (((i : Nat) : Int) + 1)) c0) ?_
       clear hA fr; intro fr hA
       refine then_normal ?_
       rw [show (prP (l.map JV.d) i ++ prJP (xl1.map CV.d) k) ++ [32, 38, 32] = prP (l.map JV.d) (i + 1) by rw [prP_step hx1, show k = xl1.length by omega]; (first | rw [decide_eq_true (show i + 1 = l.length by omega)] | rw [decide_eq_false (show ¬ i + 1 = l.length by omega)]); simp_all [sepJ, List.append_assoc]] at hA
       exact ⟨_, by omega, i + 1, rfl, (hA.sub (e' := [(0, .slice (some ad1) l.length c), (2, str (⟨#[]⟩)), (3, i64 0), (4, str (bA (prP (l.map JV.d) (i + 1)))), (5, i64 (((i : Nat) : Int) + 1))]) [0, 2, 3, 4, 5] (by kernel_rfl)).cast (by kernel_rfl), hO.to, (by omega), trivial⟩
     rw [h17] at hA
     have h17p := of_decide_eq_false h17
     refine cF hA ?_
     refine sC (e' := [(0, .slice (some ad1) l.length c), (2, str (⟨#[]⟩)), (3, i64 0), (4, str (bA (prP (l.map JV.d) i ++ prJP (xl1.map CV.d) k))), (5, i64 ((i : Nat) : Int)), (101, bl xb1)]) 6 hA [bl xb1] (cc (⟨by omega, by omega⟩ : (0 : Int) ≤ ((i : Nat) : Int) ∧ ((i : Nat) : Int) < ((l.length : Nat) : Int)) (cc (((hv.1.keep hO.only).ld1 encJ hx1 (k := 1) (by rfl)) : Ld Try.prog w3 ((ad1.add (i * 2)).add 1) 4 (bl xb1)) c0)) ?_
     clear hA fr; intro fr hA
     rw [(h16 : (xb1) = true)] at hA
     refine cT hA ?_
     refine rC (e' := [(0, .slice (some ad1) l.length c), (2, str (⟨#[]⟩)), (3, i64 0), (4, str ((bA (prP (l.map JV.d) i ++ prJP (xl1.map CV.d) k)) ++ (⟨#[32, 38]⟩ : ByteArray))), (5, i64 ((i : Nat) : Int))]) 3 hA [] (cc ((by first | omega | (simp only [bA_size, ByteArray.size_append, List.length_append, List.length_cons, List.length_nil, size_list]; omega)) : (bA (prP (l.map JV.d) i ++ prJP (xl1.map CV.d) k)).size + (⟨#[32, 38]⟩ : ByteArray).size ≤ 9223372036854775807) c0) ?_
     clear hA fr; intro fr hA
     rw [show ((bA (prP (l.map JV.d) i ++ prJP (xl1.map CV.d) k)) ++ (⟨#[32, 38]⟩ : ByteArray)) = (bA ((prP (l.map JV.d) i ++ prJP (xl1.map CV.d) k) ++ [32, 38])) from bA_app _ _] at hA
     refine inBlock_normal ?_
     refine inBlock_normal ?_
     refine then_normal ?_
     refine rC (e' := [(0, .slice (some ad1) l.length c), (2, str (⟨#[]⟩)), (3, i64 0), (4, str (bA ((prP (l.map JV.d) i ++ prJP (xl1.map CV.d) k) ++ [32, 38]))), (5, i64 (((i : Nat) : Int) + 1))]) 3 hA [bl true] (cc ((inK_i64 (by omega) (by omega)) : inK .i64 (((i : Nat) : Int) + 1)) c0) ?_
     clear hA fr; intro fr hA
     refine then_normal ?_
     rw [show (prP (l.map JV.d) i ++ prJP (xl1.map CV.d) k) ++ [32, 38] = prP (l.map JV.d) (i + 1) by rw [prP_step hx1, show k = xl1.length by omega]; (first | rw [decide_eq_true (show i + 1 = l.length by omega)] | rw [decide_eq_false (show ¬ i + 1 = l.length by omega)]); simp_all [sepJ, List.append_assoc]] at hA
     exact ⟨_, by omega, i + 1, rfl, (hA.sub (e' := [(0, .slice (some ad1) l.length c), (2, str (⟨#[]⟩)), (3, i64 0), (4, str (bA (prP (l.map JV.d) (i + 1)))), (5, i64 (((i : Nat) : Int) + 1))]) [0, 2, 3, 4, 5] (by kernel_rfl)).cast (by kernel_rfl), hO.to, (by omega), trivial⟩
   rw [h16] at hA
   refine ck (l := (rg 6 7)) (r := []) (e' := [(0, .slice (some ad1) l.length c), (2, str (⟨#[]⟩)), (3, i64 0), (4, str (bA (prP (l.map JV.d) i ++ prJP (xl1.map CV.d) k))), (5, i64 ((i : Nat) : Int)), (86, bl false)]) hA [] c0 ?_
   clear hA fr; intro fr hA
   refine end_ops ?_
   refine then_normal ?_
   refine cF hA ?_
   refine sC (e' := [(0, .slice (some ad1) l.length c), (2, str (⟨#[]⟩)), (3, i64 0), (4, str (bA (prP (l.map JV.d) i ++ prJP (xl1.map CV.d) k))), (5, i64 ((i : Nat) : Int)), (101, bl xb1)]) 6 hA [bl xb1] (cc (⟨by omega, by omega⟩ : (0 : Int) ≤ ((i : Nat) : Int) ∧ ((i : Nat) : Int) < ((l.length : Nat) : Int)) (cc (((hv.1.keep hO.only).ld1 encJ hx1 (k := 1) (by rfl)) : Ld Try.prog w3 ((ad1.add (i * 2)).add 1) 4 (bl xb1)) c0)) ?_
   clear hA fr; intro fr hA
   rw [(h16 : (xb1) = false)] at hA
   refine cF hA ?_
   refine sC (e' := [(0, .slice (some ad1) l.length c), (2, str (⟨#[]⟩)), (3, i64 0), (4, str (bA (prP (l.map JV.d) i ++ prJP (xl1.map CV.d) k))), (5, i64 ((i : Nat) : Int)), (109, bl (decide (((i : Nat) : Int) < (((l.length : Nat) : Int) - 1))))]) 6 hA [bl true] (cc ((inK_i64 (by omega) (by omega)) : inK .i64 (((l.length : Nat) : Int) - 1)) c0) ?_
   clear hA fr; intro fr hA
   rcases Bool.eq_false_or_eq_true (decide (((i : Nat) : Int) < (((l.length : Nat) : Int) - 1))) with h18 | h18
   · rw [h18] at hA
     have h18p := of_decide_eq_true h18
     refine cT hA ?_
     refine rC (e' := [(0, .slice (some ad1) l.length c), (2, str (⟨#[]⟩)), (3, i64 0), (4, str ((bA (prP (l.map JV.d) i ++ prJP (xl1.map CV.d) k)) ++ (⟨#[59, 32]⟩ : ByteArray))), (5, i64 ((i : Nat) : Int))]) 3 hA [] (cc ((by first | omega | (simp only [bA_size, ByteArray.size_append, List.length_append, List.length_cons, List.length_nil, size_list]; omega)) : (bA (prP (l.map JV.d) i ++ prJP (xl1.map CV.d) k)).size + (⟨#[59, 32]⟩ : ByteArray).size ≤ 9223372036854775807) c0) ?_
     clear hA fr; intro fr hA
     rw [show ((bA (prP (l.map JV.d) i ++ prJP (xl1.map CV.d) k)) ++ (⟨#[59, 32]⟩ : ByteArray)) = (bA ((prP (l.map JV.d) i ++ prJP (xl1.map CV.d) k) ++ [59, 32])) from bA_app _ _] at hA
     refine inBlock_normal ?_
     refine inBlock_normal ?_
     refine then_normal ?_
     refine rC (e' := [(0, .slice (some ad1) l.length c), (2, str (⟨#[]⟩)), (3, i64 0), (4, str (bA ((prP (l.map JV.d) i ++ prJP (xl1.map CV.d) k) ++ [59, 32]))), (5, i64 (((i : Nat) : Int) + 1))]) 3 hA [bl true] (cc ((inK_i64 (by omega) (by omega)) : inK .i64 (((i : Nat) : Int) + 1)) c0) ?_
     clear hA fr; intro fr hA
     refine then_normal ?_
     rw [show (prP (l.map JV.d) i ++ prJP (xl1.map CV.d) k) ++ [59, 32] = prP (l.map JV.d) (i + 1) by rw [prP_step hx1, show k = xl1.length by omega]; (first | rw [decide_eq_true (show i + 1 = l.length by omega)] | rw [decide_eq_false (show ¬ i + 1 = l.length by omega)]); simp_all [sepJ, List.append_assoc]] at hA
     exact ⟨_, by omega, i + 1, rfl, (hA.sub (e' := [(0, .slice (some ad1) l.length c), (2, str (⟨#[]⟩)), (3, i64 0), (4, str (bA (prP (l.map JV.d) (i + 1)))), (5, i64 (((i : Nat) : Int) + 1))]) [0, 2, 3, 4, 5] (by kernel_rfl)).cast (by kernel_rfl), hO.to, (by omega), trivial⟩
   rw [h18] at hA
   have h18p := of_decide_eq_false h18
   refine cF hA ?_
   refine wp_skip ?_
   refine inBlock_normal ?_
   refine inBlock_normal ?_
   refine then_normal ?_
   refine rC (e' := [(0, .slice (some ad1) l.length c), (2, str (⟨#[]⟩)), (3, i64 0), (4, str (bA (prP (l.map JV.d) i ++ prJP (xl1.map CV.d) k))), (5, i64 (((i : Nat) : Int) + 1))]) 3 hA [bl true] (cc ((inK_i64 (by omega) (by omega)) : inK .i64 (((i : Nat) : Int) + 1)) c0) ?_
   clear hA fr; intro fr hA
   refine then_normal ?_
   rw [show prP (l.map JV.d) i ++ prJP (xl1.map CV.d) k = prP (l.map JV.d) (i + 1) by rw [prP_step hx1, show k = xl1.length by omega]; (first | rw [decide_eq_true (show i + 1 = l.length by omega)] | rw [decide_eq_false (show ¬ i + 1 = l.length by omega)]); simp_all [sepJ, List.append_assoc]] at hA
   exact ⟨_, by omega, i + 1, rfl, (hA.sub (e' := [(0, .slice (some ad1) l.length c), (2, str (⟨#[]⟩)), (3, i64 0), (4, str (bA (prP (l.map JV.d) (i + 1)))), (5, i64 (((i : Nat) : Int) + 1))]) [0, 2, 3, 4, 5] (by kernel_rfl)).cast (by kernel_rfl), hO.to, (by omega), trivial⟩
 rw [h1] at hA
 have h1p := of_decide_eq_false h1
 refine cF hA ?_
 refine wp_exit ?_
 refine then_exit ?_
 refine then_exit ?_
 refine inBlock_exit ?_
 refine then_normal ?_
 refine sC (e' := [(2, str (bA (prP (l.map JV.d) i))), (3, i64 0)]) 3 hA [] c0 ?_
 clear hA fr; intro fr hA
 refine wp_ret ?_
 refine cR (cs := [none, none]) (us := [str (bA (prP (l.map JV.d) i)), i64 0]) hA [] trivial ?_
 have hF := hO.only; clear hA hO
 refine ⟨?_, hF⟩
 unfold prL
 rw [List.length_map, show l.length = i by omega]
 rfl

end Go.Proofs.Ytfhcpegemapbkaa
