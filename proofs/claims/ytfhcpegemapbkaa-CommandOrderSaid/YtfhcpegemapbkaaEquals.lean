/- The layer command: equality of both. -/
import Derived.Test.YtfhcpegemapbkaaReadersb
set_option linter.unusedVariables false
set_option linter.unusedSimpArgs false
set_option maxRecDepth 10000
namespace Go.Proofs.Ytfhcpegemapbkaa
open Go Go.Shelf Go.RowKit Go.Proofs Go.Proofs.Sx

theorem REqual_any (p q : Option Addr) (c e_ : Nat) (a b : List JV) (w : World) (hva : VL w (.slice p a.length c) a) (hvb : VL w (.slice q b.length e_) b) (hsm : smL 1000000 (a.map JV.d)) :
    Calls Try.prog 12 #[.slice p a.length c, .slice q b.length e_] w fun e w' => e = .returned (.bool (eqL (a.map JV.d) (b.map JV.d))) ∧ Only none' w w' := by
 refine c_enter (args := [.slice p a.length c, .slice q b.length e_]) (m := 106) (n := 108) Try.func12 rfl (by kernel_rfl) (by kernel_rfl) fun fr hA => ?_
 have hO := Ow.nil Try.prog none' w
 have hsl := hsm.len
 refine sC (e' := [(0, .slice p a.length c), (1, .slice q b.length e_), (4, bl false)]) 1 hA [] c0 ?_
 clear hA fr; intro fr hA
 refine wp_seq ?_
 refine sC (e' := [(0, .slice p a.length c), (1, .slice q b.length e_), (4, bl false), (16, bl (((a.length : Nat) : Int) != ((b.length : Nat) : Int)))]) 5 hA [] c0 ?_
 clear hA fr; intro fr hA
 rcases Bool.eq_false_or_eq_true (((a.length : Nat) : Int) != ((b.length : Nat) : Int)) with h1 | h1
 · rw [h1] at hA
   have h1p := ne_of_bne h1
   refine cT hA ?_
   refine sC (e' := [(4, bl false)]) 1 hA [] c0 ?_
   clear hA fr; intro fr hA
   refine wp_ret ?_
   refine then_ret ?_
   refine cR (cs := [none]) (us := [bl false]) hA [] trivial ?_
   have hF := hO.only; clear hA hO
   refine ⟨congrArg (fun b => Ending.returned (.bool b)) ?_, hF⟩
   first | exact (eqL_len (by omega)).symm | exact (eqL_yes (eqA_end ho (by omega) (by omega))).symm | (refine (eqL_no hx1 hx2 ?_).symm; first | exact eqJ_bg (by assumption) | exact eqJ_len (by omega) | (refine eqJ_no hy1 hy2 ?_; show eqC yd1 yd2 = false; first | exact eqC_inp (by assumption) | exact eqC_out (by assumption) | exact eqC_app (by assumption) | exact eqC_len (by omega) | exact eqC_word (by assumption) (by assumption) (by assumption)))
 rw [h1] at hA
 have h1p := eq_of_bne_false h1
 refine cF hA ?_
 refine wp_skip ?_
 refine then_normal ?_
 refine wp_seq ?_
 refine sC (e' := [(0, .slice p a.length c), (1, .slice q b.length e_), (4, bl false), (5, i64 0)]) 1 hA [] c0 ?_
 clear hA fr; intro fr hA
 refine wp_block ?_
 refine c_loop (fun mm fr W => ∃ (i : Nat), mm = a.length - i ∧ Holds 108 [] fr [(0, .slice p a.length c), (1, .slice q b.length e_), (4, bl false), (5, i64 ((i : Nat) : Int))] ∧ Ow Try.prog none' w W [] ∧ i ≤ a.length ∧ eqA (fun x y => eqJ x.d y.d) (a.take i) (b.take i) = true ∧ True) ?_ ?_
 · exact ⟨_, 0, rfl, (hA.sub (e' := [(0, .slice p a.length c), (1, .slice q b.length e_), (4, bl false), (5, i64 0)]) [0, 1, 4, 5] (by kernel_rfl)).cast (by kernel_rfl), hO.to, (Nat.zero_le _), rfl, trivial⟩
 rintro _ fr w1 ⟨i, rfl, hA, hO, hi_i, ho, -⟩
 refine wp_seq ?_
 refine sC (e' := [(0, .slice p a.length c), (1, .slice q b.length e_), (4, bl false), (5, i64 ((i : Nat) : Int)), (20, bl (decide (((i : Nat) : Int) < ((a.length : Nat) : Int))))]) 4 hA [] c0 ?_
 clear hA fr; intro fr hA
 rcases Bool.eq_false_or_eq_true (decide (((i : Nat) : Int) < ((a.length : Nat) : Int))) with h2 | h2
 · rw [h2] at hA
   have h2p := of_decide_eq_true h2
   obtain ⟨ad1, rfl⟩ := (hva.1).pos (by omega)
   obtain ⟨⟨xp1, xc1, xl1, xb1⟩, hx1⟩ : ∃ x, a[i]? = some x := ⟨_, getD_at _ JV0 (by omega)⟩
   have hvx1 : Vw fC _ (.slice xp1 xl1.length xc1) xl1 ∧ ∀ y ∈ xl1, VC _ y := hva.2 _ (List.mem_of_getElem? hx1)
   have hsj1 : smJ _ (JV.d ⟨xp1, xc1, xl1, xb1⟩) := hsm.at hx1
   have hsjl1 : xl1.length ≤ _ := smJ.len (x := ⟨xp1, xc1, xl1, xb1⟩) hsj1
   obtain ⟨ad2, rfl⟩ := (hvb.1).pos (by omega)
   obtain ⟨⟨xp2, xc2, xl2, xb2⟩, hx2⟩ : ∃ x, b[i]? = some x := ⟨_, getD_at _ JV0 (by omega)⟩
   have hvx2 : Vw fC _ (.slice xp2 xl2.length xc2) xl2 ∧ ∀ y ∈ xl2, VC _ y := hvb.2 _ (List.mem_of_getElem? hx2)
   refine cT hA ?_
   refine wp_skip ?_
   refine then_normal ?_
   refine wp_seq ?_
   refine wp_block ?_
   refine sJ (fun fr W => ∃ (j1 : Nat) (j2 : Nat), Holds 108 [] fr [(0, .slice (some ad1) a.length c), (1, .slice (some ad2) b.length e_), (4, bl false), (5, i64 ((i : Nat) : Int)), (6, pt j1), (7, pt j2)] ∧ Ow Try.prog none' w W [(j2, 45, [.slice xp2 xl2.length xc2, bl xb2]), (j1, 45, [.slice xp1 xl1.length xc1, bl xb1])] ∧ True) ?_ ?_
   · rintro fr w2 ⟨j1, j2, hA, hO, -⟩
     refine wp_seq ?_
     refine sR (l := (rg 0 14)) ?_
     refine ck (l := (rg 0 6)) (r := (rg 6 8)) (e' := [(0, .slice (some ad1) a.length c), (1, .slice (some ad2) b.length e_), (4, bl false), (5, i64 ((i : Nat) : Int)), (6, pt j1), (7, pt j2), (35, bl (!(xb1 == xb2))), (36, bl (!(xb1 == xb2)))]) hA [bl xb1, bl xb2] (cc (hO.l1 1 1 4 (bl xb1)) (cc (hO.l1 0 1 4 (bl xb2)) c0)) ?_
     clear hA fr; intro fr hA
     rcases Bool.eq_false_or_eq_true (xb1 == xb2) with h3 | h3
     · rw [h3] at hA
       have h3p := eq_of_beq h3
       refine ck (l := (rg 6 8)) (r := []) (e' := [(0, .slice (some ad1) a.length c), (1, .slice (some ad2) b.length e_), (4, bl false), (5, i64 ((i : Nat) : Int)), (6, pt j1), (7, pt j2), (44, bl (((xl1.length : Nat) : Int) != ((xl2.length : Nat) : Int)))]) hA [.slice xp1 xl1.length xc1, .slice xp2 xl2.length xc2] (cc (hO.l1 1 0 43 (.slice xp1 xl1.length xc1)) (cc (hO.l1 0 0 43 (.slice xp2 xl2.length xc2)) c0)) ?_
       clear hA fr; intro fr hA
       refine end_ops ?_
       refine then_normal ?_
       rcases Bool.eq_false_or_eq_true (((xl1.length : Nat) : Int) != ((xl2.length : Nat) : Int)) with h4 | h4
       · rw [h4] at hA
         have h4p := ne_of_bne h4
         refine cT hA ?_
         refine sC (e' := [(0, .slice (some ad1) a.length c), (1, .slice (some ad2) b.length e_), (4, bl false), (5, i64 ((i : Nat) : Int))]) 1 hA [] c0 ?_
         clear hA fr; intro fr hA
         refine wp_ret ?_
         refine then_ret ?_
         refine inBlock_ret ?_
         refine then_ret ?_
         refine then_ret ?_
         refine inBlock_ret ?_
         refine then_ret ?_
         refine cR (cs := [none]) (us := [bl false]) hA [] trivial ?_
         have hF := hO.only; clear hA hO
         refine ⟨congrArg (fun b => Ending.returned (.bool b)) ?_, hF⟩
         first | exact (eqL_len (by omega)).symm | exact (eqL_yes (eqA_end ho (by omega) (by omega))).symm | (refine (eqL_no hx1 hx2 ?_).symm; first | exact eqJ_bg (by assumption) | exact eqJ_len (by omega) | (refine eqJ_no hy1 hy2 ?_; show eqC yd1 yd2 = false; first | exact eqC_inp (by assumption) | exact eqC_out (by assumption) | exact eqC_app (by assumption) | exact eqC_len (by omega) | exact eqC_word (by assumption) (by assumption) (by assumption)))
       rw [h4] at hA
       have h4p := eq_of_bne_false h4
       refine cF hA ?_
       refine wp_skip ?_
       refine then_normal ?_
       refine sC (e' := [(0, .slice (some ad1) a.length c), (1, .slice (some ad2) b.length e_), (4, bl false), (5, i64 ((i : Nat) : Int)), (6, pt j1), (7, pt j2), (8, i64 0)]) 1 hA [] c0 ?_
       clear hA fr; intro fr hA
       refine wp_block ?_
       refine c_loop (fun mm fr W => ∃ (k : Nat), mm = xl1.length - k ∧ Holds 108 [] fr [(0, .slice (some ad1) a.length c), (1, .slice (some ad2) b.length e_), (4, bl false), (5, i64 ((i : Nat) : Int)), (6, pt j1), (7, pt j2), (8, i64 ((k : Nat) : Int))] ∧ Ow Try.prog none' w W [(j2, 45, [.slice xp2 xl2.length xc2, bl xb2]), (j1, 45, [.slice xp1 xl1.length xc1, bl xb1])] ∧ k ≤ xl1.length ∧ eqA (fun x y => eqC x.d y.d) (xl1.take k) (xl2.take k) = true ∧ True) ?_ ?_
       · exact ⟨_, 0, rfl, (hA.sub (e' := [(0, .slice (some ad1) a.length c), (1, .slice (some ad2) b.length e_), (4, bl false), (5, i64 ((i : Nat) : Int)), (6, pt j1), (7, pt j2), (8, i64 0)]) [0, 1, 4, 5, 6, 7, 8] (by kernel_rfl)).cast (by kernel_rfl), hO.to, (Nat.zero_le _), rfl, trivial⟩
       rintro _ fr w3 ⟨k, rfl, hA, hO, hi_k, hok, -⟩
       refine wp_seq ?_
       refine sC (e' := [(0, .slice (some ad1) a.length c), (1, .slice (some ad2) b.length e_), (4, bl false), (5, i64 ((i : Nat) : Int)), (6, pt j1), (7, pt j2), (8, i64 ((k : Nat) : Int)), (49, bl (decide (((k : Nat) : Int) < ((xl1.length : Nat) : Int))))]) 5 hA [.slice xp1 xl1.length xc1] (cc (hO.l1 1 0 43 (.slice xp1 xl1.length xc1)) c0) ?_
       clear hA fr; intro fr hA
       rcases Bool.eq_false_or_eq_true (decide (((k : Nat) : Int) < ((xl1.length : Nat) : Int))) with h5 | h5
       · rw [h5] at hA
         have h5p := of_decide_eq_true h5
         obtain ⟨ad3, rfl⟩ := (hvx1.1).pos (by omega)
         obtain ⟨⟨yp1, yc1, yd1⟩, hy1⟩ : ∃ x, xl1[k]? = some x := ⟨_, getD_at _ CV0 (by omega)⟩
         have hvy1 : Vw fT _ (.slice yp1 yd1.words.length yc1) yd1.words := hvx1.2 _ (List.mem_of_getElem? hy1)
         have hsc1 : smC _ yd1 := smJ.at (x := ⟨_, _, xl1, _⟩) hsj1 hy1
         obtain ⟨-, smi1, smo1, sml1⟩ := id hsc1
         obtain ⟨ad4, rfl⟩ := (hvx2.1).pos (by omega)
         obtain ⟨⟨yp2, yc2, yd2⟩, hy2⟩ : ∃ x, xl2[k]? = some x := ⟨_, getD_at _ CV0 (by omega)⟩
         have hvy2 : Vw fT _ (.slice yp2 yd2.words.length yc2) yd2.words := hvx2.2 _ (List.mem_of_getElem? hy2)
         refine cT hA ?_
         refine wp_skip ?_
         refine then_normal ?_
         refine wp_seq ?_
         refine wp_block ?_
         refine sJ (fun fr W => ∃ (j3 : Nat) (j4 : Nat), Holds 108 [] fr [(0, .slice (some ad1) a.length c), (1, .slice (some ad2) b.length e_), (4, bl false), (5, i64 ((i : Nat) : Int)), (6, pt j1), (7, pt j2), (8, i64 ((k : Nat) : Int)), (9, pt j3), (10, pt j4)] ∧ Ow Try.prog none' w W [(j4, 49, [.slice yp2 yd2.words.length yc2, str yd2.inp, str yd2.out, bl yd2.app]), (j3, 49, [.slice yp1 yd1.words.length yc1, str yd1.inp, str yd1.out, bl yd1.app]), (j2, 45, [.slice (some ad4) xl2.length xc2, bl xb2]), (j1, 45, [.slice (some ad3) xl1.length xc1, bl xb1])] ∧ True) ?_ ?_
         · rintro fr w4 ⟨j3, j4, hA, hO, -⟩
           refine wp_seq ?_
           refine sR (l := (rg 0 28)) ?_
           refine ck (l := (rg 0 6)) (r := (rg 6 22)) (e' := [(0, .slice (some ad1) a.length c), (1, .slice (some ad2) b.length e_), (4, bl false), (5, i64 ((i : Nat) : Int)), (6, pt j1), (7, pt j2), (8, i64 ((k : Nat) : Int)), (9, pt j3), (10, pt j4), (66, bl (!(yd1.inp.toList == yd2.inp.toList))), (67, bl (!(yd1.inp.toList == yd2.inp.toList)))]) hA [str yd1.inp, str yd2.inp] (cc (hO.l1 1 1 9 (str yd1.inp)) (cc (hO.l1 0 1 9 (str yd2.inp)) c0)) ?_
           clear hA fr; intro fr hA
           rcases Bool.eq_false_or_eq_true (yd1.inp.toList == yd2.inp.toList) with h6 | h6
           · rw [h6] at hA
             refine ck (l := (rg 6 7)) (r := (rg 13 15)) (e' := [(0, .slice (some ad1) a.length c), (1, .slice (some ad2) b.length e_), (4, bl false), (5, i64 ((i : Nat) : Int)), (6, pt j1), (7, pt j2), (8, i64 ((k : Nat) : Int)), (9, pt j3), (10, pt j4), (72, bl (!(yd1.out.toList == yd2.out.toList))), (73, bl (!(yd1.out.toList == yd2.out.toList))), (74, bl (!(yd1.out.toList == yd2.out.toList)))]) hA [str yd1.out, str yd2.out] (cc (hO.l1 1 2 9 (str yd1.out)) (cc (hO.l1 0 2 9 (str yd2.out)) c0)) ?_
             clear hA fr; intro fr hA
             rcases Bool.eq_false_or_eq_true (yd1.out.toList == yd2.out.toList) with h7 | h7
             · rw [h7] at hA
               refine ck (l := (rg 13 7)) (r := (rg 20 8)) (e' := [(0, .slice (some ad1) a.length c), (1, .slice (some ad2) b.length e_), (4, bl false), (5, i64 ((i : Nat) : Int)), (6, pt j1), (7, pt j2), (8, i64 ((k : Nat) : Int)), (9, pt j3), (10, pt j4), (79, bl (!(yd1.app == yd2.app))), (80, bl (!(yd1.app == yd2.app))), (81, bl (!(yd1.app == yd2.app)))]) hA [bl yd1.app, bl yd2.app] (cc (hO.l1 1 3 4 (bl yd1.app)) (cc (hO.l1 0 3 4 (bl yd2.app)) c0)) ?_
               clear hA fr; intro fr hA
               rcases Bool.eq_false_or_eq_true (yd1.app == yd2.app) with h8 | h8
               · rw [h8] at hA
                 have h8p := eq_of_beq h8
                 refine ck (l := (rg 20 8)) (r := []) (e' := [(0, .slice (some ad1) a.length c), (1, .slice (some ad2) b.length e_), (4, bl false), (5, i64 ((i : Nat) : Int)), (6, pt j1), (7, pt j2), (8, i64 ((k : Nat) : Int)), (9, pt j3), (10, pt j4), (89, bl (((yd1.words.length : Nat) : Int) != ((yd2.words.length : Nat) : Int)))]) hA [.slice yp1 yd1.words.length yc1, .slice yp2 yd2.words.length yc2] (cc (hO.l1 1 0 47 (.slice yp1 yd1.words.length yc1)) (cc (hO.l1 0 0 47 (.slice yp2 yd2.words.length yc2)) c0)) ?_
                 clear hA fr; intro fr hA
                 refine end_ops ?_
                 refine then_normal ?_
                 rcases Bool.eq_false_or_eq_true (((yd1.words.length : Nat) : Int) != ((yd2.words.length : Nat) : Int)) with h9 | h9
                 · rw [h9] at hA
                   have h9p := ne_of_bne h9
                   refine cT hA ?_
                   refine sC (e' := [(0, .slice (some ad1) a.length c), (1, .slice (some ad2) b.length e_), (4, bl false), (5, i64 ((i : Nat) : Int)), (6, pt j1), (7, pt j2), (8, i64 ((k : Nat) : Int))]) 1 hA [] c0 ?_
                   clear hA fr; intro fr hA
                   refine wp_ret ?_
                   refine then_ret ?_
                   refine inBlock_ret ?_
                   refine then_ret ?_
                   refine then_ret ?_
                   refine inBlock_ret ?_
                   refine inBlock_ret ?_
                   refine then_ret ?_
                   refine then_ret ?_
                   refine inBlock_ret ?_
                   refine then_ret ?_
                   refine cR (cs := [none]) (us := [bl false]) hA [] trivial ?_
                   have hF := hO.only; clear hA hO
                   refine ⟨congrArg (fun b => Ending.returned (.bool b)) ?_, hF⟩
                   first | exact (eqL_len (by omega)).symm | exact (eqL_yes (eqA_end ho (by omega) (by omega))).symm | (refine (eqL_no hx1 hx2 ?_).symm; first | exact eqJ_bg (by assumption) | exact eqJ_len (by omega) | (refine eqJ_no hy1 hy2 ?_; show eqC yd1 yd2 = false; first | exact eqC_inp (by assumption) | exact eqC_out (by assumption) | exact eqC_app (by assumption) | exact eqC_len (by omega) | exact eqC_word (by assumption) (by assumption) (by assumption)))
                 rw [h9] at hA
                 have h9p := eq_of_bne_false h9
                 refine cF hA ?_
                 refine wp_skip ?_
                 refine then_normal ?_
                 refine sC (e' := [(0, .slice (some ad1) a.length c), (1, .slice (some ad2) b.length e_), (4, bl false), (5, i64 ((i : Nat) : Int)), (6, pt j1), (7, pt j2), (8, i64 ((k : Nat) : Int)), (9, pt j3), (10, pt j4), (11, i64 0)]) 1 hA [] c0 ?_
                 clear hA fr; intro fr hA
                 refine wp_block ?_
                 refine c_loop (fun mm fr W => ∃ (j : Nat), mm = yd1.words.length - j ∧ Holds 108 [] fr [(0, .slice (some ad1) a.length c), (1, .slice (some ad2) b.length e_), (4, bl false), (5, i64 ((i : Nat) : Int)), (6, pt j1), (7, pt j2), (8, i64 ((k : Nat) : Int)), (9, pt j3), (10, pt j4), (11, i64 ((j : Nat) : Int))] ∧ Ow Try.prog none' w W [(j4, 49, [.slice yp2 yd2.words.length yc2, str yd2.inp, str yd2.out, bl yd2.app]), (j3, 49, [.slice yp1 yd1.words.length yc1, str yd1.inp, str yd1.out, bl yd1.app]), (j2, 45, [.slice (some ad4) xl2.length xc2, bl xb2]), (j1, 45, [.slice (some ad3) xl1.length xc1, bl xb1])] ∧ j ≤ yd1.words.length ∧ eqA strE (yd1.words.take j) (yd2.words.take j) = true ∧ True) ?_ ?_
                 · exact ⟨_, 0, rfl, (hA.sub (e' := [(0, .slice (some ad1) a.length c), (1, .slice (some ad2) b.length e_), (4, bl false), (5, i64 ((i : Nat) : Int)), (6, pt j1), (7, pt j2), (8, i64 ((k : Nat) : Int)), (9, pt j3), (10, pt j4), (11, i64 0)]) [0, 1, 4, 5, 6, 7, 8, 9, 10, 11] (by kernel_rfl)).cast (by kernel_rfl), hO.to, (Nat.zero_le _), rfl, trivial⟩
                 rintro _ fr w5 ⟨j, rfl, hA, hO, hi_j, hoj, -⟩
                 refine wp_seq ?_
                 refine sC (e' := [(0, .slice (some ad1) a.length c), (1, .slice (some ad2) b.length e_), (4, bl false), (5, i64 ((i : Nat) : Int)), (6, pt j1), (7, pt j2), (8, i64 ((k : Nat) : Int)), (9, pt j3), (10, pt j4), (11, i64 ((j : Nat) : Int)), (94, bl (decide (((j : Nat) : Int) < ((yd1.words.length : Nat) : Int))))]) 5 hA [.slice yp1 yd1.words.length yc1] (cc (hO.l1 1 0 47 (.slice yp1 yd1.words.length yc1)) c0) ?_
                 clear hA fr; intro fr hA
                 rcases Bool.eq_false_or_eq_true (decide (((j : Nat) : Int) < ((yd1.words.length : Nat) : Int))) with h10 | h10
                 · rw [h10] at hA
                   have h10p := of_decide_eq_true h10
                   obtain ⟨ad5, rfl⟩ := (hvy1).pos (by omega)
                   obtain ⟨z1, hz1⟩ : ∃ x, yd1.words[j]? = some x := ⟨_, getD_at _ ⟨#[]⟩ (by omega)⟩
                   obtain ⟨ad6, rfl⟩ := (hvy2).pos (by omega)
                   obtain ⟨z2, hz2⟩ : ∃ x, yd2.words[j]? = some x := ⟨_, getD_at _ ⟨#[]⟩ (by omega)⟩
                   refine cT hA ?_
                   refine wp_skip ?_
                   refine then_normal ?_
                   refine wp_seq ?_
                   refine wp_block ?_
                   refine wp_seq ?_
                   have hS := hO
                   refine rP [(0, true), (1, true), (2, true), (3, true), (4, true), (5, true), (6, true), (7, true), (8, true), (9, true), (10, true)] hS ?_
                   intro w6 ho; replace hO := hO.st ho; clear ho
                   refine ckS (l := (rg 0 11)) (r := []) (e' := [(0, .slice (some ad1) a.length c), (1, .slice (some ad2) b.length e_), (4, bl false), (5, i64 ((i : Nat) : Int)), (6, pt j1), (7, pt j2), (8, i64 ((k : Nat) : Int)), (9, pt j3), (10, pt j4), (11, i64 ((j : Nat) : Int)), (107, bl (!(z1.toList == z2.toList)))]) hA [.slice (some ad5) yd1.words.length yc1, str z1, .slice (some ad6) yd2.words.length yc2, str z2] (cc (hS.s1 1 0 47 (.slice (some ad5) yd1.words.length yc1)) (cc (⟨by omega, by omega⟩ : (0 : Int) ≤ ((j : Nat) : Int) ∧ ((j : Nat) : Int) < ((yd1.words.length : Nat) : Int)) (cc (hS.sx (ad5.add j) 9 (str z1) fun _ hO => ((hvy1.keep hO.only).ldT hz1)) (cc (hS.s1 0 0 47 (.slice (some ad6) yd2.words.length yc2)) (cc (⟨by omega, by omega⟩ : (0 : Int) ≤ ((j : Nat) : Int) ∧ ((j : Nat) : Int) < ((yd2.words.length : Nat) : Int)) (cc (hS.sx (ad6.add j) 9 (str z2) fun _ hO => ((hvy2.keep hO.only).ldT hz2)) c0)))))) ?_
                   clear hA fr; intro fr hA
                   refine end_plan ?_
                   refine then_normal ?_
                   rcases Bool.eq_false_or_eq_true (z1.toList == z2.toList) with h11 | h11
                   · rw [h11] at hA
                     refine cF hA ?_
                     refine wp_skip ?_
                     refine inBlock_normal ?_
                     refine then_normal ?_
                     refine rC (e' := [(0, .slice (some ad1) a.length c), (1, .slice (some ad2) b.length e_), (4, bl false), (5, i64 ((i : Nat) : Int)), (6, pt j1), (7, pt j2), (8, i64 ((k : Nat) : Int)), (9, pt j3), (10, pt j4), (11, i64 (((j : Nat) : Int) + 1))]) 3 hA [bl true] (cc ((inK_i64 (by omega) (by omega)) : inK .i64 (((j : Nat) : Int) + 1)) c0) ?_
                     clear hA fr; intro fr hA
                     refine then_normal ?_
                     exact ⟨_, by omega, j + 1, rfl, (hA.sub (e' := [(0, .slice (some ad1) a.length c), (1, .slice (some ad2) b.length e_), (4, bl false), (5, i64 ((i : Nat) : Int)), (6, pt j1), (7, pt j2), (8, i64 ((k : Nat) : Int)), (9, pt j3), (10, pt j4), (11, i64 (((j : Nat) : Int) + 1))]) [0, 1, 4, 5, 6, 7, 8, 9, 10, 11] (by kernel_rfl)).cast (by kernel_rfl), hO.to, (by omega), (eqA_step (f := strE) (by assumption) (by assumption) (by assumption) hoj), trivial⟩
                   rw [h11] at hA
                   refine cT hA ?_
                   refine sC (e' := [(0, .slice (some ad1) a.length c), (1, .slice (some ad2) b.length e_), (4, bl false), (5, i64 ((i : Nat) : Int)), (6, pt j1), (7, pt j2), (8, i64 ((k : Nat) : Int)), (9, pt j3), (10, pt j4), (11, i64 ((j : Nat) : Int))]) 1 hA [] c0 ?_
                   clear hA fr; intro fr hA
                   refine wp_ret ?_
                   refine inBlock_ret ?_
                   refine then_ret ?_
                   refine then_ret ?_
                   refine inBlock_ret ?_
                   refine inBlock_ret ?_
                   refine then_ret ?_
                   refine then_ret ?_
                   refine inBlock_ret ?_
                   refine inBlock_ret ?_
                   refine then_ret ?_
                   refine then_ret ?_
                   refine inBlock_ret ?_
                   refine then_ret ?_
                   refine cR (cs := [none]) (us := [bl false]) hA [] trivial ?_
                   have hF := hO.only; clear hA hO
                   refine ⟨congrArg (fun b => Ending.returned (.bool b)) ?_, hF⟩
                   first | exact (eqL_len (by omega)).symm | exact (eqL_yes (eqA_end ho (by omega) (by omega))).symm | (refine (eqL_no hx1 hx2 ?_).symm; first | exact eqJ_bg (by assumption) | exact eqJ_len (by omega) | (refine eqJ_no hy1 hy2 ?_; show eqC yd1 yd2 = false; first | exact eqC_inp (by assumption) | exact eqC_out (by assumption) | exact eqC_app (by assumption) | exact eqC_len (by omega) | exact eqC_word (by assumption) (by assumption) (by assumption)))
                 rw [h10] at hA
                 have h10p := of_decide_eq_false h10
                 refine cF hA ?_
                 refine wp_exit ?_
                 refine then_exit ?_
                 refine then_exit ?_
                 refine inBlock_exit ?_
                 refine inBlock_normal ?_
                 refine then_normal ?_
                 refine rC (e' := [(0, .slice (some ad1) a.length c), (1, .slice (some ad2) b.length e_), (4, bl false), (5, i64 ((i : Nat) : Int)), (6, pt j1), (7, pt j2), (8, i64 (((k : Nat) : Int) + 1))]) 3 hA [bl true] (cc ((inK_i64 (by omega) (by omega)) : inK .i64 (((k : Nat) : Int) + 1)) c0) ?_
                 clear hA fr; intro fr hA
                 refine then_normal ?_
                 exact ⟨_, by omega, k + 1, rfl, (hA.sub (e' := [(0, .slice (some ad1) a.length c), (1, .slice (some ad2) b.length e_), (4, bl false), (5, i64 ((i : Nat) : Int)), (6, pt j1), (7, pt j2), (8, i64 (((k : Nat) : Int) + 1))]) [0, 1, 4, 5, 6, 7, 8] (by kernel_rfl)).cast (by kernel_rfl), (hO.sub [2, 3]), (by omega), (eqA_step (f := (fun x y => eqC x.d y.d)) (show eqC yd1 yd2 = true from eqC_yes (by assumption) (by assumption) (by assumption) (eqA_end hoj (by omega) (by omega))) hy1 hy2 hok), trivial⟩
               rw [h8] at hA
               have h8p := ne_of_beq_false h8
               refine ck (l := (rg 20 8)) (r := []) (e' := [(0, .slice (some ad1) a.length c), (1, .slice (some ad2) b.length e_), (4, bl false), (5, i64 ((i : Nat) : Int)), (6, pt j1), (7, pt j2), (8, i64 ((k : Nat) : Int)), (9, pt j3), (10, pt j4), (89, bl true)]) hA [] c0 ?_
               clear hA fr; intro fr hA
               refine end_ops ?_
               refine then_normal ?_
               refine cT hA ?_
               refine sC (e' := [(0, .slice (some ad1) a.length c), (1, .slice (some ad2) b.length e_), (4, bl false), (5, i64 ((i : Nat) : Int)), (6, pt j1), (7, pt j2), (8, i64 ((k : Nat) : Int))]) 1 hA [] c0 ?_
               clear hA fr; intro fr hA
               refine wp_ret ?_
               refine then_ret ?_
               refine inBlock_ret ?_
               refine then_ret ?_
               refine then_ret ?_
               refine inBlock_ret ?_
               refine inBlock_ret ?_
               refine then_ret ?_
               refine then_ret ?_
               refine inBlock_ret ?_
               refine then_ret ?_
               refine cR (cs := [none]) (us := [bl false]) hA [] trivial ?_
               have hF := hO.only; clear hA hO
               refine ⟨congrArg (fun b => Ending.returned (.bool b)) ?_, hF⟩
               first | exact (eqL_len (by omega)).symm | exact (eqL_yes (eqA_end ho (by omega) (by omega))).symm | (refine (eqL_no hx1 hx2 ?_).symm; first | exact eqJ_bg (by assumption) | exact eqJ_len (by omega) | (refine eqJ_no hy1 hy2 ?_; show eqC yd1 yd2 = false; first | exact eqC_inp (by assumption) | exact eqC_out (by assumption) | exact eqC_app (by assumption) | exact eqC_len (by omega) | exact eqC_word (by assumption) (by assumption) (by assumption)))
             rw [h7] at hA
             refine ck (l := (rg 13 15)) (r := []) (e' := [(0, .slice (some ad1) a.length c), (1, .slice (some ad2) b.length e_), (4, bl false), (5, i64 ((i : Nat) : Int)), (6, pt j1), (7, pt j2), (8, i64 ((k : Nat) : Int)), (9, pt j3), (10, pt j4), (89, bl true)]) hA [] c0 ?_
             clear hA fr; intro fr hA
             refine end_ops ?_
             refine then_normal ?_
             refine cT hA ?_
             refine sC (e' := [(0, .slice (some ad1) a.length c), (1, .slice (some ad2) b.length e_), (4, bl false), (5, i64 ((i : Nat) : Int)), (6, pt j1), (7, pt j2), (8, i64 ((k : Nat) : Int))]) 1 hA [] c0 ?_
             clear hA fr; intro fr hA
             refine wp_ret ?_
             refine then_ret ?_
             refine inBlock_ret ?_
             refine then_ret ?_
             refine then_ret ?_
             refine inBlock_ret ?_
             refine inBlock_ret ?_
             refine then_ret ?_
             refine then_ret ?_
             refine inBlock_ret ?_
             refine then_ret ?_
             refine cR (cs := [none]) (us := [bl false]) hA [] trivial ?_
             have hF := hO.only; clear hA hO
             refine ⟨congrArg (fun b => Ending.returned (.bool b)) ?_, hF⟩
             first | exact (eqL_len (by omega)).symm | exact (eqL_yes (eqA_end ho (by omega) (by omega))).symm | (refine (eqL_no hx1 hx2 ?_).symm; first | exact eqJ_bg (by assumption) | exact eqJ_len (by omega) | (refine eqJ_no hy1 hy2 ?_; show eqC yd1 yd2 = false; first | exact eqC_inp (by assumption) | exact eqC_out (by assumption) | exact eqC_app (by assumption) | exact eqC_len (by omega) | exact eqC_word (by assumption) (by assumption) (by assumption)))
           rw [h6] at hA
           refine ck (l := (rg 6 22)) (r := []) (e' := [(0, .slice (some ad1) a.length c), (1, .slice (some ad2) b.length e_), (4, bl false), (5, i64 ((i : Nat) : Int)), (6, pt j1), (7, pt j2), (8, i64 ((k : Nat) : Int)), (9, pt j3), (10, pt j4), (89, bl true)]) hA [] c0 ?_
           clear hA fr; intro fr hA
           refine end_ops ?_
           refine then_normal ?_
           refine cT hA ?_
           refine sC (e' := [(0, .slice (some ad1) a.length c), (1, .slice (some ad2) b.length e_), (4, bl false), (5, i64 ((i : Nat) : Int)), (6, pt j1), (7, pt j2), (8, i64 ((k : Nat) : Int))]) 1 hA [] c0 ?_
           clear hA fr; intro fr hA
           refine wp_ret ?_
           refine then_ret ?_
           refine inBlock_ret ?_
           refine then_ret ?_
           refine then_ret ?_
           refine inBlock_ret ?_
           refine inBlock_ret ?_
           refine then_ret ?_
           refine then_ret ?_
           refine inBlock_ret ?_
           refine then_ret ?_
           refine cR (cs := [none]) (us := [bl false]) hA [] trivial ?_
           have hF := hO.only; clear hA hO
           refine ⟨congrArg (fun b => Ending.returned (.bool b)) ?_, hF⟩
           first | exact (eqL_len (by omega)).symm | exact (eqL_yes (eqA_end ho (by omega) (by omega))).symm | (refine (eqL_no hx1 hx2 ?_).symm; first | exact eqJ_bg (by assumption) | exact eqJ_len (by omega) | (refine eqJ_no hy1 hy2 ?_; show eqC yd1 yd2 = false; first | exact eqC_inp (by assumption) | exact eqC_out (by assumption) | exact eqC_app (by assumption) | exact eqC_len (by omega) | exact eqC_word (by assumption) (by assumption) (by assumption)))
         have hS := hO
         refine rT (.q 0 (.q 1 (.q 2 (.q 3 (.q 4 (.q 5 (.q 6 (.q 7 (.q 8 (.q 9 (.m 10 (.m 11 (.m 12 (.m 13 .fin .non) .non) .non) (.m 11 (.m 10 (.m 12 (.m 13 .fin .non) .non) .non) .non)))))))))))) hS ?_
         intro w7 ho; replace hO := hO.st ho; clear ho
         refine ckT (l := [0, 1, 2, 3, 4, 5, 6, 7, 8, 9]) (e' := [(0, .slice (some ad1) a.length c), (1, .slice (some ad2) b.length e_), (4, bl false), (5, i64 ((i : Nat) : Int)), (6, pt j1), (7, pt j2), (8, i64 ((k : Nat) : Int)), (56, .agg #[.slice yp1 yd1.words.length yc1, str yd1.inp, str yd1.out, bl yd1.app]), (61, .agg #[.slice yp2 yd2.words.length yc2, str yd2.inp, str yd2.out, bl yd2.app])]) hA [.slice (some ad3) xl1.length xc1, .agg #[.slice yp1 yd1.words.length yc1, str yd1.inp, str yd1.out, bl yd1.app], .slice (some ad4) xl2.length xc2, .agg #[.slice yp2 yd2.words.length yc2, str yd2.inp, str yd2.out, bl yd2.app]] (cc (hS.s1 1 0 43 (.slice (some ad3) xl1.length xc1)) (cc (⟨by omega, by omega⟩ : (0 : Int) ≤ ((k : Nat) : Int) ∧ ((k : Nat) : Int) < ((xl1.length : Nat) : Int)) (cc (hS.sx (ad3.add (k * 4)) 49 (.agg #[.slice yp1 yd1.words.length yc1, str yd1.inp, str yd1.out, bl yd1.app]) fun _ hO => ((hvx1.1.keep hO.only).ldn encC hy1)) (cc (hS.s1 0 0 43 (.slice (some ad4) xl2.length xc2)) (cc (⟨by omega, by omega⟩ : (0 : Int) ≤ ((k : Nat) : Int) ∧ ((k : Nat) : Int) < ((xl2.length : Nat) : Int)) (cc (hS.sx (ad4.add (k * 4)) 49 (.agg #[.slice yp2 yd2.words.length yc2, str yd2.inp, str yd2.out, bl yd2.app]) fun _ hO => ((hvx2.1.keep hO.only).ldn encC hy2)) c0)))))) ?_
         clear hA fr; intro fr hA
         refine tree_mem ?_ ?_
         · refine (mN (l := [.slice none 0 0, str (⟨#[]⟩), str (⟨#[]⟩), bl false]) (t := 49) (v := pt) (d := 9) hA hO ?_)
           clear hA hO fr; intro fr w8 b1 hA hO
           refine ⟨(hO.sub [1, 2]), ?_⟩
           replace hA := hA.sb (e' := [(0, .slice (some ad1) a.length c), (1, .slice (some ad2) b.length e_), (4, bl false), (5, i64 ((i : Nat) : Int)), (6, pt j1), (7, pt j2), (8, i64 ((k : Nat) : Int)), (9, pt b1), (56, .agg #[.slice yp1 yd1.words.length yc1, str yd1.inp, str yd1.out, bl yd1.app]), (61, .agg #[.slice yp2 yd2.words.length yc2, str yd2.inp, str yd2.out, bl yd2.app])])
           refine tree_mem ?_ ?_
           · refine (mN (l := [.slice none 0 0, str (⟨#[]⟩), str (⟨#[]⟩), bl false]) (t := 49) (v := pt) (d := 10) hA hO ?_)
             clear hA hO fr; intro fr w9 b2 hA hO
             refine ⟨(hO.sub [2, 3]), ?_⟩
             replace hA := hA.sb (e' := [(0, .slice (some ad1) a.length c), (1, .slice (some ad2) b.length e_), (4, bl false), (5, i64 ((i : Nat) : Int)), (6, pt j1), (7, pt j2), (8, i64 ((k : Nat) : Int)), (9, pt b1), (10, pt b2), (56, .agg #[.slice yp1 yd1.words.length yc1, str yd1.inp, str yd1.out, bl yd1.app]), (61, .agg #[.slice yp2 yd2.words.length yc2, str yd2.inp, str yd2.out, bl yd2.app])])
             refine tree_mem ?_ ?_
             · refine (mS (off := 0) (vc := [.slice yp1 yd1.words.length yc1, str yd1.inp, str yd1.out, bl yd1.app]) 1 hA hO ?_)
               clear hO; intro w10 hO
               refine ⟨(hO.sub [2, 3]), ?_⟩
               replace hA := hA.sb (e' := [(0, .slice (some ad1) a.length c), (1, .slice (some ad2) b.length e_), (4, bl false), (5, i64 ((i : Nat) : Int)), (6, pt j1), (7, pt j2), (8, i64 ((k : Nat) : Int)), (9, pt b1), (10, pt b2), (61, .agg #[.slice yp2 yd2.words.length yc2, str yd2.inp, str yd2.out, bl yd2.app])])
               refine tree_mem ?_ ?_
               · refine (mS (off := 0) (vc := [.slice yp2 yd2.words.length yc2, str yd2.inp, str yd2.out, bl yd2.app]) 0 hA hO ?_)
                 clear hO; intro w11 hO
                 refine ⟨(hO.sub [2, 3]), ?_⟩
                 replace hA := hA.sb (e' := [(0, .slice (some ad1) a.length c), (1, .slice (some ad2) b.length e_), (4, bl false), (5, i64 ((i : Nat) : Int)), (6, pt j1), (7, pt j2), (8, i64 ((k : Nat) : Int)), (9, pt b1), (10, pt b2)])
                 refine tree_fin ?_
                 refine then_normal ?_
                 exact ⟨b1, b2, hA.sb, hO.to, trivial⟩
               exact trivial
             exact trivial
           exact trivial
         refine tree_mem ?_ ?_
         · refine (mN (l := [.slice none 0 0, str (⟨#[]⟩), str (⟨#[]⟩), bl false]) (t := 49) (v := pt) (d := 10) hA hO ?_)
           clear hA hO fr; intro fr w12 b3 hA hO
           refine ⟨(hO.sub [1, 2]), ?_⟩
           replace hA := hA.sb (e' := [(0, .slice (some ad1) a.length c), (1, .slice (some ad2) b.length e_), (4, bl false), (5, i64 ((i : Nat) : Int)), (6, pt j1), (7, pt j2), (8, i64 ((k : Nat) : Int)), (10, pt b3), (56, .agg #[.slice yp1 yd1.words.length yc1, str yd1.inp, str yd1.out, bl yd1.app]), (61, .agg #[.slice yp2 yd2.words.length yc2, str yd2.inp, str yd2.out, bl yd2.app])])
           refine tree_mem ?_ ?_
           · refine (mN (l := [.slice none 0 0, str (⟨#[]⟩), str (⟨#[]⟩), bl false]) (t := 49) (v := pt) (d := 9) hA hO ?_)
             clear hA hO fr; intro fr w13 b4 hA hO
             refine ⟨(hO.sub [2, 3]), ?_⟩
             replace hA := hA.sb (e' := [(0, .slice (some ad1) a.length c), (1, .slice (some ad2) b.length e_), (4, bl false), (5, i64 ((i : Nat) : Int)), (6, pt j1), (7, pt j2), (8, i64 ((k : Nat) : Int)), (9, pt b4), (10, pt b3), (56, .agg #[.slice yp1 yd1.words.length yc1, str yd1.inp, str yd1.out, bl yd1.app]), (61, .agg #[.slice yp2 yd2.words.length yc2, str yd2.inp, str yd2.out, bl yd2.app])])
             refine tree_mem ?_ ?_
             · refine (mS (off := 0) (vc := [.slice yp1 yd1.words.length yc1, str yd1.inp, str yd1.out, bl yd1.app]) 0 hA hO ?_)
               clear hO; intro w14 hO
               refine ⟨(hO.sub [2, 3]), ?_⟩
               replace hA := hA.sb (e' := [(0, .slice (some ad1) a.length c), (1, .slice (some ad2) b.length e_), (4, bl false), (5, i64 ((i : Nat) : Int)), (6, pt j1), (7, pt j2), (8, i64 ((k : Nat) : Int)), (9, pt b4), (10, pt b3), (61, .agg #[.slice yp2 yd2.words.length yc2, str yd2.inp, str yd2.out, bl yd2.app])])
               refine tree_mem ?_ ?_
               · refine (mS (off := 0) (vc := [.slice yp2 yd2.words.length yc2, str yd2.inp, str yd2.out, bl yd2.app]) 1 hA hO ?_)
                 clear hO; intro w15 hO
                 refine ⟨(hO.sub [2, 3]), ?_⟩
                 replace hA := hA.sb (e' := [(0, .slice (some ad1) a.length c), (1, .slice (some ad2) b.length e_), (4, bl false), (5, i64 ((i : Nat) : Int)), (6, pt j1), (7, pt j2), (8, i64 ((k : Nat) : Int)), (9, pt b4), (10, pt b3)])
                 refine tree_fin ?_
                 refine then_normal ?_
                 exact ⟨b4, b3, hA.sb, (hO.sub [1, 0, 2, 3]), trivial⟩
               exact trivial
             exact trivial
           exact trivial
         exact trivial
       rw [h5] at hA
       have h5p := of_decide_eq_false h5
       refine cF hA ?_
       refine wp_exit ?_
       refine then_exit ?_
       refine then_exit ?_
       refine inBlock_exit ?_
       refine inBlock_normal ?_
       refine then_normal ?_
       refine rC (e' := [(0, .slice (some ad1) a.length c), (1, .slice (some ad2) b.length e_), (4, bl false), (5, i64 (((i : Nat) : Int) + 1))]) 3 hA [bl true] (cc ((inK_i64 (by omega) (by omega)) : inK .i64 (((i : Nat) : Int) + 1)) c0) ?_
       clear hA fr; intro fr hA
       refine then_normal ?_
       exact ⟨_, by omega, i + 1, rfl, (hA.sub (e' := [(0, .slice (some ad1) a.length c), (1, .slice (some ad2) b.length e_), (4, bl false), (5, i64 (((i : Nat) : Int) + 1))]) [0, 1, 4, 5] (by kernel_rfl)).cast (by kernel_rfl), (hO.sub []), (by omega), (eqA_step (f := (fun x y => eqJ x.d y.d)) (eqJ_yes (by assumption) (eqA_end hok (by omega) (by omega))) hx1 hx2 ho), trivial⟩
     rw [h3] at hA
     have h3p := ne_of_beq_false h3
     refine ck (l := (rg 6 8)) (r := []) (e' := [(0, .slice (some ad1) a.length c), (1, .slice (some ad2) b.length e_), (4, bl false), (5, i64 ((i : Nat) : Int)), (6, pt j1), (7, pt j2), (44, bl true)]) hA [] c0 ?_
     clear hA fr; intro fr hA
     refine end_ops ?_
     refine then_normal ?_
     refine cT hA ?_
     refine sC (e' := [(0, .slice (some ad1) a.length c), (1, .slice (some ad2) b.length e_), (4, bl false), (5, i64 ((i : Nat) : Int))]) 1 hA [] c0 ?_
     clear hA fr; intro fr hA
     refine wp_ret ?_
     refine then_ret ?_
     refine inBlock_ret ?_
     refine then_ret ?_
     refine then_ret ?_
     refine inBlock_ret ?_
     refine then_ret ?_
     refine cR (cs := [none]) (us := [bl false]) hA [] trivial ?_
     have hF := hO.only; clear hA hO
     refine ⟨congrArg (fun b => Ending.returned (.bool b)) ?_, hF⟩
     first | exact (eqL_len (by omega)).symm | exact (eqL_yes (eqA_end ho (by omega) (by omega))).symm | (refine (eqL_no hx1 hx2 ?_).symm; first | exact eqJ_bg (by assumption) | exact eqJ_len (by omega) | (refine eqJ_no hy1 hy2 ?_; show eqC yd1 yd2 = false; first | exact eqC_inp (by assumption) | exact eqC_out (by assumption) | exact eqC_app (by assumption) | exact eqC_len (by omega) | exact eqC_word (by assumption) (by assumption) (by assumption)))
   have hS := hO
   refine rT (.q 0 (.q 1 (.q 2 (.q 3 (.q 4 (.q 5 (.q 6 (.q 7 (.m 8 (.m 9 (.m 10 (.m 11 .fin .non) .non) .non) (.m 9 (.m 8 (.m 10 (.m 11 .fin .non) .non) .non) .non)))))))))) hS ?_
   intro w16 ho; replace hO := hO.st ho; clear ho
   refine ckT (l := [0, 1, 2, 3, 4, 5, 6, 7]) (e' := [(0, .slice (some ad1) a.length c), (1, .slice (some ad2) b.length e_), (4, bl false), (5, i64 ((i : Nat) : Int)), (26, .agg #[.slice xp1 xl1.length xc1, bl xb1]), (30, .agg #[.slice xp2 xl2.length xc2, bl xb2])]) hA [.agg #[.slice xp1 xl1.length xc1, bl xb1], .agg #[.slice xp2 xl2.length xc2, bl xb2]] (cc (⟨by omega, by omega⟩ : (0 : Int) ≤ ((i : Nat) : Int) ∧ ((i : Nat) : Int) < ((a.length : Nat) : Int)) (cc (hS.sx (ad1.add (i * 2)) 45 (.agg #[.slice xp1 xl1.length xc1, bl xb1]) fun _ hO => ((hva.1.keep hO.only).ldn encJ hx1)) (cc (⟨by omega, by omega⟩ : (0 : Int) ≤ ((i : Nat) : Int) ∧ ((i : Nat) : Int) < ((b.length : Nat) : Int)) (cc (hS.sx (ad2.add (i * 2)) 45 (.agg #[.slice xp2 xl2.length xc2, bl xb2]) fun _ hO => ((hvb.1.keep hO.only).ldn encJ hx2)) c0)))) ?_
   clear hA fr; intro fr hA
   refine tree_mem ?_ ?_
   · refine (mN (l := [.slice none 0 0, bl false]) (t := 45) (v := pt) (d := 6) hA hO ?_)
     clear hA hO fr; intro fr w17 b5 hA hO
     refine ⟨(hO.sub []), ?_⟩
     replace hA := hA.sb (e' := [(0, .slice (some ad1) a.length c), (1, .slice (some ad2) b.length e_), (4, bl false), (5, i64 ((i : Nat) : Int)), (6, pt b5), (26, .agg #[.slice xp1 xl1.length xc1, bl xb1]), (30, .agg #[.slice xp2 xl2.length xc2, bl xb2])])
     refine tree_mem ?_ ?_
     · refine (mN (l := [.slice none 0 0, bl false]) (t := 45) (v := pt) (d := 7) hA hO ?_)
       clear hA hO fr; intro fr w18 b6 hA hO
       refine ⟨(hO.sub []), ?_⟩
       replace hA := hA.sb (e' := [(0, .slice (some ad1) a.length c), (1, .slice (some ad2) b.length e_), (4, bl false), (5, i64 ((i : Nat) : Int)), (6, pt b5), (7, pt b6), (26, .agg #[.slice xp1 xl1.length xc1, bl xb1]), (30, .agg #[.slice xp2 xl2.length xc2, bl xb2])])
       refine tree_mem ?_ ?_
       · refine (mS (off := 0) (vc := [.slice xp1 xl1.length xc1, bl xb1]) 1 hA hO ?_)
         clear hO; intro w19 hO
         refine ⟨(hO.sub []), ?_⟩
         replace hA := hA.sb (e' := [(0, .slice (some ad1) a.length c), (1, .slice (some ad2) b.length e_), (4, bl false), (5, i64 ((i : Nat) : Int)), (6, pt b5), (7, pt b6), (30, .agg #[.slice xp2 xl2.length xc2, bl xb2])])
         refine tree_mem ?_ ?_
         · refine (mS (off := 0) (vc := [.slice xp2 xl2.length xc2, bl xb2]) 0 hA hO ?_)
           clear hO; intro w20 hO
           refine ⟨(hO.sub []), ?_⟩
           replace hA := hA.sb (e' := [(0, .slice (some ad1) a.length c), (1, .slice (some ad2) b.length e_), (4, bl false), (5, i64 ((i : Nat) : Int)), (6, pt b5), (7, pt b6)])
           refine tree_fin ?_
           refine then_normal ?_
           exact ⟨b5, b6, hA.sb, hO.to, trivial⟩
         exact trivial
       exact trivial
     exact trivial
   refine tree_mem ?_ ?_
   · refine (mN (l := [.slice none 0 0, bl false]) (t := 45) (v := pt) (d := 7) hA hO ?_)
     clear hA hO fr; intro fr w21 b7 hA hO
     refine ⟨(hO.sub []), ?_⟩
     replace hA := hA.sb (e' := [(0, .slice (some ad1) a.length c), (1, .slice (some ad2) b.length e_), (4, bl false), (5, i64 ((i : Nat) : Int)), (7, pt b7), (26, .agg #[.slice xp1 xl1.length xc1, bl xb1]), (30, .agg #[.slice xp2 xl2.length xc2, bl xb2])])
     refine tree_mem ?_ ?_
     · refine (mN (l := [.slice none 0 0, bl false]) (t := 45) (v := pt) (d := 6) hA hO ?_)
       clear hA hO fr; intro fr w22 b8 hA hO
       refine ⟨(hO.sub []), ?_⟩
       replace hA := hA.sb (e' := [(0, .slice (some ad1) a.length c), (1, .slice (some ad2) b.length e_), (4, bl false), (5, i64 ((i : Nat) : Int)), (6, pt b8), (7, pt b7), (26, .agg #[.slice xp1 xl1.length xc1, bl xb1]), (30, .agg #[.slice xp2 xl2.length xc2, bl xb2])])
       refine tree_mem ?_ ?_
       · refine (mS (off := 0) (vc := [.slice xp1 xl1.length xc1, bl xb1]) 0 hA hO ?_)
         clear hO; intro w23 hO
         refine ⟨(hO.sub []), ?_⟩
         replace hA := hA.sb (e' := [(0, .slice (some ad1) a.length c), (1, .slice (some ad2) b.length e_), (4, bl false), (5, i64 ((i : Nat) : Int)), (6, pt b8), (7, pt b7), (30, .agg #[.slice xp2 xl2.length xc2, bl xb2])])
         refine tree_mem ?_ ?_
         · refine (mS (off := 0) (vc := [.slice xp2 xl2.length xc2, bl xb2]) 1 hA hO ?_)
           clear hO; intro w24 hO
           refine ⟨(hO.sub []), ?_⟩
           replace hA := hA.sb (e' := [(0, .slice (some ad1) a.length c), (1, .slice (some ad2) b.length e_), (4, bl false), (5, i64 ((i : Nat) : Int)), (6, pt b8), (7, pt b7)])
           refine tree_fin ?_
           refine then_normal ?_
           exact ⟨b8, b7, hA.sb, (hO.sub [1, 0]), trivial⟩
         exact trivial
       exact trivial
     exact trivial
   exact trivial
 rw [h2] at hA
 have h2p := of_decide_eq_false h2
 refine cF hA ?_
 refine wp_exit ?_
 refine then_exit ?_
 refine then_exit ?_
 refine inBlock_exit ?_
 refine then_normal ?_
 refine sC (e' := [(4, bl true)]) 1 hA [] c0 ?_
 clear hA fr; intro fr hA
 refine wp_ret ?_
 refine cR (cs := [none]) (us := [bl true]) hA [] trivial ?_
 have hF := hO.only; clear hA hO
 refine ⟨congrArg (fun b => Ending.returned (.bool b)) ?_, hF⟩
 first | exact (eqL_len (by omega)).symm | exact (eqL_yes (eqA_end ho (by omega) (by omega))).symm | (refine (eqL_no hx1 hx2 ?_).symm; first | exact eqJ_bg (by assumption) | exact eqJ_len (by omega) | (refine eqJ_no hy1 hy2 ?_; show eqC yd1 yd2 = false; first | exact eqC_inp (by assumption) | exact eqC_out (by assumption) | exact eqC_app (by assumption) | exact eqC_len (by omega) | exact eqC_word (by assumption) (by assumption) (by assumption)))

theorem words_eq (p q : Option Addr) (c e_ : Nat) (us vs : List ByteArray) (w : World) (hx : Vw fT w (.slice p us.length c) us) (hy : Vw fT w (.slice q vs.length e_) vs) (hl : us.length ≤ 1000000) :
    Calls Try.prog 39 #[.slice p us.length c, .slice q vs.length e_] w fun e w' => e = .returned (.bool (eqA strE us vs)) ∧ Only none' w w' := by
 refine c_enter (args := [.slice p us.length c, .slice q vs.length e_]) (m := 24) (n := 26) Try.func39 rfl (by kernel_rfl) (by kernel_rfl) fun fr hA => ?_
 have hO := Ow.nil Try.prog none' w
 refine sC (e' := [(0, .slice p us.length c), (1, .slice q vs.length e_), (4, bl false)]) 1 hA [] c0 ?_
 clear hA fr; intro fr hA
 refine wp_seq ?_
 refine sC (e' := [(0, .slice p us.length c), (1, .slice q vs.length e_), (4, bl false), (10, bl (((us.length : Nat) : Int) != ((vs.length : Nat) : Int)))]) 5 hA [] c0 ?_
 clear hA fr; intro fr hA
 rcases Bool.eq_false_or_eq_true (((us.length : Nat) : Int) != ((vs.length : Nat) : Int)) with h1 | h1
 · rw [h1] at hA
   have h1p := ne_of_bne h1
   refine cT hA ?_
   refine sC (e' := [(4, bl false)]) 1 hA [] c0 ?_
   clear hA fr; intro fr hA
   refine wp_ret ?_
   refine then_ret ?_
   refine cR (cs := [none]) (us := [bl false]) hA [] trivial ?_
   have hF := hO.only; clear hA hO
   refine ⟨congrArg (fun b => Ending.returned (.bool b)) ?_, hF⟩
   first | exact (eqA_len (by omega)).symm | exact (eqA_end hoj (by omega) (by omega)).symm | exact (eqA_no (i := j) (f := strE) (by assumption) (by assumption) (by assumption)).symm
 rw [h1] at hA
 have h1p := eq_of_bne_false h1
 refine cF hA ?_
 refine wp_skip ?_
 refine then_normal ?_
 refine wp_seq ?_
 refine sC (e' := [(0, .slice p us.length c), (1, .slice q vs.length e_), (4, bl false), (12, i64 ((us.length : Nat) : Int)), (13, i64 0)]) 3 hA [] c0 ?_
 clear hA fr; intro fr hA
 refine wp_block ?_
 refine c_loop (fun mm fr W => ∃ (j : Nat), mm = us.length - j ∧ Holds 26 [] fr [(0, .slice p us.length c), (1, .slice q vs.length e_), (4, bl false), (12, i64 ((us.length : Nat) : Int)), (13, i64 ((j : Nat) : Int))] ∧ Ow Try.prog none' w W [] ∧ j ≤ us.length ∧ eqA strE (us.take j) (vs.take j) = true ∧ True) ?_ ?_
 · exact ⟨_, 0, rfl, (hA.sub (e' := [(0, .slice p us.length c), (1, .slice q vs.length e_), (4, bl false), (12, i64 ((us.length : Nat) : Int)), (13, i64 0)]) [0, 1, 4, 12, 13] (by kernel_rfl)).cast (by kernel_rfl), hO.to, (Nat.zero_le _), rfl, trivial⟩
 rintro _ fr w1 ⟨j, rfl, hA, hO, hi_j, hoj, -⟩
 refine sC (e' := [(0, .slice p us.length c), (1, .slice q vs.length e_), (4, bl false), (12, i64 ((us.length : Nat) : Int)), (13, i64 ((j : Nat) : Int)), (14, bl (decide (((j : Nat) : Int) < ((us.length : Nat) : Int))))]) 1 hA [] c0 ?_
 clear hA fr; intro fr hA
 refine wp_seq ?_
 rcases Bool.eq_false_or_eq_true (decide (((j : Nat) : Int) < ((us.length : Nat) : Int))) with h2 | h2
 · rw [h2] at hA
   have h2p := of_decide_eq_true h2
   obtain ⟨ad1, rfl⟩ := (hx).pos (by omega)
   obtain ⟨z1, hz1⟩ : ∃ x, us[j]? = some x := ⟨_, getD_at _ ⟨#[]⟩ (by omega)⟩
   obtain ⟨ad2, rfl⟩ := (hy).pos (by omega)
   obtain ⟨z2, hz2⟩ : ∃ x, vs[j]? = some x := ⟨_, getD_at _ ⟨#[]⟩ (by omega)⟩
   refine cT hA ?_
   refine wp_skip ?_
   refine then_normal ?_
   refine wp_seq ?_
   refine wp_block ?_
   refine sC (e' := [(0, .slice (some ad1) us.length c), (1, .slice (some ad2) vs.length e_), (4, bl false), (5, i64 ((j : Nat) : Int)), (12, i64 ((us.length : Nat) : Int)), (13, i64 ((j : Nat) : Int))]) 2 hA [] c0 ?_
   clear hA fr; intro fr hA
   refine wp_seq ?_
   have hS := hO
   refine rP [(0, true), (1, true), (2, true), (3, true), (4, true), (5, true), (6, true), (7, true), (8, true)] hS ?_
   intro w2 ho; replace hO := hO.st ho; clear ho
   refine ckS (l := (rg 0 9)) (r := []) (e' := [(0, .slice (some ad1) us.length c), (1, .slice (some ad2) vs.length e_), (4, bl false), (12, i64 ((us.length : Nat) : Int)), (13, i64 ((j : Nat) : Int)), (24, bl (!(z1.toList == z2.toList)))]) hA [str z1, str z2] (cc (⟨by omega, by omega⟩ : (0 : Int) ≤ ((j : Nat) : Int) ∧ ((j : Nat) : Int) < ((us.length : Nat) : Int)) (cc (hS.sx (ad1.add j) 9 (str z1) fun _ hO => ((hx.keep hO.only).ldT hz1)) (cc (⟨by omega, by omega⟩ : (0 : Int) ≤ ((j : Nat) : Int) ∧ ((j : Nat) : Int) < ((vs.length : Nat) : Int)) (cc (hS.sx (ad2.add j) 9 (str z2) fun _ hO => ((hy.keep hO.only).ldT hz2)) c0)))) ?_
   clear hA fr; intro fr hA
   refine end_plan ?_
   refine then_normal ?_
   rcases Bool.eq_false_or_eq_true (z1.toList == z2.toList) with h3 | h3
   · rw [h3] at hA
     refine cF hA ?_
     refine wp_skip ?_
     refine inBlock_normal ?_
     refine then_normal ?_
     refine rC (e' := [(0, .slice (some ad1) us.length c), (1, .slice (some ad2) vs.length e_), (4, bl false), (12, i64 ((us.length : Nat) : Int)), (13, i64 (((j : Nat) : Int) + 1))]) 2 hA [bl true] (cc ((inK_i64 (by omega) (by omega)) : inK .i64 (((j : Nat) : Int) + 1)) c0) ?_
     clear hA fr; intro fr hA
     refine then_normal ?_
     exact ⟨_, by omega, j + 1, rfl, (hA.sub (e' := [(0, .slice (some ad1) us.length c), (1, .slice (some ad2) vs.length e_), (4, bl false), (12, i64 ((us.length : Nat) : Int)), (13, i64 (((j : Nat) : Int) + 1))]) [0, 1, 4, 12, 13] (by kernel_rfl)).cast (by kernel_rfl), hO.to, (by omega), (eqA_step (f := strE) (by assumption) (by assumption) (by assumption) hoj), trivial⟩
   rw [h3] at hA
   refine cT hA ?_
   refine sC (e' := [(0, .slice (some ad1) us.length c), (1, .slice (some ad2) vs.length e_), (4, bl false), (12, i64 ((us.length : Nat) : Int)), (13, i64 ((j : Nat) : Int))]) 1 hA [] c0 ?_
   clear hA fr; intro fr hA
   refine wp_ret ?_
   refine inBlock_ret ?_
   refine then_ret ?_
   refine then_ret ?_
   refine inBlock_ret ?_
   refine then_ret ?_
   refine cR (cs := [none]) (us := [bl false]) hA [] trivial ?_
   have hF := hO.only; clear hA hO
   refine ⟨congrArg (fun b => Ending.returned (.bool b)) ?_, hF⟩
   first | exact (eqA_len (by omega)).symm | exact (eqA_end hoj (by omega) (by omega)).symm | exact (eqA_no (i := j) (f := strE) (by assumption) (by assumption) (by assumption)).symm
 rw [h2] at hA
 have h2p := of_decide_eq_false h2
 refine cF hA ?_
 refine wp_exit ?_
 refine then_exit ?_
 refine then_exit ?_
 refine inBlock_exit ?_
 refine then_normal ?_
 refine sC (e' := [(4, bl true)]) 1 hA [] c0 ?_
 clear hA fr; intro fr hA
 refine wp_ret ?_
 refine cR (cs := [none]) (us := [bl true]) hA [] trivial ?_
 have hF := hO.only; clear hA hO
 refine ⟨congrArg (fun b => Ending.returned (.bool b)) ?_, hF⟩
 first | exact (eqA_len (by omega)).symm | exact (eqA_end hoj (by omega) (by omega)).symm | exact (eqA_no (i := j) (f := strE) (by assumption) (by assumption) (by assumption)).symm

theorem eqC_words {c d : CmdL} (h : eqA strE c.words d.words = false) : eqC c d = false := by unfold eqC; rw [h]; simp
theorem eqC_rest {c d : CmdL} (h1 : eqA strE c.words d.words = true) (h2 : (c.inp.toList == d.inp.toList) = true) (h3 : (c.out.toList == d.out.toList) = true) : eqC c d = (c.app == d.app) := by unfold eqC; rw [h1, show strE c.inp d.inp = true from h2, show strE c.out d.out = true from h3]; simp
theorem eqJ_rest {xp yp : Option Addr} {xc yc : Nat} {xl yl : List CV} {xb yb : Bool} (h : (xb == yb) = true) : eqJ (JV.d ⟨xp, xc, xl, xb⟩) (JV.d ⟨yp, yc, yl, yb⟩) = eqA (fun x y => eqC x.d y.d) xl yl := by
 unfold eqJ JV.d
 simp only [eqA_map]
 rw [h, Bool.true_and]

theorem cmd_eq (p q : Option Addr) (c e_ : Nat) (x y : CmdL) (w : World) (hx : Vw fT w (.slice p x.words.length c) x.words) (hy : Vw fT w (.slice q y.words.length e_) y.words) (hl : x.words.length ≤ 1000000) :
    Calls Try.prog 38 #[.agg #[.slice p x.words.length c, str x.inp, str x.out, bl x.app], .agg #[.slice q y.words.length e_, str y.inp, str y.out, bl y.app]] w fun e w' => e = .returned (.bool (eqC x y)) ∧ Only none' w w' := by
 refine c_enter (args := [.agg #[.slice p x.words.length c, str x.inp, str x.out, bl x.app], .agg #[.slice q y.words.length e_, str y.inp, str y.out, bl y.app]]) (m := 29) (n := 31) Try.func38 rfl (by kernel_rfl) (by kernel_rfl) fun fr hA => ?_
 have hO := Ow.nil Try.prog none' w
 refine sR (l := [0, 1, 2]) ?_
 refine wpOps_cons' (mN (l := [.slice p x.words.length c, str x.inp, str x.out, bl x.app]) (t := 54) (v := pt) (d := 2) hA hO ?_)
 clear hA hO fr; intro fr w1 b1 hA hO
 replace hA := hA.sb (e' := [(1, .agg #[.slice q y.words.length e_, str y.inp, str y.out, bl y.app]), (2, pt b1)])
 refine wpOps_cons' (mN (l := [.slice q y.words.length e_, str y.inp, str y.out, bl y.app]) (t := 54) (v := pt) (d := 3) hA hO ?_)
 clear hA hO fr; intro fr w2 b2 hA hO
 replace hA := hA.sb (e' := [(2, pt b1), (3, pt b2)])
 refine ck (l := [2]) (r := []) (e' := [(2, pt b1), (3, pt b2), (4, bl false)]) hA [] c0 ?_
 clear hA fr; intro fr hA
 refine end_ops ?_
 refine then_normal ?_
 refine sR (l := (rg 0 27)) ?_
 refine ck (l := [0, 1, 2, 3]) (r := (rg 4 23)) (e' := [(2, pt b1), (3, pt b2), (4, bl false), (6, .slice p x.words.length c), (8, .slice q y.words.length e_)]) hA [.slice p x.words.length c, .slice q y.words.length e_] (cc (hO.l1 1 0 47 (.slice p x.words.length c)) (cc (hO.l1 0 0 47 (.slice q y.words.length e_)) c0)) ?_
 clear hA fr; intro fr hA
 refine wpOps_cons' (mK (f := 39) (args := [.slice p x.words.length c, .slice q y.words.length e_]) (d := (some 9)) (v := bl (eqA strE x.words y.words)) hA hO Try.func39 (words_eq p q c e_ x.words y.words _ (hx.keep hO.only) (hy.keep hO.only) hl) ?_)
 clear hA hO fr; intro fr w3 hA hO
 replace hA := hA.sb (e' := [(2, pt b1), (3, pt b2), (4, bl false), (9, bl (eqA strE x.words y.words))])
 refine ck (l := [5]) (r := (rg 6 21)) (e' := [(2, pt b1), (3, pt b2), (4, bl false), (9, bl (eqA strE x.words y.words)), (10, bl (eqA strE x.words y.words))]) hA [] c0 ?_
 clear hA fr; intro fr hA
 rcases Bool.eq_false_or_eq_true (eqA strE x.words y.words) with h1 | h1
 · rw [h1] at hA
   refine ck (l := (rg 6 7)) (r := (rg 13 14)) (e' := [(2, pt b1), (3, pt b2), (4, bl false), (15, bl (x.inp.toList == y.inp.toList)), (16, bl (x.inp.toList == y.inp.toList)), (17, bl (x.inp.toList == y.inp.toList))]) hA [str x.inp, str y.inp] (cc (hO.l1 1 1 9 (str x.inp)) (cc (hO.l1 0 1 9 (str y.inp)) c0)) ?_
   clear hA fr; intro fr hA
   rcases Bool.eq_false_or_eq_true (x.inp.toList == y.inp.toList) with h2 | h2
   · rw [h2] at hA
     refine ck (l := (rg 13 7)) (r := (rg 20 7)) (e' := [(2, pt b1), (3, pt b2), (4, bl false), (22, bl (x.out.toList == y.out.toList)), (23, bl (x.out.toList == y.out.toList)), (24, bl (x.out.toList == y.out.toList))]) hA [str x.out, str y.out] (cc (hO.l1 1 2 9 (str x.out)) (cc (hO.l1 0 2 9 (str y.out)) c0)) ?_
     clear hA fr; intro fr hA
     rcases Bool.eq_false_or_eq_true (x.out.toList == y.out.toList) with h3 | h3
     · rw [h3] at hA
       refine ck (l := (rg 20 7)) (r := []) (e' := [(4, bl (x.app == y.app))]) hA [bl x.app, bl y.app] (cc (hO.l1 1 3 4 (bl x.app)) (cc (hO.l1 0 3 4 (bl y.app)) c0)) ?_
       clear hA fr; intro fr hA
       refine end_ops ?_
       refine then_normal ?_
       refine wp_ret ?_
       refine cR (cs := [none]) (us := [bl (x.app == y.app)]) hA [] trivial ?_
       have hF := hO.only; clear hA hO
       refine ⟨congrArg (fun b => Ending.returned (.bool b)) ?_, hF⟩
       exact (eqC_rest (by assumption) (by assumption) (by assumption)).symm
     rw [h3] at hA
     refine ck (l := (rg 20 7)) (r := []) (e' := [(4, bl false)]) hA [] c0 ?_
     clear hA fr; intro fr hA
     refine end_ops ?_
     refine then_normal ?_
     refine wp_ret ?_
     refine cR (cs := [none]) (us := [bl false]) hA [] trivial ?_
     have hF := hO.only; clear hA hO
     refine ⟨congrArg (fun b => Ending.returned (.bool b)) ?_, hF⟩
     first | exact (eqC_words (by assumption)).symm | exact (eqC_inp (by assumption)).symm | exact (eqC_out (by assumption)).symm
   rw [h2] at hA
   refine ck (l := (rg 13 14)) (r := []) (e' := [(4, bl false)]) hA [] c0 ?_
   clear hA fr; intro fr hA
   refine end_ops ?_
   refine then_normal ?_
   refine wp_ret ?_
   refine cR (cs := [none]) (us := [bl false]) hA [] trivial ?_
   have hF := hO.only; clear hA hO
   refine ⟨congrArg (fun b => Ending.returned (.bool b)) ?_, hF⟩
   first | exact (eqC_words (by assumption)).symm | exact (eqC_inp (by assumption)).symm | exact (eqC_out (by assumption)).symm
 rw [h1] at hA
 refine ck (l := (rg 6 21)) (r := []) (e' := [(4, bl false)]) hA [] c0 ?_
 clear hA fr; intro fr hA
 refine end_ops ?_
 refine then_normal ?_
 refine wp_ret ?_
 refine cR (cs := [none]) (us := [bl false]) hA [] trivial ?_
 have hF := hO.only; clear hA hO
 refine ⟨congrArg (fun b => Ending.returned (.bool b)) ?_, hF⟩
 first | exact (eqC_words (by assumption)).symm | exact (eqC_inp (by assumption)).symm | exact (eqC_out (by assumption)).symm

theorem cmds_eq (p q : Option Addr) (c e_ : Nat) (xl yl : List CV) (w : World) (hx : Vw fC w (.slice p xl.length c) xl ∧ ∀ y ∈ xl, VC w y) (hy : Vw fC w (.slice q yl.length e_) yl ∧ ∀ y ∈ yl, VC w y) (hl : xl.length ≤ 1000000) (hsc : ∀ y ∈ xl, y.d.words.length ≤ 1000000) :
    Calls Try.prog 37 #[.slice p xl.length c, .slice q yl.length e_, .func (.func 38) #[] #[]] w fun e w' => e = .returned (.bool (eqA (fun x y => eqC x.d y.d) xl yl)) ∧ Only none' w w' := by
 refine c_enter (args := [.slice p xl.length c, .slice q yl.length e_, .func (.func 38) #[] #[]]) (m := 29) (n := 32) Try.func37 rfl (by kernel_rfl) (by kernel_rfl) fun fr hA => ?_
 have hO := Ow.nil Try.prog none' w
 refine sC (e' := [(0, .slice p xl.length c), (1, .slice q yl.length e_), (2, .func (.func 38) #[] #[]), (6, bl false)]) 1 hA [] c0 ?_
 clear hA fr; intro fr hA
 refine wp_seq ?_
 refine sC (e' := [(0, .slice p xl.length c), (1, .slice q yl.length e_), (2, .func (.func 38) #[] #[]), (6, bl false), (14, bl (((xl.length : Nat) : Int) != ((yl.length : Nat) : Int)))]) 5 hA [] c0 ?_
 clear hA fr; intro fr hA
 rcases Bool.eq_false_or_eq_true (((xl.length : Nat) : Int) != ((yl.length : Nat) : Int)) with h1 | h1
 · rw [h1] at hA
   have h1p := ne_of_bne h1
   refine cT hA ?_
   refine sC (e' := [(6, bl false)]) 1 hA [] c0 ?_
   clear hA fr; intro fr hA
   refine wp_ret ?_
   refine then_ret ?_
   refine cR (cs := [none]) (us := [bl false]) hA [] trivial ?_
   have hF := hO.only; clear hA hO
   refine ⟨congrArg (fun b => Ending.returned (.bool b)) ?_, hF⟩
   first | exact (eqA_len (by omega)).symm | exact (eqA_end hok (by omega) (by omega)).symm | exact (eqA_no (i := k) (f := (fun x y => eqC x.d y.d)) (by assumption) hy1 hy2).symm
 rw [h1] at hA
 have h1p := eq_of_bne_false h1
 refine cF hA ?_
 refine wp_skip ?_
 refine then_normal ?_
 refine wp_seq ?_
 refine sC (e' := [(1, .slice q yl.length e_), (2, .func (.func 38) #[] #[]), (6, bl false), (15, .slice p xl.length c), (16, i64 ((xl.length : Nat) : Int)), (17, i64 0)]) 3 hA [] c0 ?_
 clear hA fr; intro fr hA
 refine wp_block ?_
 refine c_loop (fun mm fr W => ∃ (k : Nat), mm = xl.length - k ∧ Holds 32 [] fr [(1, .slice q yl.length e_), (2, .func (.func 38) #[] #[]), (6, bl false), (15, .slice p xl.length c), (16, i64 ((xl.length : Nat) : Int)), (17, i64 ((k : Nat) : Int))] ∧ Ow Try.prog none' w W [] ∧ k ≤ xl.length ∧ eqA (fun x y => eqC x.d y.d) (xl.take k) (yl.take k) = true ∧ True) ?_ ?_
 · exact ⟨_, 0, rfl, (hA.sub (e' := [(1, .slice q yl.length e_), (2, .func (.func 38) #[] #[]), (6, bl false), (15, .slice p xl.length c), (16, i64 ((xl.length : Nat) : Int)), (17, i64 0)]) [1, 2, 6, 15, 16, 17] (by kernel_rfl)).cast (by kernel_rfl), hO.to, (Nat.zero_le _), rfl, trivial⟩
 rintro _ fr w1 ⟨k, rfl, hA, hO, hi_k, hok, -⟩
 refine sC (e' := [(1, .slice q yl.length e_), (2, .func (.func 38) #[] #[]), (6, bl false), (15, .slice p xl.length c), (16, i64 ((xl.length : Nat) : Int)), (17, i64 ((k : Nat) : Int)), (18, bl (decide (((k : Nat) : Int) < ((xl.length : Nat) : Int))))]) 1 hA [] c0 ?_
 clear hA fr; intro fr hA
 refine wp_seq ?_
 rcases Bool.eq_false_or_eq_true (decide (((k : Nat) : Int) < ((xl.length : Nat) : Int))) with h2 | h2
 · rw [h2] at hA
   have h2p := of_decide_eq_true h2
   obtain ⟨ad1, rfl⟩ := (hx.1).pos (by omega)
   obtain ⟨⟨yp1, yc1, yd1⟩, hy1⟩ : ∃ x, xl[k]? = some x := ⟨_, getD_at _ CV0 (by omega)⟩
   have hvy1 : Vw fT _ (.slice yp1 yd1.words.length yc1) yd1.words := hx.2 _ (List.mem_of_getElem? hy1)
   have hscl : yd1.words.length ≤ _ := hsc _ (List.mem_of_getElem? hy1)
   obtain ⟨ad2, rfl⟩ := (hy.1).pos (by omega)
   obtain ⟨⟨yp2, yc2, yd2⟩, hy2⟩ : ∃ x, yl[k]? = some x := ⟨_, getD_at _ CV0 (by omega)⟩
   have hvy2 : Vw fT _ (.slice yp2 yd2.words.length yc2) yd2.words := hy.2 _ (List.mem_of_getElem? hy2)
   refine cT hA ?_
   refine wp_skip ?_
   refine then_normal ?_
   refine wp_seq ?_
   refine wp_block ?_
   refine sR (l := (rg 0 6)) ?_
   refine ck (l := [0, 1, 2]) (r := [3, 4, 5]) (e' := [(1, .slice (some ad2) yl.length e_), (2, .func (.func 38) #[] #[]), (6, bl false), (15, .slice (some ad1) xl.length c), (16, i64 ((xl.length : Nat) : Int)), (17, i64 ((k : Nat) : Int)), (19, i64 ((k : Nat) : Int)), (21, .agg #[.slice yp1 yd1.words.length yc1, str yd1.inp, str yd1.out, bl yd1.app])]) hA [.agg #[.slice yp1 yd1.words.length yc1, str yd1.inp, str yd1.out, bl yd1.app]] (cc (⟨by omega, by omega⟩ : (0 : Int) ≤ ((k : Nat) : Int) ∧ ((k : Nat) : Int) < ((xl.length : Nat) : Int)) (cc (((hx.1.keep hO.only).ldn encC hy1) : Ld Try.prog w1 (ad1.add (k * 4)) 54 (.agg #[.slice yp1 yd1.words.length yc1, str yd1.inp, str yd1.out, bl yd1.app])) c0)) ?_
   clear hA fr; intro fr hA
   refine wpOps_cons' (mN (l := [.slice none 0 0, str (⟨#[]⟩), str (⟨#[]⟩), bl false]) (t := 54) (v := pt) (d := 8) hA hO ?_)
   clear hA hO fr; intro fr w2 b1 hA hO
   replace hA := hA.sb (e' := [(1, .slice (some ad2) yl.length e_), (2, .func (.func 38) #[] #[]), (6, bl false), (8, pt b1), (15, .slice (some ad1) xl.length c), (16, i64 ((xl.length : Nat) : Int)), (17, i64 ((k : Nat) : Int)), (19, i64 ((k : Nat) : Int)), (21, .agg #[.slice yp1 yd1.words.length yc1, str yd1.inp, str yd1.out, bl yd1.app])])
   refine ck (l := [4]) (r := [5]) (e' := [(1, .slice (some ad2) yl.length e_), (2, .func (.func 38) #[] #[]), (6, bl false), (7, i64 ((k : Nat) : Int)), (8, pt b1), (15, .slice (some ad1) xl.length c), (16, i64 ((xl.length : Nat) : Int)), (17, i64 ((k : Nat) : Int)), (21, .agg #[.slice yp1 yd1.words.length yc1, str yd1.inp, str yd1.out, bl yd1.app])]) hA [] c0 ?_
   clear hA fr; intro fr hA
   refine wpOps_cons' (mS (off := 0) (vc := [.slice yp1 yd1.words.length yc1, str yd1.inp, str yd1.out, bl yd1.app]) 0 hA hO ?_)
   clear hO; intro w3 hO
   replace hA := hA.sb (e' := [(1, .slice (some ad2) yl.length e_), (2, .func (.func 38) #[] #[]), (6, bl false), (7, i64 ((k : Nat) : Int)), (8, pt b1), (15, .slice (some ad1) xl.length c), (16, i64 ((xl.length : Nat) : Int)), (17, i64 ((k : Nat) : Int))])
   refine end_ops ?_
   refine then_normal ?_
   refine sR (l := (rg 0 6)) ?_
   refine ck (l := [0, 1, 2, 3]) (r := [4, 5]) (e' := [(1, .slice (some ad2) yl.length e_), (2, .func (.func 38) #[] #[]), (6, bl false), (8, pt b1), (15, .slice (some ad1) xl.length c), (16, i64 ((xl.length : Nat) : Int)), (17, i64 ((k : Nat) : Int)), (25, .agg #[.slice yp2 yd2.words.length yc2, str yd2.inp, str yd2.out, bl yd2.app])]) hA [.agg #[.slice yp2 yd2.words.length yc2, str yd2.inp, str yd2.out, bl yd2.app]] (cc (⟨by omega, by omega⟩ : (0 : Int) ≤ ((k : Nat) : Int) ∧ ((k : Nat) : Int) < ((yl.length : Nat) : Int)) (cc (((hy.1.keep hO.only).ldn encC hy2) : Ld Try.prog w3 (ad2.add (k * 4)) 54 (.agg #[.slice yp2 yd2.words.length yc2, str yd2.inp, str yd2.out, bl yd2.app])) c0)) ?_
   clear hA fr; intro fr hA
   refine wpOps_cons' (mN (l := [.slice none 0 0, str (⟨#[]⟩), str (⟨#[]⟩), bl false]) (t := 54) (v := pt) (d := 9) hA hO ?_)
   clear hA hO fr; intro fr w4 b2 hA hO
   replace hA := hA.sb (e' := [(1, .slice (some ad2) yl.length e_), (2, .func (.func 38) #[] #[]), (6, bl false), (8, pt b1), (9, pt b2), (15, .slice (some ad1) xl.length c), (16, i64 ((xl.length : Nat) : Int)), (17, i64 ((k : Nat) : Int)), (25, .agg #[.slice yp2 yd2.words.length yc2, str yd2.inp, str yd2.out, bl yd2.app])])
   refine wpOps_cons' (mS (off := 0) (vc := [.slice yp2 yd2.words.length yc2, str yd2.inp, str yd2.out, bl yd2.app]) 0 hA hO ?_)
   clear hO; intro w5 hO
   replace hA := hA.sb (e' := [(1, .slice (some ad2) yl.length e_), (2, .func (.func 38) #[] #[]), (6, bl false), (8, pt b1), (9, pt b2), (15, .slice (some ad1) xl.length c), (16, i64 ((xl.length : Nat) : Int)), (17, i64 ((k : Nat) : Int))])
   refine end_ops ?_
   refine then_normal ?_
   refine sR (l := (rg 0 5)) ?_
   refine ck (l := [0, 1, 2]) (r := [3, 4]) (e' := [(1, .slice (some ad2) yl.length e_), (2, .func (.func 38) #[] #[]), (6, bl false), (15, .slice (some ad1) xl.length c), (16, i64 ((xl.length : Nat) : Int)), (17, i64 ((k : Nat) : Int)), (26, .func (.func 38) #[] #[]), (27, .agg #[.slice yp1 yd1.words.length yc1, str yd1.inp, str yd1.out, bl yd1.app]), (28, .agg #[.slice yp2 yd2.words.length yc2, str yd2.inp, str yd2.out, bl yd2.app])]) hA [.agg #[.slice yp1 yd1.words.length yc1, str yd1.inp, str yd1.out, bl yd1.app], .agg #[.slice yp2 yd2.words.length yc2, str yd2.inp, str yd2.out, bl yd2.app]] (cc (hO.ln 1 0 54 [.slice yp1 yd1.words.length yc1, str yd1.inp, str yd1.out, bl yd1.app]) (cc (hO.ln 0 0 54 [.slice yp2 yd2.words.length yc2, str yd2.inp, str yd2.out, bl yd2.app]) c0)) ?_
   clear hA fr; intro fr hA
   refine wpOps_cons' (mK (f := 38) (args := [.agg #[.slice yp1 yd1.words.length yc1, str yd1.inp, str yd1.out, bl yd1.app], .agg #[.slice yp2 yd2.words.length yc2, str yd2.inp, str yd2.out, bl yd2.app]]) (d := (some 29)) (v := bl (eqC yd1 yd2)) hA hO Try.func38 (cmd_eq yp1 yp2 yc1 yc2 yd1 yd2 _ (hvy1.keep hO.only) (hvy2.keep hO.only) (by omega)) ?_)
   clear hA hO fr; intro fr w6 hA hO
   replace hA := hA.sb (e' := [(1, .slice (some ad2) yl.length e_), (2, .func (.func 38) #[] #[]), (6, bl false), (15, .slice (some ad1) xl.length c), (16, i64 ((xl.length : Nat) : Int)), (17, i64 ((k : Nat) : Int)), (29, bl (eqC yd1 yd2))])
   refine ck (l := [4]) (r := []) (e' := [(1, .slice (some ad2) yl.length e_), (2, .func (.func 38) #[] #[]), (6, bl false), (15, .slice (some ad1) xl.length c), (16, i64 ((xl.length : Nat) : Int)), (17, i64 ((k : Nat) : Int)), (30, bl (!(eqC yd1 yd2)))]) hA [] c0 ?_
   clear hA fr; intro fr hA
   refine end_ops ?_
   refine then_normal ?_
   rcases Bool.eq_false_or_eq_true (eqC yd1 yd2) with h3 | h3
   · rw [h3] at hA
     refine cF hA ?_
     refine wp_skip ?_
     refine inBlock_normal ?_
     refine then_normal ?_
     refine rC (e' := [(1, .slice (some ad2) yl.length e_), (2, .func (.func 38) #[] #[]), (6, bl false), (15, .slice (some ad1) xl.length c), (16, i64 ((xl.length : Nat) : Int)), (17, i64 (((k : Nat) : Int) + 1))]) 2 hA [bl true] (cc ((inK_i64 (by omega) (by omega)) : inK .i64 (((k : Nat) : Int) + 1)) c0) ?_
     clear hA fr; intro fr hA
     refine then_normal ?_
     exact ⟨_, by omega, k + 1, rfl, (hA.sub (e' := [(1, .slice (some ad2) yl.length e_), (2, .func (.func 38) #[] #[]), (6, bl false), (15, .slice (some ad1) xl.length c), (16, i64 ((xl.length : Nat) : Int)), (17, i64 (((k : Nat) : Int) + 1))]) [1, 2, 6, 15, 16, 17] (by kernel_rfl)).cast (by kernel_rfl), (hO.sub []), (by omega), (eqA_step (f := (fun x y => eqC x.d y.d)) (by assumption) hy1 hy2 hok), trivial⟩
   rw [h3] at hA
   refine cT hA ?_
   refine sC (e' := [(1, .slice (some ad2) yl.length e_), (2, .func (.func 38) #[] #[]), (6, bl false), (15, .slice (some ad1) xl.length c), (16, i64 ((xl.length : Nat) : Int)), (17, i64 ((k : Nat) : Int))]) 1 hA [] c0 ?_
   clear hA fr; intro fr hA
   refine wp_ret ?_
   refine inBlock_ret ?_
   refine then_ret ?_
   refine then_ret ?_
   refine inBlock_ret ?_
   refine then_ret ?_
   refine cR (cs := [none]) (us := [bl false]) hA [] trivial ?_
   have hF := hO.only; clear hA hO
   refine ⟨congrArg (fun b => Ending.returned (.bool b)) ?_, hF⟩
   first | exact (eqA_len (by omega)).symm | exact (eqA_end hok (by omega) (by omega)).symm | exact (eqA_no (i := k) (f := (fun x y => eqC x.d y.d)) (by assumption) hy1 hy2).symm
 rw [h2] at hA
 have h2p := of_decide_eq_false h2
 refine cF hA ?_
 refine wp_exit ?_
 refine then_exit ?_
 refine then_exit ?_
 refine inBlock_exit ?_
 refine then_normal ?_
 refine sC (e' := [(6, bl true)]) 1 hA [] c0 ?_
 clear hA fr; intro fr hA
 refine wp_ret ?_
 refine cR (cs := [none]) (us := [bl true]) hA [] trivial ?_
 have hF := hO.only; clear hA hO
 refine ⟨congrArg (fun b => Ending.returned (.bool b)) ?_, hF⟩
 first | exact (eqA_len (by omega)).symm | exact (eqA_end hok (by omega) (by omega)).symm | exact (eqA_no (i := k) (f := (fun x y => eqC x.d y.d)) (by assumption) hy1 hy2).symm

theorem job_eq (p q : Option Addr) (c e_ : Nat) (xl yl : List CV) (xb yb : Bool) (w : World) (hx : Vw fC w (.slice p xl.length c) xl ∧ ∀ y ∈ xl, VC w y) (hy : Vw fC w (.slice q yl.length e_) yl ∧ ∀ y ∈ yl, VC w y) (hl : xl.length ≤ 1000000) (hsc : ∀ y ∈ xl, y.d.words.length ≤ 1000000) :
    Calls Try.prog 36 #[.agg #[.slice p xl.length c, bl xb], .agg #[.slice q yl.length e_, bl yb]] w fun e w' => e = .returned (.bool (eqJ (JV.d ⟨p, c, xl, xb⟩) (JV.d ⟨q, e_, yl, yb⟩))) ∧ Only none' w w' := by
 refine c_enter (args := [.agg #[.slice p xl.length c, bl xb], .agg #[.slice q yl.length e_, bl yb]]) (m := 15) (n := 17) Try.func36 rfl (by kernel_rfl) (by kernel_rfl) fun fr hA => ?_
 have hO := Ow.nil Try.prog none' w
 refine sR (l := [0, 1, 2]) ?_
 refine wpOps_cons' (mN (l := [.slice p xl.length c, bl xb]) (t := 53) (v := pt) (d := 2) hA hO ?_)
 clear hA hO fr; intro fr w1 b1 hA hO
 replace hA := hA.sb (e' := [(1, .agg #[.slice q yl.length e_, bl yb]), (2, pt b1)])
 refine wpOps_cons' (mN (l := [.slice q yl.length e_, bl yb]) (t := 53) (v := pt) (d := 3) hA hO ?_)
 clear hA hO fr; intro fr w2 b2 hA hO
 replace hA := hA.sb (e' := [(2, pt b1), (3, pt b2)])
 refine ck (l := [2]) (r := []) (e' := [(2, pt b1), (3, pt b2), (4, bl false)]) hA [] c0 ?_
 clear hA fr; intro fr hA
 refine end_ops ?_
 refine then_normal ?_
 refine sR (l := (rg 0 13)) ?_
 refine ck (l := (rg 0 6)) (r := (rg 6 7)) (e' := [(2, pt b1), (3, pt b2), (4, bl false), (9, bl (xb == yb)), (10, bl (xb == yb))]) hA [bl xb, bl yb] (cc (hO.l1 1 1 4 (bl xb)) (cc (hO.l1 0 1 4 (bl yb)) c0)) ?_
 clear hA fr; intro fr hA
 rcases Bool.eq_false_or_eq_true (xb == yb) with h1 | h1
 · rw [h1] at hA
   have h1p := eq_of_beq h1
   refine ck (l := [6, 7, 8, 9]) (r := [10, 11, 12]) (e' := [(4, bl false), (10, bl true), (12, .slice p xl.length c), (14, .slice q yl.length e_)]) hA [.slice p xl.length c, .slice q yl.length e_] (cc (hO.l1 1 0 51 (.slice p xl.length c)) (cc (hO.l1 0 0 51 (.slice q yl.length e_)) c0)) ?_
   clear hA fr; intro fr hA
   refine wpOps_cons' (mK (f := 37) (args := [.slice p xl.length c, .slice q yl.length e_, .func (.func 38) #[] #[]]) (d := (some 15)) (v := bl (eqA (fun x y => eqC x.d y.d) xl yl)) hA hO Try.func37 (cmds_eq p q c e_ xl yl _ ⟨hx.1.keep hO.only, fun y hy => (hx.2 y hy).keep hO.only⟩ ⟨hy.1.keep hO.only, fun z hz => (hy.2 z hz).keep hO.only⟩ hl hsc) ?_)
   clear hA hO fr; intro fr w3 hA hO
   replace hA := hA.sb (e' := [(4, bl false), (10, bl true), (15, bl (eqA (fun x y => eqC x.d y.d) xl yl))])
   refine ck (l := [11, 12]) (r := []) (e' := [(4, bl (eqA (fun x y => eqC x.d y.d) xl yl))]) hA [] c0 ?_
   clear hA fr; intro fr hA
   refine end_ops ?_
   refine then_normal ?_
   refine wp_ret ?_
   refine cR (cs := [none]) (us := [bl (eqA (fun x y => eqC x.d y.d) xl yl)]) hA [] trivial ?_
   have hF := hO.only; clear hA hO
   refine ⟨congrArg (fun b => Ending.returned (.bool b)) ?_, hF⟩
   first | exact (eqJ_bg (by assumption)).symm | exact (eqJ_rest (by assumption)).symm
 rw [h1] at hA
 have h1p := ne_of_beq_false h1
 refine ck (l := (rg 6 7)) (r := []) (e' := [(4, bl false)]) hA [] c0 ?_
 clear hA fr; intro fr hA
 refine end_ops ?_
 refine then_normal ?_
 refine wp_ret ?_
 refine cR (cs := [none]) (us := [bl false]) hA [] trivial ?_
 have hF := hO.only; clear hA hO
 refine ⟨congrArg (fun b => Ending.returned (.bool b)) ?_, hF⟩
 first | exact (eqJ_bg (by assumption)).symm | exact (eqJ_rest (by assumption)).symm

theorem jobs_eq (p q : Option Addr) (c e_ : Nat) (a b : List JV) (w : World) (hva : VL w (.slice p a.length c) a) (hvb : VL w (.slice q b.length e_) b) (hsm : smL 1000000 (a.map JV.d)) :
    Calls Try.prog 35 #[.slice p a.length c, .slice q b.length e_, .func (.func 36) #[] #[]] w fun e w' => e = .returned (.bool (eqL (a.map JV.d) (b.map JV.d))) ∧ Only none' w w' := by
 refine c_enter (args := [.slice p a.length c, .slice q b.length e_, .func (.func 36) #[] #[]]) (m := 29) (n := 32) Try.func35 rfl (by kernel_rfl) (by kernel_rfl) fun fr hA => ?_
 have hO := Ow.nil Try.prog none' w
 have hsl := hsm.len
 refine sC (e' := [(0, .slice p a.length c), (1, .slice q b.length e_), (2, .func (.func 36) #[] #[]), (6, bl false)]) 1 hA [] c0 ?_
 clear hA fr; intro fr hA
 refine wp_seq ?_
 refine sC (e' := [(0, .slice p a.length c), (1, .slice q b.length e_), (2, .func (.func 36) #[] #[]), (6, bl false), (14, bl (((a.length : Nat) : Int) != ((b.length : Nat) : Int)))]) 5 hA [] c0 ?_
 clear hA fr; intro fr hA
 rcases Bool.eq_false_or_eq_true (((a.length : Nat) : Int) != ((b.length : Nat) : Int)) with h1 | h1
 · rw [h1] at hA
   have h1p := ne_of_bne h1
   refine cT hA ?_
   refine sC (e' := [(6, bl false)]) 1 hA [] c0 ?_
   clear hA fr; intro fr hA
   refine wp_ret ?_
   refine then_ret ?_
   refine cR (cs := [none]) (us := [bl false]) hA [] trivial ?_
   have hF := hO.only; clear hA hO
   refine ⟨congrArg (fun b => Ending.returned (.bool b)) ?_, hF⟩
   first | exact (eqL_len (by omega)).symm | exact (eqL_yes (eqA_end ho (by omega) (by omega))).symm | exact (eqL_no hx1 hx2 (by assumption)).symm
 rw [h1] at hA
 have h1p := eq_of_bne_false h1
 refine cF hA ?_
 refine wp_skip ?_
 refine then_normal ?_
 refine wp_seq ?_
 refine sC (e' := [(1, .slice q b.length e_), (2, .func (.func 36) #[] #[]), (6, bl false), (15, .slice p a.length c), (16, i64 ((a.length : Nat) : Int)), (17, i64 0)]) 3 hA [] c0 ?_
 clear hA fr; intro fr hA
 refine wp_block ?_
 refine c_loop (fun mm fr W => ∃ (i : Nat), mm = a.length - i ∧ Holds 32 [] fr [(1, .slice q b.length e_), (2, .func (.func 36) #[] #[]), (6, bl false), (15, .slice p a.length c), (16, i64 ((a.length : Nat) : Int)), (17, i64 ((i : Nat) : Int))] ∧ Ow Try.prog none' w W [] ∧ i ≤ a.length ∧ eqA (fun x y => eqJ x.d y.d) (a.take i) (b.take i) = true ∧ True) ?_ ?_
 · exact ⟨_, 0, rfl, (hA.sub (e' := [(1, .slice q b.length e_), (2, .func (.func 36) #[] #[]), (6, bl false), (15, .slice p a.length c), (16, i64 ((a.length : Nat) : Int)), (17, i64 0)]) [1, 2, 6, 15, 16, 17] (by kernel_rfl)).cast (by kernel_rfl), hO.to, (Nat.zero_le _), rfl, trivial⟩
 rintro _ fr w1 ⟨i, rfl, hA, hO, hi_i, ho, -⟩
 refine sC (e' := [(1, .slice q b.length e_), (2, .func (.func 36) #[] #[]), (6, bl false), (15, .slice p a.length c), (16, i64 ((a.length : Nat) : Int)), (17, i64 ((i : Nat) : Int)), (18, bl (decide (((i : Nat) : Int) < ((a.length : Nat) : Int))))]) 1 hA [] c0 ?_
 clear hA fr; intro fr hA
 refine wp_seq ?_
 rcases Bool.eq_false_or_eq_true (decide (((i : Nat) : Int) < ((a.length : Nat) : Int))) with h2 | h2
 · rw [h2] at hA
   have h2p := of_decide_eq_true h2
   obtain ⟨ad1, rfl⟩ := (hva.1).pos (by omega)
   obtain ⟨⟨xp1, xc1, xl1, xb1⟩, hx1⟩ : ∃ x, a[i]? = some x := ⟨_, getD_at _ JV0 (by omega)⟩
   have hvx1 : Vw fC _ (.slice xp1 xl1.length xc1) xl1 ∧ ∀ y ∈ xl1, VC _ y := hva.2 _ (List.mem_of_getElem? hx1)
   have hsj1 : smJ _ (JV.d ⟨xp1, xc1, xl1, xb1⟩) := hsm.at hx1
   have hsjl1 : xl1.length ≤ _ := smJ.len (x := ⟨xp1, xc1, xl1, xb1⟩) hsj1
   obtain ⟨ad2, rfl⟩ := (hvb.1).pos (by omega)
   obtain ⟨⟨xp2, xc2, xl2, xb2⟩, hx2⟩ : ∃ x, b[i]? = some x := ⟨_, getD_at _ JV0 (by omega)⟩
   have hvx2 : Vw fC _ (.slice xp2 xl2.length xc2) xl2 ∧ ∀ y ∈ xl2, VC _ y := hvb.2 _ (List.mem_of_getElem? hx2)
   refine cT hA ?_
   refine wp_skip ?_
   refine then_normal ?_
   refine wp_seq ?_
   refine wp_block ?_
   refine sR (l := (rg 0 6)) ?_
   refine ck (l := [0, 1, 2]) (r := [3, 4, 5]) (e' := [(1, .slice (some ad2) b.length e_), (2, .func (.func 36) #[] #[]), (6, bl false), (15, .slice (some ad1) a.length c), (16, i64 ((a.length : Nat) : Int)), (17, i64 ((i : Nat) : Int)), (19, i64 ((i : Nat) : Int)), (21, .agg #[.slice xp1 xl1.length xc1, bl xb1])]) hA [.agg #[.slice xp1 xl1.length xc1, bl xb1]] (cc (⟨by omega, by omega⟩ : (0 : Int) ≤ ((i : Nat) : Int) ∧ ((i : Nat) : Int) < ((a.length : Nat) : Int)) (cc (((hva.1.keep hO.only).ldn encJ hx1) : Ld Try.prog w1 (ad1.add (i * 2)) 53 (.agg #[.slice xp1 xl1.length xc1, bl xb1])) c0)) ?_
   clear hA fr; intro fr hA
   refine wpOps_cons' (mN (l := [.slice none 0 0, bl false]) (t := 53) (v := pt) (d := 8) hA hO ?_)
   clear hA hO fr; intro fr w2 b1 hA hO
   replace hA := hA.sb (e' := [(1, .slice (some ad2) b.length e_), (2, .func (.func 36) #[] #[]), (6, bl false), (8, pt b1), (15, .slice (some ad1) a.length c), (16, i64 ((a.length : Nat) : Int)), (17, i64 ((i : Nat) : Int)), (19, i64 ((i : Nat) : Int)), (21, .agg #[.slice xp1 xl1.length xc1, bl xb1])])
   refine ck (l := [4]) (r := [5]) (e' := [(1, .slice (some ad2) b.length e_), (2, .func (.func 36) #[] #[]), (6, bl false), (7, i64 ((i : Nat) : Int)), (8, pt b1), (15, .slice (some ad1) a.length c), (16, i64 ((a.length : Nat) : Int)), (17, i64 ((i : Nat) : Int)), (21, .agg #[.slice xp1 xl1.length xc1, bl xb1])]) hA [] c0 ?_
   clear hA fr; intro fr hA
   refine wpOps_cons' (mS (off := 0) (vc := [.slice xp1 xl1.length xc1, bl xb1]) 0 hA hO ?_)
   clear hO; intro w3 hO
   replace hA := hA.sb (e' := [(1, .slice (some ad2) b.length e_), (2, .func (.func 36) #[] #[]), (6, bl false), (7, i64 ((i : Nat) : Int)), (8, pt b1), (15, .slice (some ad1) a.length c), (16, i64 ((a.length : Nat) : Int)), (17, i64 ((i : Nat) : Int))])
   refine end_ops ?_
   refine then_normal ?_
   refine sR (l := (rg 0 6)) ?_
   refine ck (l := [0, 1, 2, 3]) (r := [4, 5]) (e' := [(1, .slice (some ad2) b.length e_), (2, .func (.func 36) #[] #[]), (6, bl false), (8, pt b1), (15, .slice (some ad1) a.length c), (16, i64 ((a.length : Nat) : Int)), (17, i64 ((i : Nat) : Int)), (25, .agg #[.slice xp2 xl2.length xc2, bl xb2])]) hA [.agg #[.slice xp2 xl2.length xc2, bl xb2]] (cc (⟨by omega, by omega⟩ : (0 : Int) ≤ ((i : Nat) : Int) ∧ ((i : Nat) : Int) < ((b.length : Nat) : Int)) (cc (((hvb.1.keep hO.only).ldn encJ hx2) : Ld Try.prog w3 (ad2.add (i * 2)) 53 (.agg #[.slice xp2 xl2.length xc2, bl xb2])) c0)) ?_
   clear hA fr; intro fr hA
   refine wpOps_cons' (mN (l := [.slice none 0 0, bl false]) (t := 53) (v := pt) (d := 9) hA hO ?_)
   clear hA hO fr; intro fr w4 b2 hA hO
   replace hA := hA.sb (e' := [(1, .slice (some ad2) b.length e_), (2, .func (.func 36) #[] #[]), (6, bl false), (8, pt b1), (9, pt b2), (15, .slice (some ad1) a.length c), (16, i64 ((a.length : Nat) : Int)), (17, i64 ((i : Nat) : Int)), (25, .agg #[.slice xp2 xl2.length xc2, bl xb2])])
   refine wpOps_cons' (mS (off := 0) (vc := [.slice xp2 xl2.length xc2, bl xb2]) 0 hA hO ?_)
   clear hO; intro w5 hO
   replace hA := hA.sb (e' := [(1, .slice (some ad2) b.length e_), (2, .func (.func 36) #[] #[]), (6, bl false), (8, pt b1), (9, pt b2), (15, .slice (some ad1) a.length c), (16, i64 ((a.length : Nat) : Int)), (17, i64 ((i : Nat) : Int))])
   refine end_ops ?_
   refine then_normal ?_
   refine sR (l := (rg 0 5)) ?_
   refine ck (l := [0, 1, 2]) (r := [3, 4]) (e' := [(1, .slice (some ad2) b.length e_), (2, .func (.func 36) #[] #[]), (6, bl false), (15, .slice (some ad1) a.length c), (16, i64 ((a.length : Nat) : Int)), (17, i64 ((i : Nat) : Int)), (26, .func (.func 36) #[] #[]), (27, .agg #[.slice xp1 xl1.length xc1, bl xb1]), (28, .agg #[.slice xp2 xl2.length xc2, bl xb2])]) hA [.agg #[.slice xp1 xl1.length xc1, bl xb1], .agg #[.slice xp2 xl2.length xc2, bl xb2]] (cc (hO.ln 1 0 53 [.slice xp1 xl1.length xc1, bl xb1]) (cc (hO.ln 0 0 53 [.slice xp2 xl2.length xc2, bl xb2]) c0)) ?_
   clear hA fr; intro fr hA
   refine wpOps_cons' (mK (f := 36) (args := [.agg #[.slice xp1 xl1.length xc1, bl xb1], .agg #[.slice xp2 xl2.length xc2, bl xb2]]) (d := (some 29)) (v := bl (eqJ (JV.d ⟨xp1, xc1, xl1, xb1⟩) (JV.d ⟨xp2, xc2, xl2, xb2⟩))) hA hO Try.func36 (job_eq xp1 xp2 xc1 xc2 xl1 xl2 xb1 xb2 _ ⟨hvx1.1.keep hO.only, fun z hz => (hvx1.2 z hz).keep hO.only⟩ ⟨hvx2.1.keep hO.only, fun z hz => (hvx2.2 z hz).keep hO.only⟩ (by omega) (fun z hz => (hsj1.2 _ (List.mem_map.2 ⟨z, hz, rfl⟩)).2.2.2)) ?_)
   clear hA hO fr; intro fr w6 hA hO
   replace hA := hA.sb (e' := [(1, .slice (some ad2) b.length e_), (2, .func (.func 36) #[] #[]), (6, bl false), (15, .slice (some ad1) a.length c), (16, i64 ((a.length : Nat) : Int)), (17, i64 ((i : Nat) : Int)), (29, bl (eqJ (JV.d ⟨xp1, xc1, xl1, xb1⟩) (JV.d ⟨xp2, xc2, xl2, xb2⟩)))])
   refine ck (l := [4]) (r := []) (e' := [(1, .slice (some ad2) b.length e_), (2, .func (.func 36) #[] #[]), (6, bl false), (15, .slice (some ad1) a.length c), (16, i64 ((a.length : Nat) : Int)), (17, i64 ((i : Nat) : Int)), (30, bl (!(eqJ (JV.d ⟨xp1, xc1, xl1, xb1⟩) (JV.d ⟨xp2, xc2, xl2, xb2⟩))))]) hA [] c0 ?_
   clear hA fr; intro fr hA
   refine end_ops ?_
   refine then_normal ?_
   rcases Bool.eq_false_or_eq_true (eqJ (JV.d ⟨xp1, xc1, xl1, xb1⟩) (JV.d ⟨xp2, xc2, xl2, xb2⟩)) with h3 | h3
   · rw [h3] at hA
     refine cF hA ?_
     refine wp_skip ?_
     refine inBlock_normal ?_
     refine then_normal ?_
     refine rC (e' := [(1, .slice (some ad2) b.length e_), (2, .func (.func 36) #[] #[]), (6, bl false), (15, .slice (some ad1) a.length c), (16, i64 ((a.length : Nat) : Int)), (17, i64 (((i : Nat) : Int) + 1))]) 2 hA [bl true] (cc ((inK_i64 (by omega) (by omega)) : inK .i64 (((i : Nat) : Int) + 1)) c0) ?_
     clear hA fr; intro fr hA
     refine then_normal ?_
     exact ⟨_, by omega, i + 1, rfl, (hA.sub (e' := [(1, .slice (some ad2) b.length e_), (2, .func (.func 36) #[] #[]), (6, bl false), (15, .slice (some ad1) a.length c), (16, i64 ((a.length : Nat) : Int)), (17, i64 (((i : Nat) : Int) + 1))]) [1, 2, 6, 15, 16, 17] (by kernel_rfl)).cast (by kernel_rfl), (hO.sub []), (by omega), (eqA_step (f := (fun x y => eqJ x.d y.d)) (by assumption) hx1 hx2 ho), trivial⟩
   rw [h3] at hA
   refine cT hA ?_
   refine sC (e' := [(1, .slice (some ad2) b.length e_), (2, .func (.func 36) #[] #[]), (6, bl false), (15, .slice (some ad1) a.length c), (16, i64 ((a.length : Nat) : Int)), (17, i64 ((i : Nat) : Int))]) 1 hA [] c0 ?_
   clear hA fr; intro fr hA
   refine wp_ret ?_
   refine inBlock_ret ?_
   refine then_ret ?_
   refine then_ret ?_
   refine inBlock_ret ?_
   refine then_ret ?_
   refine cR (cs := [none]) (us := [bl false]) hA [] trivial ?_
   have hF := hO.only; clear hA hO
   refine ⟨congrArg (fun b => Ending.returned (.bool b)) ?_, hF⟩
   first | exact (eqL_len (by omega)).symm | exact (eqL_yes (eqA_end ho (by omega) (by omega))).symm | exact (eqL_no hx1 hx2 (by assumption)).symm
 rw [h2] at hA
 have h2p := of_decide_eq_false h2
 refine cF hA ?_
 refine wp_exit ?_
 refine then_exit ?_
 refine then_exit ?_
 refine inBlock_exit ?_
 refine then_normal ?_
 refine sC (e' := [(6, bl true)]) 1 hA [] c0 ?_
 clear hA fr; intro fr hA
 refine wp_ret ?_
 refine cR (cs := [none]) (us := [bl true]) hA [] trivial ?_
 have hF := hO.only; clear hA hO
 refine ⟨congrArg (fun b => Ending.returned (.bool b)) ?_, hF⟩
 first | exact (eqL_len (by omega)).symm | exact (eqL_yes (eqA_end ho (by omega) (by omega))).symm | exact (eqL_no hx1 hx2 (by assumption)).symm

theorem Equal_any (p q : Option Addr) (c e_ : Nat) (a b : List JV) (w : World) (hva : VL w (.slice p a.length c) a) (hvb : VL w (.slice q b.length e_) b) (hsm : smL 1000000 (a.map JV.d)) :
    Calls Try.prog 20 #[.slice p a.length c, .slice q b.length e_] w fun e w' => e = .returned (.bool (eqL (a.map JV.d) (b.map JV.d))) ∧ Only none' w w' := by
 refine c_enter (args := [.slice p a.length c, .slice q b.length e_]) (m := 6) (n := 8) Try.func20 rfl (by kernel_rfl) (by kernel_rfl) fun fr hA => ?_
 have hO := Ow.nil Try.prog none' w
 refine sC (e' := [(0, .slice p a.length c), (1, .slice q b.length e_), (4, bl false)]) 1 hA [] c0 ?_
 clear hA fr; intro fr hA
 refine sR (l := [0, 1, 2, 3]) ?_
 refine ck (l := [0, 1]) (r := [2, 3]) (e' := [(4, bl false), (5, .slice p a.length c), (6, .slice q b.length e_)]) hA [] c0 ?_
 clear hA fr; intro fr hA
 refine wpOps_cons' (mK (f := 35) (args := [.slice p a.length c, .slice q b.length e_, .func (.func 36) #[] #[]]) (d := (some 7)) (v := bl (eqL (a.map JV.d) (b.map JV.d))) hA hO Try.func35 (jobs_eq p q c e_ a b _ (hva.keep hO.only) (hvb.keep hO.only) hsm) ?_)
 clear hA hO fr; intro fr w1 hA hO
 replace hA := hA.sb (e' := [(4, bl false), (7, bl (eqL (a.map JV.d) (b.map JV.d)))])
 refine ck (l := [3]) (r := []) (e' := [(4, bl (eqL (a.map JV.d) (b.map JV.d)))]) hA [] c0 ?_
 clear hA fr; intro fr hA
 refine end_ops ?_
 refine then_normal ?_
 refine wp_ret ?_
 refine cR (cs := [none]) (us := [bl (eqL (a.map JV.d) (b.map JV.d))]) hA [] trivial ?_
 have hF := hO.only; clear hA hO
 exact ⟨rfl, hF⟩

end Go.Proofs.Ytfhcpegemapbkaa
