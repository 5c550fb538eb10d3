/- The layer command: jobs of the program and of the reference. -/
import Derived.Test.YtfhcpegemapbkaaEquals
set_option linter.unusedVariables false
set_option linter.unusedSimpArgs false
set_option maxRecDepth 10000
namespace Go.Proofs.Ytfhcpegemapbkaa
open Go Go.Shelf Go.RowKit Go.Proofs Go.Proofs.Sx

/-- What a copy of a job shares with it. -/
def JV.S (x : JV) : List CV × Bool := (x.cmds, x.bg)
theorem sim_d {a b : List JV} (h : a.map JV.S = b.map JV.S) : a.map JV.d = b.map JV.d := by
 have : ∀ l : List JV, l.map JV.d = (l.map JV.S).map (fun q => (⟨q.1.map CV.d, q.2⟩ : JobL)) := fun l => by rw [List.map_map]; rfl
 rw [this a, this b, h]
theorem sim_len {a b : List JV} (h : a.map JV.S = b.map JV.S) : a.length = b.length := by have := congrArg List.length h; simpa using this
theorem sim_words {a b : List JV} {w : World} (h : a.map JV.S = b.map JV.S) (hb : ∀ x ∈ b, ∀ y ∈ x.cmds, VC w y) : ∀ x ∈ a, ∀ y ∈ x.cmds, VC w y := fun x hx y hy => by
  have h1 : x.S ∈ b.map JV.S := h ▸ List.mem_map.2 ⟨x, hx, rfl⟩
  obtain ⟨z, hz, e⟩ := List.mem_map.1 h1
  have h2 : z.cmds = x.cmds := congrArg Prod.fst e
  exact hb z hz y (h2 ▸ hy)
theorem sim_step {r l : List JV} {i k : Nat} {p : Option Addr} {c : Nat} {xp : Option Addr} {xc : Nat} {xl : List CV} {xb : Bool} (h : r.map JV.S = (l.take i).map JV.S) (hx : l[i]? = some ⟨xp, xc, xl, xb⟩) (hk : ¬ k < xl.length) :
    (r ++ [(⟨p, c, xl.take k, xb⟩ : JV)]).map JV.S = (l.take (i + 1)).map JV.S := by
 have hk2 : xl.take k = xl := List.take_of_length_le (by omega)
 rw [List.map_append, h, List.take_add_one, hx, List.map_append, hk2]; rfl
theorem sim_end {r l : List JV} {i : Nat} (h : r.map JV.S = (l.take i).map JV.S) (hi : ¬ i < l.length) : r.map JV.S = l.map JV.S := by rwa [List.take_of_length_le (by omega)] at h

theorem Theirs_any (p : Option Addr) (c : Nat) (l : List JV) (w : World) (hv : VL w (.slice p l.length c) l) (hsm : smL 1000000 (l.map JV.d)) :
    Calls Try.prog 13 #[.slice p l.length c] w fun e w' => ∃ p' k' r T0 T1, e = .returned (.slice p' r.length k') ∧ One fJ 45 2 p' k' r T0 ∧ InW 49 r T1 ∧ r.map JV.S = l.map JV.S ∧ Ow Try.prog none' w w' (T0 ++ T1) := by
 refine c_enter (args := [.slice p l.length c]) (m := 46) (n := 47) Try.func13 rfl (by kernel_rfl) (by kernel_rfl) fun fr hA => ?_
 have hO := Ow.nil Try.prog none' w
 have hsl := hsm.len
 refine sC (e' := [(0, .slice p l.length c), (2, .slice none 0 0)]) 1 hA [] c0 ?_
 clear hA fr; intro fr hA
 refine sC (e' := [(0, .slice p l.length c), (2, .slice none 0 0), (3, .slice none 0 0)]) 1 hA [] c0 ?_
 clear hA fr; intro fr hA
 refine wp_seq ?_
 refine sC (e' := [(0, .slice p l.length c), (2, .slice none 0 0), (3, .slice none 0 0), (4, i64 0)]) 1 hA [] c0 ?_
 clear hA fr; intro fr hA
 refine wp_block ?_
 have hT1 := One.nil fJ 45 2
 replace hO : Ow Try.prog none' w w ([] ++ ([] ++ ([]))) := hO.to (by first | rfl | (simp only [TP, apd]))
 have hC0 : InW 49 [] [] := rfl
 replace hO : Ow Try.prog none' w w ([] ++ ([] ++ ([] ++ ([])))) := hO.to (by first | rfl | (simp only [TP, apd]))
 refine c_loop (fun mm fr W => ∃ (i : Nat) (r : List JV) (pL1 : Option Addr) (cL1 : Nat) (TL1 : OwL) (TL2 : OwL), mm = l.length - i ∧ Holds 47 [] fr [(0, .slice p l.length c), (2, .slice none 0 0), (3, .slice pL1 r.length cL1), (4, i64 ((i : Nat) : Int))] ∧ Ow Try.prog none' w W ([] ++ (TL1 ++ (TL2 ++ ([])))) ∧ One fJ 45 2 pL1 cL1 r TL1 ∧ InW 49 r TL2 ∧ i ≤ l.length ∧ r.map JV.S = (l.take i).map JV.S ∧ r.length ≤ i ∧ True) ?_ ?_
 · exact ⟨_, 0, [], none, 0, [], [], rfl, (hA.sub (e' := [(0, .slice p l.length c), (2, .slice none 0 0), (3, .slice none 0 0), (4, i64 0)]) [0, 2, 3, 4] (by kernel_rfl)).cast (by kernel_rfl), (hO : Ow Try.prog none' w _ ([] ++ ([] ++ ([] ++ ([]))))), hT1, hC0, (Nat.zero_le _), rfl, (Nat.le_refl _), trivial⟩
 rintro _ fr w1 ⟨i, r, pL1, cL1, TL1, TL2, rfl, hA, hO, hTL1, hTL2, hi_i, hsim, hrl, -⟩
 refine wp_seq ?_
 refine sC (e' := [(0, .slice p l.length c), (2, .slice none 0 0), (3, .slice pL1 r.length cL1), (4, i64 ((i : Nat) : Int)), (10, bl (decide (((i : Nat) : Int) < ((l.length : Nat) : Int))))]) 4 hA [] c0 ?_
 clear hA fr; intro fr hA
 rcases Bool.eq_false_or_eq_true (decide (((i : Nat) : Int) < ((l.length : Nat) : Int))) with h1 | h1
 · rw [h1] at hA
   have h1p := of_decide_eq_true h1
   obtain ⟨ad1, rfl⟩ := (hv.1).pos (by omega)
   obtain ⟨⟨xp1, xc1, xl1, xb1⟩, hx1⟩ : ∃ x, l[i]? = some x := ⟨_, getD_at _ JV0 (by omega)⟩
   have hvx1 : Vw fC _ (.slice xp1 xl1.length xc1) xl1 ∧ ∀ y ∈ xl1, VC _ y := hv.2 _ (List.mem_of_getElem? hx1)
   have hsj1 : smJ _ (JV.d ⟨xp1, xc1, xl1, xb1⟩) := hsm.at hx1
   have hsjl1 : xl1.length ≤ _ := smJ.len (x := ⟨xp1, xc1, xl1, xb1⟩) hsj1
   refine cT hA ?_
   refine wp_skip ?_
   refine then_normal ?_
   refine wp_seq ?_
   refine wp_block ?_
   refine sR (l := (rg 0 8)) ?_
   refine ck (l := (rg 0 6)) (r := [6, 7]) (e' := [(0, .slice (some ad1) l.length c), (2, .slice none 0 0), (3, .slice pL1 r.length cL1), (4, i64 ((i : Nat) : Int)), (18, .agg #[.slice none 0 0, bl xb1])]) hA [bl xb1] (cc (⟨by omega, by omega⟩ : (0 : Int) ≤ ((i : Nat) : Int) ∧ ((i : Nat) : Int) < ((l.length : Nat) : Int)) (cc (((hv.1.keep hO.only).ld1 encJ hx1 (k := 1) (by rfl)) : Ld Try.prog w1 ((ad1.add (i * 2)).add 1) 4 (bl xb1)) c0)) ?_
   clear hA fr; intro fr hA
   refine wpOps_cons' (mN (l := [.slice none 0 0, bl false]) (t := 45) (v := pt) (d := 5) hA hO ?_)
   clear hA hO fr; intro fr w2 b1 hA hO
   replace hA := hA.sb (e' := [(0, .slice (some ad1) l.length c), (2, .slice none 0 0), (3, .slice pL1 r.length cL1), (4, i64 ((i : Nat) : Int)), (5, pt b1), (18, .agg #[.slice none 0 0, bl xb1])])
   refine wpOps_cons' (mS (off := 0) (vc := [.slice none 0 0, bl xb1]) 0 hA hO ?_)
   clear hO; intro w3 hO
   replace hA := hA.sb (e' := [(0, .slice (some ad1) l.length c), (2, .slice none 0 0), (3, .slice pL1 r.length cL1), (4, i64 ((i : Nat) : Int)), (5, pt b1)])
   refine end_ops ?_
   refine then_normal ?_
   refine wp_seq ?_
   refine sC (e' := [(0, .slice (some ad1) l.length c), (2, .slice none 0 0), (3, .slice pL1 r.length cL1), (4, i64 ((i : Nat) : Int)), (5, pt b1), (6, i64 0)]) 1 hA [] c0 ?_
   clear hA fr; intro fr hA
   refine wp_block ?_
   have hT2 := One.nil fC 49 4
   replace hO : Ow Try.prog none' w w3 ([(b1, 45, [.slice none 0 0, bl xb1])] ++ (TL1 ++ (TL2 ++ ([] ++ ([]))))) := hO.to (by first | rfl | (simp only [TP, apd]))
   refine c_loop (fun mm fr W => ∃ (k : Nat) (pL3 : Option Addr) (cL3 : Nat) (TL3 : OwL), mm = xl1.length - k ∧ Holds 47 [] fr [(0, .slice (some ad1) l.length c), (2, .slice none 0 0), (3, .slice pL1 r.length cL1), (4, i64 ((i : Nat) : Int)), (5, pt b1), (6, i64 ((k : Nat) : Int))] ∧ Ow Try.prog none' w W ([(b1, 45, [.slice pL3 ((xl1.take k).length) cL3, bl xb1])] ++ (TL1 ++ (TL2 ++ (TL3 ++ ([]))))) ∧ One fC 49 4 pL3 cL3 (xl1.take k) TL3 ∧ k ≤ xl1.length ∧ True) ?_ ?_
   · exact ⟨_, 0, none, 0, [], rfl, (hA.sub (e' := [(0, .slice (some ad1) l.length c), (2, .slice none 0 0), (3, .slice pL1 r.length cL1), (4, i64 ((i : Nat) : Int)), (5, pt b1), (6, i64 0)]) [0, 2, 3, 4, 5, 6] (by kernel_rfl)).cast (by kernel_rfl), (hO : Ow Try.prog none' w _ ([(b1, 45, [.slice none 0 0, bl xb1])] ++ (TL1 ++ (TL2 ++ ([] ++ ([])))))), hT2, (Nat.zero_le _), trivial⟩
   rintro _ fr w4 ⟨k, pL3, cL3, TL3, rfl, hA, hO, hTL3, hi_k, -⟩
   have htk : (xl1.take k).length = k := by rw [List.length_take]; omega
   refine wp_seq ?_
   refine sC (e' := [(0, .slice (some ad1) l.length c), (2, .slice none 0 0), (3, .slice pL1 r.length cL1), (4, i64 ((i : Nat) : Int)), (5, pt b1), (6, i64 ((k : Nat) : Int)), (26, bl (decide (((k : Nat) : Int) < ((xl1.length : Nat) : Int))))]) 8 hA [.slice xp1 xl1.length xc1] (cc (⟨by omega, by omega⟩ : (0 : Int) ≤ ((i : Nat) : Int) ∧ ((i : Nat) : Int) < ((l.length : Nat) : Int)) (cc (((hv.1.keep hO.only).ld0 encJ hx1 (by rfl)) : Ld Try.prog w4 (ad1.add (i * 2)) 51 (.slice xp1 xl1.length xc1)) c0)) ?_
   clear hA fr; intro fr hA
   rcases Bool.eq_false_or_eq_true (decide (((k : Nat) : Int) < ((xl1.length : Nat) : Int))) with h2 | h2
   · rw [h2] at hA
     have h2p := of_decide_eq_true h2
     obtain ⟨ad2, rfl⟩ := (hvx1.1).pos (by omega)
     obtain ⟨⟨yp1, yc1, yd1⟩, hy1⟩ : ∃ x, xl1[k]? = some x := ⟨_, getD_at _ CV0 (by omega)⟩
     have hvy1 : Vw fT _ (.slice yp1 yd1.words.length yc1) yd1.words := hvx1.2 _ (List.mem_of_getElem? hy1)
     have hsc1 : smC _ yd1 := smJ.at (x := ⟨_, _, xl1, _⟩) hsj1 hy1
     obtain ⟨-, smi1, smo1, sml1⟩ := id hsc1
     refine cT hA ?_
     refine wp_skip ?_
     refine then_normal ?_
     refine wp_seq ?_
     refine wp_block ?_
     have hS : Ow Try.prog none' w _ [] := hO.sub []
     refine rT (.q 0 (.q 2 (.q 3 (.q 4 (.q 5 (.q 6 (.q 7 (.q 8 (.q 9 (.m 1 (.m 10 (.m 11 (.q 12 (.m 13 .fin .non)) .non) .non) (.m 10 (.m 1 (.m 11 (.q 12 (.m 13 .fin .non)) .non) .non) .non))))))))))) hS ?_
     intro w5 ho; replace hO := hO.st ho; clear ho
     refine ckT (l := [0, 2, 3, 4, 5, 6, 7, 8, 9]) (e' := [(0, .slice (some ad1) l.length c), (2, .slice none 0 0), (3, .slice pL1 r.length cL1), (4, i64 ((i : Nat) : Int)), (5, pt b1), (6, i64 ((k : Nat) : Int)), (29, pt b1), (38, .agg #[.slice yp1 yd1.words.length yc1, str yd1.inp, str yd1.out, bl yd1.app])]) hA [.slice (some ad2) xl1.length xc1, .agg #[.slice yp1 yd1.words.length yc1, str yd1.inp, str yd1.out, bl yd1.app]] (cc (⟨by omega, by omega⟩ : (0 : Int) ≤ ((i : Nat) : Int) ∧ ((i : Nat) : Int) < ((l.length : Nat) : Int)) (cc (hS.sx (ad1.add (i * 2)) 51 (.slice (some ad2) xl1.length xc1) fun _ hO => ((hv.1.keep hO.only).ld0 encJ hx1 (by rfl))) (cc (⟨by omega, by omega⟩ : (0 : Int) ≤ ((k : Nat) : Int) ∧ ((k : Nat) : Int) < ((xl1.length : Nat) : Int)) (cc (hS.sx (ad2.add (k * 4)) 54 (.agg #[.slice yp1 yd1.words.length yc1, str yd1.inp, str yd1.out, bl yd1.app]) fun _ hO => ((hvx1.1.keep hO.only).ldn encC hy1)) c0)))) ?_
     clear hA fr; intro fr hA
     refine tree_mem ?_ ?_
     · refine (mQ (e' := [(0, .slice (some ad1) l.length c), (2, .slice none 0 0), (3, .slice pL1 r.length cL1), (4, i64 ((i : Nat) : Int)), (5, pt b1), (6, i64 ((k : Nat) : Int)), (30, .slice pL3 ((xl1.take k).length) cL3), (38, .agg #[.slice yp1 yd1.words.length yc1, str yd1.inp, str yd1.out, bl yd1.app])]) hA [.slice pL3 ((xl1.take k).length) cL3] (cc (hO.l1 0 0 43 (.slice pL3 ((xl1.take k).length) cL3)) c0) ?_)
       clear hA fr; intro fr hA
       refine ⟨(hO.sub []), ?_⟩
       replace hA := hA.sb (e' := [(0, .slice (some ad1) l.length c), (2, .slice none 0 0), (3, .slice pL1 r.length cL1), (4, i64 ((i : Nat) : Int)), (5, pt b1), (6, i64 ((k : Nat) : Int)), (30, .slice pL3 ((xl1.take k).length) cL3), (38, .agg #[.slice yp1 yd1.words.length yc1, str yd1.inp, str yd1.out, bl yd1.app])])
       refine tree_mem ?_ ?_
       · refine (mN (l := [.slice yp1 yd1.words.length yc1, str yd1.inp, str yd1.out, bl yd1.app]) (t := 49) (v := fun b => .slice (some ⟨b, 0, none⟩) 1 1) (d := 39) hA hO ?_)
         clear hA hO fr; intro fr w6 b2 hA hO
         refine ⟨(hO.sub []), ?_⟩
         replace hA := hA.sb (e' := [(0, .slice (some ad1) l.length c), (2, .slice none 0 0), (3, .slice pL1 r.length cL1), (4, i64 ((i : Nat) : Int)), (5, pt b1), (6, i64 ((k : Nat) : Int)), (30, .slice pL3 ((xl1.take k).length) cL3), (39, .slice (some ⟨b2, 0, none⟩) 1 1)])
         refine tree_mem ?_ ?_
         · replace hO : Ow Try.prog none' w w6 ([(b2, 49, [.slice yp1 yd1.words.length yc1, str yd1.inp, str yd1.out, bl yd1.app]), (b1, 45, [.slice pL3 ((xl1.take k).length) cL3, bl xb1])] ++ (TL1 ++ (TL2 ++ (TL3 ++ ([]))))) := hO
           refine (mA (f := fC) (el := 49) (sz := 4) (bytes := 64) (p := pL3) (c := cL3) (l := xl1.take k) (l' := ([⟨yp1, yc1, yd1⟩] : List CV)) (T := TL3) (t := 43) (tx := 43) (ty := 43) (x := .slice (some ⟨b2, 0, none⟩) 1 1) (d := 40) ([(b2, 49, [.slice yp1 yd1.words.length yc1, str yd1.inp, str yd1.out, bl yd1.app]), (b1, 45, [.slice pL3 ((xl1.take k).length) cL3, bl xb1])] ++ (TL1 ++ (TL2 ++ ([])))) ([]) encC hA (hO.to (by first | rfl | (simp only [TP, apd])) : Ow Try.prog none' w _ (([(b2, 49, [.slice yp1 yd1.words.length yc1, str yd1.inp, str yd1.out, bl yd1.app]), (b1, 45, [.slice pL3 ((xl1.take k).length) cL3, bl xb1])] ++ (TL1 ++ (TL2 ++ ([])))) ++ (TL3 ++ ([])))) hTL3 (Vw.src (e' := 49) encC ((hO.b 0).vw (off := 0) (xs := ([⟨yp1, yc1, yd1⟩] : List CV)) (by kernel_rfl)) (by kernel_rfl)) (by first | omega | (simp only [List.length_append, List.length_cons, List.length_nil]; omega)) (by unfold maxLen; first | omega | (simp only [List.length_append, List.length_cons, List.length_nil]; omega)) ?_)
           clear hA hO fr; intro fr w7 p1 c1 T3 hA hO hT3
           rw [show ((xl1.take k) ++ ([⟨yp1, yc1, yd1⟩] : List CV)) = xl1.take (k + 1) from (by rw [List.take_add_one, hy1]; rfl)] at hA hT3
           replace hO : Ow Try.prog none' w w7 ([(b2, 49, [.slice yp1 yd1.words.length yc1, str yd1.inp, str yd1.out, bl yd1.app]), (b1, 45, [.slice pL3 ((xl1.take k).length) cL3, bl xb1])] ++ (TL1 ++ (TL2 ++ (T3 ++ ([]))))) := hO.to (by first | rfl | (simp only [TP, apd]))
           refine ⟨(hO.sub []), ?_⟩
           replace hA := hA.sb (e' := [(0, .slice (some ad1) l.length c), (2, .slice none 0 0), (3, .slice pL1 r.length cL1), (4, i64 ((i : Nat) : Int)), (5, pt b1), (6, i64 ((k : Nat) : Int)), (40, .slice p1 ((xl1.take (k + 1)).length) c1)])
           refine ckT (l := [12]) (e' := [(0, .slice (some ad1) l.length c), (2, .slice none 0 0), (3, .slice pL1 r.length cL1), (4, i64 ((i : Nat) : Int)), (5, pt b1), (6, i64 ((k : Nat) : Int)), (40, .slice p1 ((xl1.take (k + 1)).length) c1), (41, pt b1)]) hA [] c0 ?_
           clear hA fr; intro fr hA
           refine tree_mem ?_ ?_
           · refine (mS (off := 0) (vc := [.slice p1 ((xl1.take (k + 1)).length) c1]) 1 hA hO ?_)
             clear hO; intro w8 hO
             refine ⟨(hO.sub []), ?_⟩
             replace hA := hA.sb (e' := [(0, .slice (some ad1) l.length c), (2, .slice none 0 0), (3, .slice pL1 r.length cL1), (4, i64 ((i : Nat) : Int)), (5, pt b1), (6, i64 ((k : Nat) : Int))])
             refine tree_fin ?_
             refine inBlock_normal ?_
             refine then_normal ?_
             refine rC (e' := [(0, .slice (some ad1) l.length c), (2, .slice none 0 0), (3, .slice pL1 r.length cL1), (4, i64 ((i : Nat) : Int)), (5, pt b1), (6, i64 (((k : Nat) : Int) + 1))]) 3 hA [bl true] (cc ((inK_i64 (by omega) (by omega)) : inK .i64 (((k : Nat) : Int) + 1)) c0) ?_
             clear hA fr; intro fr hA
             refine then_normal ?_
             exact ⟨_, by omega, k + 1, p1, c1, T3, rfl, (hA.sub (e' := [(0, .slice (some ad1) l.length c), (2, .slice none 0 0), (3, .slice pL1 r.length cL1), (4, i64 ((i : Nat) : Int)), (5, pt b1), (6, i64 (((k : Nat) : Int) + 1))]) [0, 2, 3, 4, 5, 6] (by kernel_rfl)).cast (by kernel_rfl), (Ow.subP (A := [(b2, 49, [.slice yp1 yd1.words.length yc1, str yd1.inp, str yd1.out, bl yd1.app]), (b1, 45, [.slice p1 ((xl1.take (k + 1)).length) c1, bl xb1])]) (A' := [(b1, 45, [.slice p1 ((xl1.take (k + 1)).length) c1, bl xb1])]) (B := TL1 ++ (TL2 ++ (T3 ++ ([])))) hO (.cons _ (.cons_cons _ .slnil))), hT3, (by omega), trivial⟩
           exact trivial
         exact trivial
       exact trivial
     refine tree_mem ?_ ?_
     · refine (mN (l := [.slice yp1 yd1.words.length yc1, str yd1.inp, str yd1.out, bl yd1.app]) (t := 49) (v := fun b => .slice (some ⟨b, 0, none⟩) 1 1) (d := 39) hA hO ?_)
       clear hA hO fr; intro fr w9 b3 hA hO
       refine ⟨(hO.sub []), ?_⟩
       replace hA := hA.sb (e' := [(0, .slice (some ad1) l.length c), (2, .slice none 0 0), (3, .slice pL1 r.length cL1), (4, i64 ((i : Nat) : Int)), (5, pt b1), (6, i64 ((k : Nat) : Int)), (29, pt b1), (39, .slice (some ⟨b3, 0, none⟩) 1 1)])
       refine tree_mem ?_ ?_
       · refine (mQ (e' := [(0, .slice (some ad1) l.length c), (2, .slice none 0 0), (3, .slice pL1 r.length cL1), (4, i64 ((i : Nat) : Int)), (5, pt b1), (6, i64 ((k : Nat) : Int)), (30, .slice pL3 ((xl1.take k).length) cL3), (39, .slice (some ⟨b3, 0, none⟩) 1 1)]) hA [.slice pL3 ((xl1.take k).length) cL3] (cc (hO.l1 1 0 43 (.slice pL3 ((xl1.take k).length) cL3)) c0) ?_)
         clear hA fr; intro fr hA
         refine ⟨(hO.sub []), ?_⟩
         replace hA := hA.sb (e' := [(0, .slice (some ad1) l.length c), (2, .slice none 0 0), (3, .slice pL1 r.length cL1), (4, i64 ((i : Nat) : Int)), (5, pt b1), (6, i64 ((k : Nat) : Int)), (30, .slice pL3 ((xl1.take k).length) cL3), (39, .slice (some ⟨b3, 0, none⟩) 1 1)])
         refine tree_mem ?_ ?_
         · replace hO : Ow Try.prog none' w w9 ([(b3, 49, [.slice yp1 yd1.words.length yc1, str yd1.inp, str yd1.out, bl yd1.app]), (b1, 45, [.slice pL3 ((xl1.take k).length) cL3, bl xb1])] ++ (TL1 ++ (TL2 ++ (TL3 ++ ([]))))) := hO
           refine (mA (f := fC) (el := 49) (sz := 4) (bytes := 64) (p := pL3) (c := cL3) (l := xl1.take k) (l' := ([⟨yp1, yc1, yd1⟩] : List CV)) (T := TL3) (t := 43) (tx := 43) (ty := 43) (x := .slice (some ⟨b3, 0, none⟩) 1 1) (d := 40) ([(b3, 49, [.slice yp1 yd1.words.length yc1, str yd1.inp, str yd1.out, bl yd1.app]), (b1, 45, [.slice pL3 ((xl1.take k).length) cL3, bl xb1])] ++ (TL1 ++ (TL2 ++ ([])))) ([]) encC hA (hO.to (by first | rfl | (simp only [TP, apd])) : Ow Try.prog none' w _ (([(b3, 49, [.slice yp1 yd1.words.length yc1, str yd1.inp, str yd1.out, bl yd1.app]), (b1, 45, [.slice pL3 ((xl1.take k).length) cL3, bl xb1])] ++ (TL1 ++ (TL2 ++ ([])))) ++ (TL3 ++ ([])))) hTL3 (Vw.src (e' := 49) encC ((hO.b 0).vw (off := 0) (xs := ([⟨yp1, yc1, yd1⟩] : List CV)) (by kernel_rfl)) (by kernel_rfl)) (by first | omega | (simp only [List.length_append, List.length_cons, List.length_nil]; omega)) (by unfold maxLen; first | omega | (simp only [List.length_append, List.length_cons, List.length_nil]; omega)) ?_)
           clear hA hO fr; intro fr w10 p2 c2 T4 hA hO hT4
           rw [show ((xl1.take k) ++ ([⟨yp1, yc1, yd1⟩] : List CV)) = xl1.take (k + 1) from (by rw [List.take_add_one, hy1]; rfl)] at hA hT4
           replace hO : Ow Try.prog none' w w10 ([(b3, 49, [.slice yp1 yd1.words.length yc1, str yd1.inp, str yd1.out, bl yd1.app]), (b1, 45, [.slice pL3 ((xl1.take k).length) cL3, bl xb1])] ++ (TL1 ++ (TL2 ++ (T4 ++ ([]))))) := hO.to (by first | rfl | (simp only [TP, apd]))
           refine ⟨(hO.sub []), ?_⟩
           replace hA := hA.sb (e' := [(0, .slice (some ad1) l.length c), (2, .slice none 0 0), (3, .slice pL1 r.length cL1), (4, i64 ((i : Nat) : Int)), (5, pt b1), (6, i64 ((k : Nat) : Int)), (40, .slice p2 ((xl1.take (k + 1)).length) c2)])
           refine ckT (l := [12]) (e' := [(0, .slice (some ad1) l.length c), (2, .slice none 0 0), (3, .slice pL1 r.length cL1), (4, i64 ((i : Nat) : Int)), (5, pt b1), (6, i64 ((k : Nat) : Int)), (40, .slice p2 ((xl1.take (k + 1)).length) c2), (41, pt b1)]) hA [] c0 ?_
           clear hA fr; intro fr hA
           refine tree_mem ?_ ?_
           · refine (mS (off := 0) (vc := [.slice p2 ((xl1.take (k + 1)).length) c2]) 1 hA hO ?_)
             clear hO; intro w11 hO
             refine ⟨(hO.sub []), ?_⟩
             replace hA := hA.sb (e' := [(0, .slice (some ad1) l.length c), (2, .slice none 0 0), (3, .slice pL1 r.length cL1), (4, i64 ((i : Nat) : Int)), (5, pt b1), (6, i64 ((k : Nat) : Int))])
             refine tree_fin ?_
             refine inBlock_normal ?_
             refine then_normal ?_
             refine rC (e' := [(0, .slice (some ad1) l.length c), (2, .slice none 0 0), (3, .slice pL1 r.length cL1), (4, i64 ((i : Nat) : Int)), (5, pt b1), (6, i64 (((k : Nat) : Int) + 1))]) 3 hA [bl true] (cc ((inK_i64 (by omega) (by omega)) : inK .i64 (((k : Nat) : Int) + 1)) c0) ?_
             clear hA fr; intro fr hA
             refine then_normal ?_
             exact ⟨_, by omega, k + 1, p2, c2, T4, rfl, (hA.sub (e' := [(0, .slice (some ad1) l.length c), (2, .slice none 0 0), (3, .slice pL1 r.length cL1), (4, i64 ((i : Nat) : Int)), (5, pt b1), (6, i64 (((k : Nat) : Int) + 1))]) [0, 2, 3, 4, 5, 6] (by kernel_rfl)).cast (by kernel_rfl), (Ow.subP (A := [(b3, 49, [.slice yp1 yd1.words.length yc1, str yd1.inp, str yd1.out, bl yd1.app]), (b1, 45, [.slice p2 ((xl1.take (k + 1)).length) c2, bl xb1])]) (A' := [(b1, 45, [.slice p2 ((xl1.take (k + 1)).length) c2, bl xb1])]) (B := TL1 ++ (TL2 ++ (T4 ++ ([])))) hO (.cons _ (.cons_cons _ .slnil))), hT4, (by omega), trivial⟩
           exact trivial
         exact trivial
       exact trivial
     exact trivial
   rw [h2] at hA
   have h2p := of_decide_eq_false h2
   refine cF hA ?_
   refine wp_exit ?_
   refine then_exit ?_
   refine then_exit ?_
   refine inBlock_exit ?_
   refine then_normal ?_
   refine rR (l := (rg 0 5)) ?_
   refine ck (l := [0, 1]) (r := [2, 3, 4]) (e' := [(0, .slice (some ad1) l.length c), (2, .slice none 0 0), (3, .slice pL1 r.length cL1), (4, i64 ((i : Nat) : Int)), (42, .slice pL1 r.length cL1), (43, .agg #[.slice pL3 ((xl1.take k).length) cL3, bl xb1])]) hA [.agg #[.slice pL3 ((xl1.take k).length) cL3, bl xb1]] (cc (hO.ln 0 0 45 [.slice pL3 ((xl1.take k).length) cL3, bl xb1]) c0) ?_
   clear hA fr; intro fr hA
   refine wpOps_cons' (mN (l := [.slice pL3 ((xl1.take k).length) cL3, bl xb1]) (t := 45) (v := fun b => .slice (some ⟨b, 0, none⟩) 1 1) (d := 44) hA hO ?_)
   clear hA hO fr; intro fr w12 b4 hA hO
   replace hA := hA.sb (e' := [(0, .slice (some ad1) l.length c), (2, .slice none 0 0), (3, .slice pL1 r.length cL1), (4, i64 ((i : Nat) : Int)), (42, .slice pL1 r.length cL1), (44, .slice (some ⟨b4, 0, none⟩) 1 1)])
   replace hO : Ow Try.prog none' w w12 ([(b4, 45, [.slice pL3 ((xl1.take k).length) cL3, bl xb1]), (b1, 45, [.slice pL3 ((xl1.take k).length) cL3, bl xb1])] ++ (TL1 ++ (TL2 ++ (TL3 ++ ([]))))) := hO
   refine wpOps_cons' (mA (f := fJ) (el := 45) (sz := 2) (bytes := 32) (p := pL1) (c := cL1) (l := r) (l' := ([⟨pL3, cL3, xl1.take k, xb1⟩] : List JV)) (T := TL1) (t := 27) (tx := 27) (ty := 27) (x := .slice (some ⟨b4, 0, none⟩) 1 1) (d := 45) [(b4, 45, [.slice pL3 ((xl1.take k).length) cL3, bl xb1]), (b1, 45, [.slice pL3 ((xl1.take k).length) cL3, bl xb1])] (TL2 ++ (TL3 ++ ([]))) encJ hA hO hTL1 (Vw.src (e' := 45) encJ ((hO.b 0).vw (off := 0) (xs := ([⟨pL3, cL3, xl1.take k, xb1⟩] : List JV)) (by kernel_rfl)) (by kernel_rfl)) (by first | omega | (simp only [List.length_append, List.length_cons, List.length_nil]; omega)) (by unfold maxLen; first | omega | (simp only [List.length_append, List.length_cons, List.length_nil]; omega)) ?_)
   clear hA hO fr; intro fr w13 p3 c3 T5 hA hO hT5
   replace hA := hA.sb (e' := [(0, .slice (some ad1) l.length c), (2, .slice none 0 0), (3, .slice pL1 r.length cL1), (4, i64 ((i : Nat) : Int)), (45, .slice p3 ((r ++ ([⟨pL3, cL3, xl1.take k, xb1⟩] : List JV)).length) c3)])
   refine ck (l := [4]) (r := []) (e' := [(0, .slice (some ad1) l.length c), (2, .slice none 0 0), (3, .slice p3 ((r ++ ([⟨pL3, cL3, xl1.take k, xb1⟩] : List JV)).length) c3), (4, i64 ((i : Nat) : Int))]) hA [] c0 ?_
   clear hA fr; intro fr hA
   refine end_ops ?_
   refine inBlock_normal ?_
   refine then_normal ?_
   refine rC (e' := [(0, .slice (some ad1) l.length c), (2, .slice none 0 0), (3, .slice p3 ((r ++ ([⟨pL3, cL3, xl1.take k, xb1⟩] : List JV)).length) c3), (4, i64 (((i : Nat) : Int) + 1))]) 3 hA [bl true] (cc ((inK_i64 (by omega) (by omega)) : inK .i64 (((i : Nat) : Int) + 1)) c0) ?_
   clear hA fr; intro fr hA
   refine then_normal ?_
   replace hO : Ow Try.prog none' w w13 ([(b4, 45, [.slice pL3 ((xl1.take k).length) cL3, bl xb1]), (b1, 45, [.slice pL3 ((xl1.take k).length) cL3, bl xb1])] ++ (T5 ++ (TL2 ++ (TL3 ++ ([]))))) := hO
   have hC1 : InW 49 (r ++ ([⟨pL3, cL3, xl1.take k, xb1⟩] : List JV)) (TL2 ++ TL3) := InW.snoc (x := ⟨pL3, cL3, xl1.take k, xb1⟩) hTL3 hTL2
   replace hO : Ow Try.prog none' w w13 ([(b4, 45, [.slice pL3 ((xl1.take k).length) cL3, bl xb1]), (b1, 45, [.slice pL3 ((xl1.take k).length) cL3, bl xb1])] ++ (T5 ++ ((TL2 ++ TL3) ++ ([])))) := hO.to (by first | rfl | (simp only [TP, apd]))
   exact ⟨_, by omega, i + 1, r ++ ([⟨pL3, cL3, xl1.take k, xb1⟩] : List JV), p3, c3, T5, (TL2 ++ TL3), rfl, (hA.sub (e' := [(0, .slice (some ad1) l.length c), (2, .slice none 0 0), (3, .slice p3 ((r ++ ([⟨pL3, cL3, xl1.take k, xb1⟩] : List JV)).length) c3), (4, i64 (((i : Nat) : Int) + 1))]) [0, 2, 3, 4] (by kernel_rfl)).cast (by kernel_rfl), (Ow.subP (A := [(b4, 45, [.slice pL3 ((xl1.take k).length) cL3, bl xb1]), (b1, 45, [.slice pL3 ((xl1.take k).length) cL3, bl xb1])]) (A' := []) (B := T5 ++ ((TL2 ++ TL3) ++ ([]))) hO (.cons _ (.cons _ .slnil))), hT5, hC1, (by omega), (sim_step hsim hx1 (by omega)), (by simp only [List.length_append, List.length_cons, List.length_nil]; omega), trivial⟩
 rw [h1] at hA
 have h1p := of_decide_eq_false h1
 refine cF hA ?_
 refine wp_exit ?_
 refine then_exit ?_
 refine then_exit ?_
 refine inBlock_exit ?_
 refine then_normal ?_
 refine sC (e' := [(2, .slice pL1 r.length cL1)]) 2 hA [] c0 ?_
 clear hA fr; intro fr hA
 refine wp_ret ?_
 refine cR (cs := [none]) (us := [.slice pL1 r.length cL1]) hA [] trivial ?_
 exact ⟨_, _, r, _, _, rfl, hTL1, hTL2, sim_end hsim (by omega), hO.to (by simp only [List.nil_append, List.append_nil])⟩

theorem Own_any (p : Option Addr) (c : Nat) (l : List JV) (w : World) (hv : VL w (.slice p l.length c) l) (hsm : smL 1000000 (l.map JV.d)) :
    Calls Try.prog 17 #[.slice p l.length c] w fun e w' => ∃ p' k' r T0 T1, e = .returned (.slice p' r.length k') ∧ One fJ 53 2 p' k' r T0 ∧ InW 54 r T1 ∧ r.map JV.S = l.map JV.S ∧ Ow Try.prog none' w w' (T0 ++ T1) := by
 refine c_enter (args := [.slice p l.length c]) (m := 46) (n := 47) Try.func17 rfl (by kernel_rfl) (by kernel_rfl) fun fr hA => ?_
 have hO := Ow.nil Try.prog none' w
 have hsl := hsm.len
 refine sC (e' := [(0, .slice p l.length c), (2, .slice none 0 0)]) 1 hA [] c0 ?_
 clear hA fr; intro fr hA
 refine sC (e' := [(0, .slice p l.length c), (2, .slice none 0 0), (3, .slice none 0 0)]) 1 hA [] c0 ?_
 clear hA fr; intro fr hA
 refine wp_seq ?_
 refine sC (e' := [(0, .slice p l.length c), (2, .slice none 0 0), (3, .slice none 0 0), (4, i64 0)]) 1 hA [] c0 ?_
 clear hA fr; intro fr hA
 refine wp_block ?_
 have hT1 := One.nil fJ 53 2
 replace hO : Ow Try.prog none' w w ([] ++ ([] ++ ([]))) := hO.to (by first | rfl | (simp only [TP, apd]))
 have hC0 : InW 54 [] [] := rfl
 replace hO : Ow Try.prog none' w w ([] ++ ([] ++ ([] ++ ([])))) := hO.to (by first | rfl | (simp only [TP, apd]))
 refine c_loop (fun mm fr W => ∃ (i : Nat) (r : List JV) (pL1 : Option Addr) (cL1 : Nat) (TL1 : OwL) (TL2 : OwL), mm = l.length - i ∧ Holds 47 [] fr [(0, .slice p l.length c), (2, .slice none 0 0), (3, .slice pL1 r.length cL1), (4, i64 ((i : Nat) : Int))] ∧ Ow Try.prog none' w W ([] ++ (TL1 ++ (TL2 ++ ([])))) ∧ One fJ 53 2 pL1 cL1 r TL1 ∧ InW 54 r TL2 ∧ i ≤ l.length ∧ r.map JV.S = (l.take i).map JV.S ∧ r.length ≤ i ∧ True) ?_ ?_
 · exact ⟨_, 0, [], none, 0, [], [], rfl, (hA.sub (e' := [(0, .slice p l.length c), (2, .slice none 0 0), (3, .slice none 0 0), (4, i64 0)]) [0, 2, 3, 4] (by kernel_rfl)).cast (by kernel_rfl), (hO : Ow Try.prog none' w _ ([] ++ ([] ++ ([] ++ ([]))))), hT1, hC0, (Nat.zero_le _), rfl, (Nat.le_refl _), trivial⟩
 rintro _ fr w1 ⟨i, r, pL1, cL1, TL1, TL2, rfl, hA, hO, hTL1, hTL2, hi_i, hsim, hrl, -⟩
 refine wp_seq ?_
 refine sC (e' := [(0, .slice p l.length c), (2, .slice none 0 0), (3, .slice pL1 r.length cL1), (4, i64 ((i : Nat) : Int)), (10, bl (decide (((i : Nat) : Int) < ((l.length : Nat) : Int))))]) 4 hA [] c0 ?_
 clear hA fr; intro fr hA
 rcases Bool.eq_false_or_eq_true (decide (((i : Nat) : Int) < ((l.length : Nat) : Int))) with h1 | h1
 · rw [h1] at hA
   have h1p := of_decide_eq_true h1
   obtain ⟨ad1, rfl⟩ := (hv.1).pos (by omega)
   obtain ⟨⟨xp1, xc1, xl1, xb1⟩, hx1⟩ : ∃ x, l[i]? = some x := ⟨_, getD_at _ JV0 (by omega)⟩
   have hvx1 : Vw fC _ (.slice xp1 xl1.length xc1) xl1 ∧ ∀ y ∈ xl1, VC _ y := hv.2 _ (List.mem_of_getElem? hx1)
   have hsj1 : smJ _ (JV.d ⟨xp1, xc1, xl1, xb1⟩) := hsm.at hx1
   have hsjl1 : xl1.length ≤ _ := smJ.len (x := ⟨xp1, xc1, xl1, xb1⟩) hsj1
   refine cT hA ?_
   refine wp_skip ?_
   refine then_normal ?_
   refine wp_seq ?_
   refine wp_block ?_
   refine sR (l := (rg 0 8)) ?_
   refine ck (l := (rg 0 6)) (r := [6, 7]) (e' := [(0, .slice (some ad1) l.length c), (2, .slice none 0 0), (3, .slice pL1 r.length cL1), (4, i64 ((i : Nat) : Int)), (18, .agg #[.slice none 0 0, bl xb1])]) hA [bl xb1] (cc (⟨by omega, by omega⟩ : (0 : Int) ≤ ((i : Nat) : Int) ∧ ((i : Nat) : Int) < ((l.length : Nat) : Int)) (cc (((hv.1.keep hO.only).ld1 encJ hx1 (k := 1) (by rfl)) : Ld Try.prog w1 ((ad1.add (i * 2)).add 1) 4 (bl xb1)) c0)) ?_
   clear hA fr; intro fr hA
   refine wpOps_cons' (mN (l := [.slice none 0 0, bl false]) (t := 53) (v := pt) (d := 5) hA hO ?_)
   clear hA hO fr; intro fr w2 b1 hA hO
   replace hA := hA.sb (e' := [(0, .slice (some ad1) l.length c), (2, .slice none 0 0), (3, .slice pL1 r.length cL1), (4, i64 ((i : Nat) : Int)), (5, pt b1), (18, .agg #[.slice none 0 0, bl xb1])])
   refine wpOps_cons' (mS (off := 0) (vc := [.slice none 0 0, bl xb1]) 0 hA hO ?_)
   clear hO; intro w3 hO
   replace hA := hA.sb (e' := [(0, .slice (some ad1) l.length c), (2, .slice none 0 0), (3, .slice pL1 r.length cL1), (4, i64 ((i : Nat) : Int)), (5, pt b1)])
   refine end_ops ?_
   refine then_normal ?_
   refine wp_seq ?_
   refine sC (e' := [(0, .slice (some ad1) l.length c), (2, .slice none 0 0), (3, .slice pL1 r.length cL1), (4, i64 ((i : Nat) : Int)), (5, pt b1), (6, i64 0)]) 1 hA [] c0 ?_
   clear hA fr; intro fr hA
   refine wp_block ?_
   have hT2 := One.nil fC 54 4
   replace hO : Ow Try.prog none' w w3 ([(b1, 53, [.slice none 0 0, bl xb1])] ++ (TL1 ++ (TL2 ++ ([] ++ ([]))))) := hO.to (by first | rfl | (simp only [TP, apd]))
   refine c_loop (fun mm fr W => ∃ (k : Nat) (pL3 : Option Addr) (cL3 : Nat) (TL3 : OwL), mm = xl1.length - k ∧ Holds 47 [] fr [(0, .slice (some ad1) l.length c), (2, .slice none 0 0), (3, .slice pL1 r.length cL1), (4, i64 ((i : Nat) : Int)), (5, pt b1), (6, i64 ((k : Nat) : Int))] ∧ Ow Try.prog none' w W ([(b1, 53, [.slice pL3 ((xl1.take k).length) cL3, bl xb1])] ++ (TL1 ++ (TL2 ++ (TL3 ++ ([]))))) ∧ One fC 54 4 pL3 cL3 (xl1.take k) TL3 ∧ k ≤ xl1.length ∧ True) ?_ ?_
   · exact ⟨_, 0, none, 0, [], rfl, (hA.sub (e' := [(0, .slice (some ad1) l.length c), (2, .slice none 0 0), (3, .slice pL1 r.length cL1), (4, i64 ((i : Nat) : Int)), (5, pt b1), (6, i64 0)]) [0, 2, 3, 4, 5, 6] (by kernel_rfl)).cast (by kernel_rfl), (hO : Ow Try.prog none' w _ ([(b1, 53, [.slice none 0 0, bl xb1])] ++ (TL1 ++ (TL2 ++ ([] ++ ([])))))), hT2, (Nat.zero_le _), trivial⟩
   rintro _ fr w4 ⟨k, pL3, cL3, TL3, rfl, hA, hO, hTL3, hi_k, -⟩
   have htk : (xl1.take k).length = k := by rw [List.length_take]; omega
   refine wp_seq ?_
   refine sC (e' := [(0, .slice (some ad1) l.length c), (2, .slice none 0 0), (3, .slice pL1 r.length cL1), (4, i64 ((i : Nat) : Int)), (5, pt b1), (6, i64 ((k : Nat) : Int)), (26, bl (decide (((k : Nat) : Int) < ((xl1.length : Nat) : Int))))]) 8 hA [.slice xp1 xl1.length xc1] (cc (⟨by omega, by omega⟩ : (0 : Int) ≤ ((i : Nat) : Int) ∧ ((i : Nat) : Int) < ((l.length : Nat) : Int)) (cc (((hv.1.keep hO.only).ld0 encJ hx1 (by rfl)) : Ld Try.prog w4 (ad1.add (i * 2)) 43 (.slice xp1 xl1.length xc1)) c0)) ?_
   clear hA fr; intro fr hA
   rcases Bool.eq_false_or_eq_true (decide (((k : Nat) : Int) < ((xl1.length : Nat) : Int))) with h2 | h2
   · rw [h2] at hA
     have h2p := of_decide_eq_true h2
     obtain ⟨ad2, rfl⟩ := (hvx1.1).pos (by omega)
     obtain ⟨⟨yp1, yc1, yd1⟩, hy1⟩ : ∃ x, xl1[k]? = some x := ⟨_, getD_at _ CV0 (by omega)⟩
     have hvy1 : Vw fT _ (.slice yp1 yd1.words.length yc1) yd1.words := hvx1.2 _ (List.mem_of_getElem? hy1)
     have hsc1 : smC _ yd1 := smJ.at (x := ⟨_, _, xl1, _⟩) hsj1 hy1
     obtain ⟨-, smi1, smo1, sml1⟩ := id hsc1
     refine cT hA ?_
     refine wp_skip ?_
     refine then_normal ?_
     refine wp_seq ?_
     refine wp_block ?_
     have hS : Ow Try.prog none' w _ [] := hO.sub []
     refine rT (.q 0 (.q 2 (.q 3 (.q 4 (.q 5 (.q 6 (.q 7 (.q 8 (.q 9 (.m 1 (.m 10 (.m 11 (.q 12 (.m 13 .fin .non)) .non) .non) (.m 10 (.m 1 (.m 11 (.q 12 (.m 13 .fin .non)) .non) .non) .non))))))))))) hS ?_
     intro w5 ho; replace hO := hO.st ho; clear ho
     refine ckT (l := [0, 2, 3, 4, 5, 6, 7, 8, 9]) (e' := [(0, .slice (some ad1) l.length c), (2, .slice none 0 0), (3, .slice pL1 r.length cL1), (4, i64 ((i : Nat) : Int)), (5, pt b1), (6, i64 ((k : Nat) : Int)), (29, pt b1), (38, .agg #[.slice yp1 yd1.words.length yc1, str yd1.inp, str yd1.out, bl yd1.app])]) hA [.slice (some ad2) xl1.length xc1, .agg #[.slice yp1 yd1.words.length yc1, str yd1.inp, str yd1.out, bl yd1.app]] (cc (⟨by omega, by omega⟩ : (0 : Int) ≤ ((i : Nat) : Int) ∧ ((i : Nat) : Int) < ((l.length : Nat) : Int)) (cc (hS.sx (ad1.add (i * 2)) 43 (.slice (some ad2) xl1.length xc1) fun _ hO => ((hv.1.keep hO.only).ld0 encJ hx1 (by rfl))) (cc (⟨by omega, by omega⟩ : (0 : Int) ≤ ((k : Nat) : Int) ∧ ((k : Nat) : Int) < ((xl1.length : Nat) : Int)) (cc (hS.sx (ad2.add (k * 4)) 49 (.agg #[.slice yp1 yd1.words.length yc1, str yd1.inp, str yd1.out, bl yd1.app]) fun _ hO => ((hvx1.1.keep hO.only).ldn encC hy1)) c0)))) ?_
     clear hA fr; intro fr hA
     refine tree_mem ?_ ?_
     · refine (mQ (e' := [(0, .slice (some ad1) l.length c), (2, .slice none 0 0), (3, .slice pL1 r.length cL1), (4, i64 ((i : Nat) : Int)), (5, pt b1), (6, i64 ((k : Nat) : Int)), (30, .slice pL3 ((xl1.take k).length) cL3), (38, .agg #[.slice yp1 yd1.words.length yc1, str yd1.inp, str yd1.out, bl yd1.app])]) hA [.slice pL3 ((xl1.take k).length) cL3] (cc (hO.l1 0 0 51 (.slice pL3 ((xl1.take k).length) cL3)) c0) ?_)
       clear hA fr; intro fr hA
       refine ⟨(hO.sub []), ?_⟩
       replace hA := hA.sb (e' := [(0, .slice (some ad1) l.length c), (2, .slice none 0 0), (3, .slice pL1 r.length cL1), (4, i64 ((i : Nat) : Int)), (5, pt b1), (6, i64 ((k : Nat) : Int)), (30, .slice pL3 ((xl1.take k).length) cL3), (38, .agg #[.slice yp1 yd1.words.length yc1, str yd1.inp, str yd1.out, bl yd1.app])])
       refine tree_mem ?_ ?_
       · refine (mN (l := [.slice yp1 yd1.words.length yc1, str yd1.inp, str yd1.out, bl yd1.app]) (t := 54) (v := fun b => .slice (some ⟨b, 0, none⟩) 1 1) (d := 39) hA hO ?_)
         clear hA hO fr; intro fr w6 b2 hA hO
         refine ⟨(hO.sub []), ?_⟩
         replace hA := hA.sb (e' := [(0, .slice (some ad1) l.length c), (2, .slice none 0 0), (3, .slice pL1 r.length cL1), (4, i64 ((i : Nat) : Int)), (5, pt b1), (6, i64 ((k : Nat) : Int)), (30, .slice pL3 ((xl1.take k).length) cL3), (39, .slice (some ⟨b2, 0, none⟩) 1 1)])
         refine tree_mem ?_ ?_
         · replace hO : Ow Try.prog none' w w6 ([(b2, 54, [.slice yp1 yd1.words.length yc1, str yd1.inp, str yd1.out, bl yd1.app]), (b1, 53, [.slice pL3 ((xl1.take k).length) cL3, bl xb1])] ++ (TL1 ++ (TL2 ++ (TL3 ++ ([]))))) := hO
           refine (mA (f := fC) (el := 54) (sz := 4) (bytes := 64) (p := pL3) (c := cL3) (l := xl1.take k) (l' := ([⟨yp1, yc1, yd1⟩] : List CV)) (T := TL3) (t := 51) (tx := 51) (ty := 51) (x := .slice (some ⟨b2, 0, none⟩) 1 1) (d := 40) ([(b2, 54, [.slice yp1 yd1.words.length yc1, str yd1.inp, str yd1.out, bl yd1.app]), (b1, 53, [.slice pL3 ((xl1.take k).length) cL3, bl xb1])] ++ (TL1 ++ (TL2 ++ ([])))) ([]) encC hA (hO.to (by first | rfl | (simp only [TP, apd])) : Ow Try.prog none' w _ (([(b2, 54, [.slice yp1 yd1.words.length yc1, str yd1.inp, str yd1.out, bl yd1.app]), (b1, 53, [.slice pL3 ((xl1.take k).length) cL3, bl xb1])] ++ (TL1 ++ (TL2 ++ ([])))) ++ (TL3 ++ ([])))) hTL3 (Vw.src (e' := 54) encC ((hO.b 0).vw (off := 0) (xs := ([⟨yp1, yc1, yd1⟩] : List CV)) (by kernel_rfl)) (by kernel_rfl)) (by first | omega | (simp only [List.length_append, List.length_cons, List.length_nil]; omega)) (by unfold maxLen; first | omega | (simp only [List.length_append, List.length_cons, List.length_nil]; omega)) ?_)
           clear hA hO fr; intro fr w7 p1 c1 T3 hA hO hT3
           rw [show ((xl1.take k) ++ ([⟨yp1, yc1, yd1⟩] : List CV)) = xl1.take (k + 1) from (by rw [List.take_add_one, hy1]; rfl)] at hA hT3
           replace hO : Ow Try.prog none' w w7 ([(b2, 54, [.slice yp1 yd1.words.length yc1, str yd1.inp, str yd1.out, bl yd1.app]), (b1, 53, [.slice pL3 ((xl1.take k).length) cL3, bl xb1])] ++ (TL1 ++ (TL2 ++ (T3 ++ ([]))))) := hO.to (by first | rfl | (simp only [TP, apd]))
           refine ⟨(hO.sub []), ?_⟩
           replace hA := hA.sb (e' := [(0, .slice (some ad1) l.length c), (2, .slice none 0 0), (3, .slice pL1 r.length cL1), (4, i64 ((i : Nat) : Int)), (5, pt b1), (6, i64 ((k : Nat) : Int)), (40, .slice p1 ((xl1.take (k + 1)).length) c1)])
           refine ckT (l := [12]) (e' := [(0, .slice (some ad1) l.length c), (2, .slice none 0 0), (3, .slice pL1 r.length cL1), (4, i64 ((i : Nat) : Int)), (5, pt b1), (6, i64 ((k : Nat) : Int)), (40, .slice p1 ((xl1.take (k + 1)).length) c1), (41, pt b1)]) hA [] c0 ?_
           clear hA fr; intro fr hA
           refine tree_mem ?_ ?_
           · refine (mS (off := 0) (vc := [.slice p1 ((xl1.take (k + 1)).length) c1]) 1 hA hO ?_)
             clear hO; intro w8 hO
             refine ⟨(hO.sub []), ?_⟩
             replace hA := hA.sb (e' := [(0, .slice (some ad1) l.length c), (2, .slice none 0 0), (3, .slice pL1 r.length cL1), (4, i64 ((i : Nat) : Int)), (5, pt b1), (6, i64 ((k : Nat) : Int))])
             refine tree_fin ?_
             refine inBlock_normal ?_
             refine then_normal ?_
             refine rC (e' := [(0, .slice (some ad1) l.length c), (2, .slice none 0 0), (3, .slice pL1 r.length cL1), (4, i64 ((i : Nat) : Int)), (5, pt b1), (6, i64 (((k : Nat) : Int) + 1))]) 3 hA [bl true] (cc ((inK_i64 (by omega) (by omega)) : inK .i64 (((k : Nat) : Int) + 1)) c0) ?_
             clear hA fr; intro fr hA
             refine then_normal ?_
             exact ⟨_, by omega, k + 1, p1, c1, T3, rfl, (hA.sub (e' := [(0, .slice (some ad1) l.length c), (2, .slice none 0 0), (3, .slice pL1 r.length cL1), (4, i64 ((i : Nat) : Int)), (5, pt b1), (6, i64 (((k : Nat) : Int) + 1))]) [0, 2, 3, 4, 5, 6] (by kernel_rfl)).cast (by kernel_rfl), (Ow.subP (A := [(b2, 54, [.slice yp1 yd1.words.length yc1, str yd1.inp, str yd1.out, bl yd1.app]), (b1, 53, [.slice p1 ((xl1.take (k + 1)).length) c1, bl xb1])]) (A' := [(b1, 53, [.slice p1 ((xl1.take (k + 1)).length) c1, bl xb1])]) (B := TL1 ++ (TL2 ++ (T3 ++ ([])))) hO (.cons _ (.cons_cons _ .slnil))), hT3, (by omega), trivial⟩
           exact trivial
         exact trivial
       exact trivial
     refine tree_mem ?_ ?_
     · refine (mN (l := [.slice yp1 yd1.words.length yc1, str yd1.inp, str yd1.out, bl yd1.app]) (t := 54) (v := fun b => .slice (some ⟨b, 0, none⟩) 1 1) (d := 39) hA hO ?_)
       clear hA hO fr; intro fr w9 b3 hA hO
       refine ⟨(hO.sub []), ?_⟩
       replace hA := hA.sb (e' := [(0, .slice (some ad1) l.length c), (2, .slice none 0 0), (3, .slice pL1 r.length cL1), (4, i64 ((i : Nat) : Int)), (5, pt b1), (6, i64 ((k : Nat) : Int)), (29, pt b1), (39, .slice (some ⟨b3, 0, none⟩) 1 1)])
       refine tree_mem ?_ ?_
       · refine (mQ (e' := [(0, .slice (some ad1) l.length c), (2, .slice none 0 0), (3, .slice pL1 r.length cL1), (4, i64 ((i : Nat) : Int)), (5, pt b1), (6, i64 ((k : Nat) : Int)), (30, .slice pL3 ((xl1.take k).length) cL3), (39, .slice (some ⟨b3, 0, none⟩) 1 1)]) hA [.slice pL3 ((xl1.take k).length) cL3] (cc (hO.l1 1 0 51 (.slice pL3 ((xl1.take k).length) cL3)) c0) ?_)
         clear hA fr; intro fr hA
         refine ⟨(hO.sub []), ?_⟩
         replace hA := hA.sb (e' := [(0, .slice (some ad1) l.length c), (2, .slice none 0 0), (3, .slice pL1 r.length cL1), (4, i64 ((i : Nat) : Int)), (5, pt b1), (6, i64 ((k : Nat) : Int)), (30, .slice pL3 ((xl1.take k).length) cL3), (39, .slice (some ⟨b3, 0, none⟩) 1 1)])
         refine tree_mem ?_ ?_
         · replace hO : Ow Try.prog none' w w9 ([(b3, 54, [.slice yp1 yd1.words.length yc1, str yd1.inp, str yd1.out, bl yd1.app]), (b1, 53, [.slice pL3 ((xl1.take k).length) cL3, bl xb1])] ++ (TL1 ++ (TL2 ++ (TL3 ++ ([]))))) := hO
           refine (mA (f := fC) (el := 54) (sz := 4) (bytes := 64) (p := pL3) (c := cL3) (l := xl1.take k) (l' := ([⟨yp1, yc1, yd1⟩] : List CV)) (T := TL3) (t := 51) (tx := 51) (ty := 51) (x := .slice (some ⟨b3, 0, none⟩) 1 1) (d := 40) ([(b3, 54, [.slice yp1 yd1.words.length yc1, str yd1.inp, str yd1.out, bl yd1.app]), (b1, 53, [.slice pL3 ((xl1.take k).length) cL3, bl xb1])] ++ (TL1 ++ (TL2 ++ ([])))) ([]) encC hA (hO.to (by first | rfl | (simp only [TP, apd])) : Ow Try.prog none' w _ (([(b3, 54, [.slice yp1 yd1.words.length yc1, str yd1.inp, str yd1.out, bl yd1.app]), (b1, 53, [.slice pL3 ((xl1.take k).length) cL3, bl xb1])] ++ (TL1 ++ (TL2 ++ ([])))) ++ (TL3 ++ ([])))) hTL3 (Vw.src (e' := 54) encC ((hO.b 0).vw (off := 0) (xs := ([⟨yp1, yc1, yd1⟩] : List CV)) (by kernel_rfl)) (by kernel_rfl)) (by first | omega | (simp only [List.length_append, List.length_cons, List.length_nil]; omega)) (by unfold maxLen; first | omega | (simp only [List.length_append, List.length_cons, List.length_nil]; omega)) ?_)
           clear hA hO fr; intro fr w10 p2 c2 T4 hA hO hT4
           rw [show ((xl1.take k) ++ ([⟨yp1, yc1, yd1⟩] : List CV)) = xl1.take (k + 1) from (by rw [List.take_add_one, hy1]; rfl)] at hA hT4
           replace hO : Ow Try.prog none' w w10 ([(b3, 54, [.slice yp1 yd1.words.length yc1, str yd1.inp, str yd1.out, bl yd1.app]), (b1, 53, [.slice pL3 ((xl1.take k).length) cL3, bl xb1])] ++ (TL1 ++ (TL2 ++ (T4 ++ ([]))))) := hO.to (by first | rfl | (simp only [TP, apd]))
           refine ⟨(hO.sub []), ?_⟩
           replace hA := hA.sb (e' := [(0, .slice (some ad1) l.length c), (2, .slice none 0 0), (3, .slice pL1 r.length cL1), (4, i64 ((i : Nat) : Int)), (5, pt b1), (6, i64 ((k : Nat) : Int)), (40, .slice p2 ((xl1.take (k + 1)).length) c2)])
           refine ckT (l := [12]) (e' := [(0, .slice (some ad1) l.length c), (2, .slice none 0 0), (3, .slice pL1 r.length cL1), (4, i64 ((i : Nat) : Int)), (5, pt b1), (6, i64 ((k : Nat) : Int)), (40, .slice p2 ((xl1.take (k + 1)).length) c2), (41, pt b1)]) hA [] c0 ?_
           clear hA fr; intro fr hA
           refine tree_mem ?_ ?_
           · refine (mS (off := 0) (vc := [.slice p2 ((xl1.take (k + 1)).length) c2]) 1 hA hO ?_)
             clear hO; intro w11 hO
             refine ⟨(hO.sub []), ?_⟩
             replace hA := hA.sb (e' := [(0, .slice (some ad1) l.length c), (2, .slice none 0 0), (3, .slice pL1 r.length cL1), (4, i64 ((i : Nat) : Int)), (5, pt b1), (6, i64 ((k : Nat) : Int))])
             refine tree_fin ?_
             refine inBlock_normal ?_
             refine then_normal ?_
             refine rC (e' := [(0, .slice (some ad1) l.length c), (2, .slice none 0 0), (3, .slice pL1 r.length cL1), (4, i64 ((i : Nat) : Int)), (5, pt b1), (6, i64 (((k : Nat) : Int) + 1))]) 3 hA [bl true] (cc ((inK_i64 (by omega) (by omega)) : inK .i64 (((k : Nat) : Int) + 1)) c0) ?_
             clear hA fr; intro fr hA
             refine then_normal ?_
             exact ⟨_, by omega, k + 1, p2, c2, T4, rfl, (hA.sub (e' := [(0, .slice (some ad1) l.length c), (2, .slice none 0 0), (3, .slice pL1 r.length cL1), (4, i64 ((i : Nat) : Int)), (5, pt b1), (6, i64 (((k : Nat) : Int) + 1))]) [0, 2, 3, 4, 5, 6] (by kernel_rfl)).cast (by kernel_rfl), (Ow.subP (A := [(b3, 54, [.slice yp1 yd1.words.length yc1, str yd1.inp, str yd1.out, bl yd1.app]), (b1, 53, [.slice p2 ((xl1.take (k + 1)).length) c2, bl xb1])]) (A' := [(b1, 53, [.slice p2 ((xl1.take (k + 1)).length) c2, bl xb1])]) (B := TL1 ++ (TL2 ++ (T4 ++ ([])))) hO (.cons _ (.cons_cons _ .slnil))), hT4, (by omega), trivial⟩
           exact trivial
         exact trivial
       exact trivial
     exact trivial
   rw [h2] at hA
   have h2p := of_decide_eq_false h2
   refine cF hA ?_
   refine wp_exit ?_
   refine then_exit ?_
   refine then_exit ?_
   refine inBlock_exit ?_
   refine then_normal ?_
   refine rR (l := (rg 0 5)) ?_
   refine ck (l := [0, 1]) (r := [2, 3, 4]) (e' := [(0, .slice (some ad1) l.length c), (2, .slice none 0 0), (3, .slice pL1 r.length cL1), (4, i64 ((i : Nat) : Int)), (42, .slice pL1 r.length cL1), (43, .agg #[.slice pL3 ((xl1.take k).length) cL3, bl xb1])]) hA [.agg #[.slice pL3 ((xl1.take k).length) cL3, bl xb1]] (cc (hO.ln 0 0 53 [.slice pL3 ((xl1.take k).length) cL3, bl xb1]) c0) ?_
   clear hA fr; intro fr hA
   refine wpOps_cons' (mN (l := [.slice pL3 ((xl1.take k).length) cL3, bl xb1]) (t := 53) (v := fun b => .slice (some ⟨b, 0, none⟩) 1 1) (d := 44) hA hO ?_)
   clear hA hO fr; intro fr w12 b4 hA hO
   replace hA := hA.sb (e' := [(0, .slice (some ad1) l.length c), (2, .slice none 0 0), (3, .slice pL1 r.length cL1), (4, i64 ((i : Nat) : Int)), (42, .slice pL1 r.length cL1), (44, .slice (some ⟨b4, 0, none⟩) 1 1)])
   replace hO : Ow Try.prog none' w w12 ([(b4, 53, [.slice pL3 ((xl1.take k).length) cL3, bl xb1]), (b1, 53, [.slice pL3 ((xl1.take k).length) cL3, bl xb1])] ++ (TL1 ++ (TL2 ++ (TL3 ++ ([]))))) := hO
   refine wpOps_cons' (mA (f := fJ) (el := 53) (sz := 2) (bytes := 32) (p := pL1) (c := cL1) (l := r) (l' := ([⟨pL3, cL3, xl1.take k, xb1⟩] : List JV)) (T := TL1) (t := 23) (tx := 23) (ty := 23) (x := .slice (some ⟨b4, 0, none⟩) 1 1) (d := 45) [(b4, 53, [.slice pL3 ((xl1.take k).length) cL3, bl xb1]), (b1, 53, [.slice pL3 ((xl1.take k).length) cL3, bl xb1])] (TL2 ++ (TL3 ++ ([]))) encJ hA hO hTL1 (Vw.src (e' := 53) encJ ((hO.b 0).vw (off := 0) (xs := ([⟨pL3, cL3, xl1.take k, xb1⟩] : List JV)) (by kernel_rfl)) (by kernel_rfl)) (by first | omega | (simp only [List.length_append, List.length_cons, List.length_nil]; omega)) (by unfold maxLen; first | omega | (simp only [List.length_append, List.length_cons, List.length_nil]; omega)) ?_)
   clear hA hO fr; intro fr w13 p3 c3 T5 hA hO hT5
   replace hA := hA.sb (e' := [(0, .slice (some ad1) l.length c), (2, .slice none 0 0), (3, .slice pL1 r.length cL1), (4, i64 ((i : Nat) : Int)), (45, .slice p3 ((r ++ ([⟨pL3, cL3, xl1.take k, xb1⟩] : List JV)).length) c3)])
   refine ck (l := [4]) (r := []) (e' := [(0, .slice (some ad1) l.length c), (2, .slice none 0 0), (3, .slice p3 ((r ++ ([⟨pL3, cL3, xl1.take k, xb1⟩] : List JV)).length) c3), (4, i64 ((i : Nat) : Int))]) hA [] c0 ?_
   clear hA fr; intro fr hA
   refine end_ops ?_
   refine inBlock_normal ?_
   refine then_normal ?_
   refine rC (e' := [(0, .slice (some ad1) l.length c), (2, .slice none 0 0), (3, .slice p3 ((r ++ ([⟨pL3, cL3, xl1.take k, xb1⟩] : List JV)).length) c3), (4, i64 (((i : Nat) : Int) + 1))]) 3 hA [bl true] (cc ((inK_i64 (by omega) (by omega)) : inK .i64 (((i : Nat) : Int) + 1)) c0) ?_
   clear hA fr; intro fr hA
   refine then_normal ?_
   replace hO : Ow Try.prog none' w w13 ([(b4, 53, [.slice pL3 ((xl1.take k).length) cL3, bl xb1]), (b1, 53, [.slice pL3 ((xl1.take k).length) cL3, bl xb1])] ++ (T5 ++ (TL2 ++ (TL3 ++ ([]))))) := hO
   have hC1 : InW 54 (r ++ ([⟨pL3, cL3, xl1.take k, xb1⟩] : List JV)) (TL2 ++ TL3) := InW.snoc (x := ⟨pL3, cL3, xl1.take k, xb1⟩) hTL3 hTL2
   replace hO : Ow Try.prog none' w w13 ([(b4, 53, [.slice pL3 ((xl1.take k).length) cL3, bl xb1]), (b1, 53, [.slice pL3 ((xl1.take k).length) cL3, bl xb1])] ++ (T5 ++ ((TL2 ++ TL3) ++ ([])))) := hO.to (by first | rfl | (simp only [TP, apd]))
   exact ⟨_, by omega, i + 1, r ++ ([⟨pL3, cL3, xl1.take k, xb1⟩] : List JV), p3, c3, T5, (TL2 ++ TL3), rfl, (hA.sub (e' := [(0, .slice (some ad1) l.length c), (2, .slice none 0 0), (3, .slice p3 ((r ++ ([⟨pL3, cL3, xl1.take k, xb1⟩] : List JV)).length) c3), (4, i64 (((i : Nat) : Int) + 1))]) [0, 2, 3, 4] (by kernel_rfl)).cast (by kernel_rfl), (Ow.subP (A := [(b4, 53, [.slice pL3 ((xl1.take k).length) cL3, bl xb1]), (b1, 53, [.slice pL3 ((xl1.take k).length) cL3, bl xb1])]) (A' := []) (B := T5 ++ ((TL2 ++ TL3) ++ ([]))) hO (.cons _ (.cons _ .slnil))), hT5, hC1, (by omega), (sim_step hsim hx1 (by omega)), (by simp only [List.length_append, List.length_cons, List.length_nil]; omega), trivial⟩
 rw [h1] at hA
 have h1p := of_decide_eq_false h1
 refine cF hA ?_
 refine wp_exit ?_
 refine then_exit ?_
 refine then_exit ?_
 refine inBlock_exit ?_
 refine then_normal ?_
 refine sC (e' := [(2, .slice pL1 r.length cL1)]) 2 hA [] c0 ?_
 clear hA fr; intro fr hA
 refine wp_ret ?_
 refine cR (cs := [none]) (us := [.slice pL1 r.length cL1]) hA [] trivial ?_
 exact ⟨_, _, r, _, _, rfl, hTL1, hTL2, sim_end hsim (by omega), hO.to (by simp only [List.nil_append, List.append_nil])⟩

end Go.Proofs.Ytfhcpegemapbkaa
