/- The layer command: Print of the program. -/
import Derived.Test.YtfhcpegemapbkaaPrintc
set_option linter.unusedVariables false
set_option linter.unusedSimpArgs false
set_option maxRecDepth 10000
namespace Go.Proofs.Ytfhcpegemapbkaa
open Go Go.Shelf Go.RowKit Go.Proofs Go.Proofs.Sx

def job0 : JobL := ⟨[], false⟩
def prJP (l : List CmdL) : Nat → List UInt8
  | 0 => []
  | k + 1 => prJP l k ++ ((if k = 0 then [] else [32, 124, 32]) ++ prC (l.getD k cmd0))
def prJ (x : JobL) : List UInt8 := prJP x.cmds x.cmds.length
def sepJ (bg last : Bool) : List UInt8 := if bg = true then (if last = true then [32, 38] else [32, 38, 32]) else if last = true then [] else [59, 32]
def prP (l : List JobL) : Nat → List UInt8
  | 0 => []
  | i + 1 => prP l i ++ (prJ (l.getD i job0) ++ sepJ (l.getD i job0).bg (decide (i + 1 = l.length)))
def prL (l : List JobL) : List UInt8 := prP l l.length
theorem getD_of {α : Type} {l : List α} {i : Nat} {x d : α} (h : l[i]? = some x) : l.getD i d = x := by rw [List.getD_eq_getElem?_getD, h]; rfl
theorem map_at {α β : Type} {f : α → β} {l : List α} {i : Nat} {x : α} (h : l[i]? = some x) : (l.map f)[i]? = some (f x) := by rw [List.getElem?_map, h]; rfl
theorem prJP_step {xl : List CV} {k : Nat} {y : CV} (hy : xl[k]? = some y) : prJP (xl.map CV.d) (k + 1) = prJP (xl.map CV.d) k ++ ((if k = 0 then [] else [32, 124, 32]) ++ prC y.d) := by
 simp only [prJP]; rw [getD_of (map_at hy)]
theorem prP_step {l : List JV} {i : Nat} {xp : Option Addr} {xc : Nat} {xl : List CV} {xb : Bool} (hx : l[i]? = some ⟨xp, xc, xl, xb⟩) : prP (l.map JV.d) (i + 1) = prP (l.map JV.d) i ++ (prJP (xl.map CV.d) xl.length ++ sepJ xb (decide (i + 1 = l.length))) := by
 simp only [prP]
 rw [getD_of (map_at hx), List.length_map]
 show _ ++ (prJP (xl.map CV.d) (xl.map CV.d).length ++ _) = _
 rw [List.length_map]; rfl
theorem validL_facts {l : List JV} (h : validL (l.map JV.d) = true) : l.length ≤ 8 ∧ ∀ x ∈ l, (1 ≤ x.cmds.length ∧ x.cmds.length ≤ 4) ∧ ∀ y ∈ x.cmds, validC y.d = true := by
 unfold validL at h
 rw [Bool.and_eq_true, List.length_map, List.all_map, List.all_eq_true] at h
 refine ⟨of_decide_eq_true h.2, fun x hx => ?_⟩
 have h1 := h.1 x hx
 simp only [Function.comp, validJ, JV.d, List.length_map, List.all_map, Bool.and_eq_true, decide_eq_true_eq, List.all_eq_true] at h1
 exact h1
theorem prJP_len {xl : List CV} (h : ∀ y ∈ xl, validC y.d = true) : ∀ k, k ≤ xl.length → (prJP (xl.map CV.d) k).length ≤ k * 491
  | 0, _ => by simp [prJP]
  | k + 1, hk => by
    have h1 := prJP_len h k (by omega)
    have h2 := getD_at xl CV0 (i := k) (by omega)
    rw [prJP_step h2, List.length_append, List.length_append]
    have h3 := prC_len (h _ (List.mem_of_getElem? h2))
    split <;> simp only [List.length_nil, List.length_cons] <;> omega
theorem sepJ_len (a b : Bool) : (sepJ a b).length ≤ 3 := by cases a <;> cases b <;> decide
theorem prP_len {l : List JV} (h : validL (l.map JV.d) = true) : ∀ i, i ≤ l.length → (prP (l.map JV.d) i).length ≤ i * 1967
  | 0, _ => by simp [prP]
  | i + 1, hi => by
    have h1 := prP_len h i (by omega)
    obtain ⟨⟨xp, xc, xl, xb⟩, hx⟩ : ∃ x, l[i]? = some x := ⟨_, getD_at l JV0 (i := i) (by omega)⟩
    obtain ⟨h3, h4⟩ : (1 ≤ xl.length ∧ xl.length ≤ 4) ∧ ∀ y ∈ xl, validC y.d = true := (validL_facts h).2 _ (List.mem_of_getElem? hx)
    rw [prP_step hx, List.length_append, List.length_append]
    have h5 := prJP_len h4 xl.length (Nat.le_refl _)
    have h6 := sepJ_len xb (decide (i + 1 = l.length))
    omega

theorem Print_bad (p : Option Addr) (c : Nat) (l : List JV) (w : World) (hv : VL w (.slice p l.length c) l) (hsm : smL 1000000 (l.map JV.d)) (hvl : validL (l.map JV.d) = false) :
    Calls Try.prog 16 #[.slice p l.length c] w fun e w' => e = .returned (.tuple #[str ⟨#[]⟩, i64 1]) ∧ Only none' w w' := by
 refine c_enter (args := [.slice p l.length c]) (m := 56) (n := 57) Try.func16 rfl (by kernel_rfl) (by kernel_rfl) fun fr hA => ?_
 have hO := Ow.nil Try.prog none' w
 refine sC (e' := [(0, .slice p l.length c), (2, str (⟨#[]⟩)), (3, i64 0)]) 2 hA [] c0 ?_
 clear hA fr; intro fr hA
 refine wp_seq ?_
 refine sR (l := [0, 1, 2]) ?_
 refine ck (l := [0]) (r := [1, 2]) (e' := [(0, .slice p l.length c), (2, str (⟨#[]⟩)), (3, i64 0), (10, .slice p l.length c)]) hA [] c0 ?_
 clear hA fr; intro fr hA
 refine wpOps_cons' (mK (f := 14) (args := [.slice p l.length c]) (d := (some 11)) (v := bl false) hA hO Try.func14 (rs (Valid_any p c l _ (hv.keep hO.only) hsm) (congrArg Value.bool hvl)) ?_)
 clear hA hO fr; intro fr w1 hA hO
 replace hA := hA.sb (e' := [(0, .slice p l.length c), (2, str (⟨#[]⟩)), (3, i64 0), (11, bl false)])
 refine ck (l := [2]) (r := []) (e' := [(0, .slice p l.length c), (2, str (⟨#[]⟩)), (3, i64 0), (12, bl true)]) hA [] c0 ?_
 clear hA fr; intro fr hA
 refine end_ops ?_
 refine then_normal ?_
 refine cT hA ?_
 refine sC (e' := [(2, str (⟨#[]⟩)), (3, i64 1)]) 2 hA [] c0 ?_
 clear hA fr; intro fr hA
 refine wp_ret ?_
 refine then_ret ?_
 refine cR (cs := [none, none]) (us := [str (⟨#[]⟩), i64 1]) hA [] trivial ?_
 have hF := hO.only; clear hA hO
 exact ⟨rfl, hF⟩

theorem Print_ok (p : Option Addr) (c : Nat) (l : List JV) (w : World) (hv : VL w (.slice p l.length c) l) (hsm : smL 1000000 (l.map JV.d)) (hvl : validL (l.map JV.d) = true) :
    Calls Try.prog 16 #[.slice p l.length c] w fun e w' => e = .returned (.tuple #[str (bA (prL (l.map JV.d))), i64 0]) ∧ Only none' w w' := by
 refine c_enter (args := [.slice p l.length c]) (m := 56) (n := 57) Try.func16 rfl (by kernel_rfl) (by kernel_rfl) fun fr hA => ?_
 have hO := Ow.nil Try.prog none' w
 have hsl := hsm.len
 have hl8 := (validL_facts hvl).1
 refine sC (e' := [(0, .slice p l.length c), (2, str (⟨#[]⟩)), (3, i64 0)]) 2 hA [] c0 ?_
 clear hA fr; intro fr hA
 refine wp_seq ?_
 refine sR (l := [0, 1, 2]) ?_
 refine ck (l := [0]) (r := [1, 2]) (e' := [(0, .slice p l.length c), (2, str (⟨#[]⟩)), (3, i64 0), (10, .slice p l.length c)]) hA [] c0 ?_
 clear hA fr; intro fr hA
 refine wpOps_cons' (mK (f := 14) (args := [.slice p l.length c]) (d := (some 11)) (v := bl true) hA hO Try.func14 (rs (Valid_any p c l _ (hv.keep hO.only) hsm) (congrArg Value.bool hvl)) ?_)
 clear hA hO fr; intro fr w1 hA hO
 replace hA := hA.sb (e' := [(0, .slice p l.length c), (2, str (⟨#[]⟩)), (3, i64 0), (11, bl true)])
 refine ck (l := [2]) (r := []) (e' := [(0, .slice p l.length c), (2, str (⟨#[]⟩)), (3, i64 0), (12, bl false)]) hA [] c0 ?_
 clear hA fr; intro fr hA
 refine end_ops ?_
 refine then_normal ?_
 refine cF hA ?_
 refine wp_skip ?_
 refine then_normal ?_
 refine sR (l := [0]) ?_
 refine wpOps_cons' (mN (l := [.pointer none, .slice none 0 0]) (t := 76) (v := pt) (d := 4) hA hO ?_)
 clear hA hO fr; intro fr w2 b1 hA hO
 replace hA := hA.sb (e' := [(0, .slice p l.length c), (2, str (⟨#[]⟩)), (3, i64 0), (4, pt b1)])
 refine end_ops ?_
 refine then_normal ?_
 refine wp_seq ?_
 refine sC (e' := [(0, .slice p l.length c), (2, str (⟨#[]⟩)), (3, i64 0), (4, pt b1), (13, .slice p l.length c), (14, i64 ((l.length : Nat) : Int)), (15, i64 0)]) 3 hA [] c0 ?_
 clear hA fr; intro fr hA
 refine wp_block ?_
 have hT1 := One.nil fB 5 1
 replace hO : Ow Try.prog none' w w2 ([(b1, 76, [.pointer none, .slice none 0 0])] ++ ([] ++ ([]))) := hO.to (by first | rfl | (simp only [TP, apd]))
 refine c_loop (fun mm fr W => ∃ (i : Nat) (q : Value) (pL1 : Option Addr) (cL1 : Nat) (TL1 : OwL), mm = l.length - i ∧ Holds 57 [] fr [(0, .slice p l.length c), (2, str (⟨#[]⟩)), (3, i64 0), (4, pt b1), (13, .slice p l.length c), (14, i64 ((l.length : Nat) : Int)), (15, i64 ((i : Nat) : Int))] ∧ Ow Try.prog none' w W ([(b1, 76, [q, .slice pL1 ((bI (prP (l.map JV.d) i)).length) cL1])] ++ (TL1 ++ ([]))) ∧ One fB 5 1 pL1 cL1 (bI (prP (l.map JV.d) i)) TL1 ∧ i ≤ l.length ∧ (q = .pointer none ∨ q = pt b1) ∧ True) ?_ ?_
 · exact ⟨_, 0, .pointer none, none, 0, [], rfl, (hA.sub (e' := [(0, .slice p l.length c), (2, str (⟨#[]⟩)), (3, i64 0), (4, pt b1), (13, .slice p l.length c), (14, i64 ((l.length : Nat) : Int)), (15, i64 0)]) [0, 2, 3, 4, 13, 14, 15] (by kernel_rfl)).cast (by kernel_rfl), (hO : Ow Try.prog none' w _ ([(b1, 76, [.pointer none, .slice none 0 0])] ++ ([] ++ ([])))), hT1, (Nat.zero_le _), (.inl rfl), trivial⟩
 rintro _ fr w3 ⟨i, q, pL1, cL1, TL1, rfl, hA, hO, hTL1, hi_i, hq, -⟩
 have hq1_ := prP_len hvl i hi_i
 refine sC (e' := [(0, .slice p l.length c), (2, str (⟨#[]⟩)), (3, i64 0), (4, pt b1), (13, .slice p l.length c), (14, i64 ((l.length : Nat) : Int)), (15, i64 ((i : Nat) : Int)), (16, bl (decide (((i : Nat) : Int) < ((l.length : Nat) : Int))))]) 1 hA [] c0 ?_
 clear hA fr; intro fr hA
 refine wp_seq ?_
 rcases Bool.eq_false_or_eq_true (decide (((i : Nat) : Int) < ((l.length : Nat) : Int))) with h1 | h1
 · rw [h1] at hA
   have h1p := of_decide_eq_true h1
   obtain ⟨ad1, rfl⟩ := (hv.1).pos (by omega)
   obtain ⟨⟨xp1, xc1, xl1, xb1⟩, hx1⟩ : ∃ x, l[i]? = some x := ⟨_, getD_at _ JV0 (by omega)⟩
   have hvx1 : Vw fC _ (.slice xp1 xl1.length xc1) xl1 ∧ ∀ y ∈ xl1, VC _ y := hv.2 _ (List.mem_of_getElem? hx1)
   have hsj1 : smJ _ (JV.d ⟨xp1, xc1, xl1, xb1⟩) := hsm.at hx1
   have hsjl1 : xl1.length ≤ _ := smJ.len (x := ⟨xp1, xc1, xl1, xb1⟩) hsj1
   obtain ⟨hvj, hvjc⟩ : (1 ≤ xl1.length ∧ xl1.length ≤ 4) ∧ ∀ y ∈ xl1, validC y.d = true := (validL_facts hvl).2 _ (List.mem_of_getElem? hx1)
   refine cT hA ?_
   refine wp_skip ?_
   refine then_normal ?_
   refine wp_seq ?_
   refine wp_block ?_
   refine sR (l := (rg 0 6)) ?_
   refine ck (l := [0, 1, 2]) (r := [3, 4, 5]) (e' := [(0, .slice (some ad1) l.length c), (2, str (⟨#[]⟩)), (3, i64 0), (4, pt b1), (13, .slice (some ad1) l.length c), (14, i64 ((l.length : Nat) : Int)), (15, i64 ((i : Nat) : Int)), (17, i64 ((i : Nat) : Int)), (19, .agg #[.slice xp1 xl1.length xc1, bl xb1])]) hA [.agg #[.slice xp1 xl1.length xc1, bl xb1]] (cc (⟨by omega, by omega⟩ : (0 : Int) ≤ ((i : Nat) : Int) ∧ ((i : Nat) : Int) < ((l.length : Nat) : Int)) (cc (((hv.1.keep hO.only).ldn encJ hx1) : Ld Try.prog w3 (ad1.add (i * 2)) 53 (.agg #[.slice xp1 xl1.length xc1, bl xb1])) c0)) ?_
   clear hA fr; intro fr hA
   refine wpOps_cons' (mN (l := [.slice none 0 0, bl false]) (t := 53) (v := pt) (d := 6) hA hO ?_)
   clear hA hO fr; intro fr w4 b2 hA hO
   replace hA := hA.sb (e' := [(0, .slice (some ad1) l.length c), (2, str (⟨#[]⟩)), (3, i64 0), (4, pt b1), (6, pt b2), (13, .slice (some ad1) l.length c), (14, i64 ((l.length : Nat) : Int)), (15, i64 ((i : Nat) : Int)), (17, i64 ((i : Nat) : Int)), (19, .agg #[.slice xp1 xl1.length xc1, bl xb1])])
   refine ck (l := [4]) (r := [5]) (e' := [(0, .slice (some ad1) l.length c), (2, str (⟨#[]⟩)), (3, i64 0), (4, pt b1), (5, i64 ((i : Nat) : Int)), (6, pt b2), (13, .slice (some ad1) l.length c), (14, i64 ((l.length : Nat) : Int)), (15, i64 ((i : Nat) : Int)), (19, .agg #[.slice xp1 xl1.length xc1, bl xb1])]) hA [] c0 ?_
   clear hA fr; intro fr hA
   refine wpOps_cons' (mS (off := 0) (vc := [.slice xp1 xl1.length xc1, bl xb1]) 0 hA hO ?_)
   clear hO; intro w5 hO
   replace hA := hA.sb (e' := [(0, .slice (some ad1) l.length c), (2, str (⟨#[]⟩)), (3, i64 0), (4, pt b1), (5, i64 ((i : Nat) : Int)), (6, pt b2), (13, .slice (some ad1) l.length c), (14, i64 ((l.length : Nat) : Int)), (15, i64 ((i : Nat) : Int))])
   refine end_ops ?_
   refine then_normal ?_
   refine wp_seq ?_
   refine sC (e' := [(0, .slice (some ad1) l.length c), (2, str (⟨#[]⟩)), (3, i64 0), (4, pt b1), (5, i64 ((i : Nat) : Int)), (6, pt b2), (13, .slice (some ad1) l.length c), (14, i64 ((l.length : Nat) : Int)), (15, i64 ((i : Nat) : Int)), (21, .slice xp1 xl1.length xc1), (22, i64 ((xl1.length : Nat) : Int)), (23, i64 0)]) 4 hA [.slice xp1 xl1.length xc1] (cc (hO.l1 0 0 51 (.slice xp1 xl1.length xc1)) c0) ?_
   clear hA fr; intro fr hA
   refine wp_block ?_
   replace hO : Ow Try.prog none' w w5 ([(b2, 53, [.slice xp1 xl1.length xc1, bl xb1]), (b1, 76, [q, .slice pL1 ((bI (prP (l.map JV.d) i)).length) cL1])] ++ (TL1 ++ ([]))) := hO
   have hA_ : prP (l.map JV.d) i = prP (l.map JV.d) i ++ prJP (xl1.map CV.d) 0 := by exact (List.append_nil _).symm
   rw [hA_] at hO hTL1; clear hA_
   refine c_loop (fun mm fr W => ∃ (k : Nat) (q2 : Value) (pL2 : Option Addr) (cL2 : Nat) (TL2 : OwL), mm = xl1.length - k ∧ Holds 57 [] fr [(0, .slice (some ad1) l.length c), (2, str (⟨#[]⟩)), (3, i64 0), (4, pt b1), (5, i64 ((i : Nat) : Int)), (6, pt b2), (13, .slice (some ad1) l.length c), (14, i64 ((l.length : Nat) : Int)), (15, i64 ((i : Nat) : Int)), (21, .slice xp1 xl1.length xc1), (22, i64 ((xl1.length : Nat) : Int)), (23, i64 ((k : Nat) : Int))] ∧ Ow Try.prog none' w W ([(b2, 53, [.slice xp1 xl1.length xc1, bl xb1]), (b1, 76, [q2, .slice pL2 ((bI (prP (l.map JV.d) i ++ prJP (xl1.map CV.d) k)).length) cL2])] ++ (TL2 ++ ([]))) ∧ One fB 5 1 pL2 cL2 (bI (prP (l.map JV.d) i ++ prJP (xl1.map CV.d) k)) TL2 ∧ k ≤ xl1.length ∧ (q2 = .pointer none ∨ q2 = pt b1) ∧ True) ?_ ?_
   · exact ⟨_, 0, q, pL1, cL1, TL1, rfl, (hA.sub (e' := [(0, .slice (some ad1) l.length c), (2, str (⟨#[]⟩)), (3, i64 0), (4, pt b1), (5, i64 ((i : Nat) : Int)), (6, pt b2), (13, .slice (some ad1) l.length c), (14, i64 ((l.length : Nat) : Int)), (15, i64 ((i : Nat) : Int)), (21, .slice xp1 xl1.length xc1), (22, i64 ((xl1.length : Nat) : Int)), (23, i64 0)]) [0, 2, 3, 4, 5, 6, 13, 14, 15, 21, 22, 23] (by kernel_rfl)).cast (by kernel_rfl), (hO : Ow Try.prog none' w _ ([(b2, 53, [.slice xp1 xl1.length xc1, bl xb1]), (b1, 76, [q, .slice pL1 ((bI (prP (l.map JV.d) i ++ prJP (xl1.map CV.d) 0)).length) cL1])] ++ (TL1 ++ ([])))), hTL1, (Nat.zero_le _), hq, trivial⟩
   rintro _ fr w6 ⟨k, q2, pL2, cL2, TL2, rfl, hA, hO, hTL2, hi_k, hq2, -⟩
   have hq2_ := prJP_len hvjc k hi_k
   refine sC (e' := [(0, .slice (some ad1) l.length c), (2, str (⟨#[]⟩)), (3, i64 0), (4, pt b1), (5, i64 ((i : Nat) : Int)), (6, pt b2), (13, .slice (some ad1) l.length c), (14, i64 ((l.length : Nat) : Int)), (15, i64 ((i : Nat) : Int)), (21, .slice xp1 xl1.length xc1), (22, i64 ((xl1.length : Nat) : Int)), (23, i64 ((k : Nat) : Int)), (24, bl (decide (((k : Nat) : Int) < ((xl1.length : Nat) : Int))))]) 1 hA [] c0 ?_
   clear hA fr; intro fr hA
   refine wp_seq ?_
   rcases Bool.eq_false_or_eq_true (decide (((k : Nat) : Int) < ((xl1.length : Nat) : Int))) with h2 | h2
   · rw [h2] at hA
     have h2p := of_decide_eq_true h2
     obtain ⟨ad2, rfl⟩ := (hvx1.1).pos (by omega)
     obtain ⟨⟨yp1, yc1, yd1⟩, hy1⟩ : ∃ x, xl1[k]? = some x := ⟨_, getD_at _ CV0 (by omega)⟩
     have hvy1 : Vw fT _ (.slice yp1 yd1.words.length yc1) yd1.words := hvx1.2 _ (List.mem_of_getElem? hy1)
     have hsc1 : smC _ yd1 := smJ.at (x := ⟨_, _, xl1, _⟩) hsj1 hy1
     obtain ⟨-, smi1, smo1, sml1⟩ := id hsc1
     have hvc_ : validC yd1 = true := hvjc _ (List.mem_of_getElem? hy1)
     refine cT hA ?_
     refine wp_skip ?_
     refine then_normal ?_
     refine wp_seq ?_
     refine wp_block ?_
     refine sR (l := (rg 0 6)) ?_
     refine ck (l := [0, 1, 2]) (r := [3, 4, 5]) (e' := [(0, .slice (some ad1) l.length c), (2, str (⟨#[]⟩)), (3, i64 0), (4, pt b1), (5, i64 ((i : Nat) : Int)), (6, pt b2), (13, .slice (some ad1) l.length c), (14, i64 ((l.length : Nat) : Int)), (15, i64 ((i : Nat) : Int)), (21, .slice (some ad2) xl1.length xc1), (22, i64 ((xl1.length : Nat) : Int)), (23, i64 ((k : Nat) : Int)), (25, i64 ((k : Nat) : Int)), (27, .agg #[.slice yp1 yd1.words.length yc1, str yd1.inp, str yd1.out, bl yd1.app])]) hA [.agg #[.slice yp1 yd1.words.length yc1, str yd1.inp, str yd1.out, bl yd1.app]] (cc (⟨by omega, by omega⟩ : (0 : Int) ≤ ((k : Nat) : Int) ∧ ((k : Nat) : Int) < ((xl1.length : Nat) : Int)) (cc (((hvx1.1.keep hO.only).ldn encC hy1) : Ld Try.prog w6 (ad2.add (k * 4)) 54 (.agg #[.slice yp1 yd1.words.length yc1, str yd1.inp, str yd1.out, bl yd1.app])) c0)) ?_
     clear hA fr; intro fr hA
     refine wpOps_cons' (mN (l := [.slice none 0 0, str (⟨#[]⟩), str (⟨#[]⟩), bl false]) (t := 54) (v := pt) (d := 8) hA hO ?_)
     clear hA hO fr; intro fr w7 b3 hA hO
     replace hA := hA.sb (e' := [(0, .slice (some ad1) l.length c), (2, str (⟨#[]⟩)), (3, i64 0), (4, pt b1), (5, i64 ((i : Nat) : Int)), (6, pt b2), (8, pt b3), (13, .slice (some ad1) l.length c), (14, i64 ((l.length : Nat) : Int)), (15, i64 ((i : Nat) : Int)), (21, .slice (some ad2) xl1.length xc1), (22, i64 ((xl1.length : Nat) : Int)), (23, i64 ((k : Nat) : Int)), (25, i64 ((k : Nat) : Int)), (27, .agg #[.slice yp1 yd1.words.length yc1, str yd1.inp, str yd1.out, bl yd1.app])])
     refine ck (l := [4]) (r := [5]) (e' := [(0, .slice (some ad1) l.length c), (2, str (⟨#[]⟩)), (3, i64 0), (4, pt b1), (5, i64 ((i : Nat) : Int)), (6, pt b2), (7, i64 ((k : Nat) : Int)), (8, pt b3), (13, .slice (some ad1) l.length c), (14, i64 ((l.length : Nat) : Int)), (15, i64 ((i : Nat) : Int)), (21, .slice (some ad2) xl1.length xc1), (22, i64 ((xl1.length : Nat) : Int)), (23, i64 ((k : Nat) : Int)), (27, .agg #[.slice yp1 yd1.words.length yc1, str yd1.inp, str yd1.out, bl yd1.app])]) hA [] c0 ?_
     clear hA fr; intro fr hA
     refine wpOps_cons' (mS (off := 0) (vc := [.slice yp1 yd1.words.length yc1, str yd1.inp, str yd1.out, bl yd1.app]) 0 hA hO ?_)
     clear hO; intro w8 hO
     replace hA := hA.sb (e' := [(0, .slice (some ad1) l.length c), (2, str (⟨#[]⟩)), (3, i64 0), (4, pt b1), (5, i64 ((i : Nat) : Int)), (6, pt b2), (7, i64 ((k : Nat) : Int)), (8, pt b3), (13, .slice (some ad1) l.length c), (14, i64 ((l.length : Nat) : Int)), (15, i64 ((i : Nat) : Int)), (21, .slice (some ad2) xl1.length xc1), (22, i64 ((xl1.length : Nat) : Int)), (23, i64 ((k : Nat) : Int))])
     refine end_ops ?_
     refine then_normal ?_
     refine wp_seq ?_
     refine sC (e' := [(0, .slice (some ad1) l.length c), (2, str (⟨#[]⟩)), (3, i64 0), (4, pt b1), (5, i64 ((i : Nat) : Int)), (6, pt b2), (8, pt b3), (13, .slice (some ad1) l.length c), (14, i64 ((l.length : Nat) : Int)), (15, i64 ((i : Nat) : Int)), (21, .slice (some ad2) xl1.length xc1), (22, i64 ((xl1.length : Nat) : Int)), (23, i64 ((k : Nat) : Int)), (29, bl (decide (((k : Nat) : Int) > 0)))]) 2 hA [] c0 ?_
     clear hA fr; intro fr hA
     rcases Bool.eq_false_or_eq_true (decide (((k : Nat) : Int) > 0)) with h3 | h3
     · rw [h3] at hA
       have h3p := of_decide_eq_true h3
       refine cT hA ?_
       refine rR (l := [0]) ?_
       replace hO : Ow Try.prog none' w w8 ([(b3, 54, [.slice yp1 yd1.words.length yc1, str yd1.inp, str yd1.out, bl yd1.app]), (b2, 53, [.slice (some ad2) xl1.length xc1, bl xb1]), (b1, 76, [q2, .slice pL2 ((bI (prP (l.map JV.d) i ++ prJP (xl1.map CV.d) k)).length) cL2])] ++ (TL2 ++ ([]))) := hO
       have hz_3 : (⟨#[32, 124, 32]⟩ : ByteArray).size = 3 := rfl
       refine wpOps_cons' (mC (f := 31) (args := [pt b1, str (⟨#[32, 124, 32]⟩)]) (d := (some 30)) hA Try.func31 ((write_any b1 q2 pL2 cL2 (bI (prP (l.map JV.d) i ++ prJP (xl1.map CV.d) k)) TL2 (⟨#[32, 124, 32]⟩ : ByteArray) _ hq2 (Ow.self (A := [(b3, 54, [.slice yp1 yd1.words.length yc1, str yd1.inp, str yd1.out, bl yd1.app]), (b2, 53, [.slice (some ad2) xl1.length xc1, bl xb1])]) (T := [(b1, 76, [q2, .slice pL2 ((bI (prP (l.map JV.d) i ++ prJP (xl1.map CV.d) k)).length) cL2])] ++ (TL2 ++ [])) (B := []) (hO.to (by first | rfl | (simp only [TP, apd])))) hTL2 (bI_u8 _) (by simp only [bI_len, List.length_append, bA_size, List.length_cons, List.length_nil]; omega)).mono ?_))
       rintro en w9 ⟨p1, c1, T2, rfl, hW, hT2⟩
       refine ⟨_, rfl, ?_⟩
       clear hA fr; intro fr hA
       replace hO := Ow.pass (A := [(b3, 54, [.slice yp1 yd1.words.length yc1, str yd1.inp, str yd1.out, bl yd1.app]), (b2, 53, [.slice (some ad2) xl1.length xc1, bl xb1])]) (T := [(b1, 76, [q2, .slice pL2 ((bI (prP (l.map JV.d) i ++ prJP (xl1.map CV.d) k)).length) cL2])] ++ (TL2 ++ [])) (B := []) (hO.to (by first | rfl | (simp only [TP, apd]))) hW; clear hW
       rw [show bI (prP (l.map JV.d) i ++ prJP (xl1.map CV.d) k) ++ sI (⟨#[32, 124, 32]⟩ : ByteArray) = bI ((prP (l.map JV.d) i ++ prJP (xl1.map CV.d) k) ++ [32, 124, 32]) from bI_app _ _] at hO hT2
       replace hO : Ow Try.prog none' w w9 ([(b3, 54, [.slice yp1 yd1.words.length yc1, str yd1.inp, str yd1.out, bl yd1.app]), (b2, 53, [.slice (some ad2) xl1.length xc1, bl xb1]), (b1, 76, [pt b1, .slice p1 ((bI ((prP (l.map JV.d) i ++ prJP (xl1.map CV.d) k) ++ [32, 124, 32])).length) c1])] ++ (T2 ++ ([]))) := hO.to (by first | rfl | (simp only [TP, apd]))
       replace hA := hA.sb (e' := [(0, .slice (some ad1) l.length c), (2, str (⟨#[]⟩)), (3, i64 0), (4, pt b1), (5, i64 ((i : Nat) : Int)), (6, pt b2), (8, pt b3), (13, .slice (some ad1) l.length c), (14, i64 ((l.length : Nat) : Int)), (15, i64 ((i : Nat) : Int)), (21, .slice (some ad2) xl1.length xc1), (22, i64 ((xl1.length : Nat) : Int)), (23, i64 ((k : Nat) : Int))])
       refine end_ops ?_
       refine then_normal ?_
       refine rR (l := [0, 1, 2]) ?_
       refine ck (l := [0]) (r := [1, 2]) (e' := [(0, .slice (some ad1) l.length c), (2, str (⟨#[]⟩)), (3, i64 0), (4, pt b1), (5, i64 ((i : Nat) : Int)), (6, pt b2), (13, .slice (some ad1) l.length c), (14, i64 ((l.length : Nat) : Int)), (15, i64 ((i : Nat) : Int)), (21, .slice (some ad2) xl1.length xc1), (22, i64 ((xl1.length : Nat) : Int)), (23, i64 ((k : Nat) : Int)), (31, .agg #[.slice yp1 yd1.words.length yc1, str yd1.inp, str yd1.out, bl yd1.app])]) hA [.agg #[.slice yp1 yd1.words.length yc1, str yd1.inp, str yd1.out, bl yd1.app]] (cc (hO.ln 0 0 54 [.slice yp1 yd1.words.length yc1, str yd1.inp, str yd1.out, bl yd1.app]) c0) ?_
       clear hA fr; intro fr hA
       have hpl_ := prC_len hvc_
       refine wpOps_cons' (mK (f := 32) (args := [.agg #[.slice yp1 yd1.words.length yc1, str yd1.inp, str yd1.out, bl yd1.app]]) (d := (some 32)) (v := str (bA (prC yd1))) hA hO Try.func32 (print_any yp1 yc1 yd1 _ (hvy1.keep hO.only) hvc_) ?_)
       clear hA hO fr; intro fr w10 hA hO
       replace hA := hA.sb (e' := [(0, .slice (some ad1) l.length c), (2, str (⟨#[]⟩)), (3, i64 0), (4, pt b1), (5, i64 ((i : Nat) : Int)), (6, pt b2), (13, .slice (some ad1) l.length c), (14, i64 ((l.length : Nat) : Int)), (15, i64 ((i : Nat) : Int)), (21, .slice (some ad2) xl1.length xc1), (22, i64 ((xl1.length : Nat) : Int)), (23, i64 ((k : Nat) : Int)), (32, str (bA (prC yd1)))])
       replace hO : Ow Try.prog none' w w10 ([(b3, 54, [.slice yp1 yd1.words.length yc1, str yd1.inp, str yd1.out, bl yd1.app]), (b2, 53, [.slice (some ad2) xl1.length xc1, bl xb1]), (b1, 76, [pt b1, .slice p1 ((bI ((prP (l.map JV.d) i ++ prJP (xl1.map CV.d) k) ++ [32, 124, 32])).length) c1])] ++ (T2 ++ ([]))) := hO
       refine wpOps_cons' (mC (f := 31) (args := [pt b1, str (bA (prC yd1))]) (d := (some 33)) hA Try.func31 ((write_any b1 (pt b1) p1 c1 (bI ((prP (l.map JV.d) i ++ prJP (xl1.map CV.d) k) ++ [32, 124, 32])) T2 (bA (prC yd1)) _ (.inr rfl) (Ow.self (A := [(b3, 54, [.slice yp1 yd1.words.length yc1, str yd1.inp, str yd1.out, bl yd1.app]), (b2, 53, [.slice (some ad2) xl1.length xc1, bl xb1])]) (T := [(b1, 76, [pt b1, .slice p1 ((bI ((prP (l.map JV.d) i ++ prJP (xl1.map CV.d) k) ++ [32, 124, 32])).length) c1])] ++ (T2 ++ [])) (B := []) (hO.to (by first | rfl | (simp only [TP, apd])))) hT2 (bI_u8 _) (by simp only [bI_len, List.length_append, bA_size, List.length_cons, List.length_nil]; omega)).mono ?_))
       rintro en w11 ⟨p2, c2, T3, rfl, hW, hT3⟩
       refine ⟨_, rfl, ?_⟩
       clear hA fr; intro fr hA
       replace hO := Ow.pass (A := [(b3, 54, [.slice yp1 yd1.words.length yc1, str yd1.inp, str yd1.out, bl yd1.app]), (b2, 53, [.slice (some ad2) xl1.length xc1, bl xb1])]) (T := [(b1, 76, [pt b1, .slice p1 ((bI ((prP (l.map JV.d) i ++ prJP (xl1.map CV.d) k) ++ [32, 124, 32])).length) c1])] ++ (T2 ++ [])) (B := []) (hO.to (by first | rfl | (simp only [TP, apd]))) hW; clear hW
       rw [show bI ((prP (l.map JV.d) i ++ prJP (xl1.map CV.d) k) ++ [32, 124, 32]) ++ sI (bA (prC yd1)) = bI (((prP (l.map JV.d) i ++ prJP (xl1.map CV.d) k) ++ [32, 124, 32]) ++ prC yd1) from (bI_app _ _).trans (by rw [bA_list])] at hO hT3
       replace hO : Ow Try.prog none' w w11 ([(b3, 54, [.slice yp1 yd1.words.length yc1, str yd1.inp, str yd1.out, bl yd1.app]), (b2, 53, [.slice (some ad2) xl1.length xc1, bl xb1]), (b1, 76, [pt b1, .slice p2 ((bI (((prP (l.map JV.d) i ++ prJP (xl1.map CV.d) k) ++ [32, 124, 32]) ++ prC yd1)).length) c2])] ++ (T3 ++ ([]))) := hO.to (by first | rfl | (simp only [TP, apd]))
       replace hA := hA.sb (e' := [(0, .slice (some ad1) l.length c), (2, str (⟨#[]⟩)), (3, i64 0), (4, pt b1), (5, i64 ((i : Nat) : Int)), (6, pt b2), (13, .slice (some ad1) l.length c), (14, i64 ((l.length : Nat) : Int)), (15, i64 ((i : Nat) : Int)), (21, .slice (some ad2) xl1.length xc1), (22, i64 ((xl1.length : Nat) : Int)), (23, i64 ((k : Nat) : Int))])
       refine end_ops ?_
       refine inBlock_normal ?_
       refine then_normal ?_
       refine rC (e' := [(0, .slice (some ad1) l.length c), (2, str (⟨#[]⟩)), (3, i64 0), (4, pt b1), (5, i64 ((i : Nat) : Int)), (6, pt b2), (13, .slice (some ad1) l.length c), (14, i64 ((l.length : Nat) : Int)), (15, i64 ((i : Nat) : Int)), (21, .slice (some ad2) xl1.length xc1), (22, i64 ((xl1.length : Nat) : Int)), (23, i64 (((k : Nat) : Int) + 1))]) 2 hA [bl true] (cc ((inK_i64 (by omega) (by omega)) : inK .i64 (((k : Nat) : Int) + 1)) c0) ?_
       clear hA fr; intro fr hA
       refine then_normal ?_
       replace hO : Ow Try.prog none' w w11 ([(b3, 54, [.slice yp1 yd1.words.length yc1, str yd1.inp, str yd1.out, bl yd1.app]), (b2, 53, [.slice (some ad2) xl1.length xc1, bl xb1]), (b1, 76, [pt b1, .slice p2 ((bI (((prP (l.map JV.d) i ++ prJP (xl1.map CV.d) k) ++ [32, 124, 32]) ++ prC yd1)).length) c2])] ++ (T3 ++ ([]))) := hO
       have hA_ : ((prP (l.map JV.d) i ++ prJP (xl1.map CV.d) k) ++ [32, 124, 32]) ++ prC yd1 = prP (l.map JV.d) i ++ prJP (xl1.map CV.d) (k + 1) := by rw [prJP_step hy1]; (first | rw [if_pos (show k = 0 by omega)] | rw [if_neg (show ¬ k = 0 by omega)]); simp only [List.append_assoc, List.nil_append]
       rw [hA_] at hO hT3; clear hA_
       exact ⟨_, by omega, k + 1, (pt b1), p2, c2, T3, rfl, (hA.sub (e' := [(0, .slice (some ad1) l.length c), (2, str (⟨#[]⟩)), (3, i64 0), (4, pt b1), (5, i64 ((i : Nat) : Int)), (6, pt b2), (13, .slice (some ad1) l.length c), (14, i64 ((l.length : Nat) : Int)), (15, i64 ((i : Nat) : Int)), (21, .slice (some ad2) xl1.length xc1), (22, i64 ((xl1.length : Nat) : Int)), (23, i64 (((k : Nat) : Int) + 1))]) [0, 2, 3, 4, 5, 6, 13, 14, 15, 21, 22, 23] (by kernel_rfl)).cast (by kernel_rfl), (Ow.subP (A := [(b3, 54, [.slice yp1 yd1.words.length yc1, str yd1.inp, str yd1.out, bl yd1.app]), (b2, 53, [.slice (some ad2) xl1.length xc1, bl xb1]), (b1, 76, [pt b1, .slice p2 ((bI (prP (l.map JV.d) i ++ prJP (xl1.map CV.d) (k + 1))).length) c2])]) (A' := [(b2, 53, [.slice (some ad2) xl1.length xc1, bl xb1]), (b1, 76, [pt b1, .slice p2 ((bI (prP (l.map JV.d) i ++ prJP (xl1.map CV.d) (k + 1))).length) c2])]) (B := T3 ++ ([])) hO (.cons _ (.cons_cons _ (.cons_cons _ .slnil)))), hT3, (by omega), (.inr rfl), trivial⟩
     rw [h3] at hA
     have h3p := of_decide_eq_false h3
     refine cF hA ?_
     refine wp_skip ?_
     refine then_normal ?_
     refine rR (l := [0, 1, 2]) ?_
     refine ck (l := [0]) (r := [1, 2]) (e' := [(0, .slice (some ad1) l.length c), (2, str (⟨#[]⟩)), (3, i64 0), (4, pt b1), (5, i64 ((i : Nat) : Int)), (6, pt b2), (13, .slice (some ad1) l.length c), (14, i64 ((l.length : Nat) : Int)), (15, i64 ((i : Nat) : Int)), (21, .slice (some ad2) xl1.length xc1), (22, i64 ((xl1.length : Nat) : Int)), (23, i64 ((k : Nat) : Int)), (31, .agg #[.slice yp1 yd1.words.length yc1, str yd1.inp, str yd1.out, bl yd1.app])]) hA [.agg #[.slice yp1 yd1.words.length yc1, str yd1.inp, str yd1.out, bl yd1.app]] (cc (hO.ln 0 0 54 [.slice yp1 yd1.words.length yc1, str yd1.inp, str yd1.out, bl yd1.app]) c0) ?_
     clear hA fr; intro fr hA
     have hpl_ := prC_len hvc_
     refine wpOps_cons' (mK (f := 32) (args := [.agg #[.slice yp1 yd1.words.length yc1, str yd1.inp, str yd1.out, bl yd1.app]]) (d := (some 32)) (v := str (bA (prC yd1))) hA hO Try.func32 (print_any yp1 yc1 yd1 _ (hvy1.keep hO.only) hvc_) ?_)
     clear hA hO fr; intro fr w12 hA hO
     replace hA := hA.sb (e' := [(0, .slice (some ad1) l.length c), (2, str (⟨#[]⟩)), (3, i64 0), (4, pt b1), (5, i64 ((i : Nat) : Int)), (6, pt b2), (13, .slice (some ad1) l.length c), (14, i64 ((l.length : Nat) : Int)), (15, i64 ((i : Nat) : Int)), (21, .slice (some ad2) xl1.length xc1), (22, i64 ((xl1.length : Nat) : Int)), (23, i64 ((k : Nat) : Int)), (32, str (bA (prC yd1)))])
     replace hO : Ow Try.prog none' w w12 ([(b3, 54, [.slice yp1 yd1.words.length yc1, str yd1.inp, str yd1.out, bl yd1.app]), (b2, 53, [.slice (some ad2) xl1.length xc1, bl xb1]), (b1, 76, [q2, .slice pL2 ((bI (prP (l.map JV.d) i ++ prJP (xl1.map CV.d) k)).length) cL2])] ++ (TL2 ++ ([]))) := hO
     refine wpOps_cons' (mC (f := 31) (args := [pt b1, str (bA (prC yd1))]) (d := (some 33)) hA Try.func31 ((write_any b1 q2 pL2 cL2 (bI (prP (l.map JV.d) i ++ prJP (xl1.map CV.d) k)) TL2 (bA (prC yd1)) _ hq2 (Ow.self (A := [(b3, 54, [.slice yp1 yd1.words.length yc1, str yd1.inp, str yd1.out, bl yd1.app]), (b2, 53, [.slice (some ad2) xl1.length xc1, bl xb1])]) (T := [(b1, 76, [q2, .slice pL2 ((bI (prP (l.map JV.d) i ++ prJP (xl1.map CV.d) k)).length) cL2])] ++ (TL2 ++ [])) (B := []) (hO.to (by first | rfl | (simp only [TP, apd])))) hTL2 (bI_u8 _) (by simp only [bI_len, List.length_append, bA_size, List.length_cons, List.length_nil]; omega)).mono ?_))
     rintro en w13 ⟨p3, c3, T4, rfl, hW, hT4⟩
     refine ⟨_, rfl, ?_⟩
     clear hA fr; intro fr hA
     replace hO := Ow.pass (A := [(b3, 54, [.slice yp1 yd1.words.length yc1, str yd1.inp, str yd1.out, bl yd1.app]), (b2, 53, [.slice (some ad2) xl1.length xc1, bl xb1])]) (T := [(b1, 76, [q2, .slice pL2 ((bI (prP (l.map JV.d) i ++ prJP (xl1.map CV.d) k)).length) cL2])] ++ (TL2 ++ [])) (B := []) (hO.to (by first | rfl | (simp only [TP, apd]))) hW; clear hW
     rw [show bI (prP (l.map JV.d) i ++ prJP (xl1.map CV.d) k) ++ sI (bA (prC yd1)) = bI ((prP (l.map JV.d) i ++ prJP (xl1.map CV.d) k) ++ prC yd1) from (bI_app _ _).trans (by rw [bA_list])] at hO hT4
     replace hO : Ow Try.prog none' w w13 ([(b3, 54, [.slice yp1 yd1.words.length yc1, str yd1.inp, str yd1.out, bl yd1.app]), (b2, 53, [.slice (some ad2) xl1.length xc1, bl xb1]), (b1, 76, [pt b1, .slice p3 ((bI ((prP (l.map JV.d) i ++ prJP (xl1.map CV.d) k) ++ prC yd1)).length) c3])] ++ (T4 ++ ([]))) := hO.to (by first | rfl | (simp only [TP, apd]))
     replace hA := hA.sb (e' := [(0, .slice (some ad1) l.length c), (2, str (⟨#[]⟩)), (3, i64 0), (4, pt b1), (5, i64 ((i : Nat) : Int)), (6, pt b2), (13, .slice (some ad1) l.length c), (14, i64 ((l.length : Nat) : Int)), (15, i64 ((i : Nat) : Int)), (21, .slice (some ad2) xl1.length xc1), (22, i64 ((xl1.length : Nat) : Int)), (23, i64 ((k : Nat) : Int))])
     refine end_ops ?_
     refine inBlock_normal ?_
     refine then_normal ?_
     refine rC (e' := [(0, .slice (some ad1) l.length c), (2, str (⟨#[]⟩)), (3, i64 0), (4, pt b1), (5, i64 ((i : Nat) : Int)), (6, pt b2), (13, .slice (some ad1) l.length c), (14, i64 ((l.length : Nat) : Int)), (15, i64 ((i : Nat) : Int)), (21, .slice (some ad2) xl1.length xc1), (22, i64 ((xl1.length : Nat) : Int)), (23, i64 (((k : Nat) : Int) + 1))]) 2 hA [bl true] (cc ((inK_i64 (by omega) (by omega)) : inK .i64 (((k : Nat) : Int) + 1)) c0) ?_
     clear hA fr; intro fr hA
     refine then_normal ?_
     replace hO : Ow Try.prog none' w w13 ([(b3, 54, [.slice yp1 yd1.words.length yc1, str yd1.inp, str yd1.out, bl yd1.app]), (b2, 53, [.slice (some ad2) xl1.length xc1, bl xb1]), (b1, 76, [pt b1, .slice p3 ((bI ((prP (l.map JV.d) i ++ prJP (xl1.map CV.d) k) ++ prC yd1)).length) c3])] ++ (T4 ++ ([]))) := hO
     have hA_ : (prP (l.map JV.d) i ++ prJP (xl1.map CV.d) k) ++ prC yd1 = prP (l.map JV.d) i ++ prJP (xl1.map CV.d) (k + 1) := by rw [prJP_step hy1]; (first | rw [if_pos (show k = 0 by omega)] | rw [if_neg (show ¬ k = 0 by omega)]); simp only [List.append_assoc, List.nil_append]
     rw [hA_] at hO hT4; clear hA_
     exact ⟨_, by omega, k + 1, (pt b1), p3, c3, T4, rfl, (hA.sub (e' := [(0, .slice (some ad1) l.length c), (2, str (⟨#[]⟩)), (3, i64 0), (4, pt b1), (5, i64 ((i : Nat) : Int)), (6, pt b2), (13, .slice (some ad1) l.length c), (14, i64 ((l.length : Nat) : Int)), (15, i64 ((i : Nat) : Int)), (21, .slice (some ad2) xl1.length xc1), (22, i64 ((xl1.length : Nat) : Int)), (23, i64 (((k : Nat) : Int) + 1))]) [0, 2, 3, 4, 5, 6, 13, 14, 15, 21, 22, 23] (by kernel_rfl)).cast (by kernel_rfl), (Ow.subP (A := [(b3, 54, [.slice yp1 yd1.words.length yc1, str yd1.inp, str yd1.out, bl yd1.app]), (b2, 53, [.slice (some ad2) xl1.length xc1, bl xb1]), (b1, 76, [pt b1, .slice p3 ((bI (prP (l.map JV.d) i ++ prJP (xl1.map CV.d) (k + 1))).length) c3])]) (A' := [(b2, 53, [.slice (some ad2) xl1.length xc1, bl xb1]), (b1, 76, [pt b1, .slice p3 ((bI (prP (l.map JV.d) i ++ prJP (xl1.map CV.d) (k + 1))).length) c3])]) (B := T4 ++ ([])) hO (.cons _ (.cons_cons _ (.cons_cons _ .slnil)))), hT4, (by omega), (.inr rfl), trivial⟩
   rw [h2] at hA
   have h2p := of_decide_eq_false h2
   refine cF hA ?_
   refine wp_exit ?_
   refine then_exit ?_
   refine then_exit ?_
   refine inBlock_exit ?_
   refine then_normal ?_
   refine sC (e' := [(0, .slice (some ad1) l.length c), (2, str (⟨#[]⟩)), (3, i64 0), (4, pt b1), (6, pt b2), (9, bl (((i : Nat) : Int) == (((l.length : Nat) : Int) - 1))), (13, .slice (some ad1) l.length c), (14, i64 ((l.length : Nat) : Int)), (15, i64 ((i : Nat) : Int))]) 6 hA [bl true] (cc ((inK_i64 (by omega) (by omega)) : inK .i64 (((l.length : Nat) : Int) - 1)) c0) ?_
   clear hA fr; intro fr hA
   refine wp_block ?_
   refine sR (l := (rg 0 6)) ?_
   refine ck (l := [0, 1, 2]) (r := [3, 4, 5]) (e' := [(0, .slice (some ad1) l.length c), (2, str (⟨#[]⟩)), (3, i64 0), (4, pt b1), (6, pt b2), (9, bl (((i : Nat) : Int) == (((l.length : Nat) : Int) - 1))), (13, .slice (some ad1) l.length c), (14, i64 ((l.length : Nat) : Int)), (15, i64 ((i : Nat) : Int)), (42, bl xb1), (43, bl xb1)]) hA [bl xb1] (cc (hO.l1 0 1 4 (bl xb1)) c0) ?_
   clear hA fr; intro fr hA
   rcases Bool.eq_false_or_eq_true (xb1) with h4 | h4
   · rw [h4] at hA
     refine ck (l := [3, 4, 5]) (r := []) (e' := [(0, .slice (some ad1) l.length c), (2, str (⟨#[]⟩)), (3, i64 0), (4, pt b1), (6, pt b2), (9, bl (((i : Nat) : Int) == (((l.length : Nat) : Int) - 1))), (13, .slice (some ad1) l.length c), (14, i64 ((l.length : Nat) : Int)), (15, i64 ((i : Nat) : Int)), (40, bl (((i : Nat) : Int) == (((l.length : Nat) : Int) - 1)))]) hA [] c0 ?_
     clear hA fr; intro fr hA
     refine end_ops ?_
     refine then_normal ?_
     rcases Bool.eq_false_or_eq_true (((i : Nat) : Int) == (((l.length : Nat) : Int) - 1)) with h5 | h5
     · rw [h5] at hA
       have h5p := eq_of_beq h5
       refine cT hA ?_
       refine rR (l := [0]) ?_
       replace hO : Ow Try.prog none' w w6 ([(b2, 53, [.slice xp1 xl1.length xc1, bl xb1]), (b1, 76, [q2, .slice pL2 ((bI (prP (l.map JV.d) i ++ prJP (xl1.map CV.d) k)).length) cL2])] ++ (TL2 ++ ([]))) := hO
       have hz_2 : (⟨#[32, 38]⟩ : ByteArray).size = 2 := rfl
       refine wpOps_cons' (mC (f := 31) (args := [pt b1, str (⟨#[32, 38]⟩)]) (d := (some 46)) hA Try.func31 ((write_any b1 q2 pL2 cL2 (bI (prP (l.map JV.d) i ++ prJP (xl1.map CV.d) k)) TL2 (⟨#[32, 38]⟩ : ByteArray) _ hq2 (Ow.self (A := [(b2, 53, [.slice xp1 xl1.length xc1, bl xb1])]) (T := [(b1, 76, [q2, .slice pL2 ((bI (prP (l.map JV.d) i ++ prJP (xl1.map CV.d) k)).length) cL2])] ++ (TL2 ++ [])) (B := []) (hO.to (by first | rfl | (simp only [TP, apd])))) hTL2 (bI_u8 _) (by simp only [bI_len, List.length_append, bA_size, List.length_cons, List.length_nil]; omega)).mono ?_))
       rintro en w14 ⟨p4, c4, T5, rfl, hW, hT5⟩
       refine ⟨_, rfl, ?_⟩
       clear hA fr; intro fr hA
       replace hO := Ow.pass (A := [(b2, 53, [.slice xp1 xl1.length xc1, bl xb1])]) (T := [(b1, 76, [q2, .slice pL2 ((bI (prP (l.map JV.d) i ++ prJP (xl1.map CV.d) k)).length) cL2])] ++ (TL2 ++ [])) (B := []) (hO.to (by first | rfl | (simp only [TP, apd]))) hW; clear hW
       rw [show bI (prP (l.map JV.d) i ++ prJP (xl1.map CV.d) k) ++ sI (⟨#[32, 38]⟩ : ByteArray) = bI ((prP (l.map JV.d) i ++ prJP (xl1.map CV.d) k) ++ [32, 38]) from bI_app _ _] at hO hT5
       replace hO : Ow Try.prog none' w w14 ([(b2, 53, [.slice xp1 xl1.length xc1, bl xb1]), (b1, 76, [pt b1, .slice p4 ((bI ((prP (l.map JV.d) i ++ prJP (xl1.map CV.d) k) ++ [32, 38])).length) c4])] ++ (T5 ++ ([]))) := hO.to (by first | rfl | (simp only [TP, apd]))
       replace hA := hA.sb (e' := [(0, .slice (some ad1) l.length c), (2, str (⟨#[]⟩)), (3, i64 0), (4, pt b1), (13, .slice (some ad1) l.length c), (14, i64 ((l.length : Nat) : Int)), (15, i64 ((i : Nat) : Int))])
       refine end_ops ?_
       refine inBlock_normal ?_
       refine inBlock_normal ?_
       refine then_normal ?_
       refine rC (e' := [(0, .slice (some ad1) l.length c), (2, str (⟨#[]⟩)), (3, i64 0), (4, pt b1), (13, .slice (some ad1) l.length c), (14, i64 ((l.length : Nat) : Int)), (15, i64 (((i : Nat) : Int) + 1))]) 2 hA [bl true] (cc ((inK_i64 (by omega) (by omega)) : inK .i64 (((i : Nat) : Int) + 1)) c0) ?_
       clear hA fr; intro fr hA
       refine then_normal ?_
       replace hO : Ow Try.prog none' w w14 ([(b2, 53, [.slice xp1 xl1.length xc1, bl xb1]), (b1, 76, [pt b1, .slice p4 ((bI ((prP (l.map JV.d) i ++ prJP (xl1.map CV.d) k) ++ [32, 38])).length) c4])] ++ (T5 ++ ([]))) := hO
       have hA_ : (prP (l.map JV.d) i ++ prJP (xl1.map CV.d) k) ++ [32, 38] = prP (l.map JV.d) (i + 1) := by rw [prP_step hx1, show k = xl1.length by omega]; (first | rw [decide_eq_true (show i + 1 = l.length by omega)] | rw [decide_eq_false (show ¬ i + 1 = l.length by omega)]); simp_all [sepJ, List.append_assoc]
       rw [hA_] at hO hT5; clear hA_
       exact ⟨_, by omega, i + 1, (pt b1), p4, c4, T5, rfl, (hA.sub (e' := [(0, .slice (some ad1) l.length c), (2, str (⟨#[]⟩)), (3, i64 0), (4, pt b1), (13, .slice (some ad1) l.length c), (14, i64 ((l.length : Nat) : Int)), (15, i64 (((i : Nat) : Int) + 1))]) [0, 2, 3, 4, 13, 14, 15] (by kernel_rfl)).cast (by kernel_rfl), (Ow.subP (A := [(b2, 53, [.slice xp1 xl1.length xc1, bl xb1]), (b1, 76, [pt b1, .slice p4 ((bI (prP (l.map JV.d) (i + 1))).length) c4])]) (A' := [(b1, 76, [pt b1, .slice p4 ((bI (prP (l.map JV.d) (i + 1))).length) c4])]) (B := T5 ++ ([])) hO (.cons _ (.cons_cons _ .slnil))), hT5, (by omega), (.inr rfl), trivial⟩
     rw [h5] at hA
     have h5p := ne_of_beq_false h5
     refine cF hA ?_
     refine sC (e' := [(0, .slice (some ad1) l.length c), (2, str (⟨#[]⟩)), (3, i64 0), (4, pt b1), (9, bl false), (13, .slice (some ad1) l.length c), (14, i64 ((l.length : Nat) : Int)), (15, i64 ((i : Nat) : Int)), (47, bl xb1)]) 3 hA [bl xb1] (cc (hO.l1 0 1 4 (bl xb1)) c0) ?_
     clear hA fr; intro fr hA
     rw [(h4 : (xb1) = true)] at hA
     refine cT hA ?_
     refine rR (l := [0]) ?_
     replace hO : Ow Try.prog none' w w6 ([(b2, 53, [.slice xp1 xl1.length xc1, bl xb1]), (b1, 76, [q2, .slice pL2 ((bI (prP (l.map JV.d) i ++ prJP (xl1.map CV.d) k)).length) cL2])] ++ (TL2 ++ ([]))) := hO
     have hz_3 : (⟨#[32, 38, 32]⟩ : ByteArray).size = 3 := rfl
     refine wpOps_cons' (mC (f := 31) (args := [pt b1, str (⟨#[32, 38, 32]⟩)]) (d := (some 50)) hA Try.func31 ((write_any b1 q2 pL2 cL2 (bI (prP (l.map JV.d) i ++ prJP (xl1.map CV.d) k)) TL2 (⟨#[32, 38, 32]⟩ : ByteArray) _ hq2 (Ow.self (A := [(b2, 53, [.slice xp1 xl1.length xc1, bl xb1])]) (T := [(b1, 76, [q2, .slice pL2 ((bI (prP (l.map JV.d) i ++ prJP (xl1.map CV.d) k)).length) cL2])] ++ (TL2 ++ [])) (B := []) (hO.to (by first | rfl | (simp only [TP, apd])))) hTL2 (bI_u8 _) (by simp only [bI_len, List.length_append, bA_size, List.length_cons, List.length_nil]; omega)).mono ?_))
     rintro en w15 ⟨p5, c5, T6, rfl, hW, hT6⟩
     refine ⟨_, rfl, ?_⟩
     clear hA fr; intro fr hA
     replace hO := Ow.pass (A := [(b2, 53, [.slice xp1 xl1.length xc1, bl xb1])]) (T := [(b1, 76, [q2, .slice pL2 ((bI (prP (l.map JV.d) i ++ prJP (xl1.map CV.d) k)).length) cL2])] ++ (TL2 ++ [])) (B := []) (hO.to (by first | rfl | (simp only [TP, apd]))) hW; clear hW
     rw [show bI (prP (l.map JV.d) i ++ prJP (xl1.map CV.d) k) ++ sI (⟨#[32, 38, 32]⟩ : ByteArray) = bI ((prP (l.map JV.d) i ++ prJP (xl1.map CV.d) k) ++ [32, 38, 32]) from bI_app _ _] at hO hT6
     replace hO : Ow Try.prog none' w w15 ([(b2, 53, [.slice xp1 xl1.length xc1, bl xb1]), (b1, 76, [pt b1, .slice p5 ((bI ((prP (l.map JV.d) i ++ prJP (xl1.map CV.d) k) ++ [32, 38, 32])).length) c5])] ++ (T6 ++ ([]))) := hO.to (by first | rfl | (simp only [TP, apd]))
     replace hA := hA.sb (e' := [(0, .slice (some ad1) l.length c), (2, str (⟨#[]⟩)), (3, i64 0), (4, pt b1), (13, .slice (some ad1) l.length c), (14, i64 ((l.length : Nat) : Int)), (15, i64 ((i : Nat) : Int))])
     refine end_ops ?_
     refine inBlock_normal ?_
     refine inBlock_normal ?_
     refine then_normal ?_
     refine rC (e' := [(0, .slice (some ad1) l.length c), (2, str (⟨#[]⟩)), (3, i64 0), (4, pt b1), (13, .slice (some ad1) l.length c), (14, i64 ((l.length : Nat) : Int)), (15, i64 (((i : Nat) : Int) + 1))]) 2 hA [bl true] (cc ((inK_i64 (by omega) (by omega)) : inK .i64 (((i : Nat) : Int) + 1)) c0) ?_
     clear hA fr; intro fr hA
     refine then_normal ?_
     replace hO : Ow Try.prog none' w w15 ([(b2, 53, [.slice xp1 xl1.length xc1, bl xb1]), (b1, 76, [pt b1, .slice p5 ((bI ((prP (l.map JV.d) i ++ prJP (xl1.map CV.d) k) ++ [32, 38, 32])).length) c5])] ++ (T6 ++ ([]))) := hO
     have hA_ : (prP (l.map JV.d) i ++ prJP (xl1.map CV.d) k) ++ [32, 38, 32] = prP (l.map JV.d) (i + 1) := by rw [prP_step hx1, show k = xl1.length by omega]; (first | rw [decide_eq_true (show i + 1 = l.length by omega)] | rw [decide_eq_false (show ¬ i + 1 = l.length by omega)]); simp_all [sepJ, List.append_assoc]
     rw [hA_] at hO hT6; clear hA_
     exact ⟨_, by omega, i + 1, (pt b1), p5, c5, T6, rfl, (hA.sub (e' := [(0, .slice (some ad1) l.length c), (2, str (⟨#[]⟩)), (3, i64 0), (4, pt b1), (13, .slice (some ad1) l.length c), (14, i64 ((l.length : Nat) : Int)), (15, i64 (((i : Nat) : Int) + 1))]) [0, 2, 3, 4, 13, 14, 15] (by kernel_rfl)).cast (by kernel_rfl), (Ow.subP (A := [(b2, 53, [.slice xp1 xl1.length xc1, bl xb1]), (b1, 76, [pt b1, .slice p5 ((bI (prP (l.map JV.d) (i + 1))).length) c5])]) (A' := [(b1, 76, [pt b1, .slice p5 ((bI (prP (l.map JV.d) (i + 1))).length) c5])]) (B := T6 ++ ([])) hO (.cons _ (.cons_cons _ .slnil))), hT6, (by omega), (.inr rfl), trivial⟩
   rw [h4] at hA
   refine ck (l := [3, 4, 5]) (r := []) (e' := [(0, .slice (some ad1) l.length c), (2, str (⟨#[]⟩)), (3, i64 0), (4, pt b1), (6, pt b2), (9, bl (((i : Nat) : Int) == (((l.length : Nat) : Int) - 1))), (13, .slice (some ad1) l.length c), (14, i64 ((l.length : Nat) : Int)), (15, i64 ((i : Nat) : Int)), (40, bl false)]) hA [] c0 ?_
   clear hA fr; intro fr hA
   refine end_ops ?_
   refine then_normal ?_
   refine cF hA ?_
   refine sC (e' := [(0, .slice (some ad1) l.length c), (2, str (⟨#[]⟩)), (3, i64 0), (4, pt b1), (9, bl (((i : Nat) : Int) == (((l.length : Nat) : Int) - 1))), (13, .slice (some ad1) l.length c), (14, i64 ((l.length : Nat) : Int)), (15, i64 ((i : Nat) : Int)), (47, bl xb1)]) 3 hA [bl xb1] (cc (hO.l1 0 1 4 (bl xb1)) c0) ?_
   clear hA fr; intro fr hA
   rw [(h4 : (xb1) = false)] at hA
   refine cF hA ?_
   refine sC (e' := [(0, .slice (some ad1) l.length c), (2, str (⟨#[]⟩)), (3, i64 0), (4, pt b1), (13, .slice (some ad1) l.length c), (14, i64 ((l.length : Nat) : Int)), (15, i64 ((i : Nat) : Int)), (51, bl (!(((i : Nat) : Int) == (((l.length : Nat) : Int) - 1))))]) 3 hA [] c0 ?_
   clear hA fr; intro fr hA
   rcases Bool.eq_false_or_eq_true (((i : Nat) : Int) == (((l.length : Nat) : Int) - 1)) with h6 | h6
   · rw [h6] at hA
     have h6p := eq_of_beq h6
     refine cF hA ?_
     refine wp_skip ?_
     refine inBlock_normal ?_
     refine inBlock_normal ?_
     refine then_normal ?_
     refine rC (e' := [(0, .slice (some ad1) l.length c), (2, str (⟨#[]⟩)), (3, i64 0), (4, pt b1), (13, .slice (some ad1) l.length c), (14, i64 ((l.length : Nat) : Int)), (15, i64 (((i : Nat) : Int) + 1))]) 2 hA [bl true] (cc ((inK_i64 (by omega) (by omega)) : inK .i64 (((i : Nat) : Int) + 1)) c0) ?_
     clear hA fr; intro fr hA
     refine then_normal ?_
     replace hO : Ow Try.prog none' w w6 ([(b2, 53, [.slice xp1 xl1.length xc1, bl xb1]), (b1, 76, [q2, .slice pL2 ((bI (prP (l.map JV.d) i ++ prJP (xl1.map CV.d) k)).length) cL2])] ++ (TL2 ++ ([]))) := hO
     have hA_ : prP (l.map JV.d) i ++ prJP (xl1.map CV.d) k = prP (l.map JV.d) (i + 1) := by rw [prP_step hx1, show k = xl1.length by omega]; (first | rw [decide_eq_true (show i + 1 = l.length by omega)] | rw [decide_eq_false (show ¬ i + 1 = l.length by omega)]); simp_all [sepJ, List.append_assoc]
     rw [hA_] at hO hTL2; clear hA_
     exact ⟨_, by omega, i + 1, q2, pL2, cL2, TL2, rfl, (hA.sub (e' := [(0, .slice (some ad1) l.length c), (2, str (⟨#[]⟩)), (3, i64 0), (4, pt b1), (13, .slice (some ad1) l.length c), (14, i64 ((l.length : Nat) : Int)), (15, i64 (((i : Nat) : Int) + 1))]) [0, 2, 3, 4, 13, 14, 15] (by kernel_rfl)).cast (by kernel_rfl), (Ow.subP (A := [(b2, 53, [.slice xp1 xl1.length xc1, bl xb1]), (b1, 76, [q2, .slice pL2 ((bI (prP (l.map JV.d) (i + 1))).length) cL2])]) (A' := [(b1, 76, [q2, .slice pL2 ((bI (prP (l.map JV.d) (i + 1))).length) cL2])]) (B := TL2 ++ ([])) hO (.cons _ (.cons_cons _ .slnil))), hTL2, (by omega), hq2, trivial⟩
   rw [h6] at hA
   have h6p := ne_of_beq_false h6
   refine cT hA ?_
   refine rR (l := [0]) ?_
   replace hO : Ow Try.prog none' w w6 ([(b2, 53, [.slice xp1 xl1.length xc1, bl xb1]), (b1, 76, [q2, .slice pL2 ((bI (prP (l.map JV.d) i ++ prJP (xl1.map CV.d) k)).length) cL2])] ++ (TL2 ++ ([]))) := hO
   have hz_2 : (⟨#[59, 32]⟩ : ByteArray).size = 2 := rfl
   refine wpOps_cons' (mC (f := 31) (args := [pt b1, str (⟨#[59, 32]⟩)]) (d := (some 54)) hA Try.func31 ((write_any b1 q2 pL2 cL2 (bI (prP (l.map JV.d) i ++ prJP (xl1.map CV.d) k)) TL2 (⟨#[59, 32]⟩ : ByteArray) _ hq2 (Ow.self (A := [(b2, 53, [.slice xp1 xl1.length xc1, bl xb1])]) (T := [(b1, 76, [q2, .slice pL2 ((bI (prP (l.map JV.d) i ++ prJP (xl1.map CV.d) k)).length) cL2])] ++ (TL2 ++ [])) (B := []) (hO.to (by first | rfl | (simp only [TP, apd])))) hTL2 (bI_u8 _) (by simp only [bI_len, List.length_append, bA_size, List.length_cons, List.length_nil]; omega)).mono ?_))
   rintro en w16 ⟨p6, c6, T7, rfl, hW, hT7⟩
   refine ⟨_, rfl, ?_⟩
   clear hA fr; intro fr hA
   replace hO := Ow.pass (A := [(b2, 53, [.slice xp1 xl1.length xc1, bl xb1])]) (T := [(b1, 76, [q2, .slice pL2 ((bI (prP (l.map JV.d) i ++ prJP (xl1.map CV.d) k)).length) cL2])] ++ (TL2 ++ [])) (B := []) (hO.to (by first | rfl | (simp only [TP, apd]))) hW; clear hW
   rw [show bI (prP (l.map JV.d) i ++ prJP (xl1.map CV.d) k) ++ sI (⟨#[59, 32]⟩ : ByteArray) = bI ((prP (l.map JV.d) i ++ prJP (xl1.map CV.d) k) ++ [59, 32]) from bI_app _ _] at hO hT7
   replace hO : Ow Try.prog none' w w16 ([(b2, 53, [.slice xp1 xl1.length xc1, bl xb1]), (b1, 76, [pt b1, .slice p6 ((bI ((prP (l.map JV.d) i ++ prJP (xl1.map CV.d) k) ++ [59, 32])).length) c6])] ++ (T7 ++ ([]))) := hO.to (by first | rfl | (simp only [TP, apd]))
   replace hA := hA.sb (e' := [(0, .slice (some ad1) l.length c), (2, str (⟨#[]⟩)), (3, i64 0), (4, pt b1), (13, .slice (some ad1) l.length c), (14, i64 ((l.length : Nat) : Int)), (15, i64 ((i : Nat) : Int))])
   refine end_ops ?_
   refine inBlock_normal ?_
   refine inBlock_normal ?_
   refine then_normal ?_
   refine rC (e' := [(0, .slice (some ad1) l.length c), (2, str (⟨#[]⟩)), (3, i64 0), (4, pt b1), (13, .slice (some ad1) l.length c), (14, i64 ((l.length : Nat) : Int)), (15, i64 (((i : Nat) : Int) + 1))]) 2 hA [bl true] (cc ((inK_i64 (by omega) (by omega)) : inK .i64 (((i : Nat) : Int) + 1)) c0) ?_
   clear hA fr; intro fr hA
   refine then_normal ?_
   replace hO : Ow Try.prog none' w w16 ([(b2, 53, [.slice xp1 xl1.length xc1, bl xb1]), (b1, 76, [pt b1, .slice p6 ((bI ((prP (l.map JV.d) i ++ prJP (xl1.map CV.d) k) ++ [59, 32])).length) c6])] ++ (T7 ++ ([]))) := hO
   have hA_ : (prP (l.map JV.d) i ++ prJP (xl1.map CV.d) k) ++ [59, 32] = prP (l.map JV.d) (i + 1) := by rw [prP_step hx1, show k = xl1.length by omega]; (first | rw [decide_eq_true (show i + 1 = l.length by omega)] | rw [decide_eq_false (show ¬ i + 1 = l.length by omega)]); simp_all [sepJ, List.append_assoc]
   rw [hA_] at hO hT7; clear hA_
   exact ⟨_, by omega, i + 1, (pt b1), p6, c6, T7, rfl, (hA.sub (e' := [(0, .slice (some ad1) l.length c), (2, str (⟨#[]⟩)), (3, i64 0), (4, pt b1), (13, .slice (some ad1) l.length c), (14, i64 ((l.length : Nat) : Int)), (15, i64 (((i : Nat) : Int) + 1))]) [0, 2, 3, 4, 13, 14, 15] (by kernel_rfl)).cast (by kernel_rfl), (Ow.subP (A := [(b2, 53, [.slice xp1 xl1.length xc1, bl xb1]), (b1, 76, [pt b1, .slice p6 ((bI (prP (l.map JV.d) (i + 1))).length) c6])]) (A' := [(b1, 76, [pt b1, .slice p6 ((bI (prP (l.map JV.d) (i + 1))).length) c6])]) (B := T7 ++ ([])) hO (.cons _ (.cons_cons _ .slnil))), hT7, (by omega), (.inr rfl), trivial⟩
 rw [h1] at hA
 have h1p := of_decide_eq_false h1
 refine cF hA ?_
 refine wp_exit ?_
 refine then_exit ?_
 refine then_exit ?_
 refine inBlock_exit ?_
 refine then_normal ?_
 refine sR (l := [0, 1, 2]) ?_
 replace hO : Ow Try.prog none' w w3 ([(b1, 76, [q, .slice pL1 ((bI (prP (l.map JV.d) i)).length) cL1])] ++ (TL1 ++ ([]))) := hO
 refine wpOps_cons' (mC (f := 33) (args := [pt b1]) (d := (some 56)) hA Try.func33 ((bstring_any b1 q pL1 cL1 (prP (l.map JV.d) i) TL1 _ (Ow.self (A := []) (T := ((b1, 76, [q, .slice pL1 ((bI (prP (l.map JV.d) i)).length) cL1]) :: TL1)) (B := []) (hO.to (by first | rfl | (simp only [TP, apd])))) hTL1 (by omega)).mono ?_))
 rintro en w17 ⟨rfl, hW⟩
 refine ⟨_, rfl, ?_⟩
 clear hA fr; intro fr hA
 replace hO := Ow.pan3 (A := []) (T := ((b1, 76, [q, .slice pL1 ((bI (prP (l.map JV.d) i)).length) cL1]) :: TL1)) (B := []) (hO.to (by first | rfl | (simp only [TP, apd])) : Ow Try.prog none' w _ ([] ++ (((b1, 76, [q, .slice pL1 ((bI (prP (l.map JV.d) i)).length) cL1]) :: TL1) ++ ([])))) hW; clear hW
 replace hO : Ow Try.prog none' w w17 [] := hO.to (by first | rfl | (simp only [TP, apd]))
 replace hA := hA.sb (e' := [(2, str (⟨#[]⟩)), (3, i64 0), (56, str (bA (prP (l.map JV.d) i)))])
 refine ck (l := [1, 2]) (r := []) (e' := [(2, str (bA (prP (l.map JV.d) i))), (3, i64 0)]) hA [] c0 ?_
 clear hA fr; intro fr hA
 refine end_ops ?_
 refine then_normal ?_
 refine wp_ret ?_
 refine cR (cs := [none, none]) (us := [str (bA (prP (l.map JV.d) i)), i64 0]) hA [] trivial ?_
 have hF := hO.only; clear hA hO
 refine ⟨?_, hF⟩
 unfold prL
 rw [List.length_map, show l.length = i by omega]
 rfl

end Go.Proofs.Ytfhcpegemapbkaa
