/- The layer command: which bytes are in words. -/
import Derived.Test.YtfhcpegemapbkaaChecked
import Derived.Test.YtfhcpegemapbkaaShelf
set_option linter.unusedVariables false
set_option linter.unusedSimpArgs false
set_option maxRecDepth 10000
namespace Go.Proofs.Ytfhcpegemapbkaa
open Go Go.Shelf Go.RowKit Go.Proofs Go.Proofs.Sx

def ixI (c : Int) : Int := if c = 46 then 0 else if c = 45 then 1 else if c = 95 then 2 else if c = 47 then 3 else -1
theorem ixI_pos (c : Int) : ixI c ≥ 0 ↔ c = 46 ∨ c = 45 ∨ c = 95 ∨ c = 47 := by unfold ixI; (repeat' split) <;> omega
theorem ix_part {c : Int} (h0 : 0 ≤ c) (h1 : c ≤ 255) : Lib.indexByte [46, 45, 95, 47] c.toNat.toUInt8 = ixI c := by
 obtain ⟨k, rfl⟩ := Int.eq_ofNat_of_zero_le h0
 have h2 : k < 256 := by omega
 have : ∀ k : Fin 256, Lib.indexByte [46, 45, 95, 47] (((k.val : Nat) : Int).toNat.toUInt8) = ixI ((k.val : Nat) : Int) := by decide +kernel
 exact this ⟨k, h2⟩

theorem inner_any (c : Int) (w : World) (lo : 0 ≤ c) (hi : c ≤ 255) :
    Calls Try.prog 41 #[u8 c] w fun e w' => e = .returned (.bool (partI c)) ∧ Only none' w w' := by
 refine c_enter (args := [u8 c]) (m := 32) (n := 33) Try.func41 rfl (by kernel_rfl) (by kernel_rfl) fun fr hA => ?_
 have hO := Ow.nil Try.prog none' w
 refine sC (e' := [(0, u8 c), (2, bl false)]) 1 hA [] c0 ?_
 clear hA fr; intro fr hA
 refine sR (l := (rg 0 31)) ?_
 refine ck (l := [0, 1, 2]) (r := (rg 3 28)) (e' := [(0, u8 c), (2, bl false), (4, bl (decide (c ≥ 97))), (5, bl (decide (c ≥ 97)))]) hA [] c0 ?_
 clear hA fr; intro fr hA
 rcases Bool.eq_false_or_eq_true (decide (c ≥ 97)) with h1 | h1
 · rw [h1] at hA
   have h1p := of_decide_eq_true h1
   refine ck (l := [3, 4, 5, 6]) (r := (rg 7 24)) (e' := [(0, u8 c), (2, bl false), (7, bl (decide (c ≤ 122))), (8, bl (decide (c ≤ 122))), (9, bl (decide (c ≤ 122)))]) hA [] c0 ?_
   clear hA fr; intro fr hA
   rcases Bool.eq_false_or_eq_true (decide (c ≤ 122)) with h2 | h2
   · rw [h2] at hA
     have h2p := of_decide_eq_true h2
     refine ck (l := (rg 7 24)) (r := []) (e' := [(2, bl true)]) hA [] c0 ?_
     clear hA fr; intro fr hA
     refine end_ops ?_
     refine then_normal ?_
     refine wp_ret ?_
     refine cR (cs := [none]) (us := [bl true]) hA [] trivial ?_
     have hF := hO.only; clear hA hO
     exact ⟨congrArg (fun b => Ending.returned (.bool b)) (by have hx_ := ixI_pos c; unfold partI; first | exact (decide_eq_true (by omega)).symm | exact (decide_eq_false (by omega)).symm | exact decide_eq_decide.2 (by omega) | (rw [Bool.eq_iff_iff]; simp only [decide_eq_true_eq, beq_iff_eq]; omega)), hF⟩
   rw [h2] at hA
   have h2p := of_decide_eq_false h2
   refine ck (l := [7, 8, 9]) (r := (rg 10 21)) (e' := [(0, u8 c), (2, bl false), (9, bl false), (11, bl (decide (c ≥ 48))), (12, bl (decide (c ≥ 48)))]) hA [] c0 ?_
   clear hA fr; intro fr hA
   rcases Bool.eq_false_or_eq_true (decide (c ≥ 48)) with h3 | h3
   · rw [h3] at hA
     have h3p := of_decide_eq_true h3
     refine ck (l := (rg 10 5)) (r := (rg 15 16)) (e' := [(0, u8 c), (2, bl false), (14, bl (decide (c ≤ 57))), (15, bl (decide (c ≤ 57))), (16, bl (decide (c ≤ 57))), (17, bl (decide (c ≤ 57)))]) hA [] c0 ?_
     clear hA fr; intro fr hA
     rcases Bool.eq_false_or_eq_true (decide (c ≤ 57)) with h4 | h4
     · rw [h4] at hA
       have h4p := of_decide_eq_true h4
       refine ck (l := (rg 15 16)) (r := []) (e' := [(2, bl true)]) hA [] c0 ?_
       clear hA fr; intro fr hA
       refine end_ops ?_
       refine then_normal ?_
       refine wp_ret ?_
       refine cR (cs := [none]) (us := [bl true]) hA [] trivial ?_
       have hF := hO.only; clear hA hO
       exact ⟨congrArg (fun b => Ending.returned (.bool b)) (by have hx_ := ixI_pos c; unfold partI; first | exact (decide_eq_true (by omega)).symm | exact (decide_eq_false (by omega)).symm | exact decide_eq_decide.2 (by omega) | (rw [Bool.eq_iff_iff]; simp only [decide_eq_true_eq, beq_iff_eq]; omega)), hF⟩
     rw [h4] at hA
     have h4p := of_decide_eq_false h4
     refine ck (l := [15, 16, 17, 18]) (r := (rg 19 12)) (e' := [(0, u8 c), (2, bl false), (19, bl (c == 46)), (20, bl (c == 46)), (21, bl (c == 46))]) hA [] c0 ?_
     clear hA fr; intro fr hA
     rcases Bool.eq_false_or_eq_true (c == 46) with h5 | h5
     · rw [h5] at hA
       have h5p := eq_of_beq h5
       refine ck (l := (rg 19 12)) (r := []) (e' := [(2, bl true)]) hA [] c0 ?_
       clear hA fr; intro fr hA
       refine end_ops ?_
       refine then_normal ?_
       refine wp_ret ?_
       refine cR (cs := [none]) (us := [bl true]) hA [] trivial ?_
       have hF := hO.only; clear hA hO
       exact ⟨congrArg (fun b => Ending.returned (.bool b)) (by have hx_ := ixI_pos c; unfold partI; first | exact (decide_eq_true (by omega)).symm | exact (decide_eq_false (by omega)).symm | exact decide_eq_decide.2 (by omega) | (rw [Bool.eq_iff_iff]; simp only [decide_eq_true_eq, beq_iff_eq]; omega)), hF⟩
     rw [h5] at hA
     have h5p := ne_of_beq_false h5
     refine ck (l := [19, 20, 21, 22]) (r := (rg 23 8)) (e' := [(0, u8 c), (2, bl false), (23, bl (c == 45)), (24, bl (c == 45)), (25, bl (c == 45))]) hA [] c0 ?_
     clear hA fr; intro fr hA
     rcases Bool.eq_false_or_eq_true (c == 45) with h6 | h6
     · rw [h6] at hA
       have h6p := eq_of_beq h6
       refine ck (l := (rg 23 8)) (r := []) (e' := [(2, bl true)]) hA [] c0 ?_
       clear hA fr; intro fr hA
       refine end_ops ?_
       refine then_normal ?_
       refine wp_ret ?_
       refine cR (cs := [none]) (us := [bl true]) hA [] trivial ?_
       have hF := hO.only; clear hA hO
       exact ⟨congrArg (fun b => Ending.returned (.bool b)) (by have hx_ := ixI_pos c; unfold partI; first | exact (decide_eq_true (by omega)).symm | exact (decide_eq_false (by omega)).symm | exact decide_eq_decide.2 (by omega) | (rw [Bool.eq_iff_iff]; simp only [decide_eq_true_eq, beq_iff_eq]; omega)), hF⟩
     rw [h6] at hA
     have h6p := ne_of_beq_false h6
     refine ck (l := [23, 24, 25, 26]) (r := [27, 28, 29, 30]) (e' := [(0, u8 c), (2, bl false), (27, bl (c == 95)), (28, bl (c == 95)), (29, bl (c == 95))]) hA [] c0 ?_
     clear hA fr; intro fr hA
     rcases Bool.eq_false_or_eq_true (c == 95) with h7 | h7
     · rw [h7] at hA
       have h7p := eq_of_beq h7
       refine ck (l := [27, 28, 29, 30]) (r := []) (e' := [(2, bl true)]) hA [] c0 ?_
       clear hA fr; intro fr hA
       refine end_ops ?_
       refine then_normal ?_
       refine wp_ret ?_
       refine cR (cs := [none]) (us := [bl true]) hA [] trivial ?_
       have hF := hO.only; clear hA hO
       exact ⟨congrArg (fun b => Ending.returned (.bool b)) (by have hx_ := ixI_pos c; unfold partI; first | exact (decide_eq_true (by omega)).symm | exact (decide_eq_false (by omega)).symm | exact decide_eq_decide.2 (by omega) | (rw [Bool.eq_iff_iff]; simp only [decide_eq_true_eq, beq_iff_eq]; omega)), hF⟩
     rw [h7] at hA
     have h7p := ne_of_beq_false h7
     refine ck (l := [27, 28, 29, 30]) (r := []) (e' := [(2, bl (c == 47))]) hA [] c0 ?_
     clear hA fr; intro fr hA
     refine end_ops ?_
     refine then_normal ?_
     refine wp_ret ?_
     refine cR (cs := [none]) (us := [bl (c == 47)]) hA [] trivial ?_
     have hF := hO.only; clear hA hO
     exact ⟨congrArg (fun b => Ending.returned (.bool b)) (by have hx_ := ixI_pos c; unfold partI; first | exact (decide_eq_true (by omega)).symm | exact (decide_eq_false (by omega)).symm | exact decide_eq_decide.2 (by omega) | (rw [Bool.eq_iff_iff]; simp only [decide_eq_true_eq, beq_iff_eq]; omega)), hF⟩
   rw [h3] at hA
   have h3p := of_decide_eq_false h3
   refine ck (l := (rg 10 9)) (r := (rg 19 12)) (e' := [(0, u8 c), (2, bl false), (19, bl (c == 46)), (20, bl (c == 46)), (21, bl (c == 46))]) hA [] c0 ?_
   clear hA fr; intro fr hA
   rcases Bool.eq_false_or_eq_true (c == 46) with h8 | h8
   · rw [h8] at hA
     have h8p := eq_of_beq h8
     refine ck (l := (rg 19 12)) (r := []) (e' := [(2, bl true)]) hA [] c0 ?_
     clear hA fr; intro fr hA
     refine end_ops ?_
     refine then_normal ?_
     refine wp_ret ?_
     refine cR (cs := [none]) (us := [bl true]) hA [] trivial ?_
     have hF := hO.only; clear hA hO
     exact ⟨congrArg (fun b => Ending.returned (.bool b)) (by have hx_ := ixI_pos c; unfold partI; first | exact (decide_eq_true (by omega)).symm | exact (decide_eq_false (by omega)).symm | exact decide_eq_decide.2 (by omega) | (rw [Bool.eq_iff_iff]; simp only [decide_eq_true_eq, beq_iff_eq]; omega)), hF⟩
   rw [h8] at hA
   have h8p := ne_of_beq_false h8
   refine ck (l := [19, 20, 21, 22]) (r := (rg 23 8)) (e' := [(0, u8 c), (2, bl false), (23, bl (c == 45)), (24, bl (c == 45)), (25, bl (c == 45))]) hA [] c0 ?_
   clear hA fr; intro fr hA
   rcases Bool.eq_false_or_eq_true (c == 45) with h9 | h9
   · rw [h9] at hA
     have h9p := eq_of_beq h9
     refine ck (l := (rg 23 8)) (r := []) (e' := [(2, bl true)]) hA [] c0 ?_
     clear hA fr; intro fr hA
     refine end_ops ?_
     refine then_normal ?_
     refine wp_ret ?_
     refine cR (cs := [none]) (us := [bl true]) hA [] trivial ?_
     have hF := hO.only; clear hA hO
     exact ⟨congrArg (fun b => Ending.returned (.bool b)) (by have hx_ := ixI_pos c; unfold partI; first | exact (decide_eq_true (by omega)).symm | exact (decide_eq_false (by omega)).symm | exact decide_eq_decide.2 (by omega) | (rw [Bool.eq_iff_iff]; simp only [decide_eq_true_eq, beq_iff_eq]; omega)), hF⟩
   rw [h9] at hA
   have h9p := ne_of_beq_false h9
   refine ck (l := [23, 24, 25, 26]) (r := [27, 28, 29, 30]) (e' := [(0, u8 c), (2, bl false), (27, bl (c == 95)), (28, bl (c == 95)), (29, bl (c == 95))]) hA [] c0 ?_
   clear hA fr; intro fr hA
   rcases Bool.eq_false_or_eq_true (c == 95) with h10 | h10
   · rw [h10] at hA
     have h10p := eq_of_beq h10
     refine ck (l := [27, 28, 29, 30]) (r := []) (e' := [(2, bl true)]) hA [] c0 ?_
     clear hA fr; intro fr hA
     refine end_ops ?_
     refine then_normal ?_
     refine wp_ret ?_
     refine cR (cs := [none]) (us := [bl true]) hA [] trivial ?_
     have hF := hO.only; clear hA hO
     exact ⟨congrArg (fun b => Ending.returned (.bool b)) (by have hx_ := ixI_pos c; unfold partI; first | exact (decide_eq_true (by omega)).symm | exact (decide_eq_false (by omega)).symm | exact decide_eq_decide.2 (by omega) | (rw [Bool.eq_iff_iff]; simp only [decide_eq_true_eq, beq_iff_eq]; omega)), hF⟩
   rw [h10] at hA
   have h10p := ne_of_beq_false h10
   refine ck (l := [27, 28, 29, 30]) (r := []) (e' := [(2, bl (c == 47))]) hA [] c0 ?_
   clear hA fr; intro fr hA
   refine end_ops ?_
   refine then_normal ?_
   refine wp_ret ?_
   refine cR (cs := [none]) (us := [bl (c == 47)]) hA [] trivial ?_
   have hF := hO.only; clear hA hO
   exact ⟨congrArg (fun b => Ending.returned (.bool b)) (by have hx_ := ixI_pos c; unfold partI; first | exact (decide_eq_true (by omega)).symm | exact (decide_eq_false (by omega)).symm | exact decide_eq_decide.2 (by omega) | (rw [Bool.eq_iff_iff]; simp only [decide_eq_true_eq, beq_iff_eq]; omega)), hF⟩
 rw [h1] at hA
 have h1p := of_decide_eq_false h1
 refine ck (l := (rg 3 7)) (r := (rg 10 21)) (e' := [(0, u8 c), (2, bl false), (9, bl false), (11, bl (decide (c ≥ 48))), (12, bl (decide (c ≥ 48)))]) hA [] c0 ?_
 clear hA fr; intro fr hA
 rcases Bool.eq_false_or_eq_true (decide (c ≥ 48)) with h11 | h11
 · rw [h11] at hA
   have h11p := of_decide_eq_true h11
   refine ck (l := (rg 10 5)) (r := (rg 15 16)) (e' := [(0, u8 c), (2, bl false), (14, bl (decide (c ≤ 57))), (15, bl (decide (c ≤ 57))), (16, bl (decide (c ≤ 57))), (17, bl (decide (c ≤ 57)))]) hA [] c0 ?_
   clear hA fr; intro fr hA
   rcases Bool.eq_false_or_eq_true (decide (c ≤ 57)) with h12 | h12
   · rw [h12] at hA
     have h12p := of_decide_eq_true h12
     refine ck (l := (rg 15 16)) (r := []) (e' := [(2, bl true)]) hA [] c0 ?_
     clear hA fr; intro fr hA
     refine end_ops ?_
     refine then_normal ?_
     refine wp_ret ?_
     refine cR (cs := [none]) (us := [bl true]) hA [] trivial ?_
     have hF := hO.only; clear hA hO
     exact ⟨congrArg (fun b => Ending.returned (.bool b)) (by have hx_ := ixI_pos c; unfold partI; first | exact (decide_eq_true (by omega)).symm | exact (decide_eq_false (by omega)).symm | exact decide_eq_decide.2 (by omega) | (rw [Bool.eq_iff_iff]; simp only [decide_eq_true_eq, beq_iff_eq]; omega)), hF⟩
   rw [h12] at hA
   have h12p := of_decide_eq_false h12
   refine ck (l := [15, 16, 17, 18]) (r := (rg 19 12)) (e' := [(0, u8 c), (2, bl false), (19, bl (c == 46)), (20, bl (c == 46)), (21, bl (c == 46))]) hA [] c0 ?_
   clear hA fr; intro fr hA
   rcases Bool.eq_false_or_eq_true (c == 46) with h13 | h13
   · rw [h13] at hA
     have h13p := eq_of_beq h13
     refine ck (l := (rg 19 12)) (r := []) (e' := [(2, bl true)]) hA [] c0 ?_
     clear hA fr; intro fr hA
     refine end_ops ?_
     refine then_normal ?_
     refine wp_ret ?_
     refine cR (cs := [none]) (us := [bl true]) hA [] trivial ?_
     have hF := hO.only; clear hA hO
     exact ⟨congrArg (fun b => Ending.returned (.bool b)) (by have hx_ := ixI_pos c; unfold partI; first | exact (decide_eq_true (by omega)).symm | exact (decide_eq_false (by omega)).symm | exact decide_eq_decide.2 (by omega) | (rw [Bool.eq_iff_iff]; simp only [decide_eq_true_eq, beq_iff_eq]; omega)), hF⟩
   rw [h13] at hA
   have h13p := ne_of_beq_false h13
   refine ck (l := [19, 20, 21, 22]) (r := (rg 23 8)) (e' := [(0, u8 c), (2, bl false), (23, bl (c == 45)), (24, bl (c == 45)), (25, bl (c == 45))]) hA [] c0 ?_
   clear hA fr; intro fr hA
   rcases Bool.eq_false_or_eq_true (c == 45) with h14 | h14
   · rw [h14] at hA
     have h14p := eq_of_beq h14
     refine ck (l := (rg 23 8)) (r := []) (e' := [(2, bl true)]) hA [] c0 ?_
     clear hA fr; intro fr hA
     refine end_ops ?_
     refine then_normal ?_
     refine wp_ret ?_
     refine cR (cs := [none]) (us := [bl true]) hA [] trivial ?_
     have hF := hO.only; clear hA hO
     exact ⟨congrArg (fun b => Ending.returned (.bool b)) (by have hx_ := ixI_pos c; unfold partI; first | exact (decide_eq_true (by omega)).symm | exact (decide_eq_false (by omega)).symm | exact decide_eq_decide.2 (by omega) | (rw [Bool.eq_iff_iff]; simp only [decide_eq_true_eq, beq_iff_eq]; omega)), hF⟩
   rw [h14] at hA
   have h14p := ne_of_beq_false h14
   refine ck (l := [23, 24, 25, 26]) (r := [27, 28, 29, 30]) (e' := [(0, u8 c), (2, bl false), (27, bl (c == 95)), (28, bl (c == 95)), (29, bl (c == 95))]) hA [] c0 ?_
   clear hA fr; intro fr hA
   rcases Bool.eq_false_or_eq_true (c == 95) with h15 | h15
   · rw [h15] at hA
     have h15p := eq_of_beq h15
     refine ck (l := [27, 28, 29, 30]) (r := []) (e' := [(2, bl true)]) hA [] c0 ?_
     clear hA fr; intro fr hA
     refine end_ops ?_
     refine then_normal ?_
     refine wp_ret ?_
     refine cR (cs := [none]) (us := [bl true]) hA [] trivial ?_
     have hF := hO.only; clear hA hO
     exact ⟨congrArg (fun b => Ending.returned (.bool b)) (by have hx_ := ixI_pos c; unfold partI; first | exact (decide_eq_true (by omega)).symm | exact (decide_eq_false (by omega)).symm | exact decide_eq_decide.2 (by omega) | (rw [Bool.eq_iff_iff]; simp only [decide_eq_true_eq, beq_iff_eq]; omega)), hF⟩
   rw [h15] at hA
   have h15p := ne_of_beq_false h15
   refine ck (l := [27, 28, 29, 30]) (r := []) (e' := [(2, bl (c == 47))]) hA [] c0 ?_
   clear hA fr; intro fr hA
   refine end_ops ?_
   refine then_normal ?_
   refine wp_ret ?_
   refine cR (cs := [none]) (us := [bl (c == 47)]) hA [] trivial ?_
   have hF := hO.only; clear hA hO
   exact ⟨congrArg (fun b => Ending.returned (.bool b)) (by have hx_ := ixI_pos c; unfold partI; first | exact (decide_eq_true (by omega)).symm | exact (decide_eq_false (by omega)).symm | exact decide_eq_decide.2 (by omega) | (rw [Bool.eq_iff_iff]; simp only [decide_eq_true_eq, beq_iff_eq]; omega)), hF⟩
 rw [h11] at hA
 have h11p := of_decide_eq_false h11
 refine ck (l := (rg 10 9)) (r := (rg 19 12)) (e' := [(0, u8 c), (2, bl false), (19, bl (c == 46)), (20, bl (c == 46)), (21, bl (c == 46))]) hA [] c0 ?_
 clear hA fr; intro fr hA
 rcases Bool.eq_false_or_eq_true (c == 46) with h16 | h16
 · rw [h16] at hA
   have h16p := eq_of_beq h16
   refine ck (l := (rg 19 12)) (r := []) (e' := [(2, bl true)]) hA [] c0 ?_
   clear hA fr; intro fr hA
   refine end_ops ?_
   refine then_normal ?_
   refine wp_ret ?_
   refine cR (cs := [none]) (us := [bl true]) hA [] trivial ?_
   have hF := hO.only; clear hA hO
   exact ⟨congrArg (fun b => Ending.returned (.bool b)) (by have hx_ := ixI_pos c; unfold partI; first | exact (decide_eq_true (by omega)).symm | exact (decide_eq_false (by omega)).symm | exact decide_eq_decide.2 (by omega) | (rw [Bool.eq_iff_iff]; simp only [decide_eq_true_eq, beq_iff_eq]; omega)), hF⟩
 rw [h16] at hA
 have h16p := ne_of_beq_false h16
 refine ck (l := [19, 20, 21, 22]) (r := (rg 23 8)) (e' := [(0, u8 c), (2, bl false), (23, bl (c == 45)), (24, bl (c == 45)), (25, bl (c == 45))]) hA [] c0 ?_
 clear hA fr; intro fr hA
 rcases Bool.eq_false_or_eq_true (c == 45) with h17 | h17
 · rw [h17] at hA
   have h17p := eq_of_beq h17
   refine ck (l := (rg 23 8)) (r := []) (e' := [(2, bl true)]) hA [] c0 ?_
   clear hA fr; intro fr hA
   refine end_ops ?_
   refine then_normal ?_
   refine wp_ret ?_
   refine cR (cs := [none]) (us := [bl true]) hA [] trivial ?_
   have hF := hO.only; clear hA hO
   exact ⟨congrArg (fun b => Ending.returned (.bool b)) (by have hx_ := ixI_pos c; unfold partI; first | exact (decide_eq_true (by omega)).symm | exact (decide_eq_false (by omega)).symm | exact decide_eq_decide.2 (by omega) | (rw [Bool.eq_iff_iff]; simp only [decide_eq_true_eq, beq_iff_eq]; omega)), hF⟩
 rw [h17] at hA
 have h17p := ne_of_beq_false h17
 refine ck (l := [23, 24, 25, 26]) (r := [27, 28, 29, 30]) (e' := [(0, u8 c), (2, bl false), (27, bl (c == 95)), (28, bl (c == 95)), (29, bl (c == 95))]) hA [] c0 ?_
 clear hA fr; intro fr hA
 rcases Bool.eq_false_or_eq_true (c == 95) with h18 | h18
 · rw [h18] at hA
   have h18p := eq_of_beq h18
   refine ck (l := [27, 28, 29, 30]) (r := []) (e' := [(2, bl true)]) hA [] c0 ?_
   clear hA fr; intro fr hA
   refine end_ops ?_
   refine then_normal ?_
   refine wp_ret ?_
   refine cR (cs := [none]) (us := [bl true]) hA [] trivial ?_
   have hF := hO.only; clear hA hO
   exact ⟨congrArg (fun b => Ending.returned (.bool b)) (by have hx_ := ixI_pos c; unfold partI; first | exact (decide_eq_true (by omega)).symm | exact (decide_eq_false (by omega)).symm | exact decide_eq_decide.2 (by omega) | (rw [Bool.eq_iff_iff]; simp only [decide_eq_true_eq, beq_iff_eq]; omega)), hF⟩
 rw [h18] at hA
 have h18p := ne_of_beq_false h18
 refine ck (l := [27, 28, 29, 30]) (r := []) (e' := [(2, bl (c == 47))]) hA [] c0 ?_
 clear hA fr; intro fr hA
 refine end_ops ?_
 refine then_normal ?_
 refine wp_ret ?_
 refine cR (cs := [none]) (us := [bl (c == 47)]) hA [] trivial ?_
 have hF := hO.only; clear hA hO
 exact ⟨congrArg (fun b => Ending.returned (.bool b)) (by have hx_ := ixI_pos c; unfold partI; first | exact (decide_eq_true (by omega)).symm | exact (decide_eq_false (by omega)).symm | exact decide_eq_decide.2 (by omega) | (rw [Bool.eq_iff_iff]; simp only [decide_eq_true_eq, beq_iff_eq]; omega)), hF⟩

theorem part_any (c : Int) (w : World) (lo : 0 ≤ c) (hi : c ≤ 255) :
    Calls Try.prog 40 #[u8 c] w fun e w' => e = .returned (.bool (partI c)) ∧ Only none' w w' := by
 refine c_enter (args := [u8 c]) (m := 21) (n := 22) Try.func40 rfl (by kernel_rfl) (by kernel_rfl) fun fr hA => ?_
 have hO := Ow.nil Try.prog none' w
 refine sC (e' := [(0, u8 c), (2, bl false)]) 1 hA [] c0 ?_
 clear hA fr; intro fr hA
 refine sR (l := (rg 0 20)) ?_
 refine ck (l := [0, 1, 2]) (r := (rg 3 17)) (e' := [(0, u8 c), (2, bl false), (4, bl (decide (c ≥ 97))), (5, bl (decide (c ≥ 97)))]) hA [] c0 ?_
 clear hA fr; intro fr hA
 rcases Bool.eq_false_or_eq_true (decide (c ≥ 97)) with h1 | h1
 · rw [h1] at hA
   have h1p := of_decide_eq_true h1
   refine ck (l := [3, 4, 5, 6]) (r := (rg 7 13)) (e' := [(0, u8 c), (2, bl false), (7, bl (decide (c ≤ 122))), (8, bl (decide (c ≤ 122))), (9, bl (decide (c ≤ 122)))]) hA [] c0 ?_
   clear hA fr; intro fr hA
   rcases Bool.eq_false_or_eq_true (decide (c ≤ 122)) with h2 | h2
   · rw [h2] at hA
     have h2p := of_decide_eq_true h2
     refine ck (l := (rg 7 13)) (r := []) (e' := [(2, bl true)]) hA [] c0 ?_
     clear hA fr; intro fr hA
     refine end_ops ?_
     refine then_normal ?_
     refine wp_ret ?_
     refine cR (cs := [none]) (us := [bl true]) hA [] trivial ?_
     have hF := hO.only; clear hA hO
     exact ⟨congrArg (fun b => Ending.returned (.bool b)) (by have hx_ := ixI_pos c; unfold partI; first | exact (decide_eq_true (by omega)).symm | exact (decide_eq_false (by omega)).symm | exact decide_eq_decide.2 (by omega) | (rw [Bool.eq_iff_iff]; simp only [decide_eq_true_eq, beq_iff_eq]; omega)), hF⟩
   rw [h2] at hA
   have h2p := of_decide_eq_false h2
   refine ck (l := [7, 8, 9]) (r := (rg 10 10)) (e' := [(0, u8 c), (2, bl false), (9, bl false), (11, bl (decide (c ≥ 48))), (12, bl (decide (c ≥ 48)))]) hA [] c0 ?_
   clear hA fr; intro fr hA
   rcases Bool.eq_false_or_eq_true (decide (c ≥ 48)) with h3 | h3
   · rw [h3] at hA
     have h3p := of_decide_eq_true h3
     refine ck (l := (rg 10 5)) (r := (rg 15 5)) (e' := [(0, u8 c), (2, bl false), (14, bl (decide (c ≤ 57))), (15, bl (decide (c ≤ 57))), (16, bl (decide (c ≤ 57))), (17, bl (decide (c ≤ 57)))]) hA [] c0 ?_
     clear hA fr; intro fr hA
     rcases Bool.eq_false_or_eq_true (decide (c ≤ 57)) with h4 | h4
     · rw [h4] at hA
       have h4p := of_decide_eq_true h4
       refine ck (l := (rg 15 5)) (r := []) (e' := [(2, bl true)]) hA [] c0 ?_
       clear hA fr; intro fr hA
       refine end_ops ?_
       refine then_normal ?_
       refine wp_ret ?_
       refine cR (cs := [none]) (us := [bl true]) hA [] trivial ?_
       have hF := hO.only; clear hA hO
       exact ⟨congrArg (fun b => Ending.returned (.bool b)) (by have hx_ := ixI_pos c; unfold partI; first | exact (decide_eq_true (by omega)).symm | exact (decide_eq_false (by omega)).symm | exact decide_eq_decide.2 (by omega) | (rw [Bool.eq_iff_iff]; simp only [decide_eq_true_eq, beq_iff_eq]; omega)), hF⟩
     rw [h4] at hA
     have h4p := of_decide_eq_false h4
     refine ck (l := [15]) (r := [16, 17, 18, 19]) (e' := [(2, bl false), (17, bl false), (18, u8 c)]) hA [] c0 ?_
     clear hA fr; intro fr hA
     refine wpOps_cons' (mK (f := 53) (args := [str (⟨#[46, 45, 95, 47]⟩), u8 c]) (d := (some 19)) (v := i64 (ixI c)) hA hO Try.func53 (rs (indexByte_any (⟨#[46, 45, 95, 47]⟩) c _) (congrArg (Value.int .i64) (ix_part lo hi))) ?_)
     clear hA hO fr; intro fr w1 hA hO
     replace hA := hA.sb (e' := [(2, bl false), (17, bl false), (19, i64 (ixI c))])
     refine ck (l := [17, 18, 19]) (r := []) (e' := [(2, bl (decide ((ixI c) ≥ 0)))]) hA [] c0 ?_
     clear hA fr; intro fr hA
     refine end_ops ?_
     refine then_normal ?_
     refine wp_ret ?_
     refine cR (cs := [none]) (us := [bl (decide ((ixI c) ≥ 0))]) hA [] trivial ?_
     have hF := hO.only; clear hA hO
     exact ⟨congrArg (fun b => Ending.returned (.bool b)) (by have hx_ := ixI_pos c; unfold partI; first | exact (decide_eq_true (by omega)).symm | exact (decide_eq_false (by omega)).symm | exact decide_eq_decide.2 (by omega) | (rw [Bool.eq_iff_iff]; simp only [decide_eq_true_eq, beq_iff_eq]; omega)), hF⟩
   rw [h3] at hA
   have h3p := of_decide_eq_false h3
   refine ck (l := (rg 10 6)) (r := [16, 17, 18, 19]) (e' := [(2, bl false), (17, bl false), (18, u8 c)]) hA [] c0 ?_
   clear hA fr; intro fr hA
   refine wpOps_cons' (mK (f := 53) (args := [str (⟨#[46, 45, 95, 47]⟩), u8 c]) (d := (some 19)) (v := i64 (ixI c)) hA hO Try.func53 (rs (indexByte_any (⟨#[46, 45, 95, 47]⟩) c _) (congrArg (Value.int .i64) (ix_part lo hi))) ?_)
   clear hA hO fr; intro fr w2 hA hO
   replace hA := hA.sb (e' := [(2, bl false), (17, bl false), (19, i64 (ixI c))])
   refine ck (l := [17, 18, 19]) (r := []) (e' := [(2, bl (decide ((ixI c) ≥ 0)))]) hA [] c0 ?_
   clear hA fr; intro fr hA
   refine end_ops ?_
   refine then_normal ?_
   refine wp_ret ?_
   refine cR (cs := [none]) (us := [bl (decide ((ixI c) ≥ 0))]) hA [] trivial ?_
   have hF := hO.only; clear hA hO
   exact ⟨congrArg (fun b => Ending.returned (.bool b)) (by have hx_ := ixI_pos c; unfold partI; first | exact (decide_eq_true (by omega)).symm | exact (decide_eq_false (by omega)).symm | exact decide_eq_decide.2 (by omega) | (rw [Bool.eq_iff_iff]; simp only [decide_eq_true_eq, beq_iff_eq]; omega)), hF⟩
 rw [h1] at hA
 have h1p := of_decide_eq_false h1
 refine ck (l := (rg 3 7)) (r := (rg 10 10)) (e' := [(0, u8 c), (2, bl false), (9, bl false), (11, bl (decide (c ≥ 48))), (12, bl (decide (c ≥ 48)))]) hA [] c0 ?_
 clear hA fr; intro fr hA
 rcases Bool.eq_false_or_eq_true (decide (c ≥ 48)) with h5 | h5
 · rw [h5] at hA
   have h5p := of_decide_eq_true h5
   refine ck (l := (rg 10 5)) (r := (rg 15 5)) (e' := [(0, u8 c), (2, bl false), (14, bl (decide (c ≤ 57))), (15, bl (decide (c ≤ 57))), (16, bl (decide (c ≤ 57))), (17, bl (decide (c ≤ 57)))]) hA [] c0 ?_
   clear hA fr; intro fr hA
   rcases Bool.eq_false_or_eq_true (decide (c ≤ 57)) with h6 | h6
   · rw [h6] at hA
     have h6p := of_decide_eq_true h6
     refine ck (l := (rg 15 5)) (r := []) (e' := [(2, bl true)]) hA [] c0 ?_
     clear hA fr; intro fr hA
     refine end_ops ?_
     refine then_normal ?_
     refine wp_ret ?_
     refine cR (cs := [none]) (us := [bl true]) hA [] trivial ?_
     have hF := hO.only; clear hA hO
     exact ⟨congrArg (fun b => Ending.returned (.bool b)) (by have hx_ := ixI_pos c; unfold partI; first | exact (decide_eq_true (by omega)).symm | exact (decide_eq_false (by omega)).symm | exact decide_eq_decide.2 (by omega) | (rw [Bool.eq_iff_iff]; simp only [decide_eq_true_eq, beq_iff_eq]; omega)), hF⟩
   rw [h6] at hA
   have h6p := of_decide_eq_false h6
   refine ck (l := [15]) (r := [16, 17, 18, 19]) (e' := [(2, bl false), (17, bl false), (18, u8 c)]) hA [] c0 ?_
   clear hA fr; intro fr hA
   refine wpOps_cons' (mK (f := 53) (args := [str (⟨#[46, 45, 95, 47]⟩), u8 c]) (d := (some 19)) (v := i64 (ixI c)) hA hO Try.func53 (rs (indexByte_any (⟨#[46, 45, 95, 47]⟩) c _) (congrArg (Value.int .i64) (ix_part lo hi))) ?_)
   clear hA hO fr; intro fr w3 hA hO
   replace hA := hA.sb (e' := [(2, bl false), (17, bl false), (19, i64 (ixI c))])
   refine ck (l := [17, 18, 19]) (r := []) (e' := [(2, bl (decide ((ixI c) ≥ 0)))]) hA [] c0 ?_
   clear hA fr; intro fr hA
   refine end_ops ?_
   refine then_normal ?_
   refine wp_ret ?_
   refine cR (cs := [none]) (us := [bl (decide ((ixI c) ≥ 0))]) hA [] trivial ?_
   have hF := hO.only; clear hA hO
   exact ⟨congrArg (fun b => Ending.returned (.bool b)) (by have hx_ := ixI_pos c; unfold partI; first | exact (decide_eq_true (by omega)).symm | exact (decide_eq_false (by omega)).symm | exact decide_eq_decide.2 (by omega) | (rw [Bool.eq_iff_iff]; simp only [decide_eq_true_eq, beq_iff_eq]; omega)), hF⟩
 rw [h5] at hA
 have h5p := of_decide_eq_false h5
 refine ck (l := (rg 10 6)) (r := [16, 17, 18, 19]) (e' := [(2, bl false), (17, bl false), (18, u8 c)]) hA [] c0 ?_
 clear hA fr; intro fr hA
 refine wpOps_cons' (mK (f := 53) (args := [str (⟨#[46, 45, 95, 47]⟩), u8 c]) (d := (some 19)) (v := i64 (ixI c)) hA hO Try.func53 (rs (indexByte_any (⟨#[46, 45, 95, 47]⟩) c _) (congrArg (Value.int .i64) (ix_part lo hi))) ?_)
 clear hA hO fr; intro fr w4 hA hO
 replace hA := hA.sb (e' := [(2, bl false), (17, bl false), (19, i64 (ixI c))])
 refine ck (l := [17, 18, 19]) (r := []) (e' := [(2, bl (decide ((ixI c) ≥ 0)))]) hA [] c0 ?_
 clear hA fr; intro fr hA
 refine end_ops ?_
 refine then_normal ?_
 refine wp_ret ?_
 refine cR (cs := [none]) (us := [bl (decide ((ixI c) ≥ 0))]) hA [] trivial ?_
 have hF := hO.only; clear hA hO
 exact ⟨congrArg (fun b => Ending.returned (.bool b)) (by have hx_ := ixI_pos c; unfold partI; first | exact (decide_eq_true (by omega)).symm | exact (decide_eq_false (by omega)).symm | exact decide_eq_decide.2 (by omega) | (rw [Bool.eq_iff_iff]; simp only [decide_eq_true_eq, beq_iff_eq]; omega)), hF⟩

end Go.Proofs.Ytfhcpegemapbkaa
