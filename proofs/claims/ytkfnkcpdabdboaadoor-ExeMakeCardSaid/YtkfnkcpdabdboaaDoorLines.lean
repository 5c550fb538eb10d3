/- The layer exe: number, the lines of a list. -/
import Derived.Test.YtkfnkcpdabdboaaDoorShowboth
import Derived.Test.YtkfnkcpdabdboaaDoorRmake
set_option linter.unusedVariables false
set_option linter.unusedSimpArgs false
set_option maxRecDepth 10000
namespace Go.Proofs.YtkfnkcpdabdboaaDoor
open Go Go.RowKit Go.Proofs.Sx

theorem lnumber_step (u : Nat) (w : World) (hu : u ≤ 1000000) (ih : ∀ v, v < u → ∀ w, Calls Tryd.prog 37 #[.int .i64 ((v : Nat) : Int)] w fun e w' => e = .returned (.string (digS v)) ∧ Only none' w w') :
    Calls Tryd.prog 37 #[i64 ((u : Nat) : Int)] w fun e w' => e = .returned (.string (digS u)) ∧ Only none' w w' := by
  refine c_enter (args := [i64 ((u : Nat) : Int)]) (m := 17) (n := 18) Tryd.func37 rfl (by kernel_rfl) (by kernel_rfl) fun fr hA => ?_
  have hO := Ow.nil Tryd.prog none' w
  have sz1 := digS_size (u / 10); have sz2 := enc_size (d := ((u : Nat) : Int) % 10) (by omega) (by omega)
  refine sC (e' := [(0, i64 ((u : Nat) : Int)), (2, str (⟨#[]⟩))]) 1 hA [] c0 ?_
  clear hA fr; intro fr hA
  refine wp_seq ?_
  refine sC (e' := [(0, i64 ((u : Nat) : Int)), (2, str (⟨#[]⟩)), (4, bl (decide (((u : Nat) : Int) < 10)))]) 2 hA [] c0 ?_
  clear hA fr; intro fr hA
  rcases Bool.eq_false_or_eq_true (decide (((u : Nat) : Int) < 10)) with h1 | h1
  ·
    replace hA := hA.bool (f := fun z_ => [(0, i64 ((u : Nat) : Int)), (2, str (⟨#[]⟩)), (4, .bool z_)]) h1
    have h1p := of_decide_eq_true h1
    refine cT hA ?_
    refine sC (e' := [(0, i64 ((u : Nat) : Int)), (2, str (Utf8.encode (48 + ((u : Nat) : Int))))]) 5 hA [bl true, bl true] (cc ((inK_i64 (by omega) (by omega)) : inK .i64 (48 + ((u : Nat) : Int))) (cc ((inK_i32 (by omega) (by omega)) : inK .i32 (48 + ((u : Nat) : Int))) c0)) ?_
    clear hA fr; intro fr hA
    refine wp_ret ?_
    refine then_ret ?_
    refine cR (cs := [none]) (us := [str (Utf8.encode (48 + ((u : Nat) : Int)))]) hA [] trivial ?_
    have hF := hO.only; clear hA hO
    exact ⟨congrArg (fun s => Ending.returned (.string s)) (digS_lo (by omega)), hF⟩
  ·
    replace hA := hA.bool (f := fun z_ => [(0, i64 ((u : Nat) : Int)), (2, str (⟨#[]⟩)), (4, .bool z_)]) h1
    have h1p := of_decide_eq_false h1
    refine cF hA ?_
    refine wp_skip ?_
    refine then_normal ?_
    refine sR (l := (rg 0 10)) ?_
    refine ck (l := [0, 1]) (r := (rg 2 8)) (e' := [(0, i64 ((u : Nat) : Int)), (2, str (⟨#[]⟩)), (10, i64 (((u : Nat) : Int) / 10))]) hA [bl true] (cc (⟨by omega, by omega, inK_i64 (by omega) (by omega)⟩ : (0 : Int) ≤ ((u : Nat) : Int) ∧ (0 : Int) < 10 ∧ inK .i64 ((u : Nat) : Int)) c0) ?_
    clear hA fr; intro fr hA
    replace hA := hA.int (f := fun z_ => [(0, i64 ((u : Nat) : Int)), (2, str (⟨#[]⟩)), (10, .int .i64 z_)]) (by omega : ((u : Nat) : Int) / 10 = ((u / 10 : Nat) : Int))
    refine wpOps_cons' (mK (f := 37) (args := [i64 ((u / 10 : Nat) : Int)]) (d := (some 11)) (v := str (digS (u / 10))) hA hO Tryd.func37 (ih (u / 10) (by omega) _) ?_)
    clear hA hO fr; intro fr w1 hA hO
    replace hA := hA.sb (e' := [(0, i64 ((u : Nat) : Int)), (2, str (⟨#[]⟩)), (11, str (digS (u / 10)))])
    refine ck (l := (rg 3 7)) (r := []) (e' := [(2, str ((digS (u / 10)) ++ (Utf8.encode (48 + (((u : Nat) : Int) % 10)))))]) hA [bl true, bl true, bl true] (cc (⟨by omega, by omega, inK_i64 (by omega) (by omega)⟩ : (0 : Int) ≤ ((u : Nat) : Int) ∧ (0 : Int) < 10 ∧ inK .i64 ((u : Nat) : Int)) (cc ((inK_i64 (by omega) (by omega)) : inK .i64 (48 + (((u : Nat) : Int) % 10))) (cc ((inK_i32 (by omega) (by omega)) : inK .i32 (48 + (((u : Nat) : Int) % 10))) (cc (by omega : (digS (u / 10)).size + (Utf8.encode (48 + (((u : Nat) : Int) % 10))).size ≤ 9223372036854775807) c0)))) ?_
    clear hA fr; intro fr hA
    refine end_ops ?_
    refine then_normal ?_
    refine wp_ret ?_
    refine cR (cs := [none]) (us := [str ((digS (u / 10)) ++ (Utf8.encode (48 + (((u : Nat) : Int) % 10))))]) hA [] trivial ?_
    have hF := hO.only; clear hA hO
    exact ⟨congrArg (fun s => Ending.returned (.string s)) (digS_hi (by omega)), hF⟩

theorem lnumber_any : ∀ (m u : Nat), u < m → u ≤ 1000000 → ∀ w : World, Calls Tryd.prog 37 #[.int .i64 ((u : Nat) : Int)] w fun e w' => e = .returned (.string (digS u)) ∧ Only none' w w'
  | 0, _, h, _, _ => by omega
  | m + 1, u, h, hu, w => lnumber_step u w hu fun v hv w => lnumber_any m v (by omega) (by omega) w
/-- What Show answers. -/
noncomputable def showS (o a b c v : Int) : ByteArray := if h : legalB o a b c v = true then Classical.choose (show_both o a b c v h) else ⟨#[63]⟩
theorem showS_own (o a b c v : Int) (w : World) (hT : Tab w) (hP : Pow w) : Calls Tryd.prog 36 #[insV o a b c v] w fun e w' => e = .returned (.string (showS o a b c v)) ∧ Only none' w w' := by
  unfold showS
  by_cases h : legalB o a b c v = true
  · rw [dif_pos h]; exact (Classical.choose_spec (show_both o a b c v h)).1 w hT hP
  · rw [dif_neg h]; exact show_bad o a b c v w hT (by simpa using h)
theorem showS_ref (o a b c v : Int) (w : World) : Calls Tryd.prog 38 #[insV o a b c v] w fun e w' => e = .returned (.string (showS o a b c v)) ∧ Only none' w w' := by
  unfold showS
  by_cases h : legalB o a b c v = true
  · rw [dif_pos h]; exact (Classical.choose_spec (show_both o a b c v h)).2.1 w
  · rw [dif_neg h]; exact rshow_bad o a b c v w (by simpa using h)
theorem showS_size (o a b c v : Int) : (showS o a b c v).size ≤ 1000000 := by
  unfold showS
  by_cases h : legalB o a b c v = true
  · rw [dif_pos h]; exact (Classical.choose_spec (show_both o a b c v h)).2.2
  · rw [dif_neg h]; decide
noncomputable def showD : Option (Int × Int × Int × Int × Int) → ByteArray
  | none => showS 0 0 0 0 0
  | some (o, a, b, c, v) => showS o a b c v
theorem showD_own {d : Option (Int × Int × Int × Int × Int)} {o a b c v : Int} (hi : insO d = insV o a b c v) (w : World) (hT : Tab w) (hP : Pow w) : Calls Tryd.prog 36 #[insV o a b c v] w fun e w' => e = .returned (.string (showD d)) ∧ Only none' w w' := by
  rw [← hi]
  rcases d with _ | ⟨o, a, b, c, v⟩
  · exact showS_own 0 0 0 0 0 w hT hP
  · exact showS_own o a b c v w hT hP
theorem showD_ref {d : Option (Int × Int × Int × Int × Int)} {o a b c v : Int} (hi : insO d = insV o a b c v) (w : World) : Calls Tryd.prog 38 #[insV o a b c v] w fun e w' => e = .returned (.string (showD d)) ∧ Only none' w w' := by
  rw [← hi]
  rcases d with _ | ⟨o, a, b, c, v⟩
  · exact showS_ref 0 0 0 0 0 w
  · exact showS_ref o a b c v w
theorem showD_size (d : Option (Int × Int × Int × Int × Int)) : (showD d).size ≤ 1000000 := by
  rcases d with _ | ⟨o, a, b, c, v⟩
  · exact showS_size _ _ _ _ _
  · exact showS_size _ _ _ _ _
noncomputable def lineS (cs : List Int) (i : Nat) : ByteArray := digS (4 * i) ++ ⟨#[58, 32]⟩ ++ showD (decX (chunk cs i))
noncomputable def listL (cs : List Int) (k : Nat) : List ByteArray := (List.range k).map (lineS cs)
theorem listL_succ (cs : List Int) (k : Nat) : listL cs k ++ [lineS cs k] = listL cs (k + 1) := by simp [listL, List.range_succ]
theorem listL_len (cs : List Int) (k : Nat) : (listL cs k).length = k := by simp [listL]
theorem itoa_dig (u : Nat) (w : World) (hu : u ≤ 1000000) (hP : Pow w) : Calls Tryd.prog 35 #[.int .i64 ((u : Nat) : Int)] w fun e w' => e = .returned (.string (digS u)) ∧ Only none' w w' :=
  itoaS_pos u ▸ itoa_any ((u : Nat) : Int) w (inK_i64 (by omega) (by omega)) hP

end Go.Proofs.YtkfnkcpdabdboaaDoor
