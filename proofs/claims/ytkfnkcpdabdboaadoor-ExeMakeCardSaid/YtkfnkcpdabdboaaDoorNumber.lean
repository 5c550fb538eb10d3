/- The layer cpu: walks of the reference: number. -/
import Derived.Test.YtkfnkcpdabdboaaDoorShelf
set_option linter.unusedVariables false
set_option linter.unusedSimpArgs false
set_option maxRecDepth 10000
namespace Go.Proofs.YtkfnkcpdabdboaaDoor
open Go Go.RowKit Go.Proofs.Sx

/-- Digits of a number. -/
def digS (u : Nat) : ByteArray := ⟨(Lib.decDigits u).toArray⟩
theorem digS_size (u : Nat) : (digS u).size ≤ u + 1 := by
  have := dec_len u
  show (Lib.decDigits u).toArray.size ≤ u + 1
  simpa using this
theorem ba_ext {x y : ByteArray} (h : x.data.toList = y.data.toList) : x = y := by
  cases x; cases y; congr 1; exact Array.toList_inj.1 h
theorem ba_app (x y : ByteArray) : (x ++ y).data.toList = x.data.toList ++ y.data.toList := by simp [ByteArray.data_append]
theorem ba_size (x : ByteArray) : x.size = x.data.toList.length := by rw [Array.length_toList]; rfl
theorem enc_digit {d : Int} (h : 0 ≤ d) (h' : d ≤ 9) : (Utf8.encode (48 + d)).data.toList = [UInt8.ofNat (48 + d.toNat)] := by
  have : d = 0 ∨ d = 1 ∨ d = 2 ∨ d = 3 ∨ d = 4 ∨ d = 5 ∨ d = 6 ∨ d = 7 ∨ d = 8 ∨ d = 9 := by omega
  rcases this with rfl | rfl | rfl | rfl | rfl | rfl | rfl | rfl | rfl | rfl <;> rfl
theorem enc_size {d : Int} (h : 0 ≤ d) (h' : d ≤ 9) : (Utf8.encode (48 + d)).size = 1 := by rw [ba_size, enc_digit h h']; rfl
theorem digS_lo {u : Nat} (h : u < 10) : Utf8.encode (48 + ((u : Nat) : Int)) = digS u := by
  apply ba_ext
  rw [enc_digit (by omega) (by omega)]
  show _ = (Lib.decDigits u).toArray.toList
  rw [Lib.decDigits, dif_pos h]; rfl
theorem digS_hi {u : Nat} (h : ¬ u < 10) : digS (u / 10) ++ Utf8.encode (48 + (((u : Nat) : Int) % 10)) = digS u := by
  apply ba_ext
  rw [ba_app, enc_digit (by omega) (by omega)]
  show (Lib.decDigits (u / 10)).toArray.toList ++ _ = (Lib.decDigits u).toArray.toList
  rw [Lib.decDigits.eq_def u, dif_neg h, show (((u : Nat) : Int) % 10).toNat = u % 10 by omega]
theorem itoaS_pos (u : Nat) : itoaS ((u : Nat) : Int) = digS u := by
  unfold itoaS Lib.itoa digS
  rw [if_neg (by omega)]; rfl
theorem itoaS_neg {x : Int} {m : Nat} (h : x < 0) (hm : 0 - x = ((m : Nat) : Int)) : (⟨#[45]⟩ : ByteArray) ++ digS m = itoaS x := by
  apply ba_ext
  rw [ba_app]
  unfold itoaS Lib.itoa digS
  rw [if_pos h, show x.natAbs = m by omega]; rfl

theorem number_step (u : Nat) (w : World) (hu : u ≤ 1000000) (ih : ∀ v, v < u → ∀ w, Calls Tryd.prog 47 #[.int .i64 ((v : Nat) : Int)] w fun e w' => e = .returned (.string (digS v)) ∧ Only none' w w') :
    Calls Tryd.prog 47 #[i64 ((u : Nat) : Int)] w fun e w' => e = .returned (.string (digS u)) ∧ Only none' w w' := by
  refine c_enter (args := [i64 ((u : Nat) : Int)]) (m := 23) (n := 24) Tryd.func47 rfl (by kernel_rfl) (by kernel_rfl) fun fr hA => ?_
  have hO := Ow.nil Tryd.prog none' w
  have sz1 := digS_size (u / 10); have sz2 := enc_size (d := ((u : Nat) : Int) % 10) (by omega) (by omega)
  refine sC (e' := [(0, i64 ((u : Nat) : Int)), (2, str (⟨#[]⟩))]) 1 hA [] c0 ?_
  clear hA fr; intro fr hA
  refine wp_seq ?_
  refine sC (e' := [(0, i64 ((u : Nat) : Int)), (2, str (⟨#[]⟩)), (4, bl (decide (((u : Nat) : Int) < 0)))]) 2 hA [] c0 ?_
  clear hA fr; intro fr hA
  rcases Bool.eq_false_or_eq_true (decide (((u : Nat) : Int) < 0)) with h1 | h1
  ·
    exfalso; have q_ := of_decide_eq_true h1; omega
  ·
    replace hA := hA.bool (f := fun z_ => [(0, i64 ((u : Nat) : Int)), (2, str (⟨#[]⟩)), (4, .bool z_)]) h1
    have h1p := of_decide_eq_false h1
    refine cF hA ?_
    refine wp_skip ?_
    refine then_normal ?_
    refine wp_seq ?_
    refine sC (e' := [(0, i64 ((u : Nat) : Int)), (2, str (⟨#[]⟩)), (10, bl (decide (((u : Nat) : Int) < 10)))]) 2 hA [] c0 ?_
    clear hA fr; intro fr hA
    rcases Bool.eq_false_or_eq_true (decide (((u : Nat) : Int) < 10)) with h2 | h2
    ·
      replace hA := hA.bool (f := fun z_ => [(0, i64 ((u : Nat) : Int)), (2, str (⟨#[]⟩)), (10, .bool z_)]) h2
      have h2p := of_decide_eq_true h2
      refine cT hA ?_
      refine sC (e' := [(0, i64 ((u : Nat) : Int)), (2, str (Utf8.encode (48 + ((u : Nat) : Int))))]) 5 hA [bl true, bl true] (cc ((inK_i64 (by omega) (by omega)) : inK .i64 (48 + ((u : Nat) : Int))) (cc ((inK_i32 (by omega) (by omega)) : inK .i32 (48 + ((u : Nat) : Int))) c0)) ?_
      clear hA fr; intro fr hA
      refine wp_ret ?_
      refine then_ret ?_
      refine cR (cs := [none]) (us := [str (Utf8.encode (48 + ((u : Nat) : Int)))]) hA [] trivial ?_
      have hF := hO.only; clear hA hO
      exact ⟨congrArg (fun s => Ending.returned (.string s)) (digS_lo (by omega)), hF⟩
    ·
      replace hA := hA.bool (f := fun z_ => [(0, i64 ((u : Nat) : Int)), (2, str (⟨#[]⟩)), (10, .bool z_)]) h2
      have h2p := of_decide_eq_false h2
      refine cF hA ?_
      refine wp_skip ?_
      refine then_normal ?_
      refine sR (l := (rg 0 10)) ?_
      refine ck (l := [0, 1]) (r := (rg 2 8)) (e' := [(0, i64 ((u : Nat) : Int)), (2, str (⟨#[]⟩)), (16, i64 (((u : Nat) : Int) / 10))]) hA [bl true] (cc (⟨by omega, by omega, inK_i64 (by omega) (by omega)⟩ : (0 : Int) ≤ ((u : Nat) : Int) ∧ (0 : Int) < 10 ∧ inK .i64 ((u : Nat) : Int)) c0) ?_
      clear hA fr; intro fr hA
      replace hA := hA.int (f := fun z_ => [(0, i64 ((u : Nat) : Int)), (2, str (⟨#[]⟩)), (16, .int .i64 z_)]) (by omega : ((u : Nat) : Int) / 10 = ((u / 10 : Nat) : Int))
      refine wpOps_cons' (mK (f := 47) (args := [i64 ((u / 10 : Nat) : Int)]) (d := (some 17)) (v := str (digS (u / 10))) hA hO Tryd.func47 (ih (u / 10) (by omega) _) ?_)
      clear hA hO fr; intro fr w1 hA hO
      replace hA := hA.sb (e' := [(0, i64 ((u : Nat) : Int)), (2, str (⟨#[]⟩)), (17, str (digS (u / 10)))])
      refine ck (l := (rg 3 7)) (r := []) (e' := [(2, str ((digS (u / 10)) ++ (Utf8.encode (48 + (((u : Nat) : Int) % 10)))))]) hA [bl true, bl true, bl true] (cc (⟨by omega, by omega, inK_i64 (by omega) (by omega)⟩ : (0 : Int) ≤ ((u : Nat) : Int) ∧ (0 : Int) < 10 ∧ inK .i64 ((u : Nat) : Int)) (cc ((inK_i64 (by omega) (by omega)) : inK .i64 (48 + (((u : Nat) : Int) % 10))) (cc ((inK_i32 (by omega) (by omega)) : inK .i32 (48 + (((u : Nat) : Int) % 10))) (cc (by omega : (digS (u / 10)).size + (Utf8.encode (48 + (((u : Nat) : Int) % 10))).size ≤ 9223372036854775807) c0)))) ?_
      clear hA fr; intro fr hA
      refine end_ops ?_
      refine then_normal ?_
      refine wp_ret ?_
      refine cR (cs := [none]) (us := [str ((digS (u / 10)) ++ (Utf8.encode (48 + (((u : Nat) : Int) % 10))))]) hA [] trivial ?_
      have hF := hO.only; clear hA hO
      exact ⟨congrArg (fun s => Ending.returned (.string s)) (digS_hi (by omega)), hF⟩

theorem number_pos : ∀ (m u : Nat), u < m → u ≤ 1000000 → ∀ w : World, Calls Tryd.prog 47 #[.int .i64 ((u : Nat) : Int)] w fun e w' => e = .returned (.string (digS u)) ∧ Only none' w w'
  | 0, _, h, _, _ => by omega
  | m + 1, u, h, hu, w => number_step u w hu fun v hv w => number_pos m v (by omega) (by omega) w

theorem number_neg (x : Int) (m : Nat) (w : World) (h : x < 0) (hm : 0 - x = ((m : Nat) : Int)) (hu : m ≤ 1000000) :
    Calls Tryd.prog 47 #[i64 x] w fun e w' => e = .returned (.string (itoaS x)) ∧ Only none' w w' := by
  refine c_enter (args := [i64 x]) (m := 23) (n := 24) Tryd.func47 rfl (by kernel_rfl) (by kernel_rfl) fun fr hA => ?_
  have hO := Ow.nil Tryd.prog none' w
  have sz1 := digS_size m; have sz2 : (⟨#[45]⟩ : ByteArray).size = 1 := rfl
  refine sC (e' := [(0, i64 x), (2, str (⟨#[]⟩))]) 1 hA [] c0 ?_
  clear hA fr; intro fr hA
  refine wp_seq ?_
  refine sC (e' := [(0, i64 x), (2, str (⟨#[]⟩)), (4, bl (decide (x < 0)))]) 2 hA [] c0 ?_
  clear hA fr; intro fr hA
  rcases Bool.eq_false_or_eq_true (decide (x < 0)) with h1 | h1
  ·
    replace hA := hA.bool (f := fun z_ => [(0, i64 x), (2, str (⟨#[]⟩)), (4, .bool z_)]) h1
    have h1p := of_decide_eq_true h1
    refine cT hA ?_
    refine sR (l := (rg 0 5)) ?_
    refine ck (l := [0, 1]) (r := [2, 3, 4]) (e' := [(0, i64 x), (2, str (⟨#[]⟩)), (6, i64 (0 - x))]) hA [bl true] (cc ((inK_i64 (by omega) (by omega)) : inK .i64 (0 - x)) c0) ?_
    clear hA fr; intro fr hA
    replace hA := hA.int (f := fun z_ => [(0, i64 x), (2, str (⟨#[]⟩)), (6, .int .i64 z_)]) (hm : 0 - x = ((m : Nat) : Int))
    refine wpOps_cons' (mK (f := 47) (args := [i64 ((m : Nat) : Int)]) (d := (some 7)) (v := str (digS m)) hA hO Tryd.func47 (number_pos (m + 1) m (by omega) hu _) ?_)
    clear hA hO fr; intro fr w1 hA hO
    replace hA := hA.sb (e' := [(0, i64 x), (2, str (⟨#[]⟩)), (7, str (digS m))])
    refine ck (l := [3, 4]) (r := []) (e' := [(0, i64 x), (2, str ((⟨#[45]⟩ : ByteArray) ++ (digS m)))]) hA [] (cc (by omega : (⟨#[45]⟩ : ByteArray).size + (digS m).size ≤ 9223372036854775807) c0) ?_
    clear hA fr; intro fr hA
    refine end_ops ?_
    refine then_normal ?_
    refine wp_ret ?_
    refine then_ret ?_
    refine cR (cs := [none]) (us := [str ((⟨#[45]⟩ : ByteArray) ++ (digS m))]) hA [] trivial ?_
    have hF := hO.only; clear hA hO
    exact ⟨congrArg (fun s => Ending.returned (.string s)) (itoaS_neg h hm), hF⟩
  ·
    exfalso; have q_ := of_decide_eq_false h1; omega

theorem number_any (x : Int) (w : World) (h : -1000000 ≤ x) (h' : x ≤ 1000000) : Calls Tryd.prog 47 #[.int .i64 x] w fun e w' => e = .returned (.string (itoaS x)) ∧ Only none' w w' := by
  by_cases h0 : x < 0
  · obtain ⟨m, hm⟩ := Int.eq_ofNat_of_zero_le (show 0 ≤ 0 - x by omega)
    exact number_neg x m w h0 hm (by omega)
  · obtain ⟨u, rfl⟩ := Int.eq_ofNat_of_zero_le (show 0 ≤ x by omega)
    show Calls _ _ #[.int .i64 ((u : Nat) : Int)] w fun e w' => e = .returned (.string (itoaS ((u : Nat) : Int))) ∧ _
    rw [itoaS_pos]
    exact number_pos (u + 1) u (by omega) (by omega) w

end Go.Proofs.YtkfnkcpdabdboaaDoor
