/- The layer cpu: walks of the reference: Show. -/
import Derived.Test.YtkfnkcpdabdboaaDoorNumber
import Derived.Test.YtkfnkcpdabdboaaDoorRlegal
import Derived.Test.YtkfnkcpdabdboaaDoorShow
set_option linter.unusedVariables false
set_option linter.unusedSimpArgs false
set_option maxRecDepth 10000
namespace Go.Proofs.YtkfnkcpdabdboaaDoor
open Go Go.RowKit Go.Proofs.Sx

def refNames : List Value := [str ⟨#[]⟩, str ⟨#[115, 101, 116]⟩, str ⟨#[104, 105, 103, 104]⟩, str ⟨#[112, 108, 117, 115]⟩, str ⟨#[97, 100, 100]⟩, str ⟨#[115, 117, 98]⟩, str ⟨#[109, 117, 108]⟩, str ⟨#[100, 105, 118]⟩, str ⟨#[114, 101, 109]⟩, str ⟨#[97, 110, 100]⟩, str ⟨#[111, 114]⟩, str ⟨#[120, 111, 114]⟩, str ⟨#[108, 101, 115, 115]⟩, str ⟨#[115, 97, 109, 101]⟩, str ⟨#[108, 111, 97, 100]⟩, str ⟨#[115, 116, 111, 114, 101]⟩, str ⟨#[108, 111, 97, 100, 98, 121, 116, 101]⟩, str ⟨#[115, 116, 111, 114, 101, 98, 121, 116, 101]⟩, str ⟨#[106, 117, 109, 112]⟩, str ⟨#[122, 101, 114, 111]⟩, str ⟨#[99, 97, 108, 108]⟩, str ⟨#[98, 97, 99, 107]⟩, str ⟨#[115, 121, 115, 116, 101, 109]⟩]
theorem ref_name {k : Nat} (h1 : 1 ≤ k) (h2 : k ≤ 22) : refNames[k]? = some (.string (rowNm k)) := by
  have : k = 1 ∨ k = 2 ∨ k = 3 ∨ k = 4 ∨ k = 5 ∨ k = 6 ∨ k = 7 ∨ k = 8 ∨ k = 9 ∨ k = 10 ∨ k = 11 ∨ k = 12 ∨ k = 13 ∨ k = 14 ∨ k = 15 ∨ k = 16 ∨ k = 17 ∨ k = 18 ∨ k = 19 ∨ k = 20 ∨ k = 21 ∨ k = 22 := by omega
  rcases this with rfl | rfl | rfl | rfl | rfl | rfl | rfl | rfl | rfl | rfl | rfl | rfl | rfl | rfl | rfl | rfl | rfl | rfl | rfl | rfl | rfl | rfl <;> rfl
theorem ld_at {P : Program} {w : World} {b k : Nat} {t u : TypeId} {l : List Value} {v : Value} (h : Blk w b t l) (hv : l[k]? = some v) (ht : oneT P u = true) : Ld P w ((⟨b, 0, none⟩ : Addr).add k) u v := by
  rw [add_zero_off]; exact h.ld1 ht hv
theorem nm_len {k : Nat} (h1 : 1 ≤ k) (h2 : k ≤ 22) : (rowNm k).data.toList.length ≤ 100 := by
  have : k = 1 ∨ k = 2 ∨ k = 3 ∨ k = 4 ∨ k = 5 ∨ k = 6 ∨ k = 7 ∨ k = 8 ∨ k = 9 ∨ k = 10 ∨ k = 11 ∨ k = 12 ∨ k = 13 ∨ k = 14 ∨ k = 15 ∨ k = 16 ∨ k = 17 ∨ k = 18 ∨ k = 19 ∨ k = 20 ∨ k = 21 ∨ k = 22 := by omega
  rcases this with rfl | rfl | rfl | rfl | rfl | rfl | rfl | rfl | rfl | rfl | rfl | rfl | rfl | rfl | rfl | rfl | rfl | rfl | rfl | rfl | rfl | rfl <;> decide
theorem itoaS_size (n : Int) : (itoaS n).size ≤ n.natAbs + 2 := by rw [ba_size]; exact itoaS_len n

theorem rshow_1 (k : Nat) (a b c v : Int) (nm : ByteArray) (w : World) (h1 : 1 ≤ k) (h2 : k ≤ 22) (hl : legalB ((k : Nat) : Int) a b c v = true) (hf : formF ((k : Nat) : Int) = 1) (hnm : nm.data.toList.length ≤ 100) (hnk : refNames[k]? = some (.string nm)) :
    Calls Tryd.prog 38 #[.agg #[i64 ((k : Nat) : Int), i64 a, i64 b, i64 c, i64 v]] w fun e w' => e = .returned (.string (joinS ([nm, itoaS a, itoaS v] : List ByteArray))) ∧ Only none' w w' := by
  refine c_enter (args := [.agg #[i64 ((k : Nat) : Int), i64 a, i64 b, i64 c, i64 v]]) (m := 59) (n := 60) Tryd.func38 rfl (by kernel_rfl) (by kernel_rfl) fun fr hA => ?_
  have hO := Ow.nil Tryd.prog none' w
  obtain ⟨ho_, ha_, hb_, hc_, hv_, hc2_⟩ := legal_spec hl; have la_ := itoaS_size a; have lb_ := itoaS_size b; have lc_ := itoaS_size c; have lv_ := itoaS_size v; have ln_ := ba_size nm
  refine sR (l := [0, 1]) ?_
  refine wpOps_cons' (mN (l := [i64 ((k : Nat) : Int), i64 a, i64 b, i64 c, i64 v]) (t := 56) (v := pt) (d := 1) hA hO ?_)
  clear hA hO fr; intro fr w1 b1 hA hO
  replace hA := hA.sb (e' := [(1, pt b1)])
  refine ck (l := [1]) (r := []) (e' := [(1, pt b1), (2, str (⟨#[]⟩))]) hA [] c0 ?_
  clear hA fr; intro fr hA
  refine end_ops ?_
  refine then_normal ?_
  refine wp_seq ?_
  refine sR (l := [0, 1, 2]) ?_
  refine ck (l := [0]) (r := [1, 2]) (e' := [(1, pt b1), (2, str (⟨#[]⟩)), (6, .agg #[i64 ((k : Nat) : Int), i64 a, i64 b, i64 c, i64 v])]) hA [.agg #[i64 ((k : Nat) : Int), i64 a, i64 b, i64 c, i64 v]] (cc (hO.ln 0 0 56 [i64 ((k : Nat) : Int), i64 a, i64 b, i64 c, i64 v]) c0) ?_
  clear hA fr; intro fr hA
  refine wpOps_cons' (mK (f := 44) (args := [.agg #[i64 ((k : Nat) : Int), i64 a, i64 b, i64 c, i64 v]]) (d := (some 7)) (v := bl true) hA hO Tryd.func44 (rs (rlegal_any ((k : Nat) : Int) a b c v _) (congrArg Value.bool hl)) ?_)
  clear hA hO fr; intro fr w2 hA hO
  replace hA := hA.sb (e' := [(1, pt b1), (2, str (⟨#[]⟩)), (7, bl true)])
  refine ck (l := [2]) (r := []) (e' := [(1, pt b1), (2, str (⟨#[]⟩)), (8, bl false)]) hA [] c0 ?_
  clear hA fr; intro fr hA
  refine end_ops ?_
  refine then_normal ?_
  refine cF hA ?_
  refine wp_skip ?_
  refine then_normal ?_
  refine sR (l := [0, 1]) ?_
  refine wpOps_cons' (mN (l := [str (⟨#[]⟩), str (⟨#[115, 101, 116]⟩), str (⟨#[104, 105, 103, 104]⟩), str (⟨#[112, 108, 117, 115]⟩), str (⟨#[97, 100, 100]⟩), str (⟨#[115, 117, 98]⟩), str (⟨#[109, 117, 108]⟩), str (⟨#[100, 105, 118]⟩), str (⟨#[114, 101, 109]⟩), str (⟨#[97, 110, 100]⟩), str (⟨#[111, 114]⟩), str (⟨#[120, 111, 114]⟩), str (⟨#[108, 101, 115, 115]⟩), str (⟨#[115, 97, 109, 101]⟩), str (⟨#[108, 111, 97, 100]⟩), str (⟨#[115, 116, 111, 114, 101]⟩), str (⟨#[108, 111, 97, 100, 98, 121, 116, 101]⟩), str (⟨#[115, 116, 111, 114, 101, 98, 121, 116, 101]⟩), str (⟨#[106, 117, 109, 112]⟩), str (⟨#[122, 101, 114, 111]⟩), str (⟨#[99, 97, 108, 108]⟩), str (⟨#[98, 97, 99, 107]⟩), str (⟨#[115, 121, 115, 116, 101, 109]⟩)]) (t := 9) (v := fun b => .slice (some ⟨b, 0, none⟩) 23 23) (d := 9) hA hO ?_)
  clear hA hO fr; intro fr w3 b2 hA hO
  replace hA := hA.sb (e' := [(1, pt b1), (2, str (⟨#[]⟩)), (9, .slice (some ⟨b2, 0, none⟩) 23 23)])
  refine ck (l := [1]) (r := []) (e' := [(1, pt b1), (2, str (⟨#[]⟩)), (3, .slice (some ⟨b2, 0, none⟩) 23 23)]) hA [] c0 ?_
  clear hA fr; intro fr hA
  refine end_ops ?_
  refine then_normal ?_
  refine sC (e' := [(1, pt b1), (2, str (⟨#[]⟩)), (4, str nm)]) 6 hA [i64 ((k : Nat) : Int), str nm] (cc (hO.l1 1 0 3 (i64 ((k : Nat) : Int))) (cc (⟨by omega, by omega⟩ : (0 : Int) ≤ ((k : Nat) : Int) ∧ ((k : Nat) : Int) < ((23 : Nat) : Int)) (cc ((ld_at (hO.b 0) hnk (by kernel_rfl)) : Ld Tryd.prog w3 ((⟨b2, 0, none⟩ : Addr).add k) 9 (str nm)) c0))) ?_
  clear hA fr; intro fr hA
  refine sR (l := [0, 1, 2, 3]) ?_
  refine ck (l := [0, 1]) (r := [2, 3]) (e' := [(1, pt b1), (2, str (⟨#[]⟩)), (4, str nm), (16, i64 ((k : Nat) : Int))]) hA [i64 ((k : Nat) : Int)] (cc (hO.l1 1 0 3 (i64 ((k : Nat) : Int))) c0) ?_
  clear hA fr; intro fr hA
  refine wpOps_cons' (mK (f := 43) (args := [i64 ((k : Nat) : Int)]) (d := (some 17)) (v := i64 1) hA hO Tryd.func43 (rs (form_any ((k : Nat) : Int) _) (congrArg _ hf)) ?_)
  clear hA hO fr; intro fr w4 hA hO
  replace hA := hA.sb (e' := [(1, pt b1), (2, str (⟨#[]⟩)), (4, str nm), (17, i64 1)])
  refine ck (l := [3]) (r := []) (e' := [(1, pt b1), (2, str (⟨#[]⟩)), (4, str nm), (5, i64 1)]) hA [] c0 ?_
  clear hA fr; intro fr hA
  refine end_ops ?_
  refine then_normal ?_
  refine wp_seq ?_
  refine sC (e' := [(1, pt b1), (2, str (⟨#[]⟩)), (4, str nm), (5, i64 1), (23, bl true)]) 6 hA [] c0 ?_
  clear hA fr; intro fr hA
  refine cT hA ?_
  refine rR (l := (rg 0 7)) ?_
  refine ck (l := [0, 1, 2]) (r := [3, 4, 5, 6]) (e' := [(1, pt b1), (2, str (⟨#[]⟩)), (4, str nm), (5, i64 1), (24, str nm), (26, i64 a)]) hA [i64 a] (cc (hO.l1 1 1 3 (i64 a)) c0) ?_
  clear hA fr; intro fr hA
  refine wpOps_cons' (mK (f := 47) (args := [i64 a]) (d := (some 27)) (v := str (itoaS a)) hA hO Tryd.func47 (number_any a _ (by omega) (by omega)) ?_)
  clear hA hO fr; intro fr w5 hA hO
  replace hA := hA.sb (e' := [(1, pt b1), (2, str (⟨#[]⟩)), (4, str nm), (5, i64 1), (24, str nm), (27, str (itoaS a))])
  refine ck (l := [4, 5, 6]) (r := []) (e' := [(1, pt b1), (2, str (⟨#[]⟩)), (4, str (nm ++ ((⟨#[32]⟩ : ByteArray) ++ (itoaS a)))), (5, i64 1)]) hA [] (cc ((by have s32_ : (⟨#[32]⟩ : ByteArray).size = 1 := rfl; first | omega | (simp only [ByteArray.size_append]; omega)) : (⟨#[32]⟩ : ByteArray).size + (itoaS a).size ≤ 9223372036854775807) (cc ((by have s32_ : (⟨#[32]⟩ : ByteArray).size = 1 := rfl; first | omega | (simp only [ByteArray.size_append]; omega)) : nm.size + ((⟨#[32]⟩ : ByteArray) ++ (itoaS a)).size ≤ 9223372036854775807) c0)) ?_
  clear hA fr; intro fr hA
  refine end_ops ?_
  refine then_normal ?_
  refine wp_seq ?_
  refine sC (e' := [(1, pt b1), (2, str (⟨#[]⟩)), (4, str (nm ++ ((⟨#[32]⟩ : ByteArray) ++ (itoaS a)))), (5, i64 1), (35, bl false)]) 6 hA [] c0 ?_
  clear hA fr; intro fr hA
  refine cF hA ?_
  refine wp_skip ?_
  refine then_normal ?_
  refine wp_seq ?_
  refine sC (e' := [(1, pt b1), (2, str (⟨#[]⟩)), (4, str (nm ++ ((⟨#[32]⟩ : ByteArray) ++ (itoaS a)))), (52, bl true)]) 6 hA [] c0 ?_
  clear hA fr; intro fr hA
  refine cT hA ?_
  refine rR (l := (rg 0 7)) ?_
  refine ck (l := [0, 1, 2]) (r := [3, 4, 5, 6]) (e' := [(2, str (⟨#[]⟩)), (4, str (nm ++ ((⟨#[32]⟩ : ByteArray) ++ (itoaS a)))), (53, str (nm ++ ((⟨#[32]⟩ : ByteArray) ++ (itoaS a)))), (55, i64 v)]) hA [i64 v] (cc (hO.l1 1 4 3 (i64 v)) c0) ?_
  clear hA fr; intro fr hA
  refine wpOps_cons' (mK (f := 47) (args := [i64 v]) (d := (some 56)) (v := str (itoaS v)) hA hO Tryd.func47 (number_any v _ (by omega) (by omega)) ?_)
  clear hA hO fr; intro fr w6 hA hO
  replace hA := hA.sb (e' := [(2, str (⟨#[]⟩)), (4, str (nm ++ ((⟨#[32]⟩ : ByteArray) ++ (itoaS a)))), (53, str (nm ++ ((⟨#[32]⟩ : ByteArray) ++ (itoaS a)))), (56, str (itoaS v))])
  refine ck (l := [4, 5, 6]) (r := []) (e' := [(2, str (⟨#[]⟩)), (4, str ((nm ++ ((⟨#[32]⟩ : ByteArray) ++ (itoaS a))) ++ ((⟨#[32]⟩ : ByteArray) ++ (itoaS v))))]) hA [] (cc ((by have s32_ : (⟨#[32]⟩ : ByteArray).size = 1 := rfl; first | omega | (simp only [ByteArray.size_append]; omega)) : (⟨#[32]⟩ : ByteArray).size + (itoaS v).size ≤ 9223372036854775807) (cc ((by have s32_ : (⟨#[32]⟩ : ByteArray).size = 1 := rfl; first | omega | (simp only [ByteArray.size_append]; omega)) : (nm ++ ((⟨#[32]⟩ : ByteArray) ++ (itoaS a))).size + ((⟨#[32]⟩ : ByteArray) ++ (itoaS v)).size ≤ 9223372036854775807) c0)) ?_
  clear hA fr; intro fr hA
  refine end_ops ?_
  refine then_normal ?_
  refine sC (e' := [(2, str ((nm ++ ((⟨#[32]⟩ : ByteArray) ++ (itoaS a))) ++ ((⟨#[32]⟩ : ByteArray) ++ (itoaS v))))]) 2 hA [] c0 ?_
  clear hA fr; intro fr hA
  refine wp_ret ?_
  refine cR (cs := [none]) (us := [str ((nm ++ ((⟨#[32]⟩ : ByteArray) ++ (itoaS a))) ++ ((⟨#[32]⟩ : ByteArray) ++ (itoaS v)))]) hA [] trivial ?_
  have hF := hO.only; clear hA hO
  exact ⟨congrArg (fun s => Ending.returned (.string s)) (by apply ba_ext; simp [ba_app, joinS, Lib.join, List.intercalate]), hF⟩

theorem rshow_2 (k : Nat) (a b c v : Int) (nm : ByteArray) (w : World) (h1 : 1 ≤ k) (h2 : k ≤ 22) (hl : legalB ((k : Nat) : Int) a b c v = true) (hf : formF ((k : Nat) : Int) = 2) (hnm : nm.data.toList.length ≤ 100) (hnk : refNames[k]? = some (.string nm)) :
    Calls Tryd.prog 38 #[.agg #[i64 ((k : Nat) : Int), i64 a, i64 b, i64 c, i64 v]] w fun e w' => e = .returned (.string (joinS ([nm, itoaS a, itoaS b, itoaS c] : List ByteArray))) ∧ Only none' w w' := by
  refine c_enter (args := [.agg #[i64 ((k : Nat) : Int), i64 a, i64 b, i64 c, i64 v]]) (m := 59) (n := 60) Tryd.func38 rfl (by kernel_rfl) (by kernel_rfl) fun fr hA => ?_
  have hO := Ow.nil Tryd.prog none' w
  obtain ⟨ho_, ha_, hb_, hc_, hv_, hc2_⟩ := legal_spec hl; have la_ := itoaS_size a; have lb_ := itoaS_size b; have lc_ := itoaS_size c; have lv_ := itoaS_size v; have ln_ := ba_size nm
  refine sR (l := [0, 1]) ?_
  refine wpOps_cons' (mN (l := [i64 ((k : Nat) : Int), i64 a, i64 b, i64 c, i64 v]) (t := 56) (v := pt) (d := 1) hA hO ?_)
  clear hA hO fr; intro fr w1 b1 hA hO
  replace hA := hA.sb (e' := [(1, pt b1)])
  refine ck (l := [1]) (r := []) (e' := [(1, pt b1), (2, str (⟨#[]⟩))]) hA [] c0 ?_
  clear hA fr; intro fr hA
  refine end_ops ?_
  refine then_normal ?_
  refine wp_seq ?_
  refine sR (l := [0, 1, 2]) ?_
  refine ck (l := [0]) (r := [1, 2]) (e' := [(1, pt b1), (2, str (⟨#[]⟩)), (6, .agg #[i64 ((k : Nat) : Int), i64 a, i64 b, i64 c, i64 v])]) hA [.agg #[i64 ((k : Nat) : Int), i64 a, i64 b, i64 c, i64 v]] (cc (hO.ln 0 0 56 [i64 ((k : Nat) : Int), i64 a, i64 b, i64 c, i64 v]) c0) ?_
  clear hA fr; intro fr hA
  refine wpOps_cons' (mK (f := 44) (args := [.agg #[i64 ((k : Nat) : Int), i64 a, i64 b, i64 c, i64 v]]) (d := (some 7)) (v := bl true) hA hO Tryd.func44 (rs (rlegal_any ((k : Nat) : Int) a b c v _) (congrArg Value.bool hl)) ?_)
  clear hA hO fr; intro fr w2 hA hO
  replace hA := hA.sb (e' := [(1, pt b1), (2, str (⟨#[]⟩)), (7, bl true)])
  refine ck (l := [2]) (r := []) (e' := [(1, pt b1), (2, str (⟨#[]⟩)), (8, bl false)]) hA [] c0 ?_
  clear hA fr; intro fr hA
  refine end_ops ?_
  refine then_normal ?_
  refine cF hA ?_
  refine wp_skip ?_
  refine then_normal ?_
  refine sR (l := [0, 1]) ?_
  refine wpOps_cons' (mN (l := [str (⟨#[]⟩), str (⟨#[115, 101, 116]⟩), str (⟨#[104, 105, 103, 104]⟩), str (⟨#[112, 108, 117, 115]⟩), str (⟨#[97, 100, 100]⟩), str (⟨#[115, 117, 98]⟩), str (⟨#[109, 117, 108]⟩), str (⟨#[100, 105, 118]⟩), str (⟨#[114, 101, 109]⟩), str (⟨#[97, 110, 100]⟩), str (⟨#[111, 114]⟩), str (⟨#[120, 111, 114]⟩), str (⟨#[108, 101, 115, 115]⟩), str (⟨#[115, 97, 109, 101]⟩), str (⟨#[108, 111, 97, 100]⟩), str (⟨#[115, 116, 111, 114, 101]⟩), str (⟨#[108, 111, 97, 100, 98, 121, 116, 101]⟩), str (⟨#[115, 116, 111, 114, 101, 98, 121, 116, 101]⟩), str (⟨#[106, 117, 109, 112]⟩), str (⟨#[122, 101, 114, 111]⟩), str (⟨#[99, 97, 108, 108]⟩), str (⟨#[98, 97, 99, 107]⟩), str (⟨#[115, 121, 115, 116, 101, 109]⟩)]) (t := 9) (v := fun b => .slice (some ⟨b, 0, none⟩) 23 23) (d := 9) hA hO ?_)
  clear hA hO fr; intro fr w3 b2 hA hO
  replace hA := hA.sb (e' := [(1, pt b1), (2, str (⟨#[]⟩)), (9, .slice (some ⟨b2, 0, none⟩) 23 23)])
  refine ck (l := [1]) (r := []) (e' := [(1, pt b1), (2, str (⟨#[]⟩)), (3, .slice (some ⟨b2, 0, none⟩) 23 23)]) hA [] c0 ?_
  clear hA fr; intro fr hA
  refine end_ops ?_
  refine then_normal ?_
  refine sC (e' := [(1, pt b1), (2, str (⟨#[]⟩)), (4, str nm)]) 6 hA [i64 ((k : Nat) : Int), str nm] (cc (hO.l1 1 0 3 (i64 ((k : Nat) : Int))) (cc (⟨by omega, by omega⟩ : (0 : Int) ≤ ((k : Nat) : Int) ∧ ((k : Nat) : Int) < ((23 : Nat) : Int)) (cc ((ld_at (hO.b 0) hnk (by kernel_rfl)) : Ld Tryd.prog w3 ((⟨b2, 0, none⟩ : Addr).add k) 9 (str nm)) c0))) ?_
  clear hA fr; intro fr hA
  refine sR (l := [0, 1, 2, 3]) ?_
  refine ck (l := [0, 1]) (r := [2, 3]) (e' := [(1, pt b1), (2, str (⟨#[]⟩)), (4, str nm), (16, i64 ((k : Nat) : Int))]) hA [i64 ((k : Nat) : Int)] (cc (hO.l1 1 0 3 (i64 ((k : Nat) : Int))) c0) ?_
  clear hA fr; intro fr hA
  refine wpOps_cons' (mK (f := 43) (args := [i64 ((k : Nat) : Int)]) (d := (some 17)) (v := i64 2) hA hO Tryd.func43 (rs (form_any ((k : Nat) : Int) _) (congrArg _ hf)) ?_)
  clear hA hO fr; intro fr w4 hA hO
  replace hA := hA.sb (e' := [(1, pt b1), (2, str (⟨#[]⟩)), (4, str nm), (17, i64 2)])
  refine ck (l := [3]) (r := []) (e' := [(1, pt b1), (2, str (⟨#[]⟩)), (4, str nm), (5, i64 2)]) hA [] c0 ?_
  clear hA fr; intro fr hA
  refine end_ops ?_
  refine then_normal ?_
  refine wp_seq ?_
  refine sC (e' := [(1, pt b1), (2, str (⟨#[]⟩)), (4, str nm), (5, i64 2), (23, bl true)]) 6 hA [] c0 ?_
  clear hA fr; intro fr hA
  refine cT hA ?_
  refine rR (l := (rg 0 7)) ?_
  refine ck (l := [0, 1, 2]) (r := [3, 4, 5, 6]) (e' := [(1, pt b1), (2, str (⟨#[]⟩)), (4, str nm), (5, i64 2), (24, str nm), (26, i64 a)]) hA [i64 a] (cc (hO.l1 1 1 3 (i64 a)) c0) ?_
  clear hA fr; intro fr hA
  refine wpOps_cons' (mK (f := 47) (args := [i64 a]) (d := (some 27)) (v := str (itoaS a)) hA hO Tryd.func47 (number_any a _ (by omega) (by omega)) ?_)
  clear hA hO fr; intro fr w5 hA hO
  replace hA := hA.sb (e' := [(1, pt b1), (2, str (⟨#[]⟩)), (4, str nm), (5, i64 2), (24, str nm), (27, str (itoaS a))])
  refine ck (l := [4, 5, 6]) (r := []) (e' := [(1, pt b1), (2, str (⟨#[]⟩)), (4, str (nm ++ ((⟨#[32]⟩ : ByteArray) ++ (itoaS a)))), (5, i64 2)]) hA [] (cc ((by have s32_ : (⟨#[32]⟩ : ByteArray).size = 1 := rfl; first | omega | (simp only [ByteArray.size_append]; omega)) : (⟨#[32]⟩ : ByteArray).size + (itoaS a).size ≤ 9223372036854775807) (cc ((by have s32_ : (⟨#[32]⟩ : ByteArray).size = 1 := rfl; first | omega | (simp only [ByteArray.size_append]; omega)) : nm.size + ((⟨#[32]⟩ : ByteArray) ++ (itoaS a)).size ≤ 9223372036854775807) c0)) ?_
  clear hA fr; intro fr hA
  refine end_ops ?_
  refine then_normal ?_
  refine wp_seq ?_
  refine sC (e' := [(1, pt b1), (2, str (⟨#[]⟩)), (4, str (nm ++ ((⟨#[32]⟩ : ByteArray) ++ (itoaS a)))), (5, i64 2), (35, bl true)]) 6 hA [] c0 ?_
  clear hA fr; intro fr hA
  refine cT hA ?_
  have hS := hO
  refine rP [(0, true), (1, true), (2, true), (6, true), (7, true), (3, false), (4, true), (5, true), (8, false), (9, true), (10, true), (11, true)] hS ?_
  intro w6 ho; replace hO := hO.st ho; clear ho
  refine ckS (l := [0, 1, 2, 6, 7]) (r := [(3, false), (4, true), (5, true), (8, false), (9, true), (10, true), (11, true)]) (e' := [(1, pt b1), (2, str (⟨#[]⟩)), (4, str (nm ++ ((⟨#[32]⟩ : ByteArray) ++ (itoaS a)))), (5, i64 2), (36, str (nm ++ ((⟨#[32]⟩ : ByteArray) ++ (itoaS a)))), (38, i64 b), (43, i64 c)]) hA [i64 b, i64 c] (cc (hS.s1 1 2 3 (i64 b)) (cc (hS.s1 1 3 3 (i64 c)) c0)) ?_
  clear hA fr; intro fr hA
  refine plan_mem (mK (f := 47) (args := [i64 b]) (d := (some 39)) (v := str (itoaS b)) hA hO Tryd.func47 (number_any b _ (by omega) (by omega)) ?_)
  clear hA hO fr; intro fr w7 hA hO
  refine ⟨hO, ?_⟩
  replace hA := hA.sb (e' := [(1, pt b1), (2, str (⟨#[]⟩)), (4, str (nm ++ ((⟨#[32]⟩ : ByteArray) ++ (itoaS a)))), (5, i64 2), (36, str (nm ++ ((⟨#[32]⟩ : ByteArray) ++ (itoaS a)))), (39, str (itoaS b)), (43, i64 c)])
  refine ckS (l := [4, 5]) (r := [(8, false), (9, true), (10, true), (11, true)]) (e' := [(1, pt b1), (2, str (⟨#[]⟩)), (4, str (nm ++ ((⟨#[32]⟩ : ByteArray) ++ (itoaS a)))), (5, i64 2), (36, str (nm ++ ((⟨#[32]⟩ : ByteArray) ++ (itoaS a)))), (41, str (((⟨#[32]⟩ : ByteArray) ++ (itoaS b)) ++ (⟨#[32]⟩ : ByteArray))), (43, i64 c)]) hA [] (cc ((by have s32_ : (⟨#[32]⟩ : ByteArray).size = 1 := rfl; first | omega | (simp only [ByteArray.size_append]; omega)) : (⟨#[32]⟩ : ByteArray).size + (itoaS b).size ≤ 9223372036854775807) (cc ((by have s32_ : (⟨#[32]⟩ : ByteArray).size = 1 := rfl; first | omega | (simp only [ByteArray.size_append]; omega)) : ((⟨#[32]⟩ : ByteArray) ++ (itoaS b)).size + (⟨#[32]⟩ : ByteArray).size ≤ 9223372036854775807) c0)) ?_
  clear hA fr; intro fr hA
  refine plan_mem (mK (f := 47) (args := [i64 c]) (d := (some 44)) (v := str (itoaS c)) hA hO Tryd.func47 (number_any c _ (by omega) (by omega)) ?_)
  clear hA hO fr; intro fr w8 hA hO
  refine ⟨hO, ?_⟩
  replace hA := hA.sb (e' := [(1, pt b1), (2, str (⟨#[]⟩)), (4, str (nm ++ ((⟨#[32]⟩ : ByteArray) ++ (itoaS a)))), (5, i64 2), (36, str (nm ++ ((⟨#[32]⟩ : ByteArray) ++ (itoaS a)))), (41, str (((⟨#[32]⟩ : ByteArray) ++ (itoaS b)) ++ (⟨#[32]⟩ : ByteArray))), (44, str (itoaS c))])
  refine ckS (l := [9, 10, 11]) (r := []) (e' := [(1, pt b1), (2, str (⟨#[]⟩)), (4, str ((nm ++ ((⟨#[32]⟩ : ByteArray) ++ (itoaS a))) ++ ((((⟨#[32]⟩ : ByteArray) ++ (itoaS b)) ++ (⟨#[32]⟩ : ByteArray)) ++ (itoaS c)))), (5, i64 2)]) hA [] (cc ((by have s32_ : (⟨#[32]⟩ : ByteArray).size = 1 := rfl; first | omega | (simp only [ByteArray.size_append]; omega)) : (((⟨#[32]⟩ : ByteArray) ++ (itoaS b)) ++ (⟨#[32]⟩ : ByteArray)).size + (itoaS c).size ≤ 9223372036854775807) (cc ((by have s32_ : (⟨#[32]⟩ : ByteArray).size = 1 := rfl; first | omega | (simp only [ByteArray.size_append]; omega)) : (nm ++ ((⟨#[32]⟩ : ByteArray) ++ (itoaS a))).size + ((((⟨#[32]⟩ : ByteArray) ++ (itoaS b)) ++ (⟨#[32]⟩ : ByteArray)) ++ (itoaS c)).size ≤ 9223372036854775807) c0)) ?_
  clear hA fr; intro fr hA
  refine end_plan ?_
  refine then_normal ?_
  refine wp_seq ?_
  refine sC (e' := [(1, pt b1), (2, str (⟨#[]⟩)), (4, str ((nm ++ ((⟨#[32]⟩ : ByteArray) ++ (itoaS a))) ++ ((((⟨#[32]⟩ : ByteArray) ++ (itoaS b)) ++ (⟨#[32]⟩ : ByteArray)) ++ (itoaS c)))), (52, bl false)]) 6 hA [] c0 ?_
  clear hA fr; intro fr hA
  refine cF hA ?_
  refine wp_skip ?_
  refine then_normal ?_
  refine sC (e' := [(2, str ((nm ++ ((⟨#[32]⟩ : ByteArray) ++ (itoaS a))) ++ ((((⟨#[32]⟩ : ByteArray) ++ (itoaS b)) ++ (⟨#[32]⟩ : ByteArray)) ++ (itoaS c))))]) 2 hA [] c0 ?_
  clear hA fr; intro fr hA
  refine wp_ret ?_
  refine cR (cs := [none]) (us := [str ((nm ++ ((⟨#[32]⟩ : ByteArray) ++ (itoaS a))) ++ ((((⟨#[32]⟩ : ByteArray) ++ (itoaS b)) ++ (⟨#[32]⟩ : ByteArray)) ++ (itoaS c)))]) hA [] trivial ?_
  have hF := hO.only; clear hA hO
  exact ⟨congrArg (fun s => Ending.returned (.string s)) (by apply ba_ext; simp [ba_app, joinS, Lib.join, List.intercalate]), hF⟩

theorem rshow_3 (k : Nat) (a b c v : Int) (nm : ByteArray) (w : World) (h1 : 1 ≤ k) (h2 : k ≤ 22) (hl : legalB ((k : Nat) : Int) a b c v = true) (hf : formF ((k : Nat) : Int) = 3) (hnm : nm.data.toList.length ≤ 100) (hnk : refNames[k]? = some (.string nm)) :
    Calls Tryd.prog 38 #[.agg #[i64 ((k : Nat) : Int), i64 a, i64 b, i64 c, i64 v]] w fun e w' => e = .returned (.string (joinS ([nm, itoaS a, itoaS b, itoaS c] : List ByteArray))) ∧ Only none' w w' := by
  refine c_enter (args := [.agg #[i64 ((k : Nat) : Int), i64 a, i64 b, i64 c, i64 v]]) (m := 59) (n := 60) Tryd.func38 rfl (by kernel_rfl) (by kernel_rfl) fun fr hA => ?_
  have hO := Ow.nil Tryd.prog none' w
  obtain ⟨ho_, ha_, hb_, hc_, hv_, hc2_⟩ := legal_spec hl; have la_ := itoaS_size a; have lb_ := itoaS_size b; have lc_ := itoaS_size c; have lv_ := itoaS_size v; have ln_ := ba_size nm
  refine sR (l := [0, 1]) ?_
  refine wpOps_cons' (mN (l := [i64 ((k : Nat) : Int), i64 a, i64 b, i64 c, i64 v]) (t := 56) (v := pt) (d := 1) hA hO ?_)
  clear hA hO fr; intro fr w1 b1 hA hO
  replace hA := hA.sb (e' := [(1, pt b1)])
  refine ck (l := [1]) (r := []) (e' := [(1, pt b1), (2, str (⟨#[]⟩))]) hA [] c0 ?_
  clear hA fr; intro fr hA
  refine end_ops ?_
  refine then_normal ?_
  refine wp_seq ?_
  refine sR (l := [0, 1, 2]) ?_
  refine ck (l := [0]) (r := [1, 2]) (e' := [(1, pt b1), (2, str (⟨#[]⟩)), (6, .agg #[i64 ((k : Nat) : Int), i64 a, i64 b, i64 c, i64 v])]) hA [.agg #[i64 ((k : Nat) : Int), i64 a, i64 b, i64 c, i64 v]] (cc (hO.ln 0 0 56 [i64 ((k : Nat) : Int), i64 a, i64 b, i64 c, i64 v]) c0) ?_
  clear hA fr; intro fr hA
  refine wpOps_cons' (mK (f := 44) (args := [.agg #[i64 ((k : Nat) : Int), i64 a, i64 b, i64 c, i64 v]]) (d := (some 7)) (v := bl true) hA hO Tryd.func44 (rs (rlegal_any ((k : Nat) : Int) a b c v _) (congrArg Value.bool hl)) ?_)
  clear hA hO fr; intro fr w2 hA hO
  replace hA := hA.sb (e' := [(1, pt b1), (2, str (⟨#[]⟩)), (7, bl true)])
  refine ck (l := [2]) (r := []) (e' := [(1, pt b1), (2, str (⟨#[]⟩)), (8, bl false)]) hA [] c0 ?_
  clear hA fr; intro fr hA
  refine end_ops ?_
  refine then_normal ?_
  refine cF hA ?_
  refine wp_skip ?_
  refine then_normal ?_
  refine sR (l := [0, 1]) ?_
  refine wpOps_cons' (mN (l := [str (⟨#[]⟩), str (⟨#[115, 101, 116]⟩), str (⟨#[104, 105, 103, 104]⟩), str (⟨#[112, 108, 117, 115]⟩), str (⟨#[97, 100, 100]⟩), str (⟨#[115, 117, 98]⟩), str (⟨#[109, 117, 108]⟩), str (⟨#[100, 105, 118]⟩), str (⟨#[114, 101, 109]⟩), str (⟨#[97, 110, 100]⟩), str (⟨#[111, 114]⟩), str (⟨#[120, 111, 114]⟩), str (⟨#[108, 101, 115, 115]⟩), str (⟨#[115, 97, 109, 101]⟩), str (⟨#[108, 111, 97, 100]⟩), str (⟨#[115, 116, 111, 114, 101]⟩), str (⟨#[108, 111, 97, 100, 98, 121, 116, 101]⟩), str (⟨#[115, 116, 111, 114, 101, 98, 121, 116, 101]⟩), str (⟨#[106, 117, 109, 112]⟩), str (⟨#[122, 101, 114, 111]⟩), str (⟨#[99, 97, 108, 108]⟩), str (⟨#[98, 97, 99, 107]⟩), str (⟨#[115, 121, 115, 116, 101, 109]⟩)]) (t := 9) (v := fun b => .slice (some ⟨b, 0, none⟩) 23 23) (d := 9) hA hO ?_)
  clear hA hO fr; intro fr w3 b2 hA hO
  replace hA := hA.sb (e' := [(1, pt b1), (2, str (⟨#[]⟩)), (9, .slice (some ⟨b2, 0, none⟩) 23 23)])
  refine ck (l := [1]) (r := []) (e' := [(1, pt b1), (2, str (⟨#[]⟩)), (3, .slice (some ⟨b2, 0, none⟩) 23 23)]) hA [] c0 ?_
  clear hA fr; intro fr hA
  refine end_ops ?_
  refine then_normal ?_
  refine sC (e' := [(1, pt b1), (2, str (⟨#[]⟩)), (4, str nm)]) 6 hA [i64 ((k : Nat) : Int), str nm] (cc (hO.l1 1 0 3 (i64 ((k : Nat) : Int))) (cc (⟨by omega, by omega⟩ : (0 : Int) ≤ ((k : Nat) : Int) ∧ ((k : Nat) : Int) < ((23 : Nat) : Int)) (cc ((ld_at (hO.b 0) hnk (by kernel_rfl)) : Ld Tryd.prog w3 ((⟨b2, 0, none⟩ : Addr).add k) 9 (str nm)) c0))) ?_
  clear hA fr; intro fr hA
  refine sR (l := [0, 1, 2, 3]) ?_
  refine ck (l := [0, 1]) (r := [2, 3]) (e' := [(1, pt b1), (2, str (⟨#[]⟩)), (4, str nm), (16, i64 ((k : Nat) : Int))]) hA [i64 ((k : Nat) : Int)] (cc (hO.l1 1 0 3 (i64 ((k : Nat) : Int))) c0) ?_
  clear hA fr; intro fr hA
  refine wpOps_cons' (mK (f := 43) (args := [i64 ((k : Nat) : Int)]) (d := (some 17)) (v := i64 3) hA hO Tryd.func43 (rs (form_any ((k : Nat) : Int) _) (congrArg _ hf)) ?_)
  clear hA hO fr; intro fr w4 hA hO
  replace hA := hA.sb (e' := [(1, pt b1), (2, str (⟨#[]⟩)), (4, str nm), (17, i64 3)])
  refine ck (l := [3]) (r := []) (e' := [(1, pt b1), (2, str (⟨#[]⟩)), (4, str nm), (5, i64 3)]) hA [] c0 ?_
  clear hA fr; intro fr hA
  refine end_ops ?_
  refine then_normal ?_
  refine wp_seq ?_
  refine sC (e' := [(1, pt b1), (2, str (⟨#[]⟩)), (4, str nm), (5, i64 3), (23, bl true)]) 6 hA [] c0 ?_
  clear hA fr; intro fr hA
  refine cT hA ?_
  refine rR (l := (rg 0 7)) ?_
  refine ck (l := [0, 1, 2]) (r := [3, 4, 5, 6]) (e' := [(1, pt b1), (2, str (⟨#[]⟩)), (4, str nm), (5, i64 3), (24, str nm), (26, i64 a)]) hA [i64 a] (cc (hO.l1 1 1 3 (i64 a)) c0) ?_
  clear hA fr; intro fr hA
  refine wpOps_cons' (mK (f := 47) (args := [i64 a]) (d := (some 27)) (v := str (itoaS a)) hA hO Tryd.func47 (number_any a _ (by omega) (by omega)) ?_)
  clear hA hO fr; intro fr w5 hA hO
  replace hA := hA.sb (e' := [(1, pt b1), (2, str (⟨#[]⟩)), (4, str nm), (5, i64 3), (24, str nm), (27, str (itoaS a))])
  refine ck (l := [4, 5, 6]) (r := []) (e' := [(1, pt b1), (2, str (⟨#[]⟩)), (4, str (nm ++ ((⟨#[32]⟩ : ByteArray) ++ (itoaS a)))), (5, i64 3)]) hA [] (cc ((by have s32_ : (⟨#[32]⟩ : ByteArray).size = 1 := rfl; first | omega | (simp only [ByteArray.size_append]; omega)) : (⟨#[32]⟩ : ByteArray).size + (itoaS a).size ≤ 9223372036854775807) (cc ((by have s32_ : (⟨#[32]⟩ : ByteArray).size = 1 := rfl; first | omega | (simp only [ByteArray.size_append]; omega)) : nm.size + ((⟨#[32]⟩ : ByteArray) ++ (itoaS a)).size ≤ 9223372036854775807) c0)) ?_
  clear hA fr; intro fr hA
  refine end_ops ?_
  refine then_normal ?_
  refine wp_seq ?_
  refine sC (e' := [(1, pt b1), (2, str (⟨#[]⟩)), (4, str (nm ++ ((⟨#[32]⟩ : ByteArray) ++ (itoaS a)))), (5, i64 3), (35, bl true)]) 6 hA [] c0 ?_
  clear hA fr; intro fr hA
  refine cT hA ?_
  have hS := hO
  refine rP [(0, true), (1, true), (2, true), (6, true), (7, true), (3, false), (4, true), (5, true), (8, false), (9, true), (10, true), (11, true)] hS ?_
  intro w6 ho; replace hO := hO.st ho; clear ho
  refine ckS (l := [0, 1, 2, 6, 7]) (r := [(3, false), (4, true), (5, true), (8, false), (9, true), (10, true), (11, true)]) (e' := [(1, pt b1), (2, str (⟨#[]⟩)), (4, str (nm ++ ((⟨#[32]⟩ : ByteArray) ++ (itoaS a)))), (5, i64 3), (36, str (nm ++ ((⟨#[32]⟩ : ByteArray) ++ (itoaS a)))), (38, i64 b), (43, i64 c)]) hA [i64 b, i64 c] (cc (hS.s1 1 2 3 (i64 b)) (cc (hS.s1 1 3 3 (i64 c)) c0)) ?_
  clear hA fr; intro fr hA
  refine plan_mem (mK (f := 47) (args := [i64 b]) (d := (some 39)) (v := str (itoaS b)) hA hO Tryd.func47 (number_any b _ (by omega) (by omega)) ?_)
  clear hA hO fr; intro fr w7 hA hO
  refine ⟨hO, ?_⟩
  replace hA := hA.sb (e' := [(1, pt b1), (2, str (⟨#[]⟩)), (4, str (nm ++ ((⟨#[32]⟩ : ByteArray) ++ (itoaS a)))), (5, i64 3), (36, str (nm ++ ((⟨#[32]⟩ : ByteArray) ++ (itoaS a)))), (39, str (itoaS b)), (43, i64 c)])
  refine ckS (l := [4, 5]) (r := [(8, false), (9, true), (10, true), (11, true)]) (e' := [(1, pt b1), (2, str (⟨#[]⟩)), (4, str (nm ++ ((⟨#[32]⟩ : ByteArray) ++ (itoaS a)))), (5, i64 3), (36, str (nm ++ ((⟨#[32]⟩ : ByteArray) ++ (itoaS a)))), (41, str (((⟨#[32]⟩ : ByteArray) ++ (itoaS b)) ++ (⟨#[32]⟩ : ByteArray))), (43, i64 c)]) hA [] (cc ((by have s32_ : (⟨#[32]⟩ : ByteArray).size = 1 := rfl; first | omega | (simp only [ByteArray.size_append]; omega)) : (⟨#[32]⟩ : ByteArray).size + (itoaS b).size ≤ 9223372036854775807) (cc ((by have s32_ : (⟨#[32]⟩ : ByteArray).size = 1 := rfl; first | omega | (simp only [ByteArray.size_append]; omega)) : ((⟨#[32]⟩ : ByteArray) ++ (itoaS b)).size + (⟨#[32]⟩ : ByteArray).size ≤ 9223372036854775807) c0)) ?_
  clear hA fr; intro fr hA
  refine plan_mem (mK (f := 47) (args := [i64 c]) (d := (some 44)) (v := str (itoaS c)) hA hO Tryd.func47 (number_any c _ (by omega) (by omega)) ?_)
  clear hA hO fr; intro fr w8 hA hO
  refine ⟨hO, ?_⟩
  replace hA := hA.sb (e' := [(1, pt b1), (2, str (⟨#[]⟩)), (4, str (nm ++ ((⟨#[32]⟩ : ByteArray) ++ (itoaS a)))), (5, i64 3), (36, str (nm ++ ((⟨#[32]⟩ : ByteArray) ++ (itoaS a)))), (41, str (((⟨#[32]⟩ : ByteArray) ++ (itoaS b)) ++ (⟨#[32]⟩ : ByteArray))), (44, str (itoaS c))])
  refine ckS (l := [9, 10, 11]) (r := []) (e' := [(1, pt b1), (2, str (⟨#[]⟩)), (4, str ((nm ++ ((⟨#[32]⟩ : ByteArray) ++ (itoaS a))) ++ ((((⟨#[32]⟩ : ByteArray) ++ (itoaS b)) ++ (⟨#[32]⟩ : ByteArray)) ++ (itoaS c)))), (5, i64 3)]) hA [] (cc ((by have s32_ : (⟨#[32]⟩ : ByteArray).size = 1 := rfl; first | omega | (simp only [ByteArray.size_append]; omega)) : (((⟨#[32]⟩ : ByteArray) ++ (itoaS b)) ++ (⟨#[32]⟩ : ByteArray)).size + (itoaS c).size ≤ 9223372036854775807) (cc ((by have s32_ : (⟨#[32]⟩ : ByteArray).size = 1 := rfl; first | omega | (simp only [ByteArray.size_append]; omega)) : (nm ++ ((⟨#[32]⟩ : ByteArray) ++ (itoaS a))).size + ((((⟨#[32]⟩ : ByteArray) ++ (itoaS b)) ++ (⟨#[32]⟩ : ByteArray)) ++ (itoaS c)).size ≤ 9223372036854775807) c0)) ?_
  clear hA fr; intro fr hA
  refine end_plan ?_
  refine then_normal ?_
  refine wp_seq ?_
  refine sC (e' := [(1, pt b1), (2, str (⟨#[]⟩)), (4, str ((nm ++ ((⟨#[32]⟩ : ByteArray) ++ (itoaS a))) ++ ((((⟨#[32]⟩ : ByteArray) ++ (itoaS b)) ++ (⟨#[32]⟩ : ByteArray)) ++ (itoaS c)))), (52, bl false)]) 6 hA [] c0 ?_
  clear hA fr; intro fr hA
  refine cF hA ?_
  refine wp_skip ?_
  refine then_normal ?_
  refine sC (e' := [(2, str ((nm ++ ((⟨#[32]⟩ : ByteArray) ++ (itoaS a))) ++ ((((⟨#[32]⟩ : ByteArray) ++ (itoaS b)) ++ (⟨#[32]⟩ : ByteArray)) ++ (itoaS c))))]) 2 hA [] c0 ?_
  clear hA fr; intro fr hA
  refine wp_ret ?_
  refine cR (cs := [none]) (us := [str ((nm ++ ((⟨#[32]⟩ : ByteArray) ++ (itoaS a))) ++ ((((⟨#[32]⟩ : ByteArray) ++ (itoaS b)) ++ (⟨#[32]⟩ : ByteArray)) ++ (itoaS c)))]) hA [] trivial ?_
  have hF := hO.only; clear hA hO
  exact ⟨congrArg (fun s => Ending.returned (.string s)) (by apply ba_ext; simp [ba_app, joinS, Lib.join, List.intercalate]), hF⟩

theorem rshow_4 (k : Nat) (a b c v : Int) (nm : ByteArray) (w : World) (h1 : 1 ≤ k) (h2 : k ≤ 22) (hl : legalB ((k : Nat) : Int) a b c v = true) (hf : formF ((k : Nat) : Int) = 4) (hnm : nm.data.toList.length ≤ 100) (hnk : refNames[k]? = some (.string nm)) :
    Calls Tryd.prog 38 #[.agg #[i64 ((k : Nat) : Int), i64 a, i64 b, i64 c, i64 v]] w fun e w' => e = .returned (.string (joinS ([nm, itoaS v] : List ByteArray))) ∧ Only none' w w' := by
  refine c_enter (args := [.agg #[i64 ((k : Nat) : Int), i64 a, i64 b, i64 c, i64 v]]) (m := 59) (n := 60) Tryd.func38 rfl (by kernel_rfl) (by kernel_rfl) fun fr hA => ?_
  have hO := Ow.nil Tryd.prog none' w
  obtain ⟨ho_, ha_, hb_, hc_, hv_, hc2_⟩ := legal_spec hl; have la_ := itoaS_size a; have lb_ := itoaS_size b; have lc_ := itoaS_size c; have lv_ := itoaS_size v; have ln_ := ba_size nm
  refine sR (l := [0, 1]) ?_
  refine wpOps_cons' (mN (l := [i64 ((k : Nat) : Int), i64 a, i64 b, i64 c, i64 v]) (t := 56) (v := pt) (d := 1) hA hO ?_)
  clear hA hO fr; intro fr w1 b1 hA hO
  replace hA := hA.sb (e' := [(1, pt b1)])
  refine ck (l := [1]) (r := []) (e' := [(1, pt b1), (2, str (⟨#[]⟩))]) hA [] c0 ?_
  clear hA fr; intro fr hA
  refine end_ops ?_
  refine then_normal ?_
  refine wp_seq ?_
  refine sR (l := [0, 1, 2]) ?_
  refine ck (l := [0]) (r := [1, 2]) (e' := [(1, pt b1), (2, str (⟨#[]⟩)), (6, .agg #[i64 ((k : Nat) : Int), i64 a, i64 b, i64 c, i64 v])]) hA [.agg #[i64 ((k : Nat) : Int), i64 a, i64 b, i64 c, i64 v]] (cc (hO.ln 0 0 56 [i64 ((k : Nat) : Int), i64 a, i64 b, i64 c, i64 v]) c0) ?_
  clear hA fr; intro fr hA
  refine wpOps_cons' (mK (f := 44) (args := [.agg #[i64 ((k : Nat) : Int), i64 a, i64 b, i64 c, i64 v]]) (d := (some 7)) (v := bl true) hA hO Tryd.func44 (rs (rlegal_any ((k : Nat) : Int) a b c v _) (congrArg Value.bool hl)) ?_)
  clear hA hO fr; intro fr w2 hA hO
  replace hA := hA.sb (e' := [(1, pt b1), (2, str (⟨#[]⟩)), (7, bl true)])
  refine ck (l := [2]) (r := []) (e' := [(1, pt b1), (2, str (⟨#[]⟩)), (8, bl false)]) hA [] c0 ?_
  clear hA fr; intro fr hA
  refine end_ops ?_
  refine then_normal ?_
  refine cF hA ?_
  refine wp_skip ?_
  refine then_normal ?_
  refine sR (l := [0, 1]) ?_
  refine wpOps_cons' (mN (l := [str (⟨#[]⟩), str (⟨#[115, 101, 116]⟩), str (⟨#[104, 105, 103, 104]⟩), str (⟨#[112, 108, 117, 115]⟩), str (⟨#[97, 100, 100]⟩), str (⟨#[115, 117, 98]⟩), str (⟨#[109, 117, 108]⟩), str (⟨#[100, 105, 118]⟩), str (⟨#[114, 101, 109]⟩), str (⟨#[97, 110, 100]⟩), str (⟨#[111, 114]⟩), str (⟨#[120, 111, 114]⟩), str (⟨#[108, 101, 115, 115]⟩), str (⟨#[115, 97, 109, 101]⟩), str (⟨#[108, 111, 97, 100]⟩), str (⟨#[115, 116, 111, 114, 101]⟩), str (⟨#[108, 111, 97, 100, 98, 121, 116, 101]⟩), str (⟨#[115, 116, 111, 114, 101, 98, 121, 116, 101]⟩), str (⟨#[106, 117, 109, 112]⟩), str (⟨#[122, 101, 114, 111]⟩), str (⟨#[99, 97, 108, 108]⟩), str (⟨#[98, 97, 99, 107]⟩), str (⟨#[115, 121, 115, 116, 101, 109]⟩)]) (t := 9) (v := fun b => .slice (some ⟨b, 0, none⟩) 23 23) (d := 9) hA hO ?_)
  clear hA hO fr; intro fr w3 b2 hA hO
  replace hA := hA.sb (e' := [(1, pt b1), (2, str (⟨#[]⟩)), (9, .slice (some ⟨b2, 0, none⟩) 23 23)])
  refine ck (l := [1]) (r := []) (e' := [(1, pt b1), (2, str (⟨#[]⟩)), (3, .slice (some ⟨b2, 0, none⟩) 23 23)]) hA [] c0 ?_
  clear hA fr; intro fr hA
  refine end_ops ?_
  refine then_normal ?_
  refine sC (e' := [(1, pt b1), (2, str (⟨#[]⟩)), (4, str nm)]) 6 hA [i64 ((k : Nat) : Int), str nm] (cc (hO.l1 1 0 3 (i64 ((k : Nat) : Int))) (cc (⟨by omega, by omega⟩ : (0 : Int) ≤ ((k : Nat) : Int) ∧ ((k : Nat) : Int) < ((23 : Nat) : Int)) (cc ((ld_at (hO.b 0) hnk (by kernel_rfl)) : Ld Tryd.prog w3 ((⟨b2, 0, none⟩ : Addr).add k) 9 (str nm)) c0))) ?_
  clear hA fr; intro fr hA
  refine sR (l := [0, 1, 2, 3]) ?_
  refine ck (l := [0, 1]) (r := [2, 3]) (e' := [(1, pt b1), (2, str (⟨#[]⟩)), (4, str nm), (16, i64 ((k : Nat) : Int))]) hA [i64 ((k : Nat) : Int)] (cc (hO.l1 1 0 3 (i64 ((k : Nat) : Int))) c0) ?_
  clear hA fr; intro fr hA
  refine wpOps_cons' (mK (f := 43) (args := [i64 ((k : Nat) : Int)]) (d := (some 17)) (v := i64 4) hA hO Tryd.func43 (rs (form_any ((k : Nat) : Int) _) (congrArg _ hf)) ?_)
  clear hA hO fr; intro fr w4 hA hO
  replace hA := hA.sb (e' := [(1, pt b1), (2, str (⟨#[]⟩)), (4, str nm), (17, i64 4)])
  refine ck (l := [3]) (r := []) (e' := [(1, pt b1), (2, str (⟨#[]⟩)), (4, str nm), (5, i64 4)]) hA [] c0 ?_
  clear hA fr; intro fr hA
  refine end_ops ?_
  refine then_normal ?_
  refine wp_seq ?_
  refine sC (e' := [(1, pt b1), (2, str (⟨#[]⟩)), (4, str nm), (5, i64 4), (23, bl false)]) 6 hA [] c0 ?_
  clear hA fr; intro fr hA
  refine cF hA ?_
  refine wp_skip ?_
  refine then_normal ?_
  refine wp_seq ?_
  refine sC (e' := [(1, pt b1), (2, str (⟨#[]⟩)), (4, str nm), (5, i64 4), (35, bl false)]) 6 hA [] c0 ?_
  clear hA fr; intro fr hA
  refine cF hA ?_
  refine wp_skip ?_
  refine then_normal ?_
  refine wp_seq ?_
  refine sC (e' := [(1, pt b1), (2, str (⟨#[]⟩)), (4, str nm), (52, bl true)]) 6 hA [] c0 ?_
  clear hA fr; intro fr hA
  refine cT hA ?_
  refine rR (l := (rg 0 7)) ?_
  refine ck (l := [0, 1, 2]) (r := [3, 4, 5, 6]) (e' := [(2, str (⟨#[]⟩)), (4, str nm), (53, str nm), (55, i64 v)]) hA [i64 v] (cc (hO.l1 1 4 3 (i64 v)) c0) ?_
  clear hA fr; intro fr hA
  refine wpOps_cons' (mK (f := 47) (args := [i64 v]) (d := (some 56)) (v := str (itoaS v)) hA hO Tryd.func47 (number_any v _ (by omega) (by omega)) ?_)
  clear hA hO fr; intro fr w5 hA hO
  replace hA := hA.sb (e' := [(2, str (⟨#[]⟩)), (4, str nm), (53, str nm), (56, str (itoaS v))])
  refine ck (l := [4, 5, 6]) (r := []) (e' := [(2, str (⟨#[]⟩)), (4, str (nm ++ ((⟨#[32]⟩ : ByteArray) ++ (itoaS v))))]) hA [] (cc ((by have s32_ : (⟨#[32]⟩ : ByteArray).size = 1 := rfl; first | omega | (simp only [ByteArray.size_append]; omega)) : (⟨#[32]⟩ : ByteArray).size + (itoaS v).size ≤ 9223372036854775807) (cc ((by have s32_ : (⟨#[32]⟩ : ByteArray).size = 1 := rfl; first | omega | (simp only [ByteArray.size_append]; omega)) : nm.size + ((⟨#[32]⟩ : ByteArray) ++ (itoaS v)).size ≤ 9223372036854775807) c0)) ?_
  clear hA fr; intro fr hA
  refine end_ops ?_
  refine then_normal ?_
  refine sC (e' := [(2, str (nm ++ ((⟨#[32]⟩ : ByteArray) ++ (itoaS v))))]) 2 hA [] c0 ?_
  clear hA fr; intro fr hA
  refine wp_ret ?_
  refine cR (cs := [none]) (us := [str (nm ++ ((⟨#[32]⟩ : ByteArray) ++ (itoaS v)))]) hA [] trivial ?_
  have hF := hO.only; clear hA hO
  exact ⟨congrArg (fun s => Ending.returned (.string s)) (by apply ba_ext; simp [ba_app, joinS, Lib.join, List.intercalate]), hF⟩

theorem rshow_5 (k : Nat) (a b c v : Int) (nm : ByteArray) (w : World) (h1 : 1 ≤ k) (h2 : k ≤ 22) (hl : legalB ((k : Nat) : Int) a b c v = true) (hf : formF ((k : Nat) : Int) = 5) (hnm : nm.data.toList.length ≤ 100) (hnk : refNames[k]? = some (.string nm)) :
    Calls Tryd.prog 38 #[.agg #[i64 ((k : Nat) : Int), i64 a, i64 b, i64 c, i64 v]] w fun e w' => e = .returned (.string (joinS ([nm, itoaS a] : List ByteArray))) ∧ Only none' w w' := by
  refine c_enter (args := [.agg #[i64 ((k : Nat) : Int), i64 a, i64 b, i64 c, i64 v]]) (m := 59) (n := 60) Tryd.func38 rfl (by kernel_rfl) (by kernel_rfl) fun fr hA => ?_
  have hO := Ow.nil Tryd.prog none' w
  obtain ⟨ho_, ha_, hb_, hc_, hv_, hc2_⟩ := legal_spec hl; have la_ := itoaS_size a; have lb_ := itoaS_size b; have lc_ := itoaS_size c; have lv_ := itoaS_size v; have ln_ := ba_size nm
  refine sR (l := [0, 1]) ?_
  refine wpOps_cons' (mN (l := [i64 ((k : Nat) : Int), i64 a, i64 b, i64 c, i64 v]) (t := 56) (v := pt) (d := 1) hA hO ?_)
  clear hA hO fr; intro fr w1 b1 hA hO
  replace hA := hA.sb (e' := [(1, pt b1)])
  refine ck (l := [1]) (r := []) (e' := [(1, pt b1), (2, str (⟨#[]⟩))]) hA [] c0 ?_
  clear hA fr; intro fr hA
  refine end_ops ?_
  refine then_normal ?_
  refine wp_seq ?_
  refine sR (l := [0, 1, 2]) ?_
  refine ck (l := [0]) (r := [1, 2]) (e' := [(1, pt b1), (2, str (⟨#[]⟩)), (6, .agg #[i64 ((k : Nat) : Int), i64 a, i64 b, i64 c, i64 v])]) hA [.agg #[i64 ((k : Nat) : Int), i64 a, i64 b, i64 c, i64 v]] (cc (hO.ln 0 0 56 [i64 ((k : Nat) : Int), i64 a, i64 b, i64 c, i64 v]) c0) ?_
  clear hA fr; intro fr hA
  refine wpOps_cons' (mK (f := 44) (args := [.agg #[i64 ((k : Nat) : Int), i64 a, i64 b, i64 c, i64 v]]) (d := (some 7)) (v := bl true) hA hO Tryd.func44 (rs (rlegal_any ((k : Nat) : Int) a b c v _) (congrArg Value.bool hl)) ?_)
  clear hA hO fr; intro fr w2 hA hO
  replace hA := hA.sb (e' := [(1, pt b1), (2, str (⟨#[]⟩)), (7, bl true)])
  refine ck (l := [2]) (r := []) (e' := [(1, pt b1), (2, str (⟨#[]⟩)), (8, bl false)]) hA [] c0 ?_
  clear hA fr; intro fr hA
  refine end_ops ?_
  refine then_normal ?_
  refine cF hA ?_
  refine wp_skip ?_
  refine then_normal ?_
  refine sR (l := [0, 1]) ?_
  refine wpOps_cons' (mN (l := [str (⟨#[]⟩), str (⟨#[115, 101, 116]⟩), str (⟨#[104, 105, 103, 104]⟩), str (⟨#[112, 108, 117, 115]⟩), str (⟨#[97, 100, 100]⟩), str (⟨#[115, 117, 98]⟩), str (⟨#[109, 117, 108]⟩), str (⟨#[100, 105, 118]⟩), str (⟨#[114, 101, 109]⟩), str (⟨#[97, 110, 100]⟩), str (⟨#[111, 114]⟩), str (⟨#[120, 111, 114]⟩), str (⟨#[108, 101, 115, 115]⟩), str (⟨#[115, 97, 109, 101]⟩), str (⟨#[108, 111, 97, 100]⟩), str (⟨#[115, 116, 111, 114, 101]⟩), str (⟨#[108, 111, 97, 100, 98, 121, 116, 101]⟩), str (⟨#[115, 116, 111, 114, 101, 98, 121, 116, 101]⟩), str (⟨#[106, 117, 109, 112]⟩), str (⟨#[122, 101, 114, 111]⟩), str (⟨#[99, 97, 108, 108]⟩), str (⟨#[98, 97, 99, 107]⟩), str (⟨#[115, 121, 115, 116, 101, 109]⟩)]) (t := 9) (v := fun b => .slice (some ⟨b, 0, none⟩) 23 23) (d := 9) hA hO ?_)
  clear hA hO fr; intro fr w3 b2 hA hO
  replace hA := hA.sb (e' := [(1, pt b1), (2, str (⟨#[]⟩)), (9, .slice (some ⟨b2, 0, none⟩) 23 23)])
  refine ck (l := [1]) (r := []) (e' := [(1, pt b1), (2, str (⟨#[]⟩)), (3, .slice (some ⟨b2, 0, none⟩) 23 23)]) hA [] c0 ?_
  clear hA fr; intro fr hA
  refine end_ops ?_
  refine then_normal ?_
  refine sC (e' := [(1, pt b1), (2, str (⟨#[]⟩)), (4, str nm)]) 6 hA [i64 ((k : Nat) : Int), str nm] (cc (hO.l1 1 0 3 (i64 ((k : Nat) : Int))) (cc (⟨by omega, by omega⟩ : (0 : Int) ≤ ((k : Nat) : Int) ∧ ((k : Nat) : Int) < ((23 : Nat) : Int)) (cc ((ld_at (hO.b 0) hnk (by kernel_rfl)) : Ld Tryd.prog w3 ((⟨b2, 0, none⟩ : Addr).add k) 9 (str nm)) c0))) ?_
  clear hA fr; intro fr hA
  refine sR (l := [0, 1, 2, 3]) ?_
  refine ck (l := [0, 1]) (r := [2, 3]) (e' := [(1, pt b1), (2, str (⟨#[]⟩)), (4, str nm), (16, i64 ((k : Nat) : Int))]) hA [i64 ((k : Nat) : Int)] (cc (hO.l1 1 0 3 (i64 ((k : Nat) : Int))) c0) ?_
  clear hA fr; intro fr hA
  refine wpOps_cons' (mK (f := 43) (args := [i64 ((k : Nat) : Int)]) (d := (some 17)) (v := i64 5) hA hO Tryd.func43 (rs (form_any ((k : Nat) : Int) _) (congrArg _ hf)) ?_)
  clear hA hO fr; intro fr w4 hA hO
  replace hA := hA.sb (e' := [(1, pt b1), (2, str (⟨#[]⟩)), (4, str nm), (17, i64 5)])
  refine ck (l := [3]) (r := []) (e' := [(1, pt b1), (2, str (⟨#[]⟩)), (4, str nm), (5, i64 5)]) hA [] c0 ?_
  clear hA fr; intro fr hA
  refine end_ops ?_
  refine then_normal ?_
  refine wp_seq ?_
  refine sC (e' := [(1, pt b1), (2, str (⟨#[]⟩)), (4, str nm), (5, i64 5), (23, bl true)]) 6 hA [] c0 ?_
  clear hA fr; intro fr hA
  refine cT hA ?_
  refine rR (l := (rg 0 7)) ?_
  refine ck (l := [0, 1, 2]) (r := [3, 4, 5, 6]) (e' := [(1, pt b1), (2, str (⟨#[]⟩)), (4, str nm), (5, i64 5), (24, str nm), (26, i64 a)]) hA [i64 a] (cc (hO.l1 1 1 3 (i64 a)) c0) ?_
  clear hA fr; intro fr hA
  refine wpOps_cons' (mK (f := 47) (args := [i64 a]) (d := (some 27)) (v := str (itoaS a)) hA hO Tryd.func47 (number_any a _ (by omega) (by omega)) ?_)
  clear hA hO fr; intro fr w5 hA hO
  replace hA := hA.sb (e' := [(1, pt b1), (2, str (⟨#[]⟩)), (4, str nm), (5, i64 5), (24, str nm), (27, str (itoaS a))])
  refine ck (l := [4, 5, 6]) (r := []) (e' := [(1, pt b1), (2, str (⟨#[]⟩)), (4, str (nm ++ ((⟨#[32]⟩ : ByteArray) ++ (itoaS a)))), (5, i64 5)]) hA [] (cc ((by have s32_ : (⟨#[32]⟩ : ByteArray).size = 1 := rfl; first | omega | (simp only [ByteArray.size_append]; omega)) : (⟨#[32]⟩ : ByteArray).size + (itoaS a).size ≤ 9223372036854775807) (cc ((by have s32_ : (⟨#[32]⟩ : ByteArray).size = 1 := rfl; first | omega | (simp only [ByteArray.size_append]; omega)) : nm.size + ((⟨#[32]⟩ : ByteArray) ++ (itoaS a)).size ≤ 9223372036854775807) c0)) ?_
  clear hA fr; intro fr hA
  refine end_ops ?_
  refine then_normal ?_
  refine wp_seq ?_
  refine sC (e' := [(1, pt b1), (2, str (⟨#[]⟩)), (4, str (nm ++ ((⟨#[32]⟩ : ByteArray) ++ (itoaS a)))), (5, i64 5), (35, bl false)]) 6 hA [] c0 ?_
  clear hA fr; intro fr hA
  refine cF hA ?_
  refine wp_skip ?_
  refine then_normal ?_
  refine wp_seq ?_
  refine sC (e' := [(1, pt b1), (2, str (⟨#[]⟩)), (4, str (nm ++ ((⟨#[32]⟩ : ByteArray) ++ (itoaS a)))), (52, bl false)]) 6 hA [] c0 ?_
  clear hA fr; intro fr hA
  refine cF hA ?_
  refine wp_skip ?_
  refine then_normal ?_
  refine sC (e' := [(2, str (nm ++ ((⟨#[32]⟩ : ByteArray) ++ (itoaS a))))]) 2 hA [] c0 ?_
  clear hA fr; intro fr hA
  refine wp_ret ?_
  refine cR (cs := [none]) (us := [str (nm ++ ((⟨#[32]⟩ : ByteArray) ++ (itoaS a)))]) hA [] trivial ?_
  have hF := hO.only; clear hA hO
  exact ⟨congrArg (fun s => Ending.returned (.string s)) (by apply ba_ext; simp [ba_app, joinS, Lib.join, List.intercalate]), hF⟩

theorem rshow_6 (k : Nat) (a b c v : Int) (nm : ByteArray) (w : World) (h1 : 1 ≤ k) (h2 : k ≤ 22) (hl : legalB ((k : Nat) : Int) a b c v = true) (hf : formF ((k : Nat) : Int) = 6) (hnm : nm.data.toList.length ≤ 100) (hnk : refNames[k]? = some (.string nm)) :
    Calls Tryd.prog 38 #[.agg #[i64 ((k : Nat) : Int), i64 a, i64 b, i64 c, i64 v]] w fun e w' => e = .returned (.string (joinS ([nm] : List ByteArray))) ∧ Only none' w w' := by
  refine c_enter (args := [.agg #[i64 ((k : Nat) : Int), i64 a, i64 b, i64 c, i64 v]]) (m := 59) (n := 60) Tryd.func38 rfl (by kernel_rfl) (by kernel_rfl) fun fr hA => ?_
  have hO := Ow.nil Tryd.prog none' w
  obtain ⟨ho_, ha_, hb_, hc_, hv_, hc2_⟩ := legal_spec hl; have la_ := itoaS_size a; have lb_ := itoaS_size b; have lc_ := itoaS_size c; have lv_ := itoaS_size v; have ln_ := ba_size nm
  refine sR (l := [0, 1]) ?_
  refine wpOps_cons' (mN (l := [i64 ((k : Nat) : Int), i64 a, i64 b, i64 c, i64 v]) (t := 56) (v := pt) (d := 1) hA hO ?_)
  clear hA hO fr; intro fr w1 b1 hA hO
  replace hA := hA.sb (e' := [(1, pt b1)])
  refine ck (l := [1]) (r := []) (e' := [(1, pt b1), (2, str (⟨#[]⟩))]) hA [] c0 ?_
  clear hA fr; intro fr hA
  refine end_ops ?_
  refine then_normal ?_
  refine wp_seq ?_
  refine sR (l := [0, 1, 2]) ?_
  refine ck (l := [0]) (r := [1, 2]) (e' := [(1, pt b1), (2, str (⟨#[]⟩)), (6, .agg #[i64 ((k : Nat) : Int), i64 a, i64 b, i64 c, i64 v])]) hA [.agg #[i64 ((k : Nat) : Int), i64 a, i64 b, i64 c, i64 v]] (cc (hO.ln 0 0 56 [i64 ((k : Nat) : Int), i64 a, i64 b, i64 c, i64 v]) c0) ?_
  clear hA fr; intro fr hA
  refine wpOps_cons' (mK (f := 44) (args := [.agg #[i64 ((k : Nat) : Int), i64 a, i64 b, i64 c, i64 v]]) (d := (some 7)) (v := bl true) hA hO Tryd.func44 (rs (rlegal_any ((k : Nat) : Int) a b c v _) (congrArg Value.bool hl)) ?_)
  clear hA hO fr; intro fr w2 hA hO
  replace hA := hA.sb (e' := [(1, pt b1), (2, str (⟨#[]⟩)), (7, bl true)])
  refine ck (l := [2]) (r := []) (e' := [(1, pt b1), (2, str (⟨#[]⟩)), (8, bl false)]) hA [] c0 ?_
  clear hA fr; intro fr hA
  refine end_ops ?_
  refine then_normal ?_
  refine cF hA ?_
  refine wp_skip ?_
  refine then_normal ?_
  refine sR (l := [0, 1]) ?_
  refine wpOps_cons' (mN (l := [str (⟨#[]⟩), str (⟨#[115, 101, 116]⟩), str (⟨#[104, 105, 103, 104]⟩), str (⟨#[112, 108, 117, 115]⟩), str (⟨#[97, 100, 100]⟩), str (⟨#[115, 117, 98]⟩), str (⟨#[109, 117, 108]⟩), str (⟨#[100, 105, 118]⟩), str (⟨#[114, 101, 109]⟩), str (⟨#[97, 110, 100]⟩), str (⟨#[111, 114]⟩), str (⟨#[120, 111, 114]⟩), str (⟨#[108, 101, 115, 115]⟩), str (⟨#[115, 97, 109, 101]⟩), str (⟨#[108, 111, 97, 100]⟩), str (⟨#[115, 116, 111, 114, 101]⟩), str (⟨#[108, 111, 97, 100, 98, 121, 116, 101]⟩), str (⟨#[115, 116, 111, 114, 101, 98, 121, 116, 101]⟩), str (⟨#[106, 117, 109, 112]⟩), str (⟨#[122, 101, 114, 111]⟩), str (⟨#[99, 97, 108, 108]⟩), str (⟨#[98, 97, 99, 107]⟩), str (⟨#[115, 121, 115, 116, 101, 109]⟩)]) (t := 9) (v := fun b => .slice (some ⟨b, 0, none⟩) 23 23) (d := 9) hA hO ?_)
  clear hA hO fr; intro fr w3 b2 hA hO
  replace hA := hA.sb (e' := [(1, pt b1), (2, str (⟨#[]⟩)), (9, .slice (some ⟨b2, 0, none⟩) 23 23)])
  refine ck (l := [1]) (r := []) (e' := [(1, pt b1), (2, str (⟨#[]⟩)), (3, .slice (some ⟨b2, 0, none⟩) 23 23)]) hA [] c0 ?_
  clear hA fr; intro fr hA
  refine end_ops ?_
  refine then_normal ?_
  refine sC (e' := [(1, pt b1), (2, str (⟨#[]⟩)), (4, str nm)]) 6 hA [i64 ((k : Nat) : Int), str nm] (cc (hO.l1 1 0 3 (i64 ((k : Nat) : Int))) (cc (⟨by omega, by omega⟩ : (0 : Int) ≤ ((k : Nat) : Int) ∧ ((k : Nat) : Int) < ((23 : Nat) : Int)) (cc ((ld_at (hO.b 0) hnk (by kernel_rfl)) : Ld Tryd.prog w3 ((⟨b2, 0, none⟩ : Addr).add k) 9 (str nm)) c0))) ?_
  clear hA fr; intro fr hA
  refine sR (l := [0, 1, 2, 3]) ?_
  refine ck (l := [0, 1]) (r := [2, 3]) (e' := [(1, pt b1), (2, str (⟨#[]⟩)), (4, str nm), (16, i64 ((k : Nat) : Int))]) hA [i64 ((k : Nat) : Int)] (cc (hO.l1 1 0 3 (i64 ((k : Nat) : Int))) c0) ?_
  clear hA fr; intro fr hA
  refine wpOps_cons' (mK (f := 43) (args := [i64 ((k : Nat) : Int)]) (d := (some 17)) (v := i64 6) hA hO Tryd.func43 (rs (form_any ((k : Nat) : Int) _) (congrArg _ hf)) ?_)
  clear hA hO fr; intro fr w4 hA hO
  replace hA := hA.sb (e' := [(1, pt b1), (2, str (⟨#[]⟩)), (4, str nm), (17, i64 6)])
  refine ck (l := [3]) (r := []) (e' := [(1, pt b1), (2, str (⟨#[]⟩)), (4, str nm), (5, i64 6)]) hA [] c0 ?_
  clear hA fr; intro fr hA
  refine end_ops ?_
  refine then_normal ?_
  refine wp_seq ?_
  refine sC (e' := [(1, pt b1), (2, str (⟨#[]⟩)), (4, str nm), (5, i64 6), (23, bl false)]) 6 hA [] c0 ?_
  clear hA fr; intro fr hA
  refine cF hA ?_
  refine wp_skip ?_
  refine then_normal ?_
  refine wp_seq ?_
  refine sC (e' := [(1, pt b1), (2, str (⟨#[]⟩)), (4, str nm), (5, i64 6), (35, bl false)]) 6 hA [] c0 ?_
  clear hA fr; intro fr hA
  refine cF hA ?_
  refine wp_skip ?_
  refine then_normal ?_
  refine wp_seq ?_
  refine sC (e' := [(1, pt b1), (2, str (⟨#[]⟩)), (4, str nm), (52, bl false)]) 6 hA [] c0 ?_
  clear hA fr; intro fr hA
  refine cF hA ?_
  refine wp_skip ?_
  refine then_normal ?_
  refine sC (e' := [(2, str nm)]) 2 hA [] c0 ?_
  clear hA fr; intro fr hA
  refine wp_ret ?_
  refine cR (cs := [none]) (us := [str nm]) hA [] trivial ?_
  have hF := hO.only; clear hA hO
  exact ⟨congrArg (fun s => Ending.returned (.string s)) (by apply ba_ext; simp [ba_app, joinS, Lib.join, List.intercalate]), hF⟩

end Go.Proofs.YtkfnkcpdabdboaaDoor
