/- The layer cpu: walks of Show. -/
import Derived.Test.YtkfnkcpdabdboaaDoorCdecode
import Derived.Test.YtkfnkcpdabdboaaDoorShelf
set_option linter.unusedVariables false
set_option linter.unusedSimpArgs false
set_option maxRecDepth 10000
namespace Go.Proofs.YtkfnkcpdabdboaaDoor
open Go Go.RowKit Go.Proofs.Sx

def joinS (xs : List ByteArray) : ByteArray := ⟨(Lib.join (xs.map (·.data.toList)) [32]).toArray⟩

theorem show_1 (k : Nat) (a b c v : Int) (nm : ByteArray) (w : World) (hT : Tab w) (hP : Pow w) (h1 : 1 ≤ k) (h2 : k ≤ 22) (hl : legalB ((k : Nat) : Int) a b c v = true) (hnm : nm.data.toList.length ≤ 100) (hrow : RowAt Tryd.prog w 63 k nm true false false true false) :
    Calls Tryd.prog 36 #[.agg #[i64 ((k : Nat) : Int), i64 a, i64 b, i64 c, i64 v]] w fun e w' => e = .returned (.string (joinS ([nm, itoaS a, itoaS v] : List ByteArray))) ∧ Only none' w w' := by
  refine c_enter (args := [.agg #[i64 ((k : Nat) : Int), i64 a, i64 b, i64 c, i64 v]]) (m := 51) (n := 52) Tryd.func36 rfl (by kernel_rfl) (by kernel_rfl) fun fr hA => ?_
  have hO := Ow.nil Tryd.prog none' w
  obtain ⟨ho_, ha_, hb_, hc_, hv_, hc2_⟩ := legal_spec hl; have la_ := itoaS_len a; have lb_ := itoaS_len b; have lc_ := itoaS_len c; have lv_ := itoaS_len v
  refine sR (l := [0, 1]) ?_
  refine wpOps_cons' (mN (l := [i64 ((k : Nat) : Int), i64 a, i64 b, i64 c, i64 v]) (t := 46) (v := pt) (d := 1) hA hO ?_)
  clear hA hO fr; intro fr w1 b1 hA hO
  replace hA := hA.sb (e' := [(1, pt b1)])
  refine ck (l := [1]) (r := []) (e' := [(1, pt b1), (2, str (⟨#[]⟩))]) hA [] c0 ?_
  clear hA fr; intro fr hA
  refine end_ops ?_
  refine then_normal ?_
  refine wp_seq ?_
  refine sR (l := [0, 1, 2]) ?_
  refine ck (l := [0]) (r := [1, 2]) (e' := [(1, pt b1), (2, str (⟨#[]⟩)), (7, .agg #[i64 ((k : Nat) : Int), i64 a, i64 b, i64 c, i64 v])]) hA [.agg #[i64 ((k : Nat) : Int), i64 a, i64 b, i64 c, i64 v]] (cc (hO.ln 0 0 46 [i64 ((k : Nat) : Int), i64 a, i64 b, i64 c, i64 v]) c0) ?_
  clear hA fr; intro fr hA
  refine wpOps_cons' (mK (f := 39) (args := [.agg #[i64 ((k : Nat) : Int), i64 a, i64 b, i64 c, i64 v]]) (d := (some 8)) (v := bl true) hA hO Tryd.func39 (rs (legal_any ((k : Nat) : Int) a b c v _ (hT.keep hO.only (fun h => h))) (congrArg Value.bool hl)) ?_)
  clear hA hO fr; intro fr w2 hA hO
  replace hA := hA.sb (e' := [(1, pt b1), (2, str (⟨#[]⟩)), (8, bl true)])
  refine ck (l := [2]) (r := []) (e' := [(1, pt b1), (2, str (⟨#[]⟩)), (9, bl false)]) hA [] c0 ?_
  clear hA fr; intro fr hA
  refine end_ops ?_
  refine then_normal ?_
  refine cF hA ?_
  refine wp_skip ?_
  refine then_normal ?_
  refine sR (l := (rg 0 6)) ?_
  refine ck (l := [0, 1, 2, 3]) (r := [4, 5]) (e' := [(1, pt b1), (2, str (⟨#[]⟩)), (13, .agg #[str nm, bl true, bl false, bl false, bl true, bl false])]) hA [i64 ((k : Nat) : Int), .agg #[str nm, bl true, bl false, bl false, bl true, bl false]] (cc (hO.l1 0 0 3 (i64 ((k : Nat) : Int))) (cc (⟨by omega, by omega⟩ : (0 : Int) ≤ ((k : Nat) : Int) ∧ ((k : Nat) : Int) < ((23 : Nat) : Int)) (cc ((hrow _ hO.only) : Ld Tryd.prog w2 ((⟨0, 0, none⟩ : Addr).add (k * 6)) 63 (.agg #[str nm, bl true, bl false, bl false, bl true, bl false])) c0))) ?_
  clear hA fr; intro fr hA
  refine wpOps_cons' (mN (l := [str (⟨#[]⟩), bl false, bl false, bl false, bl false, bl false]) (t := 63) (v := pt) (d := 3) hA hO ?_)
  clear hA hO fr; intro fr w3 b2 hA hO
  refine wpOps_cons' (mS (off := 0) (vc := [str nm, bl true, bl false, bl false, bl true, bl false]) 0 hA hO ?_)
  clear hO; intro w4 hO
  replace hA := hA.sb (e' := [(1, pt b1), (2, str (⟨#[]⟩)), (3, pt b2)])
  refine end_ops ?_
  refine then_normal ?_
  refine sR (l := [0, 1, 2, 3]) ?_
  refine ck (l := [0, 1]) (r := [2, 3]) (e' := [(1, pt b1), (2, str (⟨#[]⟩)), (3, pt b2), (15, str nm)]) hA [str nm] (cc (hO.l1 0 0 9 (str nm)) c0) ?_
  clear hA fr; intro fr hA
  refine wpOps_cons' (mN (l := [str nm]) (t := 9) (v := fun b => .slice (some ⟨b, 0, none⟩) 1 1) (d := 16) hA hO ?_)
  clear hA hO fr; intro fr w5 b3 hA hO
  replace hA := hA.sb (e' := [(1, pt b1), (2, str (⟨#[]⟩)), (3, pt b2), (16, .slice (some ⟨b3, 0, none⟩) 1 1)])
  refine ck (l := [3]) (r := []) (e' := [(1, pt b1), (2, str (⟨#[]⟩)), (3, pt b2), (4, .slice (some ⟨b3, 0, none⟩) 1 1)]) hA [] c0 ?_
  clear hA fr; intro fr hA
  refine end_ops ?_
  refine then_normal ?_
  refine wp_seq ?_
  refine sC (e' := [(2, str (⟨#[]⟩)), (4, .slice (some ⟨b3, 0, none⟩) 1 1), (37, .agg #[bl true, i64 a, bl false, i64 b, bl false, i64 c, bl true, i64 v]), (38, i64 0)]) 22 hA [bl true, i64 a, bl false, i64 b, bl false, i64 c, bl true, i64 v] (cc (hO.l1 1 1 4 (bl true)) (cc (hO.l1 2 1 3 (i64 a)) (cc (hO.l1 1 2 4 (bl false)) (cc (hO.l1 2 2 3 (i64 b)) (cc (hO.l1 1 3 4 (bl false)) (cc (hO.l1 2 3 3 (i64 c)) (cc (hO.l1 1 4 4 (bl true)) (cc (hO.l1 2 4 3 (i64 v)) c0)))))))) ?_
  clear hA fr; intro fr hA
  refine wp_block ?_
  have hT1 : One fT 9 1 (some ⟨b3, 0, none⟩) 1 ([nm] : List ByteArray) [(b3, 9, [str nm])] := One.ofBlk (r := []) (by kernel_rfl) (by first | decide | simp) (by decide) (by kernel_rfl)
  replace hO := Ow.move (A := []) (B := [(b2, 63, [str nm, bl true, bl false, bl false, bl true, bl false]), (b1, 46, [i64 ((k : Nat) : Int), i64 a, i64 b, i64 c, i64 v])]) (C := []) (x := (b3, 9, [str nm])) hO
  replace hO : Ow Tryd.prog none' w w5 ([(b2, 63, [str nm, bl true, bl false, bl false, bl true, bl false]), (b1, 46, [i64 ((k : Nat) : Int), i64 a, i64 b, i64 c, i64 v])] ++ ([(b3, 9, [str nm])] ++ ([]))) := hO.to (by simp only [List.append_assoc, List.cons_append, List.nil_append, List.append_nil])
  refine c_loop (fun mm fr W => (mm = 4 ∧ Holds 52 [] fr [(2, str (⟨#[]⟩)), (4, .slice (some ⟨b3, 0, none⟩) 1 1), (37, .agg #[bl true, i64 a, bl false, i64 b, bl false, i64 c, bl true, i64 v]), (38, i64 0)] ∧ Ow Tryd.prog none' w W ([(b2, 63, [str nm, bl true, bl false, bl false, bl true, bl false]), (b1, 46, [i64 ((k : Nat) : Int), i64 a, i64 b, i64 c, i64 v])] ++ ([(b3, 9, [str nm])] ++ ([])))) ∨ (mm = 3 ∧ ∃ (p1 : Option Addr) (c1 : Nat) (T2 : OwL), Holds 52 [] fr [(2, str (⟨#[]⟩)), (4, .slice p1 ((([nm] : List ByteArray) ++ ([itoaS a] : List ByteArray)).length) c1), (37, .agg #[bl true, i64 a, bl false, i64 b, bl false, i64 c, bl true, i64 v]), (38, i64 1)] ∧ Ow Tryd.prog none' w W ([(b2, 63, [str nm, bl true, bl false, bl false, bl true, bl false]), (b1, 46, [i64 ((k : Nat) : Int), i64 a, i64 b, i64 c, i64 v])] ++ (T2 ++ ([]))) ∧ One fT 9 1 p1 c1 (([nm] : List ByteArray) ++ ([itoaS a] : List ByteArray)) T2) ∨ (mm = 2 ∧ ∃ (p1 : Option Addr) (c1 : Nat) (T2 : OwL), Holds 52 [] fr [(2, str (⟨#[]⟩)), (4, .slice p1 ((([nm] : List ByteArray) ++ ([itoaS a] : List ByteArray)).length) c1), (37, .agg #[bl true, i64 a, bl false, i64 b, bl false, i64 c, bl true, i64 v]), (38, i64 2)] ∧ Ow Tryd.prog none' w W ([(b2, 63, [str nm, bl true, bl false, bl false, bl true, bl false]), (b1, 46, [i64 ((k : Nat) : Int), i64 a, i64 b, i64 c, i64 v])] ++ (T2 ++ ([]))) ∧ One fT 9 1 p1 c1 (([nm] : List ByteArray) ++ ([itoaS a] : List ByteArray)) T2) ∨ (mm = 1 ∧ ∃ (p1 : Option Addr) (c1 : Nat) (T2 : OwL), Holds 52 [] fr [(2, str (⟨#[]⟩)), (4, .slice p1 ((([nm] : List ByteArray) ++ ([itoaS a] : List ByteArray)).length) c1), (37, .agg #[bl true, i64 a, bl false, i64 b, bl false, i64 c, bl true, i64 v]), (38, i64 3)] ∧ Ow Tryd.prog none' w W ([(b2, 63, [str nm, bl true, bl false, bl false, bl true, bl false]), (b1, 46, [i64 ((k : Nat) : Int), i64 a, i64 b, i64 c, i64 v])] ++ (T2 ++ ([]))) ∧ One fT 9 1 p1 c1 (([nm] : List ByteArray) ++ ([itoaS a] : List ByteArray)) T2) ∨ (mm = 0 ∧ ∃ (p2 : Option Addr) (c2 : Nat) (T3 : OwL), Holds 52 [] fr [(2, str (⟨#[]⟩)), (4, .slice p2 (((([nm] : List ByteArray) ++ ([itoaS a] : List ByteArray)) ++ ([itoaS v] : List ByteArray)).length) c2), (37, .agg #[bl true, i64 a, bl false, i64 b, bl false, i64 c, bl true, i64 v]), (38, i64 4)] ∧ Ow Tryd.prog none' w W ([(b2, 63, [str nm, bl true, bl false, bl false, bl true, bl false]), (b1, 46, [i64 ((k : Nat) : Int), i64 a, i64 b, i64 c, i64 v])] ++ (T3 ++ ([]))) ∧ One fT 9 1 p2 c2 ((([nm] : List ByteArray) ++ ([itoaS a] : List ByteArray)) ++ ([itoaS v] : List ByteArray)) T3)) ?_ ?_
  · exact ⟨_, (.inl ⟨rfl, hA.sb, (hO : Ow Tryd.prog none' w _ ([(b2, 63, [str nm, bl true, bl false, bl false, bl true, bl false]), (b1, 46, [i64 ((k : Nat) : Int), i64 a, i64 b, i64 c, i64 v])] ++ ([(b3, 9, [str nm])] ++ ([]))))⟩)⟩
  · rintro _ fr w20 (⟨rfl, hA, hO⟩ | ⟨rfl, p1, c1, T2, hA, hO, hT2⟩ | ⟨rfl, p1, c1, T2, hA, hO, hT2⟩ | ⟨rfl, p1, c1, T2, hA, hO, hT2⟩ | ⟨rfl, p2, c2, T3, hA, hO, hT3⟩)
    ·
      refine sC (e' := [(2, str (⟨#[]⟩)), (4, .slice (some ⟨b3, 0, none⟩) 1 1), (37, .agg #[bl true, i64 a, bl false, i64 b, bl false, i64 c, bl true, i64 v]), (38, i64 0), (39, bl true)]) 1 hA [] c0 ?_
      clear hA fr; intro fr hA
      refine wp_seq ?_
      refine cT hA ?_
      refine wp_skip ?_
      refine then_normal ?_
      refine wp_seq ?_
      refine wp_block ?_
      refine sR (l := [0, 1, 2]) ?_
      refine ck (l := [0]) (r := [1, 2]) (e' := [(2, str (⟨#[]⟩)), (4, .slice (some ⟨b3, 0, none⟩) 1 1), (37, .agg #[bl true, i64 a, bl false, i64 b, bl false, i64 c, bl true, i64 v]), (38, i64 0), (40, .agg #[bl true, i64 a])]) hA [] c0 ?_
      clear hA fr; intro fr hA
      refine wpOps_cons' (mN (l := [bl false, i64 0]) (t := 72) (v := pt) (d := 6) hA hO ?_)
      clear hA hO fr; intro fr w21 b10 hA hO
      refine wpOps_cons' (mS (off := 0) (vc := [bl true, i64 a]) 0 hA hO ?_)
      clear hO; intro w22 hO
      replace hA := hA.sb (e' := [(2, str (⟨#[]⟩)), (4, .slice (some ⟨b3, 0, none⟩) 1 1), (6, pt b10), (37, .agg #[bl true, i64 a, bl false, i64 b, bl false, i64 c, bl true, i64 v]), (38, i64 0)])
      refine end_ops ?_
      refine then_normal ?_
      refine sC (e' := [(2, str (⟨#[]⟩)), (4, .slice (some ⟨b3, 0, none⟩) 1 1), (6, pt b10), (37, .agg #[bl true, i64 a, bl false, i64 b, bl false, i64 c, bl true, i64 v]), (38, i64 0), (42, bl true)]) 2 hA [bl true] (cc (hO.l1 0 0 4 (bl true)) c0) ?_
      clear hA fr; intro fr hA
      refine cT hA ?_
      refine rR (l := (rg 0 7)) ?_
      refine ck (l := [0, 1, 2]) (r := [3, 4, 5, 6]) (e' := [(2, str (⟨#[]⟩)), (4, .slice (some ⟨b3, 0, none⟩) 1 1), (37, .agg #[bl true, i64 a, bl false, i64 b, bl false, i64 c, bl true, i64 v]), (38, i64 0), (43, .slice (some ⟨b3, 0, none⟩) 1 1), (45, i64 a)]) hA [i64 a] (cc (hO.l1 0 1 3 (i64 a)) c0) ?_
      clear hA fr; intro fr hA
      refine wpOps_cons' (mK (f := 35) (args := [i64 a]) (d := (some 46)) (v := str (itoaS a)) hA hO Tryd.func35 (itoa_any a _ (inK_i64 (by omega) (by omega)) (hP.keep hO.only)) ?_)
      clear hA hO fr; intro fr w23 hA hO
      replace hA := hA.sb (e' := [(2, str (⟨#[]⟩)), (4, .slice (some ⟨b3, 0, none⟩) 1 1), (37, .agg #[bl true, i64 a, bl false, i64 b, bl false, i64 c, bl true, i64 v]), (38, i64 0), (43, .slice (some ⟨b3, 0, none⟩) 1 1), (46, str (itoaS a))])
      refine wpOps_cons' (mN (l := [str (itoaS a)]) (t := 9) (v := fun b => .slice (some ⟨b, 0, none⟩) 1 1) (d := 47) hA hO ?_)
      clear hA hO fr; intro fr w24 b11 hA hO
      replace hA := hA.sb (e' := [(2, str (⟨#[]⟩)), (4, .slice (some ⟨b3, 0, none⟩) 1 1), (37, .agg #[bl true, i64 a, bl false, i64 b, bl false, i64 c, bl true, i64 v]), (38, i64 0), (43, .slice (some ⟨b3, 0, none⟩) 1 1), (47, .slice (some ⟨b11, 0, none⟩) 1 1)])
      replace hO : Ow Tryd.prog none' w w24 ([(b11, 9, [str (itoaS a)]), (b10, 72, [bl true, i64 a]), (b2, 63, [str nm, bl true, bl false, bl false, bl true, bl false]), (b1, 46, [i64 ((k : Nat) : Int), i64 a, i64 b, i64 c, i64 v])] ++ ([(b3, 9, [str nm])] ++ ([]))) := hO
      refine wpOps_cons' (mA (f := fT) (el := 9) (sz := 1) (bytes := 16) (p := some ⟨b3, 0, none⟩) (c := 1) (l := ([nm] : List ByteArray)) (l' := ([itoaS a] : List ByteArray)) (T := [(b3, 9, [str nm])]) (t := 40) (tx := 40) (ty := 40) (x := .slice (some ⟨b11, 0, none⟩) 1 1) (d := 48) [(b11, 9, [str (itoaS a)]), (b10, 72, [bl true, i64 a]), (b2, 63, [str nm, bl true, bl false, bl false, bl true, bl false]), (b1, 46, [i64 ((k : Nat) : Int), i64 a, i64 b, i64 c, i64 v])] ([]) encT hA hO hT1 (Vw.src (e' := 9) encT ((hO.b 0).vw (off := 0) (xs := ([itoaS a] : List ByteArray)) (by kernel_rfl)) (by kernel_rfl)) (by simp) (by unfold maxLen; simp) ?_)
      clear hA hO fr; intro fr w25 p3 c3 T4 hA hO hT4
      replace hA := hA.sb (e' := [(2, str (⟨#[]⟩)), (4, .slice (some ⟨b3, 0, none⟩) 1 1), (37, .agg #[bl true, i64 a, bl false, i64 b, bl false, i64 c, bl true, i64 v]), (38, i64 0), (48, .slice p3 ((([nm] : List ByteArray) ++ ([itoaS a] : List ByteArray)).length) c3)])
      refine ck (l := [6]) (r := []) (e' := [(2, str (⟨#[]⟩)), (4, .slice p3 ((([nm] : List ByteArray) ++ ([itoaS a] : List ByteArray)).length) c3), (37, .agg #[bl true, i64 a, bl false, i64 b, bl false, i64 c, bl true, i64 v]), (38, i64 0)]) hA [] c0 ?_
      clear hA fr; intro fr hA
      refine end_ops ?_
      refine inBlock_normal ?_
      refine then_normal ?_
      refine rC (e' := [(2, str (⟨#[]⟩)), (4, .slice p3 ((([nm] : List ByteArray) ++ ([itoaS a] : List ByteArray)).length) c3), (37, .agg #[bl true, i64 a, bl false, i64 b, bl false, i64 c, bl true, i64 v]), (38, i64 1)]) 2 hA [bl false] c0 ?_
      clear hA fr; intro fr hA
      refine then_normal ?_
      exact ⟨3, by decide, (.inr (.inl ⟨rfl, p3, c3, T4, hA.sb, (Ow.subP (A := [(b11, 9, [str (itoaS a)]), (b10, 72, [bl true, i64 a]), (b2, 63, [str nm, bl true, bl false, bl false, bl true, bl false]), (b1, 46, [i64 ((k : Nat) : Int), i64 a, i64 b, i64 c, i64 v])]) (A' := [(b2, 63, [str nm, bl true, bl false, bl false, bl true, bl false]), (b1, 46, [i64 ((k : Nat) : Int), i64 a, i64 b, i64 c, i64 v])]) (B := T4 ++ ([])) hO (.cons _ (.cons _ (.cons_cons _ (.cons_cons _ .slnil))))), hT4⟩))⟩
    ·
      refine sC (e' := [(2, str (⟨#[]⟩)), (4, .slice p1 ((([nm] : List ByteArray) ++ ([itoaS a] : List ByteArray)).length) c1), (37, .agg #[bl true, i64 a, bl false, i64 b, bl false, i64 c, bl true, i64 v]), (38, i64 1), (39, bl true)]) 1 hA [] c0 ?_
      clear hA fr; intro fr hA
      refine wp_seq ?_
      refine cT hA ?_
      refine wp_skip ?_
      refine then_normal ?_
      refine wp_seq ?_
      refine wp_block ?_
      refine sR (l := [0, 1, 2]) ?_
      refine ck (l := [0]) (r := [1, 2]) (e' := [(2, str (⟨#[]⟩)), (4, .slice p1 ((([nm] : List ByteArray) ++ ([itoaS a] : List ByteArray)).length) c1), (37, .agg #[bl true, i64 a, bl false, i64 b, bl false, i64 c, bl true, i64 v]), (38, i64 1), (40, .agg #[bl false, i64 b])]) hA [] c0 ?_
      clear hA fr; intro fr hA
      refine wpOps_cons' (mN (l := [bl false, i64 0]) (t := 72) (v := pt) (d := 6) hA hO ?_)
      clear hA hO fr; intro fr w26 b12 hA hO
      refine wpOps_cons' (mS (off := 0) (vc := [bl false, i64 b]) 0 hA hO ?_)
      clear hO; intro w27 hO
      replace hA := hA.sb (e' := [(2, str (⟨#[]⟩)), (4, .slice p1 ((([nm] : List ByteArray) ++ ([itoaS a] : List ByteArray)).length) c1), (6, pt b12), (37, .agg #[bl true, i64 a, bl false, i64 b, bl false, i64 c, bl true, i64 v]), (38, i64 1)])
      refine end_ops ?_
      refine then_normal ?_
      refine sC (e' := [(2, str (⟨#[]⟩)), (4, .slice p1 ((([nm] : List ByteArray) ++ ([itoaS a] : List ByteArray)).length) c1), (6, pt b12), (37, .agg #[bl true, i64 a, bl false, i64 b, bl false, i64 c, bl true, i64 v]), (38, i64 1), (42, bl false)]) 2 hA [bl false] (cc (hO.l1 0 0 4 (bl false)) c0) ?_
      clear hA fr; intro fr hA
      refine cF hA ?_
      refine wp_skip ?_
      refine inBlock_normal ?_
      refine then_normal ?_
      refine rC (e' := [(2, str (⟨#[]⟩)), (4, .slice p1 ((([nm] : List ByteArray) ++ ([itoaS a] : List ByteArray)).length) c1), (37, .agg #[bl true, i64 a, bl false, i64 b, bl false, i64 c, bl true, i64 v]), (38, i64 2)]) 2 hA [bl false] c0 ?_
      clear hA fr; intro fr hA
      refine then_normal ?_
      exact ⟨2, by decide, (.inr (.inr (.inl ⟨rfl, p1, c1, T2, hA.sb, (Ow.subP (A := [(b12, 72, [bl false, i64 b]), (b2, 63, [str nm, bl true, bl false, bl false, bl true, bl false]), (b1, 46, [i64 ((k : Nat) : Int), i64 a, i64 b, i64 c, i64 v])]) (A' := [(b2, 63, [str nm, bl true, bl false, bl false, bl true, bl false]), (b1, 46, [i64 ((k : Nat) : Int), i64 a, i64 b, i64 c, i64 v])]) (B := T2 ++ ([])) hO (.cons _ (.cons_cons _ (.cons_cons _ .slnil)))), hT2⟩)))⟩
    ·
      refine sC (e' := [(2, str (⟨#[]⟩)), (4, .slice p1 ((([nm] : List ByteArray) ++ ([itoaS a] : List ByteArray)).length) c1), (37, .agg #[bl true, i64 a, bl false, i64 b, bl false, i64 c, bl true, i64 v]), (38, i64 2), (39, bl true)]) 1 hA [] c0 ?_
      clear hA fr; intro fr hA
      refine wp_seq ?_
      refine cT hA ?_
      refine wp_skip ?_
      refine then_normal ?_
      refine wp_seq ?_
      refine wp_block ?_
      refine sR (l := [0, 1, 2]) ?_
      refine ck (l := [0]) (r := [1, 2]) (e' := [(2, str (⟨#[]⟩)), (4, .slice p1 ((([nm] : List ByteArray) ++ ([itoaS a] : List ByteArray)).length) c1), (37, .agg #[bl true, i64 a, bl false, i64 b, bl false, i64 c, bl true, i64 v]), (38, i64 2), (40, .agg #[bl false, i64 c])]) hA [] c0 ?_
      clear hA fr; intro fr hA
      refine wpOps_cons' (mN (l := [bl false, i64 0]) (t := 72) (v := pt) (d := 6) hA hO ?_)
      clear hA hO fr; intro fr w28 b13 hA hO
      refine wpOps_cons' (mS (off := 0) (vc := [bl false, i64 c]) 0 hA hO ?_)
      clear hO; intro w29 hO
      replace hA := hA.sb (e' := [(2, str (⟨#[]⟩)), (4, .slice p1 ((([nm] : List ByteArray) ++ ([itoaS a] : List ByteArray)).length) c1), (6, pt b13), (37, .agg #[bl true, i64 a, bl false, i64 b, bl false, i64 c, bl true, i64 v]), (38, i64 2)])
      refine end_ops ?_
      refine then_normal ?_
      refine sC (e' := [(2, str (⟨#[]⟩)), (4, .slice p1 ((([nm] : List ByteArray) ++ ([itoaS a] : List ByteArray)).length) c1), (6, pt b13), (37, .agg #[bl true, i64 a, bl false, i64 b, bl false, i64 c, bl true, i64 v]), (38, i64 2), (42, bl false)]) 2 hA [bl false] (cc (hO.l1 0 0 4 (bl false)) c0) ?_
      clear hA fr; intro fr hA
      refine cF hA ?_
      refine wp_skip ?_
      refine inBlock_normal ?_
      refine then_normal ?_
      refine rC (e' := [(2, str (⟨#[]⟩)), (4, .slice p1 ((([nm] : List ByteArray) ++ ([itoaS a] : List ByteArray)).length) c1), (37, .agg #[bl true, i64 a, bl false, i64 b, bl false, i64 c, bl true, i64 v]), (38, i64 3)]) 2 hA [bl false] c0 ?_
      clear hA fr; intro fr hA
      refine then_normal ?_
      exact ⟨1, by decide, (.inr (.inr (.inr (.inl ⟨rfl, p1, c1, T2, hA.sb, (Ow.subP (A := [(b13, 72, [bl false, i64 c]), (b2, 63, [str nm, bl true, bl false, bl false, bl true, bl false]), (b1, 46, [i64 ((k : Nat) : Int), i64 a, i64 b, i64 c, i64 v])]) (A' := [(b2, 63, [str nm, bl true, bl false, bl false, bl true, bl false]), (b1, 46, [i64 ((k : Nat) : Int), i64 a, i64 b, i64 c, i64 v])]) (B := T2 ++ ([])) hO (.cons _ (.cons_cons _ (.cons_cons _ .slnil)))), hT2⟩))))⟩
    ·
      refine sC (e' := [(2, str (⟨#[]⟩)), (4, .slice p1 ((([nm] : List ByteArray) ++ ([itoaS a] : List ByteArray)).length) c1), (37, .agg #[bl true, i64 a, bl false, i64 b, bl false, i64 c, bl true, i64 v]), (38, i64 3), (39, bl true)]) 1 hA [] c0 ?_
      clear hA fr; intro fr hA
      refine wp_seq ?_
      refine cT hA ?_
      refine wp_skip ?_
      refine then_normal ?_
      refine wp_seq ?_
      refine wp_block ?_
      refine sR (l := [0, 1, 2]) ?_
      refine ck (l := [0]) (r := [1, 2]) (e' := [(2, str (⟨#[]⟩)), (4, .slice p1 ((([nm] : List ByteArray) ++ ([itoaS a] : List ByteArray)).length) c1), (37, .agg #[bl true, i64 a, bl false, i64 b, bl false, i64 c, bl true, i64 v]), (38, i64 3), (40, .agg #[bl true, i64 v])]) hA [] c0 ?_
      clear hA fr; intro fr hA
      refine wpOps_cons' (mN (l := [bl false, i64 0]) (t := 72) (v := pt) (d := 6) hA hO ?_)
      clear hA hO fr; intro fr w30 b14 hA hO
      refine wpOps_cons' (mS (off := 0) (vc := [bl true, i64 v]) 0 hA hO ?_)
      clear hO; intro w31 hO
      replace hA := hA.sb (e' := [(2, str (⟨#[]⟩)), (4, .slice p1 ((([nm] : List ByteArray) ++ ([itoaS a] : List ByteArray)).length) c1), (6, pt b14), (37, .agg #[bl true, i64 a, bl false, i64 b, bl false, i64 c, bl true, i64 v]), (38, i64 3)])
      refine end_ops ?_
      refine then_normal ?_
      refine sC (e' := [(2, str (⟨#[]⟩)), (4, .slice p1 ((([nm] : List ByteArray) ++ ([itoaS a] : List ByteArray)).length) c1), (6, pt b14), (37, .agg #[bl true, i64 a, bl false, i64 b, bl false, i64 c, bl true, i64 v]), (38, i64 3), (42, bl true)]) 2 hA [bl true] (cc (hO.l1 0 0 4 (bl true)) c0) ?_
      clear hA fr; intro fr hA
      refine cT hA ?_
      refine rR (l := (rg 0 7)) ?_
      refine ck (l := [0, 1, 2]) (r := [3, 4, 5, 6]) (e' := [(2, str (⟨#[]⟩)), (4, .slice p1 ((([nm] : List ByteArray) ++ ([itoaS a] : List ByteArray)).length) c1), (37, .agg #[bl true, i64 a, bl false, i64 b, bl false, i64 c, bl true, i64 v]), (38, i64 3), (43, .slice p1 ((([nm] : List ByteArray) ++ ([itoaS a] : List ByteArray)).length) c1), (45, i64 v)]) hA [i64 v] (cc (hO.l1 0 1 3 (i64 v)) c0) ?_
      clear hA fr; intro fr hA
      refine wpOps_cons' (mK (f := 35) (args := [i64 v]) (d := (some 46)) (v := str (itoaS v)) hA hO Tryd.func35 (itoa_any v _ (inK_i64 (by omega) (by omega)) (hP.keep hO.only)) ?_)
      clear hA hO fr; intro fr w32 hA hO
      replace hA := hA.sb (e' := [(2, str (⟨#[]⟩)), (4, .slice p1 ((([nm] : List ByteArray) ++ ([itoaS a] : List ByteArray)).length) c1), (37, .agg #[bl true, i64 a, bl false, i64 b, bl false, i64 c, bl true, i64 v]), (38, i64 3), (43, .slice p1 ((([nm] : List ByteArray) ++ ([itoaS a] : List ByteArray)).length) c1), (46, str (itoaS v))])
      refine wpOps_cons' (mN (l := [str (itoaS v)]) (t := 9) (v := fun b => .slice (some ⟨b, 0, none⟩) 1 1) (d := 47) hA hO ?_)
      clear hA hO fr; intro fr w33 b15 hA hO
      replace hA := hA.sb (e' := [(2, str (⟨#[]⟩)), (4, .slice p1 ((([nm] : List ByteArray) ++ ([itoaS a] : List ByteArray)).length) c1), (37, .agg #[bl true, i64 a, bl false, i64 b, bl false, i64 c, bl true, i64 v]), (38, i64 3), (43, .slice p1 ((([nm] : List ByteArray) ++ ([itoaS a] : List ByteArray)).length) c1), (47, .slice (some ⟨b15, 0, none⟩) 1 1)])
      replace hO : Ow Tryd.prog none' w w33 ([(b15, 9, [str (itoaS v)]), (b14, 72, [bl true, i64 v]), (b2, 63, [str nm, bl true, bl false, bl false, bl true, bl false]), (b1, 46, [i64 ((k : Nat) : Int), i64 a, i64 b, i64 c, i64 v])] ++ (T2 ++ ([]))) := hO
      refine wpOps_cons' (mA (f := fT) (el := 9) (sz := 1) (bytes := 16) (p := p1) (c := c1) (l := ([nm] : List ByteArray) ++ ([itoaS a] : List ByteArray)) (l' := ([itoaS v] : List ByteArray)) (T := T2) (t := 40) (tx := 40) (ty := 40) (x := .slice (some ⟨b15, 0, none⟩) 1 1) (d := 48) [(b15, 9, [str (itoaS v)]), (b14, 72, [bl true, i64 v]), (b2, 63, [str nm, bl true, bl false, bl false, bl true, bl false]), (b1, 46, [i64 ((k : Nat) : Int), i64 a, i64 b, i64 c, i64 v])] ([]) encT hA hO hT2 (Vw.src (e' := 9) encT ((hO.b 0).vw (off := 0) (xs := ([itoaS v] : List ByteArray)) (by kernel_rfl)) (by kernel_rfl)) (by simp) (by unfold maxLen; simp) ?_)
      clear hA hO fr; intro fr w34 p4 c4 T5 hA hO hT5
      replace hA := hA.sb (e' := [(2, str (⟨#[]⟩)), (4, .slice p1 ((([nm] : List ByteArray) ++ ([itoaS a] : List ByteArray)).length) c1), (37, .agg #[bl true, i64 a, bl false, i64 b, bl false, i64 c, bl true, i64 v]), (38, i64 3), (48, .slice p4 (((([nm] : List ByteArray) ++ ([itoaS a] : List ByteArray)) ++ ([itoaS v] : List ByteArray)).length) c4)])
      refine ck (l := [6]) (r := []) (e' := [(2, str (⟨#[]⟩)), (4, .slice p4 (((([nm] : List ByteArray) ++ ([itoaS a] : List ByteArray)) ++ ([itoaS v] : List ByteArray)).length) c4), (37, .agg #[bl true, i64 a, bl false, i64 b, bl false, i64 c, bl true, i64 v]), (38, i64 3)]) hA [] c0 ?_
      clear hA fr; intro fr hA
      refine end_ops ?_
      refine inBlock_normal ?_
      refine then_normal ?_
      refine rC (e' := [(2, str (⟨#[]⟩)), (4, .slice p4 (((([nm] : List ByteArray) ++ ([itoaS a] : List ByteArray)) ++ ([itoaS v] : List ByteArray)).length) c4), (37, .agg #[bl true, i64 a, bl false, i64 b, bl false, i64 c, bl true, i64 v]), (38, i64 4)]) 2 hA [bl false] c0 ?_
      clear hA fr; intro fr hA
      refine then_normal ?_
      exact ⟨0, by decide, (.inr (.inr (.inr (.inr ⟨rfl, p4, c4, T5, hA.sb, (Ow.subP (A := [(b15, 9, [str (itoaS v)]), (b14, 72, [bl true, i64 v]), (b2, 63, [str nm, bl true, bl false, bl false, bl true, bl false]), (b1, 46, [i64 ((k : Nat) : Int), i64 a, i64 b, i64 c, i64 v])]) (A' := [(b2, 63, [str nm, bl true, bl false, bl false, bl true, bl false]), (b1, 46, [i64 ((k : Nat) : Int), i64 a, i64 b, i64 c, i64 v])]) (B := T5 ++ ([])) hO (.cons _ (.cons _ (.cons_cons _ (.cons_cons _ .slnil))))), hT5⟩))))⟩
    ·
      refine sC (e' := [(2, str (⟨#[]⟩)), (4, .slice p2 (((([nm] : List ByteArray) ++ ([itoaS a] : List ByteArray)) ++ ([itoaS v] : List ByteArray)).length) c2), (37, .agg #[bl true, i64 a, bl false, i64 b, bl false, i64 c, bl true, i64 v]), (38, i64 4), (39, bl false)]) 1 hA [] c0 ?_
      clear hA fr; intro fr hA
      refine wp_seq ?_
      refine cF hA ?_
      refine wp_exit ?_
      refine then_exit ?_
      refine then_exit ?_
      refine inBlock_exit ?_
      refine then_normal ?_
      refine sR (l := [0, 1, 2]) ?_
      refine ck (l := [0]) (r := [1, 2]) (e' := [(2, str (⟨#[]⟩)), (50, .slice p2 (((([nm] : List ByteArray) ++ ([itoaS a] : List ByteArray)) ++ ([itoaS v] : List ByteArray)).length) c2)]) hA [] c0 ?_
      clear hA fr; intro fr hA
      replace hO : Ow Tryd.prog none' w w20 ([(b2, 63, [str nm, bl true, bl false, bl false, bl true, bl false]), (b1, 46, [i64 ((k : Nat) : Int), i64 a, i64 b, i64 c, i64 v])] ++ (T3 ++ ([]))) := hO
      obtain ⟨b16, r1, rfl, rfl, hle_b16, hcap_b16⟩ := hT3.open (by simp)
      replace hO : Ow Tryd.prog none' w w20 [(b2, 63, [str nm, bl true, bl false, bl false, bl true, bl false]), (b1, 46, [i64 ((k : Nat) : Int), i64 a, i64 b, i64 c, i64 v]), (b16, 9, (((([nm] : List ByteArray) ++ ([itoaS a] : List ByteArray)) ++ ([itoaS v] : List ByteArray)).flatMap fT ++ r1))] := hO.to (by simp only [List.append_assoc, List.cons_append, List.nil_append, List.append_nil])
      refine wpOps_cons' (mK (f := 46) (args := [.slice (some ⟨b16, 0, none⟩) ((([nm] : List ByteArray) ++ ([itoaS a] : List ByteArray)) ++ ([itoaS v] : List ByteArray)).length c2, str (⟨#[32]⟩)]) (d := (some 51)) (v := str (joinS ((([nm] : List ByteArray) ++ ([itoaS a] : List ByteArray)) ++ ([itoaS v] : List ByteArray)))) hA hO Tryd.func46 (join_any b16 0 c2 ((([nm] : List ByteArray) ++ ([itoaS a] : List ByteArray)) ++ ([itoaS v] : List ByteArray)) (⟨#[32]⟩) _ (hO.b 2).strs (hO.b 2).lt (by simp) hle_b16 (by simp [Lib.join, List.intercalate]; try simp at la_; try simp at lb_; try simp at lc_; try simp at lv_; try simp at hnm; omega)) ?_)
      clear hA hO fr; intro fr w35 hA hO
      replace hA := hA.sb (e' := [(2, str (⟨#[]⟩)), (51, str (joinS ((([nm] : List ByteArray) ++ ([itoaS a] : List ByteArray)) ++ ([itoaS v] : List ByteArray))))])
      refine ck (l := [2]) (r := []) (e' := [(2, str (joinS ((([nm] : List ByteArray) ++ ([itoaS a] : List ByteArray)) ++ ([itoaS v] : List ByteArray))))]) hA [] c0 ?_
      clear hA fr; intro fr hA
      refine end_ops ?_
      refine then_normal ?_
      refine wp_ret ?_
      refine cR (cs := [none]) (us := [str (joinS ((([nm] : List ByteArray) ++ ([itoaS a] : List ByteArray)) ++ ([itoaS v] : List ByteArray)))]) hA [] trivial ?_
      have hF := hO.only; clear hA hO
      exact ⟨rfl, hF⟩

theorem show_2 (k : Nat) (a b c v : Int) (nm : ByteArray) (w : World) (hT : Tab w) (hP : Pow w) (h1 : 1 ≤ k) (h2 : k ≤ 22) (hl : legalB ((k : Nat) : Int) a b c v = true) (hnm : nm.data.toList.length ≤ 100) (hrow : RowAt Tryd.prog w 63 k nm true true true false true) :
    Calls Tryd.prog 36 #[.agg #[i64 ((k : Nat) : Int), i64 a, i64 b, i64 c, i64 v]] w fun e w' => e = .returned (.string (joinS ([nm, itoaS a, itoaS b, itoaS c] : List ByteArray))) ∧ Only none' w w' := by
  refine c_enter (args := [.agg #[i64 ((k : Nat) : Int), i64 a, i64 b, i64 c, i64 v]]) (m := 51) (n := 52) Tryd.func36 rfl (by kernel_rfl) (by kernel_rfl) fun fr hA => ?_
  have hO := Ow.nil Tryd.prog none' w
  obtain ⟨ho_, ha_, hb_, hc_, hv_, hc2_⟩ := legal_spec hl; have la_ := itoaS_len a; have lb_ := itoaS_len b; have lc_ := itoaS_len c; have lv_ := itoaS_len v
  refine sR (l := [0, 1]) ?_
  refine wpOps_cons' (mN (l := [i64 ((k : Nat) : Int), i64 a, i64 b, i64 c, i64 v]) (t := 46) (v := pt) (d := 1) hA hO ?_)
  clear hA hO fr; intro fr w1 b1 hA hO
  replace hA := hA.sb (e' := [(1, pt b1)])
  refine ck (l := [1]) (r := []) (e' := [(1, pt b1), (2, str (⟨#[]⟩))]) hA [] c0 ?_
  clear hA fr; intro fr hA
  refine end_ops ?_
  refine then_normal ?_
  refine wp_seq ?_
  refine sR (l := [0, 1, 2]) ?_
  refine ck (l := [0]) (r := [1, 2]) (e' := [(1, pt b1), (2, str (⟨#[]⟩)), (7, .agg #[i64 ((k : Nat) : Int), i64 a, i64 b, i64 c, i64 v])]) hA [.agg #[i64 ((k : Nat) : Int), i64 a, i64 b, i64 c, i64 v]] (cc (hO.ln 0 0 46 [i64 ((k : Nat) : Int), i64 a, i64 b, i64 c, i64 v]) c0) ?_
  clear hA fr; intro fr hA
  refine wpOps_cons' (mK (f := 39) (args := [.agg #[i64 ((k : Nat) : Int), i64 a, i64 b, i64 c, i64 v]]) (d := (some 8)) (v := bl true) hA hO Tryd.func39 (rs (legal_any ((k : Nat) : Int) a b c v _ (hT.keep hO.only (fun h => h))) (congrArg Value.bool hl)) ?_)
  clear hA hO fr; intro fr w2 hA hO
  replace hA := hA.sb (e' := [(1, pt b1), (2, str (⟨#[]⟩)), (8, bl true)])
  refine ck (l := [2]) (r := []) (e' := [(1, pt b1), (2, str (⟨#[]⟩)), (9, bl false)]) hA [] c0 ?_
  clear hA fr; intro fr hA
  refine end_ops ?_
  refine then_normal ?_
  refine cF hA ?_
  refine wp_skip ?_
  refine then_normal ?_
  refine sR (l := (rg 0 6)) ?_
  refine ck (l := [0, 1, 2, 3]) (r := [4, 5]) (e' := [(1, pt b1), (2, str (⟨#[]⟩)), (13, .agg #[str nm, bl true, bl true, bl true, bl false, bl true])]) hA [i64 ((k : Nat) : Int), .agg #[str nm, bl true, bl true, bl true, bl false, bl true]] (cc (hO.l1 0 0 3 (i64 ((k : Nat) : Int))) (cc (⟨by omega, by omega⟩ : (0 : Int) ≤ ((k : Nat) : Int) ∧ ((k : Nat) : Int) < ((23 : Nat) : Int)) (cc ((hrow _ hO.only) : Ld Tryd.prog w2 ((⟨0, 0, none⟩ : Addr).add (k * 6)) 63 (.agg #[str nm, bl true, bl true, bl true, bl false, bl true])) c0))) ?_
  clear hA fr; intro fr hA
  refine wpOps_cons' (mN (l := [str (⟨#[]⟩), bl false, bl false, bl false, bl false, bl false]) (t := 63) (v := pt) (d := 3) hA hO ?_)
  clear hA hO fr; intro fr w3 b2 hA hO
  refine wpOps_cons' (mS (off := 0) (vc := [str nm, bl true, bl true, bl true, bl false, bl true]) 0 hA hO ?_)
  clear hO; intro w4 hO
  replace hA := hA.sb (e' := [(1, pt b1), (2, str (⟨#[]⟩)), (3, pt b2)])
  refine end_ops ?_
  refine then_normal ?_
  refine sR (l := [0, 1, 2, 3]) ?_
  refine ck (l := [0, 1]) (r := [2, 3]) (e' := [(1, pt b1), (2, str (⟨#[]⟩)), (3, pt b2), (15, str nm)]) hA [str nm] (cc (hO.l1 0 0 9 (str nm)) c0) ?_
  clear hA fr; intro fr hA
  refine wpOps_cons' (mN (l := [str nm]) (t := 9) (v := fun b => .slice (some ⟨b, 0, none⟩) 1 1) (d := 16) hA hO ?_)
  clear hA hO fr; intro fr w5 b3 hA hO
  replace hA := hA.sb (e' := [(1, pt b1), (2, str (⟨#[]⟩)), (3, pt b2), (16, .slice (some ⟨b3, 0, none⟩) 1 1)])
  refine ck (l := [3]) (r := []) (e' := [(1, pt b1), (2, str (⟨#[]⟩)), (3, pt b2), (4, .slice (some ⟨b3, 0, none⟩) 1 1)]) hA [] c0 ?_
  clear hA fr; intro fr hA
  refine end_ops ?_
  refine then_normal ?_
  refine wp_seq ?_
  refine sC (e' := [(2, str (⟨#[]⟩)), (4, .slice (some ⟨b3, 0, none⟩) 1 1), (37, .agg #[bl true, i64 a, bl true, i64 b, bl true, i64 c, bl false, i64 v]), (38, i64 0)]) 22 hA [bl true, i64 a, bl true, i64 b, bl true, i64 c, bl false, i64 v] (cc (hO.l1 1 1 4 (bl true)) (cc (hO.l1 2 1 3 (i64 a)) (cc (hO.l1 1 2 4 (bl true)) (cc (hO.l1 2 2 3 (i64 b)) (cc (hO.l1 1 3 4 (bl true)) (cc (hO.l1 2 3 3 (i64 c)) (cc (hO.l1 1 4 4 (bl false)) (cc (hO.l1 2 4 3 (i64 v)) c0)))))))) ?_
  clear hA fr; intro fr hA
  refine wp_block ?_
  have hT1 : One fT 9 1 (some ⟨b3, 0, none⟩) 1 ([nm] : List ByteArray) [(b3, 9, [str nm])] := One.ofBlk (r := []) (by kernel_rfl) (by first | decide | simp) (by decide) (by kernel_rfl)
  replace hO := Ow.move (A := []) (B := [(b2, 63, [str nm, bl true, bl true, bl true, bl false, bl true]), (b1, 46, [i64 ((k : Nat) : Int), i64 a, i64 b, i64 c, i64 v])]) (C := []) (x := (b3, 9, [str nm])) hO
  replace hO : Ow Tryd.prog none' w w5 ([(b2, 63, [str nm, bl true, bl true, bl true, bl false, bl true]), (b1, 46, [i64 ((k : Nat) : Int), i64 a, i64 b, i64 c, i64 v])] ++ ([(b3, 9, [str nm])] ++ ([]))) := hO.to (by simp only [List.append_assoc, List.cons_append, List.nil_append, List.append_nil])
  refine c_loop (fun mm fr W => (mm = 4 ∧ Holds 52 [] fr [(2, str (⟨#[]⟩)), (4, .slice (some ⟨b3, 0, none⟩) 1 1), (37, .agg #[bl true, i64 a, bl true, i64 b, bl true, i64 c, bl false, i64 v]), (38, i64 0)] ∧ Ow Tryd.prog none' w W ([(b2, 63, [str nm, bl true, bl true, bl true, bl false, bl true]), (b1, 46, [i64 ((k : Nat) : Int), i64 a, i64 b, i64 c, i64 v])] ++ ([(b3, 9, [str nm])] ++ ([])))) ∨ (mm = 3 ∧ ∃ (p1 : Option Addr) (c1 : Nat) (T2 : OwL), Holds 52 [] fr [(2, str (⟨#[]⟩)), (4, .slice p1 ((([nm] : List ByteArray) ++ ([itoaS a] : List ByteArray)).length) c1), (37, .agg #[bl true, i64 a, bl true, i64 b, bl true, i64 c, bl false, i64 v]), (38, i64 1)] ∧ Ow Tryd.prog none' w W ([(b2, 63, [str nm, bl true, bl true, bl true, bl false, bl true]), (b1, 46, [i64 ((k : Nat) : Int), i64 a, i64 b, i64 c, i64 v])] ++ (T2 ++ ([]))) ∧ One fT 9 1 p1 c1 (([nm] : List ByteArray) ++ ([itoaS a] : List ByteArray)) T2) ∨ (mm = 2 ∧ ∃ (p2 : Option Addr) (c2 : Nat) (T3 : OwL), Holds 52 [] fr [(2, str (⟨#[]⟩)), (4, .slice p2 (((([nm] : List ByteArray) ++ ([itoaS a] : List ByteArray)) ++ ([itoaS b] : List ByteArray)).length) c2), (37, .agg #[bl true, i64 a, bl true, i64 b, bl true, i64 c, bl false, i64 v]), (38, i64 2)] ∧ Ow Tryd.prog none' w W ([(b2, 63, [str nm, bl true, bl true, bl true, bl false, bl true]), (b1, 46, [i64 ((k : Nat) : Int), i64 a, i64 b, i64 c, i64 v])] ++ (T3 ++ ([]))) ∧ One fT 9 1 p2 c2 ((([nm] : List ByteArray) ++ ([itoaS a] : List ByteArray)) ++ ([itoaS b] : List ByteArray)) T3) ∨ (mm = 1 ∧ ∃ (p3 : Option Addr) (c3 : Nat) (T4 : OwL), Holds 52 [] fr [(2, str (⟨#[]⟩)), (4, .slice p3 ((((([nm] : List ByteArray) ++ ([itoaS a] : List ByteArray)) ++ ([itoaS b] : List ByteArray)) ++ ([itoaS c] : List ByteArray)).length) c3), (37, .agg #[bl true, i64 a, bl true, i64 b, bl true, i64 c, bl false, i64 v]), (38, i64 3)] ∧ Ow Tryd.prog none' w W ([(b2, 63, [str nm, bl true, bl true, bl true, bl false, bl true]), (b1, 46, [i64 ((k : Nat) : Int), i64 a, i64 b, i64 c, i64 v])] ++ (T4 ++ ([]))) ∧ One fT 9 1 p3 c3 (((([nm] : List ByteArray) ++ ([itoaS a] : List ByteArray)) ++ ([itoaS b] : List ByteArray)) ++ ([itoaS c] : List ByteArray)) T4) ∨ (mm = 0 ∧ ∃ (p3 : Option Addr) (c3 : Nat) (T4 : OwL), Holds 52 [] fr [(2, str (⟨#[]⟩)), (4, .slice p3 ((((([nm] : List ByteArray) ++ ([itoaS a] : List ByteArray)) ++ ([itoaS b] : List ByteArray)) ++ ([itoaS c] : List ByteArray)).length) c3), (37, .agg #[bl true, i64 a, bl true, i64 b, bl true, i64 c, bl false, i64 v]), (38, i64 4)] ∧ Ow Tryd.prog none' w W ([(b2, 63, [str nm, bl true, bl true, bl true, bl false, bl true]), (b1, 46, [i64 ((k : Nat) : Int), i64 a, i64 b, i64 c, i64 v])] ++ (T4 ++ ([]))) ∧ One fT 9 1 p3 c3 (((([nm] : List ByteArray) ++ ([itoaS a] : List ByteArray)) ++ ([itoaS b] : List ByteArray)) ++ ([itoaS c] : List ByteArray)) T4)) ?_ ?_
  · exact ⟨_, (.inl ⟨rfl, hA.sb, (hO : Ow Tryd.prog none' w _ ([(b2, 63, [str nm, bl true, bl true, bl true, bl false, bl true]), (b1, 46, [i64 ((k : Nat) : Int), i64 a, i64 b, i64 c, i64 v])] ++ ([(b3, 9, [str nm])] ++ ([]))))⟩)⟩
  · rintro _ fr w23 (⟨rfl, hA, hO⟩ | ⟨rfl, p1, c1, T2, hA, hO, hT2⟩ | ⟨rfl, p2, c2, T3, hA, hO, hT3⟩ | ⟨rfl, p3, c3, T4, hA, hO, hT4⟩ | ⟨rfl, p3, c3, T4, hA, hO, hT4⟩)
    ·
      refine sC (e' := [(2, str (⟨#[]⟩)), (4, .slice (some ⟨b3, 0, none⟩) 1 1), (37, .agg #[bl true, i64 a, bl true, i64 b, bl true, i64 c, bl false, i64 v]), (38, i64 0), (39, bl true)]) 1 hA [] c0 ?_
      clear hA fr; intro fr hA
      refine wp_seq ?_
      refine cT hA ?_
      refine wp_skip ?_
      refine then_normal ?_
      refine wp_seq ?_
      refine wp_block ?_
      refine sR (l := [0, 1, 2]) ?_
      refine ck (l := [0]) (r := [1, 2]) (e' := [(2, str (⟨#[]⟩)), (4, .slice (some ⟨b3, 0, none⟩) 1 1), (37, .agg #[bl true, i64 a, bl true, i64 b, bl true, i64 c, bl false, i64 v]), (38, i64 0), (40, .agg #[bl true, i64 a])]) hA [] c0 ?_
      clear hA fr; intro fr hA
      refine wpOps_cons' (mN (l := [bl false, i64 0]) (t := 72) (v := pt) (d := 6) hA hO ?_)
      clear hA hO fr; intro fr w24 b11 hA hO
      refine wpOps_cons' (mS (off := 0) (vc := [bl true, i64 a]) 0 hA hO ?_)
      clear hO; intro w25 hO
      replace hA := hA.sb (e' := [(2, str (⟨#[]⟩)), (4, .slice (some ⟨b3, 0, none⟩) 1 1), (6, pt b11), (37, .agg #[bl true, i64 a, bl true, i64 b, bl true, i64 c, bl false, i64 v]), (38, i64 0)])
      refine end_ops ?_
      refine then_normal ?_
      refine sC (e' := [(2, str (⟨#[]⟩)), (4, .slice (some ⟨b3, 0, none⟩) 1 1), (6, pt b11), (37, .agg #[bl true, i64 a, bl true, i64 b, bl true, i64 c, bl false, i64 v]), (38, i64 0), (42, bl true)]) 2 hA [bl true] (cc (hO.l1 0 0 4 (bl true)) c0) ?_
      clear hA fr; intro fr hA
      refine cT hA ?_
      refine rR (l := (rg 0 7)) ?_
      refine ck (l := [0, 1, 2]) (r := [3, 4, 5, 6]) (e' := [(2, str (⟨#[]⟩)), (4, .slice (some ⟨b3, 0, none⟩) 1 1), (37, .agg #[bl true, i64 a, bl true, i64 b, bl true, i64 c, bl false, i64 v]), (38, i64 0), (43, .slice (some ⟨b3, 0, none⟩) 1 1), (45, i64 a)]) hA [i64 a] (cc (hO.l1 0 1 3 (i64 a)) c0) ?_
      clear hA fr; intro fr hA
      refine wpOps_cons' (mK (f := 35) (args := [i64 a]) (d := (some 46)) (v := str (itoaS a)) hA hO Tryd.func35 (itoa_any a _ (inK_i64 (by omega) (by omega)) (hP.keep hO.only)) ?_)
      clear hA hO fr; intro fr w26 hA hO
      replace hA := hA.sb (e' := [(2, str (⟨#[]⟩)), (4, .slice (some ⟨b3, 0, none⟩) 1 1), (37, .agg #[bl true, i64 a, bl true, i64 b, bl true, i64 c, bl false, i64 v]), (38, i64 0), (43, .slice (some ⟨b3, 0, none⟩) 1 1), (46, str (itoaS a))])
      refine wpOps_cons' (mN (l := [str (itoaS a)]) (t := 9) (v := fun b => .slice (some ⟨b, 0, none⟩) 1 1) (d := 47) hA hO ?_)
      clear hA hO fr; intro fr w27 b12 hA hO
      replace hA := hA.sb (e' := [(2, str (⟨#[]⟩)), (4, .slice (some ⟨b3, 0, none⟩) 1 1), (37, .agg #[bl true, i64 a, bl true, i64 b, bl true, i64 c, bl false, i64 v]), (38, i64 0), (43, .slice (some ⟨b3, 0, none⟩) 1 1), (47, .slice (some ⟨b12, 0, none⟩) 1 1)])
      replace hO : Ow Tryd.prog none' w w27 ([(b12, 9, [str (itoaS a)]), (b11, 72, [bl true, i64 a]), (b2, 63, [str nm, bl true, bl true, bl true, bl false, bl true]), (b1, 46, [i64 ((k : Nat) : Int), i64 a, i64 b, i64 c, i64 v])] ++ ([(b3, 9, [str nm])] ++ ([]))) := hO
      refine wpOps_cons' (mA (f := fT) (el := 9) (sz := 1) (bytes := 16) (p := some ⟨b3, 0, none⟩) (c := 1) (l := ([nm] : List ByteArray)) (l' := ([itoaS a] : List ByteArray)) (T := [(b3, 9, [str nm])]) (t := 40) (tx := 40) (ty := 40) (x := .slice (some ⟨b12, 0, none⟩) 1 1) (d := 48) [(b12, 9, [str (itoaS a)]), (b11, 72, [bl true, i64 a]), (b2, 63, [str nm, bl true, bl true, bl true, bl false, bl true]), (b1, 46, [i64 ((k : Nat) : Int), i64 a, i64 b, i64 c, i64 v])] ([]) encT hA hO hT1 (Vw.src (e' := 9) encT ((hO.b 0).vw (off := 0) (xs := ([itoaS a] : List ByteArray)) (by kernel_rfl)) (by kernel_rfl)) (by simp) (by unfold maxLen; simp) ?_)
      clear hA hO fr; intro fr w28 p4 c4 T5 hA hO hT5
      replace hA := hA.sb (e' := [(2, str (⟨#[]⟩)), (4, .slice (some ⟨b3, 0, none⟩) 1 1), (37, .agg #[bl true, i64 a, bl true, i64 b, bl true, i64 c, bl false, i64 v]), (38, i64 0), (48, .slice p4 ((([nm] : List ByteArray) ++ ([itoaS a] : List ByteArray)).length) c4)])
      refine ck (l := [6]) (r := []) (e' := [(2, str (⟨#[]⟩)), (4, .slice p4 ((([nm] : List ByteArray) ++ ([itoaS a] : List ByteArray)).length) c4), (37, .agg #[bl true, i64 a, bl true, i64 b, bl true, i64 c, bl false, i64 v]), (38, i64 0)]) hA [] c0 ?_
      clear hA fr; intro fr hA
      refine end_ops ?_
      refine inBlock_normal ?_
      refine then_normal ?_
      refine rC (e' := [(2, str (⟨#[]⟩)), (4, .slice p4 ((([nm] : List ByteArray) ++ ([itoaS a] : List ByteArray)).length) c4), (37, .agg #[bl true, i64 a, bl true, i64 b, bl true, i64 c, bl false, i64 v]), (38, i64 1)]) 2 hA [bl false] c0 ?_
      clear hA fr; intro fr hA
      refine then_normal ?_
      exact ⟨3, by decide, (.inr (.inl ⟨rfl, p4, c4, T5, hA.sb, (Ow.subP (A := [(b12, 9, [str (itoaS a)]), (b11, 72, [bl true, i64 a]), (b2, 63, [str nm, bl true, bl true, bl true, bl false, bl true]), (b1, 46, [i64 ((k : Nat) : Int), i64 a, i64 b, i64 c, i64 v])]) (A' := [(b2, 63, [str nm, bl true, bl true, bl true, bl false, bl true]), (b1, 46, [i64 ((k : Nat) : Int), i64 a, i64 b, i64 c, i64 v])]) (B := T5 ++ ([])) hO (.cons _ (.cons _ (.cons_cons _ (.cons_cons _ .slnil))))), hT5⟩))⟩
    ·
      refine sC (e' := [(2, str (⟨#[]⟩)), (4, .slice p1 ((([nm] : List ByteArray) ++ ([itoaS a] : List ByteArray)).length) c1), (37, .agg #[bl true, i64 a, bl true, i64 b, bl true, i64 c, bl false, i64 v]), (38, i64 1), (39, bl true)]) 1 hA [] c0 ?_
      clear hA fr; intro fr hA
      refine wp_seq ?_
      refine cT hA ?_
      refine wp_skip ?_
      refine then_normal ?_
      refine wp_seq ?_
      refine wp_block ?_
      refine sR (l := [0, 1, 2]) ?_
      refine ck (l := [0]) (r := [1, 2]) (e' := [(2, str (⟨#[]⟩)), (4, .slice p1 ((([nm] : List ByteArray) ++ ([itoaS a] : List ByteArray)).length) c1), (37, .agg #[bl true, i64 a, bl true, i64 b, bl true, i64 c, bl false, i64 v]), (38, i64 1), (40, .agg #[bl true, i64 b])]) hA [] c0 ?_
      clear hA fr; intro fr hA
      refine wpOps_cons' (mN (l := [bl false, i64 0]) (t := 72) (v := pt) (d := 6) hA hO ?_)
      clear hA hO fr; intro fr w29 b13 hA hO
      refine wpOps_cons' (mS (off := 0) (vc := [bl true, i64 b]) 0 hA hO ?_)
      clear hO; intro w30 hO
      replace hA := hA.sb (e' := [(2, str (⟨#[]⟩)), (4, .slice p1 ((([nm] : List ByteArray) ++ ([itoaS a] : List ByteArray)).length) c1), (6, pt b13), (37, .agg #[bl true, i64 a, bl true, i64 b, bl true, i64 c, bl false, i64 v]), (38, i64 1)])
      refine end_ops ?_
      refine then_normal ?_
      refine sC (e' := [(2, str (⟨#[]⟩)), (4, .slice p1 ((([nm] : List ByteArray) ++ ([itoaS a] : List ByteArray)).length) c1), (6, pt b13), (37, .agg #[bl true, i64 a, bl true, i64 b, bl true, i64 c, bl false, i64 v]), (38, i64 1), (42, bl true)]) 2 hA [bl true] (cc (hO.l1 0 0 4 (bl true)) c0) ?_
      clear hA fr; intro fr hA
      refine cT hA ?_
      refine rR (l := (rg 0 7)) ?_
      refine ck (l := [0, 1, 2]) (r := [3, 4, 5, 6]) (e' := [(2, str (⟨#[]⟩)), (4, .slice p1 ((([nm] : List ByteArray) ++ ([itoaS a] : List ByteArray)).length) c1), (37, .agg #[bl true, i64 a, bl true, i64 b, bl true, i64 c, bl false, i64 v]), (38, i64 1), (43, .slice p1 ((([nm] : List ByteArray) ++ ([itoaS a] : List ByteArray)).length) c1), (45, i64 b)]) hA [i64 b] (cc (hO.l1 0 1 3 (i64 b)) c0) ?_
      clear hA fr; intro fr hA
      refine wpOps_cons' (mK (f := 35) (args := [i64 b]) (d := (some 46)) (v := str (itoaS b)) hA hO Tryd.func35 (itoa_any b _ (inK_i64 (by omega) (by omega)) (hP.keep hO.only)) ?_)
      clear hA hO fr; intro fr w31 hA hO
      replace hA := hA.sb (e' := [(2, str (⟨#[]⟩)), (4, .slice p1 ((([nm] : List ByteArray) ++ ([itoaS a] : List ByteArray)).length) c1), (37, .agg #[bl true, i64 a, bl true, i64 b, bl true, i64 c, bl false, i64 v]), (38, i64 1), (43, .slice p1 ((([nm] : List ByteArray) ++ ([itoaS a] : List ByteArray)).length) c1), (46, str (itoaS b))])
      refine wpOps_cons' (mN (l := [str (itoaS b)]) (t := 9) (v := fun b => .slice (some ⟨b, 0, none⟩) 1 1) (d := 47) hA hO ?_)
      clear hA hO fr; intro fr w32 b14 hA hO
      replace hA := hA.sb (e' := [(2, str (⟨#[]⟩)), (4, .slice p1 ((([nm] : List ByteArray) ++ ([itoaS a] : List ByteArray)).length) c1), (37, .agg #[bl true, i64 a, bl true, i64 b, bl true, i64 c, bl false, i64 v]), (38, i64 1), (43, .slice p1 ((([nm] : List ByteArray) ++ ([itoaS a] : List ByteArray)).length) c1), (47, .slice (some ⟨b14, 0, none⟩) 1 1)])
      replace hO : Ow Tryd.prog none' w w32 ([(b14, 9, [str (itoaS b)]), (b13, 72, [bl true, i64 b]), (b2, 63, [str nm, bl true, bl true, bl true, bl false, bl true]), (b1, 46, [i64 ((k : Nat) : Int), i64 a, i64 b, i64 c, i64 v])] ++ (T2 ++ ([]))) := hO
      refine wpOps_cons' (mA (f := fT) (el := 9) (sz := 1) (bytes := 16) (p := p1) (c := c1) (l := ([nm] : List ByteArray) ++ ([itoaS a] : List ByteArray)) (l' := ([itoaS b] : List ByteArray)) (T := T2) (t := 40) (tx := 40) (ty := 40) (x := .slice (some ⟨b14, 0, none⟩) 1 1) (d := 48) [(b14, 9, [str (itoaS b)]), (b13, 72, [bl true, i64 b]), (b2, 63, [str nm, bl true, bl true, bl true, bl false, bl true]), (b1, 46, [i64 ((k : Nat) : Int), i64 a, i64 b, i64 c, i64 v])] ([]) encT hA hO hT2 (Vw.src (e' := 9) encT ((hO.b 0).vw (off := 0) (xs := ([itoaS b] : List ByteArray)) (by kernel_rfl)) (by kernel_rfl)) (by simp) (by unfold maxLen; simp) ?_)
      clear hA hO fr; intro fr w33 p5 c5 T6 hA hO hT6
      replace hA := hA.sb (e' := [(2, str (⟨#[]⟩)), (4, .slice p1 ((([nm] : List ByteArray) ++ ([itoaS a] : List ByteArray)).length) c1), (37, .agg #[bl true, i64 a, bl true, i64 b, bl true, i64 c, bl false, i64 v]), (38, i64 1), (48, .slice p5 (((([nm] : List ByteArray) ++ ([itoaS a] : List ByteArray)) ++ ([itoaS b] : List ByteArray)).length) c5)])
      refine ck (l := [6]) (r := []) (e' := [(2, str (⟨#[]⟩)), (4, .slice p5 (((([nm] : List ByteArray) ++ ([itoaS a] : List ByteArray)) ++ ([itoaS b] : List ByteArray)).length) c5), (37, .agg #[bl true, i64 a, bl true, i64 b, bl true, i64 c, bl false, i64 v]), (38, i64 1)]) hA [] c0 ?_
      clear hA fr; intro fr hA
      refine end_ops ?_
      refine inBlock_normal ?_
      refine then_normal ?_
      refine rC (e' := [(2, str (⟨#[]⟩)), (4, .slice p5 (((([nm] : List ByteArray) ++ ([itoaS a] : List ByteArray)) ++ ([itoaS b] : List ByteArray)).length) c5), (37, .agg #[bl true, i64 a, bl true, i64 b, bl true, i64 c, bl false, i64 v]), (38, i64 2)]) 2 hA [bl false] c0 ?_
      clear hA fr; intro fr hA
      refine then_normal ?_
      exact ⟨2, by decide, (.inr (.inr (.inl ⟨rfl, p5, c5, T6, hA.sb, (Ow.subP (A := [(b14, 9, [str (itoaS b)]), (b13, 72, [bl true, i64 b]), (b2, 63, [str nm, bl true, bl true, bl true, bl false, bl true]), (b1, 46, [i64 ((k : Nat) : Int), i64 a, i64 b, i64 c, i64 v])]) (A' := [(b2, 63, [str nm, bl true, bl true, bl true, bl false, bl true]), (b1, 46, [i64 ((k : Nat) : Int), i64 a, i64 b, i64 c, i64 v])]) (B := T6 ++ ([])) hO (.cons _ (.cons _ (.cons_cons _ (.cons_cons _ .slnil))))), hT6⟩)))⟩
    ·
      refine sC (e' := [(2, str (⟨#[]⟩)), (4, .slice p2 (((([nm] : List ByteArray) ++ ([itoaS a] : List ByteArray)) ++ ([itoaS b] : List ByteArray)).length) c2), (37, .agg #[bl true, i64 a, bl true, i64 b, bl true, i64 c, bl false, i64 v]), (38, i64 2), (39, bl true)]) 1 hA [] c0 ?_
      clear hA fr; intro fr hA
      refine wp_seq ?_
      refine cT hA ?_
      refine wp_skip ?_
      refine then_normal ?_
      refine wp_seq ?_
      refine wp_block ?_
      refine sR (l := [0, 1, 2]) ?_
      refine ck (l := [0]) (r := [1, 2]) (e' := [(2, str (⟨#[]⟩)), (4, .slice p2 (((([nm] : List ByteArray) ++ ([itoaS a] : List ByteArray)) ++ ([itoaS b] : List ByteArray)).length) c2), (37, .agg #[bl true, i64 a, bl true, i64 b, bl true, i64 c, bl false, i64 v]), (38, i64 2), (40, .agg #[bl true, i64 c])]) hA [] c0 ?_
      clear hA fr; intro fr hA
      refine wpOps_cons' (mN (l := [bl false, i64 0]) (t := 72) (v := pt) (d := 6) hA hO ?_)
      clear hA hO fr; intro fr w34 b15 hA hO
      refine wpOps_cons' (mS (off := 0) (vc := [bl true, i64 c]) 0 hA hO ?_)
      clear hO; intro w35 hO
      replace hA := hA.sb (e' := [(2, str (⟨#[]⟩)), (4, .slice p2 (((([nm] : List ByteArray) ++ ([itoaS a] : List ByteArray)) ++ ([itoaS b] : List ByteArray)).length) c2), (6, pt b15), (37, .agg #[bl true, i64 a, bl true, i64 b, bl true, i64 c, bl false, i64 v]), (38, i64 2)])
      refine end_ops ?_
      refine then_normal ?_
      refine sC (e' := [(2, str (⟨#[]⟩)), (4, .slice p2 (((([nm] : List ByteArray) ++ ([itoaS a] : List ByteArray)) ++ ([itoaS b] : List ByteArray)).length) c2), (6, pt b15), (37, .agg #[bl true, i64 a, bl true, i64 b, bl true, i64 c, bl false, i64 v]), (38, i64 2), (42, bl true)]) 2 hA [bl true] (cc (hO.l1 0 0 4 (bl true)) c0) ?_
      clear hA fr; intro fr hA
      refine cT hA ?_
      refine rR (l := (rg 0 7)) ?_
      refine ck (l := [0, 1, 2]) (r := [3, 4, 5, 6]) (e' := [(2, str (⟨#[]⟩)), (4, .slice p2 (((([nm] : List ByteArray) ++ ([itoaS a] : List ByteArray)) ++ ([itoaS b] : List ByteArray)).length) c2), (37, .agg #[bl true, i64 a, bl true, i64 b, bl true, i64 c, bl false, i64 v]), (38, i64 2), (43, .slice p2 (((([nm] : List ByteArray) ++ ([itoaS a] : List ByteArray)) ++ ([itoaS b] : List ByteArray)).length) c2), (45, i64 c)]) hA [i64 c] (cc (hO.l1 0 1 3 (i64 c)) c0) ?_
      clear hA fr; intro fr hA
      refine wpOps_cons' (mK (f := 35) (args := [i64 c]) (d := (some 46)) (v := str (itoaS c)) hA hO Tryd.func35 (itoa_any c _ (inK_i64 (by omega) (by omega)) (hP.keep hO.only)) ?_)
      clear hA hO fr; intro fr w36 hA hO
      replace hA := hA.sb (e' := [(2, str (⟨#[]⟩)), (4, .slice p2 (((([nm] : List ByteArray) ++ ([itoaS a] : List ByteArray)) ++ ([itoaS b] : List ByteArray)).length) c2), (37, .agg #[bl true, i64 a, bl true, i64 b, bl true, i64 c, bl false, i64 v]), (38, i64 2), (43, .slice p2 (((([nm] : List ByteArray) ++ ([itoaS a] : List ByteArray)) ++ ([itoaS b] : List ByteArray)).length) c2), (46, str (itoaS c))])
      refine wpOps_cons' (mN (l := [str (itoaS c)]) (t := 9) (v := fun b => .slice (some ⟨b, 0, none⟩) 1 1) (d := 47) hA hO ?_)
      clear hA hO fr; intro fr w37 b16 hA hO
      replace hA := hA.sb (e' := [(2, str (⟨#[]⟩)), (4, .slice p2 (((([nm] : List ByteArray) ++ ([itoaS a] : List ByteArray)) ++ ([itoaS b] : List ByteArray)).length) c2), (37, .agg #[bl true, i64 a, bl true, i64 b, bl true, i64 c, bl false, i64 v]), (38, i64 2), (43, .slice p2 (((([nm] : List ByteArray) ++ ([itoaS a] : List ByteArray)) ++ ([itoaS b] : List ByteArray)).length) c2), (47, .slice (some ⟨b16, 0, none⟩) 1 1)])
      replace hO : Ow Tryd.prog none' w w37 ([(b16, 9, [str (itoaS c)]), (b15, 72, [bl true, i64 c]), (b2, 63, [str nm, bl true, bl true, bl true, bl false, bl true]), (b1, 46, [i64 ((k : Nat) : Int), i64 a, i64 b, i64 c, i64 v])] ++ (T3 ++ ([]))) := hO
      refine wpOps_cons' (mA (f := fT) (el := 9) (sz := 1) (bytes := 16) (p := p2) (c := c2) (l := (([nm] : List ByteArray) ++ ([itoaS a] : List ByteArray)) ++ ([itoaS b] : List ByteArray)) (l' := ([itoaS c] : List ByteArray)) (T := T3) (t := 40) (tx := 40) (ty := 40) (x := .slice (some ⟨b16, 0, none⟩) 1 1) (d := 48) [(b16, 9, [str (itoaS c)]), (b15, 72, [bl true, i64 c]), (b2, 63, [str nm, bl true, bl true, bl true, bl false, bl true]), (b1, 46, [i64 ((k : Nat) : Int), i64 a, i64 b, i64 c, i64 v])] ([]) encT hA hO hT3 (Vw.src (e' := 9) encT ((hO.b 0).vw (off := 0) (xs := ([itoaS c] : List ByteArray)) (by kernel_rfl)) (by kernel_rfl)) (by simp) (by unfold maxLen; simp) ?_)
      clear hA hO fr; intro fr w38 p6 c6 T7 hA hO hT7
      replace hA := hA.sb (e' := [(2, str (⟨#[]⟩)), (4, .slice p2 (((([nm] : List ByteArray) ++ ([itoaS a] : List ByteArray)) ++ ([itoaS b] : List ByteArray)).length) c2), (37, .agg #[bl true, i64 a, bl true, i64 b, bl true, i64 c, bl false, i64 v]), (38, i64 2), (48, .slice p6 ((((([nm] : List ByteArray) ++ ([itoaS a] : List ByteArray)) ++ ([itoaS b] : List ByteArray)) ++ ([itoaS c] : List ByteArray)).length) c6)])
      refine ck (l := [6]) (r := []) (e' := [(2, str (⟨#[]⟩)), (4, .slice p6 ((((([nm] : List ByteArray) ++ ([itoaS a] : List ByteArray)) ++ ([itoaS b] : List ByteArray)) ++ ([itoaS c] : List ByteArray)).length) c6), (37, .agg #[bl true, i64 a, bl true, i64 b, bl true, i64 c, bl false, i64 v]), (38, i64 2)]) hA [] c0 ?_
      clear hA fr; intro fr hA
      refine end_ops ?_
      refine inBlock_normal ?_
      refine then_normal ?_
      refine rC (e' := [(2, str (⟨#[]⟩)), (4, .slice p6 ((((([nm] : List ByteArray) ++ ([itoaS a] : List ByteArray)) ++ ([itoaS b] : List ByteArray)) ++ ([itoaS c] : List ByteArray)).length) c6), (37, .agg #[bl true, i64 a, bl true, i64 b, bl true, i64 c, bl false, i64 v]), (38, i64 3)]) 2 hA [bl false] c0 ?_
      clear hA fr; intro fr hA
      refine then_normal ?_
      exact ⟨1, by decide, (.inr (.inr (.inr (.inl ⟨rfl, p6, c6, T7, hA.sb, (Ow.subP (A := [(b16, 9, [str (itoaS c)]), (b15, 72, [bl true, i64 c]), (b2, 63, [str nm, bl true, bl true, bl true, bl false, bl true]), (b1, 46, [i64 ((k : Nat) : Int), i64 a, i64 b, i64 c, i64 v])]) (A' := [(b2, 63, [str nm, bl true, bl true, bl true, bl false, bl true]), (b1, 46, [i64 ((k : Nat) : Int), i64 a, i64 b, i64 c, i64 v])]) (B := T7 ++ ([])) hO (.cons _ (.cons _ (.cons_cons _ (.cons_cons _ .slnil))))), hT7⟩))))⟩
    ·
      refine sC (e' := [(2, str (⟨#[]⟩)), (4, .slice p3 ((((([nm] : List ByteArray) ++ ([itoaS a] : List ByteArray)) ++ ([itoaS b] : List ByteArray)) ++ ([itoaS c] : List ByteArray)).length) c3), (37, .agg #[bl true, i64 a, bl true, i64 b, bl true, i64 c, bl false, i64 v]), (38, i64 3), (39, bl true)]) 1 hA [] c0 ?_
      clear hA fr; intro fr hA
      refine wp_seq ?_
      refine cT hA ?_
      refine wp_skip ?_
      refine then_normal ?_
      refine wp_seq ?_
      refine wp_block ?_
      refine sR (l := [0, 1, 2]) ?_
      refine ck (l := [0]) (r := [1, 2]) (e' := [(2, str (⟨#[]⟩)), (4, .slice p3 ((((([nm] : List ByteArray) ++ ([itoaS a] : List ByteArray)) ++ ([itoaS b] : List ByteArray)) ++ ([itoaS c] : List ByteArray)).length) c3), (37, .agg #[bl true, i64 a, bl true, i64 b, bl true, i64 c, bl false, i64 v]), (38, i64 3), (40, .agg #[bl false, i64 v])]) hA [] c0 ?_
      clear hA fr; intro fr hA
      refine wpOps_cons' (mN (l := [bl false, i64 0]) (t := 72) (v := pt) (d := 6) hA hO ?_)
      clear hA hO fr; intro fr w39 b17 hA hO
      refine wpOps_cons' (mS (off := 0) (vc := [bl false, i64 v]) 0 hA hO ?_)
      clear hO; intro w40 hO
      replace hA := hA.sb (e' := [(2, str (⟨#[]⟩)), (4, .slice p3 ((((([nm] : List ByteArray) ++ ([itoaS a] : List ByteArray)) ++ ([itoaS b] : List ByteArray)) ++ ([itoaS c] : List ByteArray)).length) c3), (6, pt b17), (37, .agg #[bl true, i64 a, bl true, i64 b, bl true, i64 c, bl false, i64 v]), (38, i64 3)])
      refine end_ops ?_
      refine then_normal ?_
      refine sC (e' := [(2, str (⟨#[]⟩)), (4, .slice p3 ((((([nm] : List ByteArray) ++ ([itoaS a] : List ByteArray)) ++ ([itoaS b] : List ByteArray)) ++ ([itoaS c] : List ByteArray)).length) c3), (6, pt b17), (37, .agg #[bl true, i64 a, bl true, i64 b, bl true, i64 c, bl false, i64 v]), (38, i64 3), (42, bl false)]) 2 hA [bl false] (cc (hO.l1 0 0 4 (bl false)) c0) ?_
      clear hA fr; intro fr hA
      refine cF hA ?_
      refine wp_skip ?_
      refine inBlock_normal ?_
      refine then_normal ?_
      refine rC (e' := [(2, str (⟨#[]⟩)), (4, .slice p3 ((((([nm] : List ByteArray) ++ ([itoaS a] : List ByteArray)) ++ ([itoaS b] : List ByteArray)) ++ ([itoaS c] : List ByteArray)).length) c3), (37, .agg #[bl true, i64 a, bl true, i64 b, bl true, i64 c, bl false, i64 v]), (38, i64 4)]) 2 hA [bl false] c0 ?_
      clear hA fr; intro fr hA
      refine then_normal ?_
      exact ⟨0, by decide, (.inr (.inr (.inr (.inr ⟨rfl, p3, c3, T4, hA.sb, (Ow.subP (A := [(b17, 72, [bl false, i64 v]), (b2, 63, [str nm, bl true, bl true, bl true, bl false, bl true]), (b1, 46, [i64 ((k : Nat) : Int), i64 a, i64 b, i64 c, i64 v])]) (A' := [(b2, 63, [str nm, bl true, bl true, bl true, bl false, bl true]), (b1, 46, [i64 ((k : Nat) : Int), i64 a, i64 b, i64 c, i64 v])]) (B := T4 ++ ([])) hO (.cons _ (.cons_cons _ (.cons_cons _ .slnil)))), hT4⟩))))⟩
    ·
      refine sC (e' := [(2, str (⟨#[]⟩)), (4, .slice p3 ((((([nm] : List ByteArray) ++ ([itoaS a] : List ByteArray)) ++ ([itoaS b] : List ByteArray)) ++ ([itoaS c] : List ByteArray)).length) c3), (37, .agg #[bl true, i64 a, bl true, i64 b, bl true, i64 c, bl false, i64 v]), (38, i64 4), (39, bl false)]) 1 hA [] c0 ?_
      clear hA fr; intro fr hA
      refine wp_seq ?_
      refine cF hA ?_
      refine wp_exit ?_
      refine then_exit ?_
      refine then_exit ?_
      refine inBlock_exit ?_
      refine then_normal ?_
      refine sR (l := [0, 1, 2]) ?_
      refine ck (l := [0]) (r := [1, 2]) (e' := [(2, str (⟨#[]⟩)), (50, .slice p3 ((((([nm] : List ByteArray) ++ ([itoaS a] : List ByteArray)) ++ ([itoaS b] : List ByteArray)) ++ ([itoaS c] : List ByteArray)).length) c3)]) hA [] c0 ?_
      clear hA fr; intro fr hA
      replace hO : Ow Tryd.prog none' w w23 ([(b2, 63, [str nm, bl true, bl true, bl true, bl false, bl true]), (b1, 46, [i64 ((k : Nat) : Int), i64 a, i64 b, i64 c, i64 v])] ++ (T4 ++ ([]))) := hO
      obtain ⟨b18, r1, rfl, rfl, hle_b18, hcap_b18⟩ := hT4.open (by simp)
      replace hO : Ow Tryd.prog none' w w23 [(b2, 63, [str nm, bl true, bl true, bl true, bl false, bl true]), (b1, 46, [i64 ((k : Nat) : Int), i64 a, i64 b, i64 c, i64 v]), (b18, 9, ((((([nm] : List ByteArray) ++ ([itoaS a] : List ByteArray)) ++ ([itoaS b] : List ByteArray)) ++ ([itoaS c] : List ByteArray)).flatMap fT ++ r1))] := hO.to (by simp only [List.append_assoc, List.cons_append, List.nil_append, List.append_nil])
      refine wpOps_cons' (mK (f := 46) (args := [.slice (some ⟨b18, 0, none⟩) (((([nm] : List ByteArray) ++ ([itoaS a] : List ByteArray)) ++ ([itoaS b] : List ByteArray)) ++ ([itoaS c] : List ByteArray)).length c3, str (⟨#[32]⟩)]) (d := (some 51)) (v := str (joinS (((([nm] : List ByteArray) ++ ([itoaS a] : List ByteArray)) ++ ([itoaS b] : List ByteArray)) ++ ([itoaS c] : List ByteArray)))) hA hO Tryd.func46 (join_any b18 0 c3 (((([nm] : List ByteArray) ++ ([itoaS a] : List ByteArray)) ++ ([itoaS b] : List ByteArray)) ++ ([itoaS c] : List ByteArray)) (⟨#[32]⟩) _ (hO.b 2).strs (hO.b 2).lt (by simp) hle_b18 (by simp [Lib.join, List.intercalate]; try simp at la_; try simp at lb_; try simp at lc_; try simp at lv_; try simp at hnm; omega)) ?_)
      clear hA hO fr; intro fr w41 hA hO
      replace hA := hA.sb (e' := [(2, str (⟨#[]⟩)), (51, str (joinS (((([nm] : List ByteArray) ++ ([itoaS a] : List ByteArray)) ++ ([itoaS b] : List ByteArray)) ++ ([itoaS c] : List ByteArray))))])
      refine ck (l := [2]) (r := []) (e' := [(2, str (joinS (((([nm] : List ByteArray) ++ ([itoaS a] : List ByteArray)) ++ ([itoaS b] : List ByteArray)) ++ ([itoaS c] : List ByteArray))))]) hA [] c0 ?_
      clear hA fr; intro fr hA
      refine end_ops ?_
      refine then_normal ?_
      refine wp_ret ?_
      refine cR (cs := [none]) (us := [str (joinS (((([nm] : List ByteArray) ++ ([itoaS a] : List ByteArray)) ++ ([itoaS b] : List ByteArray)) ++ ([itoaS c] : List ByteArray)))]) hA [] trivial ?_
      have hF := hO.only; clear hA hO
      exact ⟨rfl, hF⟩

theorem show_3 (k : Nat) (a b c v : Int) (nm : ByteArray) (w : World) (hT : Tab w) (hP : Pow w) (h1 : 1 ≤ k) (h2 : k ≤ 22) (hl : legalB ((k : Nat) : Int) a b c v = true) (hnm : nm.data.toList.length ≤ 100) (hrow : RowAt Tryd.prog w 63 k nm true true true false false) :
    Calls Tryd.prog 36 #[.agg #[i64 ((k : Nat) : Int), i64 a, i64 b, i64 c, i64 v]] w fun e w' => e = .returned (.string (joinS ([nm, itoaS a, itoaS b, itoaS c] : List ByteArray))) ∧ Only none' w w' := by
  refine c_enter (args := [.agg #[i64 ((k : Nat) : Int), i64 a, i64 b, i64 c, i64 v]]) (m := 51) (n := 52) Tryd.func36 rfl (by kernel_rfl) (by kernel_rfl) fun fr hA => ?_
  have hO := Ow.nil Tryd.prog none' w
  obtain ⟨ho_, ha_, hb_, hc_, hv_, hc2_⟩ := legal_spec hl; have la_ := itoaS_len a; have lb_ := itoaS_len b; have lc_ := itoaS_len c; have lv_ := itoaS_len v
  refine sR (l := [0, 1]) ?_
  refine wpOps_cons' (mN (l := [i64 ((k : Nat) : Int), i64 a, i64 b, i64 c, i64 v]) (t := 46) (v := pt) (d := 1) hA hO ?_)
  clear hA hO fr; intro fr w1 b1 hA hO
  replace hA := hA.sb (e' := [(1, pt b1)])
  refine ck (l := [1]) (r := []) (e' := [(1, pt b1), (2, str (⟨#[]⟩))]) hA [] c0 ?_
  clear hA fr; intro fr hA
  refine end_ops ?_
  refine then_normal ?_
  refine wp_seq ?_
  refine sR (l := [0, 1, 2]) ?_
  refine ck (l := [0]) (r := [1, 2]) (e' := [(1, pt b1), (2, str (⟨#[]⟩)), (7, .agg #[i64 ((k : Nat) : Int), i64 a, i64 b, i64 c, i64 v])]) hA [.agg #[i64 ((k : Nat) : Int), i64 a, i64 b, i64 c, i64 v]] (cc (hO.ln 0 0 46 [i64 ((k : Nat) : Int), i64 a, i64 b, i64 c, i64 v]) c0) ?_
  clear hA fr; intro fr hA
  refine wpOps_cons' (mK (f := 39) (args := [.agg #[i64 ((k : Nat) : Int), i64 a, i64 b, i64 c, i64 v]]) (d := (some 8)) (v := bl true) hA hO Tryd.func39 (rs (legal_any ((k : Nat) : Int) a b c v _ (hT.keep hO.only (fun h => h))) (congrArg Value.bool hl)) ?_)
  clear hA hO fr; intro fr w2 hA hO
  replace hA := hA.sb (e' := [(1, pt b1), (2, str (⟨#[]⟩)), (8, bl true)])
  refine ck (l := [2]) (r := []) (e' := [(1, pt b1), (2, str (⟨#[]⟩)), (9, bl false)]) hA [] c0 ?_
  clear hA fr; intro fr hA
  refine end_ops ?_
  refine then_normal ?_
  refine cF hA ?_
  refine wp_skip ?_
  refine then_normal ?_
  refine sR (l := (rg 0 6)) ?_
  refine ck (l := [0, 1, 2, 3]) (r := [4, 5]) (e' := [(1, pt b1), (2, str (⟨#[]⟩)), (13, .agg #[str nm, bl true, bl true, bl true, bl false, bl false])]) hA [i64 ((k : Nat) : Int), .agg #[str nm, bl true, bl true, bl true, bl false, bl false]] (cc (hO.l1 0 0 3 (i64 ((k : Nat) : Int))) (cc (⟨by omega, by omega⟩ : (0 : Int) ≤ ((k : Nat) : Int) ∧ ((k : Nat) : Int) < ((23 : Nat) : Int)) (cc ((hrow _ hO.only) : Ld Tryd.prog w2 ((⟨0, 0, none⟩ : Addr).add (k * 6)) 63 (.agg #[str nm, bl true, bl true, bl true, bl false, bl false])) c0))) ?_
  clear hA fr; intro fr hA
  refine wpOps_cons' (mN (l := [str (⟨#[]⟩), bl false, bl false, bl false, bl false, bl false]) (t := 63) (v := pt) (d := 3) hA hO ?_)
  clear hA hO fr; intro fr w3 b2 hA hO
  refine wpOps_cons' (mS (off := 0) (vc := [str nm, bl true, bl true, bl true, bl false, bl false]) 0 hA hO ?_)
  clear hO; intro w4 hO
  replace hA := hA.sb (e' := [(1, pt b1), (2, str (⟨#[]⟩)), (3, pt b2)])
  refine end_ops ?_
  refine then_normal ?_
  refine sR (l := [0, 1, 2, 3]) ?_
  refine ck (l := [0, 1]) (r := [2, 3]) (e' := [(1, pt b1), (2, str (⟨#[]⟩)), (3, pt b2), (15, str nm)]) hA [str nm] (cc (hO.l1 0 0 9 (str nm)) c0) ?_
  clear hA fr; intro fr hA
  refine wpOps_cons' (mN (l := [str nm]) (t := 9) (v := fun b => .slice (some ⟨b, 0, none⟩) 1 1) (d := 16) hA hO ?_)
  clear hA hO fr; intro fr w5 b3 hA hO
  replace hA := hA.sb (e' := [(1, pt b1), (2, str (⟨#[]⟩)), (3, pt b2), (16, .slice (some ⟨b3, 0, none⟩) 1 1)])
  refine ck (l := [3]) (r := []) (e' := [(1, pt b1), (2, str (⟨#[]⟩)), (3, pt b2), (4, .slice (some ⟨b3, 0, none⟩) 1 1)]) hA [] c0 ?_
  clear hA fr; intro fr hA
  refine end_ops ?_
  refine then_normal ?_
  refine wp_seq ?_
  refine sC (e' := [(2, str (⟨#[]⟩)), (4, .slice (some ⟨b3, 0, none⟩) 1 1), (37, .agg #[bl true, i64 a, bl true, i64 b, bl true, i64 c, bl false, i64 v]), (38, i64 0)]) 22 hA [bl true, i64 a, bl true, i64 b, bl true, i64 c, bl false, i64 v] (cc (hO.l1 1 1 4 (bl true)) (cc (hO.l1 2 1 3 (i64 a)) (cc (hO.l1 1 2 4 (bl true)) (cc (hO.l1 2 2 3 (i64 b)) (cc (hO.l1 1 3 4 (bl true)) (cc (hO.l1 2 3 3 (i64 c)) (cc (hO.l1 1 4 4 (bl false)) (cc (hO.l1 2 4 3 (i64 v)) c0)))))))) ?_
  clear hA fr; intro fr hA
  refine wp_block ?_
  have hT1 : One fT 9 1 (some ⟨b3, 0, none⟩) 1 ([nm] : List ByteArray) [(b3, 9, [str nm])] := One.ofBlk (r := []) (by kernel_rfl) (by first | decide | simp) (by decide) (by kernel_rfl)
  replace hO := Ow.move (A := []) (B := [(b2, 63, [str nm, bl true, bl true, bl true, bl false, bl false]), (b1, 46, [i64 ((k : Nat) : Int), i64 a, i64 b, i64 c, i64 v])]) (C := []) (x := (b3, 9, [str nm])) hO
  replace hO : Ow Tryd.prog none' w w5 ([(b2, 63, [str nm, bl true, bl true, bl true, bl false, bl false]), (b1, 46, [i64 ((k : Nat) : Int), i64 a, i64 b, i64 c, i64 v])] ++ ([(b3, 9, [str nm])] ++ ([]))) := hO.to (by simp only [List.append_assoc, List.cons_append, List.nil_append, List.append_nil])
  refine c_loop (fun mm fr W => (mm = 4 ∧ Holds 52 [] fr [(2, str (⟨#[]⟩)), (4, .slice (some ⟨b3, 0, none⟩) 1 1), (37, .agg #[bl true, i64 a, bl true, i64 b, bl true, i64 c, bl false, i64 v]), (38, i64 0)] ∧ Ow Tryd.prog none' w W ([(b2, 63, [str nm, bl true, bl true, bl true, bl false, bl false]), (b1, 46, [i64 ((k : Nat) : Int), i64 a, i64 b, i64 c, i64 v])] ++ ([(b3, 9, [str nm])] ++ ([])))) ∨ (mm = 3 ∧ ∃ (p1 : Option Addr) (c1 : Nat) (T2 : OwL), Holds 52 [] fr [(2, str (⟨#[]⟩)), (4, .slice p1 ((([nm] : List ByteArray) ++ ([itoaS a] : List ByteArray)).length) c1), (37, .agg #[bl true, i64 a, bl true, i64 b, bl true, i64 c, bl false, i64 v]), (38, i64 1)] ∧ Ow Tryd.prog none' w W ([(b2, 63, [str nm, bl true, bl true, bl true, bl false, bl false]), (b1, 46, [i64 ((k : Nat) : Int), i64 a, i64 b, i64 c, i64 v])] ++ (T2 ++ ([]))) ∧ One fT 9 1 p1 c1 (([nm] : List ByteArray) ++ ([itoaS a] : List ByteArray)) T2) ∨ (mm = 2 ∧ ∃ (p2 : Option Addr) (c2 : Nat) (T3 : OwL), Holds 52 [] fr [(2, str (⟨#[]⟩)), (4, .slice p2 (((([nm] : List ByteArray) ++ ([itoaS a] : List ByteArray)) ++ ([itoaS b] : List ByteArray)).length) c2), (37, .agg #[bl true, i64 a, bl true, i64 b, bl true, i64 c, bl false, i64 v]), (38, i64 2)] ∧ Ow Tryd.prog none' w W ([(b2, 63, [str nm, bl true, bl true, bl true, bl false, bl false]), (b1, 46, [i64 ((k : Nat) : Int), i64 a, i64 b, i64 c, i64 v])] ++ (T3 ++ ([]))) ∧ One fT 9 1 p2 c2 ((([nm] : List ByteArray) ++ ([itoaS a] : List ByteArray)) ++ ([itoaS b] : List ByteArray)) T3) ∨ (mm = 1 ∧ ∃ (p3 : Option Addr) (c3 : Nat) (T4 : OwL), Holds 52 [] fr [(2, str (⟨#[]⟩)), (4, .slice p3 ((((([nm] : List ByteArray) ++ ([itoaS a] : List ByteArray)) ++ ([itoaS b] : List ByteArray)) ++ ([itoaS c] : List ByteArray)).length) c3), (37, .agg #[bl true, i64 a, bl true, i64 b, bl true, i64 c, bl false, i64 v]), (38, i64 3)] ∧ Ow Tryd.prog none' w W ([(b2, 63, [str nm, bl true, bl true, bl true, bl false, bl false]), (b1, 46, [i64 ((k : Nat) : Int), i64 a, i64 b, i64 c, i64 v])] ++ (T4 ++ ([]))) ∧ One fT 9 1 p3 c3 (((([nm] : List ByteArray) ++ ([itoaS a] : List ByteArray)) ++ ([itoaS b] : List ByteArray)) ++ ([itoaS c] : List ByteArray)) T4) ∨ (mm = 0 ∧ ∃ (p3 : Option Addr) (c3 : Nat) (T4 : OwL), Holds 52 [] fr [(2, str (⟨#[]⟩)), (4, .slice p3 ((((([nm] : List ByteArray) ++ ([itoaS a] : List ByteArray)) ++ ([itoaS b] : List ByteArray)) ++ ([itoaS c] : List ByteArray)).length) c3), (37, .agg #[bl true, i64 a, bl true, i64 b, bl true, i64 c, bl false, i64 v]), (38, i64 4)] ∧ Ow Tryd.prog none' w W ([(b2, 63, [str nm, bl true, bl true, bl true, bl false, bl false]), (b1, 46, [i64 ((k : Nat) : Int), i64 a, i64 b, i64 c, i64 v])] ++ (T4 ++ ([]))) ∧ One fT 9 1 p3 c3 (((([nm] : List ByteArray) ++ ([itoaS a] : List ByteArray)) ++ ([itoaS b] : List ByteArray)) ++ ([itoaS c] : List ByteArray)) T4)) ?_ ?_
  · exact ⟨_, (.inl ⟨rfl, hA.sb, (hO : Ow Tryd.prog none' w _ ([(b2, 63, [str nm, bl true, bl true, bl true, bl false, bl false]), (b1, 46, [i64 ((k : Nat) : Int), i64 a, i64 b, i64 c, i64 v])] ++ ([(b3, 9, [str nm])] ++ ([]))))⟩)⟩
  · rintro _ fr w23 (⟨rfl, hA, hO⟩ | ⟨rfl, p1, c1, T2, hA, hO, hT2⟩ | ⟨rfl, p2, c2, T3, hA, hO, hT3⟩ | ⟨rfl, p3, c3, T4, hA, hO, hT4⟩ | ⟨rfl, p3, c3, T4, hA, hO, hT4⟩)
    ·
      refine sC (e' := [(2, str (⟨#[]⟩)), (4, .slice (some ⟨b3, 0, none⟩) 1 1), (37, .agg #[bl true, i64 a, bl true, i64 b, bl true, i64 c, bl false, i64 v]), (38, i64 0), (39, bl true)]) 1 hA [] c0 ?_
      clear hA fr; intro fr hA
      refine wp_seq ?_
      refine cT hA ?_
      refine wp_skip ?_
      refine then_normal ?_
      refine wp_seq ?_
      refine wp_block ?_
      refine sR (l := [0, 1, 2]) ?_
      refine ck (l := [0]) (r := [1, 2]) (e' := [(2, str (⟨#[]⟩)), (4, .slice (some ⟨b3, 0, none⟩) 1 1), (37, .agg #[bl true, i64 a, bl true, i64 b, bl true, i64 c, bl false, i64 v]), (38, i64 0), (40, .agg #[bl true, i64 a])]) hA [] c0 ?_
      clear hA fr; intro fr hA
      refine wpOps_cons' (mN (l := [bl false, i64 0]) (t := 72) (v := pt) (d := 6) hA hO ?_)
      clear hA hO fr; intro fr w24 b11 hA hO
      refine wpOps_cons' (mS (off := 0) (vc := [bl true, i64 a]) 0 hA hO ?_)
      clear hO; intro w25 hO
      replace hA := hA.sb (e' := [(2, str (⟨#[]⟩)), (4, .slice (some ⟨b3, 0, none⟩) 1 1), (6, pt b11), (37, .agg #[bl true, i64 a, bl true, i64 b, bl true, i64 c, bl false, i64 v]), (38, i64 0)])
      refine end_ops ?_
      refine then_normal ?_
      refine sC (e' := [(2, str (⟨#[]⟩)), (4, .slice (some ⟨b3, 0, none⟩) 1 1), (6, pt b11), (37, .agg #[bl true, i64 a, bl true, i64 b, bl true, i64 c, bl false, i64 v]), (38, i64 0), (42, bl true)]) 2 hA [bl true] (cc (hO.l1 0 0 4 (bl true)) c0) ?_
      clear hA fr; intro fr hA
      refine cT hA ?_
      refine rR (l := (rg 0 7)) ?_
      refine ck (l := [0, 1, 2]) (r := [3, 4, 5, 6]) (e' := [(2, str (⟨#[]⟩)), (4, .slice (some ⟨b3, 0, none⟩) 1 1), (37, .agg #[bl true, i64 a, bl true, i64 b, bl true, i64 c, bl false, i64 v]), (38, i64 0), (43, .slice (some ⟨b3, 0, none⟩) 1 1), (45, i64 a)]) hA [i64 a] (cc (hO.l1 0 1 3 (i64 a)) c0) ?_
      clear hA fr; intro fr hA
      refine wpOps_cons' (mK (f := 35) (args := [i64 a]) (d := (some 46)) (v := str (itoaS a)) hA hO Tryd.func35 (itoa_any a _ (inK_i64 (by omega) (by omega)) (hP.keep hO.only)) ?_)
      clear hA hO fr; intro fr w26 hA hO
      replace hA := hA.sb (e' := [(2, str (⟨#[]⟩)), (4, .slice (some ⟨b3, 0, none⟩) 1 1), (37, .agg #[bl true, i64 a, bl true, i64 b, bl true, i64 c, bl false, i64 v]), (38, i64 0), (43, .slice (some ⟨b3, 0, none⟩) 1 1), (46, str (itoaS a))])
      refine wpOps_cons' (mN (l := [str (itoaS a)]) (t := 9) (v := fun b => .slice (some ⟨b, 0, none⟩) 1 1) (d := 47) hA hO ?_)
      clear hA hO fr; intro fr w27 b12 hA hO
      replace hA := hA.sb (e' := [(2, str (⟨#[]⟩)), (4, .slice (some ⟨b3, 0, none⟩) 1 1), (37, .agg #[bl true, i64 a, bl true, i64 b, bl true, i64 c, bl false, i64 v]), (38, i64 0), (43, .slice (some ⟨b3, 0, none⟩) 1 1), (47, .slice (some ⟨b12, 0, none⟩) 1 1)])
      replace hO : Ow Tryd.prog none' w w27 ([(b12, 9, [str (itoaS a)]), (b11, 72, [bl true, i64 a]), (b2, 63, [str nm, bl true, bl true, bl true, bl false, bl false]), (b1, 46, [i64 ((k : Nat) : Int), i64 a, i64 b, i64 c, i64 v])] ++ ([(b3, 9, [str nm])] ++ ([]))) := hO
      refine wpOps_cons' (mA (f := fT) (el := 9) (sz := 1) (bytes := 16) (p := some ⟨b3, 0, none⟩) (c := 1) (l := ([nm] : List ByteArray)) (l' := ([itoaS a] : List ByteArray)) (T := [(b3, 9, [str nm])]) (t := 40) (tx := 40) (ty := 40) (x := .slice (some ⟨b12, 0, none⟩) 1 1) (d := 48) [(b12, 9, [str (itoaS a)]), (b11, 72, [bl true, i64 a]), (b2, 63, [str nm, bl true, bl true, bl true, bl false, bl false]), (b1, 46, [i64 ((k : Nat) : Int), i64 a, i64 b, i64 c, i64 v])] ([]) encT hA hO hT1 (Vw.src (e' := 9) encT ((hO.b 0).vw (off := 0) (xs := ([itoaS a] : List ByteArray)) (by kernel_rfl)) (by kernel_rfl)) (by simp) (by unfold maxLen; simp) ?_)
      clear hA hO fr; intro fr w28 p4 c4 T5 hA hO hT5
      replace hA := hA.sb (e' := [(2, str (⟨#[]⟩)), (4, .slice (some ⟨b3, 0, none⟩) 1 1), (37, .agg #[bl true, i64 a, bl true, i64 b, bl true, i64 c, bl false, i64 v]), (38, i64 0), (48, .slice p4 ((([nm] : List ByteArray) ++ ([itoaS a] : List ByteArray)).length) c4)])
      refine ck (l := [6]) (r := []) (e' := [(2, str (⟨#[]⟩)), (4, .slice p4 ((([nm] : List ByteArray) ++ ([itoaS a] : List ByteArray)).length) c4), (37, .agg #[bl true, i64 a, bl true, i64 b, bl true, i64 c, bl false, i64 v]), (38, i64 0)]) hA [] c0 ?_
      clear hA fr; intro fr hA
      refine end_ops ?_
      refine inBlock_normal ?_
      refine then_normal ?_
      refine rC (e' := [(2, str (⟨#[]⟩)), (4, .slice p4 ((([nm] : List ByteArray) ++ ([itoaS a] : List ByteArray)).length) c4), (37, .agg #[bl true, i64 a, bl true, i64 b, bl true, i64 c, bl false, i64 v]), (38, i64 1)]) 2 hA [bl false] c0 ?_
      clear hA fr; intro fr hA
      refine then_normal ?_
      exact ⟨3, by decide, (.inr (.inl ⟨rfl, p4, c4, T5, hA.sb, (Ow.subP (A := [(b12, 9, [str (itoaS a)]), (b11, 72, [bl true, i64 a]), (b2, 63, [str nm, bl true, bl true, bl true, bl false, bl false]), (b1, 46, [i64 ((k : Nat) : Int), i64 a, i64 b, i64 c, i64 v])]) (A' := [(b2, 63, [str nm, bl true, bl true, bl true, bl false, bl false]), (b1, 46, [i64 ((k : Nat) : Int), i64 a, i64 b, i64 c, i64 v])]) (B := T5 ++ ([])) hO (.cons _ (.cons _ (.cons_cons _ (.cons_cons _ .slnil))))), hT5⟩))⟩
    ·
      refine sC (e' := [(2, str (⟨#[]⟩)), (4, .slice p1 ((([nm] : List ByteArray) ++ ([itoaS a] : List ByteArray)).length) c1), (37, .agg #[bl true, i64 a, bl true, i64 b, bl true, i64 c, bl false, i64 v]), (38, i64 1), (39, bl true)]) 1 hA [] c0 ?_
      clear hA fr; intro fr hA
      refine wp_seq ?_
      refine cT hA ?_
      refine wp_skip ?_
      refine then_normal ?_
      refine wp_seq ?_
      refine wp_block ?_
      refine sR (l := [0, 1, 2]) ?_
      refine ck (l := [0]) (r := [1, 2]) (e' := [(2, str (⟨#[]⟩)), (4, .slice p1 ((([nm] : List ByteArray) ++ ([itoaS a] : List ByteArray)).length) c1), (37, .agg #[bl true, i64 a, bl true, i64 b, bl true, i64 c, bl false, i64 v]), (38, i64 1), (40, .agg #[bl true, i64 b])]) hA [] c0 ?_
      clear hA fr; intro fr hA
      refine wpOps_cons' (mN (l := [bl false, i64 0]) (t := 72) (v := pt) (d := 6) hA hO ?_)
      clear hA hO fr; intro fr w29 b13 hA hO
      refine wpOps_cons' (mS (off := 0) (vc := [bl true, i64 b]) 0 hA hO ?_)
      clear hO; intro w30 hO
      replace hA := hA.sb (e' := [(2, str (⟨#[]⟩)), (4, .slice p1 ((([nm] : List ByteArray) ++ ([itoaS a] : List ByteArray)).length) c1), (6, pt b13), (37, .agg #[bl true, i64 a, bl true, i64 b, bl true, i64 c, bl false, i64 v]), (38, i64 1)])
      refine end_ops ?_
      refine then_normal ?_
      refine sC (e' := [(2, str (⟨#[]⟩)), (4, .slice p1 ((([nm] : List ByteArray) ++ ([itoaS a] : List ByteArray)).length) c1), (6, pt b13), (37, .agg #[bl true, i64 a, bl true, i64 b, bl true, i64 c, bl false, i64 v]), (38, i64 1), (42, bl true)]) 2 hA [bl true] (cc (hO.l1 0 0 4 (bl true)) c0) ?_
      clear hA fr; intro fr hA
      refine cT hA ?_
      refine rR (l := (rg 0 7)) ?_
      refine ck (l := [0, 1, 2]) (r := [3, 4, 5, 6]) (e' := [(2, str (⟨#[]⟩)), (4, .slice p1 ((([nm] : List ByteArray) ++ ([itoaS a] : List ByteArray)).length) c1), (37, .agg #[bl true, i64 a, bl true, i64 b, bl true, i64 c, bl false, i64 v]), (38, i64 1), (43, .slice p1 ((([nm] : List ByteArray) ++ ([itoaS a] : List ByteArray)).length) c1), (45, i64 b)]) hA [i64 b] (cc (hO.l1 0 1 3 (i64 b)) c0) ?_
      clear hA fr; intro fr hA
      refine wpOps_cons' (mK (f := 35) (args := [i64 b]) (d := (some 46)) (v := str (itoaS b)) hA hO Tryd.func35 (itoa_any b _ (inK_i64 (by omega) (by omega)) (hP.keep hO.only)) ?_)
      clear hA hO fr; intro fr w31 hA hO
      replace hA := hA.sb (e' := [(2, str (⟨#[]⟩)), (4, .slice p1 ((([nm] : List ByteArray) ++ ([itoaS a] : List ByteArray)).length) c1), (37, .agg #[bl true, i64 a, bl true, i64 b, bl true, i64 c, bl false, i64 v]), (38, i64 1), (43, .slice p1 ((([nm] : List ByteArray) ++ ([itoaS a] : List ByteArray)).length) c1), (46, str (itoaS b))])
      refine wpOps_cons' (mN (l := [str (itoaS b)]) (t := 9) (v := fun b => .slice (some ⟨b, 0, none⟩) 1 1) (d := 47) hA hO ?_)
      clear hA hO fr; intro fr w32 b14 hA hO
      replace hA := hA.sb (e' := [(2, str (⟨#[]⟩)), (4, .slice p1 ((([nm] : List ByteArray) ++ ([itoaS a] : List ByteArray)).length) c1), (37, .agg #[bl true, i64 a, bl true, i64 b, bl true, i64 c, bl false, i64 v]), (38, i64 1), (43, .slice p1 ((([nm] : List ByteArray) ++ ([itoaS a] : List ByteArray)).length) c1), (47, .slice (some ⟨b14, 0, none⟩) 1 1)])
      replace hO : Ow Tryd.prog none' w w32 ([(b14, 9, [str (itoaS b)]), (b13, 72, [bl true, i64 b]), (b2, 63, [str nm, bl true, bl true, bl true, bl false, bl false]), (b1, 46, [i64 ((k : Nat) : Int), i64 a, i64 b, i64 c, i64 v])] ++ (T2 ++ ([]))) := hO
      refine wpOps_cons' (mA (f := fT) (el := 9) (sz := 1) (bytes := 16) (p := p1) (c := c1) (l := ([nm] : List ByteArray) ++ ([itoaS a] : List ByteArray)) (l' := ([itoaS b] : List ByteArray)) (T := T2) (t := 40) (tx := 40) (ty := 40) (x := .slice (some ⟨b14, 0, none⟩) 1 1) (d := 48) [(b14, 9, [str (itoaS b)]), (b13, 72, [bl true, i64 b]), (b2, 63, [str nm, bl true, bl true, bl true, bl false, bl false]), (b1, 46, [i64 ((k : Nat) : Int), i64 a, i64 b, i64 c, i64 v])] ([]) encT hA hO hT2 (Vw.src (e' := 9) encT ((hO.b 0).vw (off := 0) (xs := ([itoaS b] : List ByteArray)) (by kernel_rfl)) (by kernel_rfl)) (by simp) (by unfold maxLen; simp) ?_)
      clear hA hO fr; intro fr w33 p5 c5 T6 hA hO hT6
      replace hA := hA.sb (e' := [(2, str (⟨#[]⟩)), (4, .slice p1 ((([nm] : List ByteArray) ++ ([itoaS a] : List ByteArray)).length) c1), (37, .agg #[bl true, i64 a, bl true, i64 b, bl true, i64 c, bl false, i64 v]), (38, i64 1), (48, .slice p5 (((([nm] : List ByteArray) ++ ([itoaS a] : List ByteArray)) ++ ([itoaS b] : List ByteArray)).length) c5)])
      refine ck (l := [6]) (r := []) (e' := [(2, str (⟨#[]⟩)), (4, .slice p5 (((([nm] : List ByteArray) ++ ([itoaS a] : List ByteArray)) ++ ([itoaS b] : List ByteArray)).length) c5), (37, .agg #[bl true, i64 a, bl true, i64 b, bl true, i64 c, bl false, i64 v]), (38, i64 1)]) hA [] c0 ?_
      clear hA fr; intro fr hA
      refine end_ops ?_
      refine inBlock_normal ?_
      refine then_normal ?_
      refine rC (e' := [(2, str (⟨#[]⟩)), (4, .slice p5 (((([nm] : List ByteArray) ++ ([itoaS a] : List ByteArray)) ++ ([itoaS b] : List ByteArray)).length) c5), (37, .agg #[bl true, i64 a, bl true, i64 b, bl true, i64 c, bl false, i64 v]), (38, i64 2)]) 2 hA [bl false] c0 ?_
      clear hA fr; intro fr hA
      refine then_normal ?_
      exact ⟨2, by decide, (.inr (.inr (.inl ⟨rfl, p5, c5, T6, hA.sb, (Ow.subP (A := [(b14, 9, [str (itoaS b)]), (b13, 72, [bl true, i64 b]), (b2, 63, [str nm, bl true, bl true, bl true, bl false, bl false]), (b1, 46, [i64 ((k : Nat) : Int), i64 a, i64 b, i64 c, i64 v])]) (A' := [(b2, 63, [str nm, bl true, bl true, bl true, bl false, bl false]), (b1, 46, [i64 ((k : Nat) : Int), i64 a, i64 b, i64 c, i64 v])]) (B := T6 ++ ([])) hO (.cons _ (.cons _ (.cons_cons _ (.cons_cons _ .slnil))))), hT6⟩)))⟩
    ·
      refine sC (e' := [(2, str (⟨#[]⟩)), (4, .slice p2 (((([nm] : List ByteArray) ++ ([itoaS a] : List ByteArray)) ++ ([itoaS b] : List ByteArray)).length) c2), (37, .agg #[bl true, i64 a, bl true, i64 b, bl true, i64 c, bl false, i64 v]), (38, i64 2), (39, bl true)]) 1 hA [] c0 ?_
      clear hA fr; intro fr hA
      refine wp_seq ?_
      refine cT hA ?_
      refine wp_skip ?_
      refine then_normal ?_
      refine wp_seq ?_
      refine wp_block ?_
      refine sR (l := [0, 1, 2]) ?_
      refine ck (l := [0]) (r := [1, 2]) (e' := [(2, str (⟨#[]⟩)), (4, .slice p2 (((([nm] : List ByteArray) ++ ([itoaS a] : List ByteArray)) ++ ([itoaS b] : List ByteArray)).length) c2), (37, .agg #[bl true, i64 a, bl true, i64 b, bl true, i64 c, bl false, i64 v]), (38, i64 2), (40, .agg #[bl true, i64 c])]) hA [] c0 ?_
      clear hA fr; intro fr hA
      refine wpOps_cons' (mN (l := [bl false, i64 0]) (t := 72) (v := pt) (d := 6) hA hO ?_)
      clear hA hO fr; intro fr w34 b15 hA hO
      refine wpOps_cons' (mS (off := 0) (vc := [bl true, i64 c]) 0 hA hO ?_)
      clear hO; intro w35 hO
      replace hA := hA.sb (e' := [(2, str (⟨#[]⟩)), (4, .slice p2 (((([nm] : List ByteArray) ++ ([itoaS a] : List ByteArray)) ++ ([itoaS b] : List ByteArray)).length) c2), (6, pt b15), (37, .agg #[bl true, i64 a, bl true, i64 b, bl true, i64 c, bl false, i64 v]), (38, i64 2)])
      refine end_ops ?_
      refine then_normal ?_
      refine sC (e' := [(2, str (⟨#[]⟩)), (4, .slice p2 (((([nm] : List ByteArray) ++ ([itoaS a] : List ByteArray)) ++ ([itoaS b] : List ByteArray)).length) c2), (6, pt b15), (37, .agg #[bl true, i64 a, bl true, i64 b, bl true, i64 c, bl false, i64 v]), (38, i64 2), (42, bl true)]) 2 hA [bl true] (cc (hO.l1 0 0 4 (bl true)) c0) ?_
      clear hA fr; intro fr hA
      refine cT hA ?_
      refine rR (l := (rg 0 7)) ?_
      refine ck (l := [0, 1, 2]) (r := [3, 4, 5, 6]) (e' := [(2, str (⟨#[]⟩)), (4, .slice p2 (((([nm] : List ByteArray) ++ ([itoaS a] : List ByteArray)) ++ ([itoaS b] : List ByteArray)).length) c2), (37, .agg #[bl true, i64 a, bl true, i64 b, bl true, i64 c, bl false, i64 v]), (38, i64 2), (43, .slice p2 (((([nm] : List ByteArray) ++ ([itoaS a] : List ByteArray)) ++ ([itoaS b] : List ByteArray)).length) c2), (45, i64 c)]) hA [i64 c] (cc (hO.l1 0 1 3 (i64 c)) c0) ?_
      clear hA fr; intro fr hA
      refine wpOps_cons' (mK (f := 35) (args := [i64 c]) (d := (some 46)) (v := str (itoaS c)) hA hO Tryd.func35 (itoa_any c _ (inK_i64 (by omega) (by omega)) (hP.keep hO.only)) ?_)
      clear hA hO fr; intro fr w36 hA hO
      replace hA := hA.sb (e' := [(2, str (⟨#[]⟩)), (4, .slice p2 (((([nm] : List ByteArray) ++ ([itoaS a] : List ByteArray)) ++ ([itoaS b] : List ByteArray)).length) c2), (37, .agg #[bl true, i64 a, bl true, i64 b, bl true, i64 c, bl false, i64 v]), (38, i64 2), (43, .slice p2 (((([nm] : List ByteArray) ++ ([itoaS a] : List ByteArray)) ++ ([itoaS b] : List ByteArray)).length) c2), (46, str (itoaS c))])
      refine wpOps_cons' (mN (l := [str (itoaS c)]) (t := 9) (v := fun b => .slice (some ⟨b, 0, none⟩) 1 1) (d := 47) hA hO ?_)
      clear hA hO fr; intro fr w37 b16 hA hO
      replace hA := hA.sb (e' := [(2, str (⟨#[]⟩)), (4, .slice p2 (((([nm] : List ByteArray) ++ ([itoaS a] : List ByteArray)) ++ ([itoaS b] : List ByteArray)).length) c2), (37, .agg #[bl true, i64 a, bl true, i64 b, bl true, i64 c, bl false, i64 v]), (38, i64 2), (43, .slice p2 (((([nm] : List ByteArray) ++ ([itoaS a] : List ByteArray)) ++ ([itoaS b] : List ByteArray)).length) c2), (47, .slice (some ⟨b16, 0, none⟩) 1 1)])
      replace hO : Ow Tryd.prog none' w w37 ([(b16, 9, [str (itoaS c)]), (b15, 72, [bl true, i64 c]), (b2, 63, [str nm, bl true, bl true, bl true, bl false, bl false]), (b1, 46, [i64 ((k : Nat) : Int), i64 a, i64 b, i64 c, i64 v])] ++ (T3 ++ ([]))) := hO
      refine wpOps_cons' (mA (f := fT) (el := 9) (sz := 1) (bytes := 16) (p := p2) (c := c2) (l := (([nm] : List ByteArray) ++ ([itoaS a] : List ByteArray)) ++ ([itoaS b] : List ByteArray)) (l' := ([itoaS c] : List ByteArray)) (T := T3) (t := 40) (tx := 40) (ty := 40) (x := .slice (some ⟨b16, 0, none⟩) 1 1) (d := 48) [(b16, 9, [str (itoaS c)]), (b15, 72, [bl true, i64 c]), (b2, 63, [str nm, bl true, bl true, bl true, bl false, bl false]), (b1, 46, [i64 ((k : Nat) : Int), i64 a, i64 b, i64 c, i64 v])] ([]) encT hA hO hT3 (Vw.src (e' := 9) encT ((hO.b 0).vw (off := 0) (xs := ([itoaS c] : List ByteArray)) (by kernel_rfl)) (by kernel_rfl)) (by simp) (by unfold maxLen; simp) ?_)
      clear hA hO fr; intro fr w38 p6 c6 T7 hA hO hT7
      replace hA := hA.sb (e' := [(2, str (⟨#[]⟩)), (4, .slice p2 (((([nm] : List ByteArray) ++ ([itoaS a] : List ByteArray)) ++ ([itoaS b] : List ByteArray)).length) c2), (37, .agg #[bl true, i64 a, bl true, i64 b, bl true, i64 c, bl false, i64 v]), (38, i64 2), (48, .slice p6 ((((([nm] : List ByteArray) ++ ([itoaS a] : List ByteArray)) ++ ([itoaS b] : List ByteArray)) ++ ([itoaS c] : List ByteArray)).length) c6)])
      refine ck (l := [6]) (r := []) (e' := [(2, str (⟨#[]⟩)), (4, .slice p6 ((((([nm] : List ByteArray) ++ ([itoaS a] : List ByteArray)) ++ ([itoaS b] : List ByteArray)) ++ ([itoaS c] : List ByteArray)).length) c6), (37, .agg #[bl true, i64 a, bl true, i64 b, bl true, i64 c, bl false, i64 v]), (38, i64 2)]) hA [] c0 ?_
      clear hA fr; intro fr hA
      refine end_ops ?_
      refine inBlock_normal ?_
      refine then_normal ?_
      refine rC (e' := [(2, str (⟨#[]⟩)), (4, .slice p6 ((((([nm] : List ByteArray) ++ ([itoaS a] : List ByteArray)) ++ ([itoaS b] : List ByteArray)) ++ ([itoaS c] : List ByteArray)).length) c6), (37, .agg #[bl true, i64 a, bl true, i64 b, bl true, i64 c, bl false, i64 v]), (38, i64 3)]) 2 hA [bl false] c0 ?_
      clear hA fr; intro fr hA
      refine then_normal ?_
      exact ⟨1, by decide, (.inr (.inr (.inr (.inl ⟨rfl, p6, c6, T7, hA.sb, (Ow.subP (A := [(b16, 9, [str (itoaS c)]), (b15, 72, [bl true, i64 c]), (b2, 63, [str nm, bl true, bl true, bl true, bl false, bl false]), (b1, 46, [i64 ((k : Nat) : Int), i64 a, i64 b, i64 c, i64 v])]) (A' := [(b2, 63, [str nm, bl true, bl true, bl true, bl false, bl false]), (b1, 46, [i64 ((k : Nat) : Int), i64 a, i64 b, i64 c, i64 v])]) (B := T7 ++ ([])) hO (.cons _ (.cons _ (.cons_cons _ (.cons_cons _ .slnil))))), hT7⟩))))⟩
    ·
      refine sC (e' := [(2, str (⟨#[]⟩)), (4, .slice p3 ((((([nm] : List ByteArray) ++ ([itoaS a] : List ByteArray)) ++ ([itoaS b] : List ByteArray)) ++ ([itoaS c] : List ByteArray)).length) c3), (37, .agg #[bl true, i64 a, bl true, i64 b, bl true, i64 c, bl false, i64 v]), (38, i64 3), (39, bl true)]) 1 hA [] c0 ?_
      clear hA fr; intro fr hA
      refine wp_seq ?_
      refine cT hA ?_
      refine wp_skip ?_
      refine then_normal ?_
      refine wp_seq ?_
      refine wp_block ?_
      refine sR (l := [0, 1, 2]) ?_
      refine ck (l := [0]) (r := [1, 2]) (e' := [(2, str (⟨#[]⟩)), (4, .slice p3 ((((([nm] : List ByteArray) ++ ([itoaS a] : List ByteArray)) ++ ([itoaS b] : List ByteArray)) ++ ([itoaS c] : List ByteArray)).length) c3), (37, .agg #[bl true, i64 a, bl true, i64 b, bl true, i64 c, bl false, i64 v]), (38, i64 3), (40, .agg #[bl false, i64 v])]) hA [] c0 ?_
      clear hA fr; intro fr hA
      refine wpOps_cons' (mN (l := [bl false, i64 0]) (t := 72) (v := pt) (d := 6) hA hO ?_)
      clear hA hO fr; intro fr w39 b17 hA hO
      refine wpOps_cons' (mS (off := 0) (vc := [bl false, i64 v]) 0 hA hO ?_)
      clear hO; intro w40 hO
      replace hA := hA.sb (e' := [(2, str (⟨#[]⟩)), (4, .slice p3 ((((([nm] : List ByteArray) ++ ([itoaS a] : List ByteArray)) ++ ([itoaS b] : List ByteArray)) ++ ([itoaS c] : List ByteArray)).length) c3), (6, pt b17), (37, .agg #[bl true, i64 a, bl true, i64 b, bl true, i64 c, bl false, i64 v]), (38, i64 3)])
      refine end_ops ?_
      refine then_normal ?_
      refine sC (e' := [(2, str (⟨#[]⟩)), (4, .slice p3 ((((([nm] : List ByteArray) ++ ([itoaS a] : List ByteArray)) ++ ([itoaS b] : List ByteArray)) ++ ([itoaS c] : List ByteArray)).length) c3), (6, pt b17), (37, .agg #[bl true, i64 a, bl true, i64 b, bl true, i64 c, bl false, i64 v]), (38, i64 3), (42, bl false)]) 2 hA [bl false] (cc (hO.l1 0 0 4 (bl false)) c0) ?_
      clear hA fr; intro fr hA
      refine cF hA ?_
      refine wp_skip ?_
      refine inBlock_normal ?_
      refine then_normal ?_
      refine rC (e' := [(2, str (⟨#[]⟩)), (4, .slice p3 ((((([nm] : List ByteArray) ++ ([itoaS a] : List ByteArray)) ++ ([itoaS b] : List ByteArray)) ++ ([itoaS c] : List ByteArray)).length) c3), (37, .agg #[bl true, i64 a, bl true, i64 b, bl true, i64 c, bl false, i64 v]), (38, i64 4)]) 2 hA [bl false] c0 ?_
      clear hA fr; intro fr hA
      refine then_normal ?_
      exact ⟨0, by decide, (.inr (.inr (.inr (.inr ⟨rfl, p3, c3, T4, hA.sb, (Ow.subP (A := [(b17, 72, [bl false, i64 v]), (b2, 63, [str nm, bl true, bl true, bl true, bl false, bl false]), (b1, 46, [i64 ((k : Nat) : Int), i64 a, i64 b, i64 c, i64 v])]) (A' := [(b2, 63, [str nm, bl true, bl true, bl true, bl false, bl false]), (b1, 46, [i64 ((k : Nat) : Int), i64 a, i64 b, i64 c, i64 v])]) (B := T4 ++ ([])) hO (.cons _ (.cons_cons _ (.cons_cons _ .slnil)))), hT4⟩))))⟩
    ·
      refine sC (e' := [(2, str (⟨#[]⟩)), (4, .slice p3 ((((([nm] : List ByteArray) ++ ([itoaS a] : List ByteArray)) ++ ([itoaS b] : List ByteArray)) ++ ([itoaS c] : List ByteArray)).length) c3), (37, .agg #[bl true, i64 a, bl true, i64 b, bl true, i64 c, bl false, i64 v]), (38, i64 4), (39, bl false)]) 1 hA [] c0 ?_
      clear hA fr; intro fr hA
      refine wp_seq ?_
      refine cF hA ?_
      refine wp_exit ?_
      refine then_exit ?_
      refine then_exit ?_
      refine inBlock_exit ?_
      refine then_normal ?_
      refine sR (l := [0, 1, 2]) ?_
      refine ck (l := [0]) (r := [1, 2]) (e' := [(2, str (⟨#[]⟩)), (50, .slice p3 ((((([nm] : List ByteArray) ++ ([itoaS a] : List ByteArray)) ++ ([itoaS b] : List ByteArray)) ++ ([itoaS c] : List ByteArray)).length) c3)]) hA [] c0 ?_
      clear hA fr; intro fr hA
      replace hO : Ow Tryd.prog none' w w23 ([(b2, 63, [str nm, bl true, bl true, bl true, bl false, bl false]), (b1, 46, [i64 ((k : Nat) : Int), i64 a, i64 b, i64 c, i64 v])] ++ (T4 ++ ([]))) := hO
      obtain ⟨b18, r1, rfl, rfl, hle_b18, hcap_b18⟩ := hT4.open (by simp)
      replace hO : Ow Tryd.prog none' w w23 [(b2, 63, [str nm, bl true, bl true, bl true, bl false, bl false]), (b1, 46, [i64 ((k : Nat) : Int), i64 a, i64 b, i64 c, i64 v]), (b18, 9, ((((([nm] : List ByteArray) ++ ([itoaS a] : List ByteArray)) ++ ([itoaS b] : List ByteArray)) ++ ([itoaS c] : List ByteArray)).flatMap fT ++ r1))] := hO.to (by simp only [List.append_assoc, List.cons_append, List.nil_append, List.append_nil])
      refine wpOps_cons' (mK (f := 46) (args := [.slice (some ⟨b18, 0, none⟩) (((([nm] : List ByteArray) ++ ([itoaS a] : List ByteArray)) ++ ([itoaS b] : List ByteArray)) ++ ([itoaS c] : List ByteArray)).length c3, str (⟨#[32]⟩)]) (d := (some 51)) (v := str (joinS (((([nm] : List ByteArray) ++ ([itoaS a] : List ByteArray)) ++ ([itoaS b] : List ByteArray)) ++ ([itoaS c] : List ByteArray)))) hA hO Tryd.func46 (join_any b18 0 c3 (((([nm] : List ByteArray) ++ ([itoaS a] : List ByteArray)) ++ ([itoaS b] : List ByteArray)) ++ ([itoaS c] : List ByteArray)) (⟨#[32]⟩) _ (hO.b 2).strs (hO.b 2).lt (by simp) hle_b18 (by simp [Lib.join, List.intercalate]; try simp at la_; try simp at lb_; try simp at lc_; try simp at lv_; try simp at hnm; omega)) ?_)
      clear hA hO fr; intro fr w41 hA hO
      replace hA := hA.sb (e' := [(2, str (⟨#[]⟩)), (51, str (joinS (((([nm] : List ByteArray) ++ ([itoaS a] : List ByteArray)) ++ ([itoaS b] : List ByteArray)) ++ ([itoaS c] : List ByteArray))))])
      refine ck (l := [2]) (r := []) (e' := [(2, str (joinS (((([nm] : List ByteArray) ++ ([itoaS a] : List ByteArray)) ++ ([itoaS b] : List ByteArray)) ++ ([itoaS c] : List ByteArray))))]) hA [] c0 ?_
      clear hA fr; intro fr hA
      refine end_ops ?_
      refine then_normal ?_
      refine wp_ret ?_
      refine cR (cs := [none]) (us := [str (joinS (((([nm] : List ByteArray) ++ ([itoaS a] : List ByteArray)) ++ ([itoaS b] : List ByteArray)) ++ ([itoaS c] : List ByteArray)))]) hA [] trivial ?_
      have hF := hO.only; clear hA hO
      exact ⟨rfl, hF⟩

theorem show_4 (k : Nat) (a b c v : Int) (nm : ByteArray) (w : World) (hT : Tab w) (hP : Pow w) (h1 : 1 ≤ k) (h2 : k ≤ 22) (hl : legalB ((k : Nat) : Int) a b c v = true) (hnm : nm.data.toList.length ≤ 100) (hrow : RowAt Tryd.prog w 63 k nm false false false true false) :
    Calls Tryd.prog 36 #[.agg #[i64 ((k : Nat) : Int), i64 a, i64 b, i64 c, i64 v]] w fun e w' => e = .returned (.string (joinS ([nm, itoaS v] : List ByteArray))) ∧ Only none' w w' := by
  refine c_enter (args := [.agg #[i64 ((k : Nat) : Int), i64 a, i64 b, i64 c, i64 v]]) (m := 51) (n := 52) Tryd.func36 rfl (by kernel_rfl) (by kernel_rfl) fun fr hA => ?_
  have hO := Ow.nil Tryd.prog none' w
  obtain ⟨ho_, ha_, hb_, hc_, hv_, hc2_⟩ := legal_spec hl; have la_ := itoaS_len a; have lb_ := itoaS_len b; have lc_ := itoaS_len c; have lv_ := itoaS_len v
  refine sR (l := [0, 1]) ?_
  refine wpOps_cons' (mN (l := [i64 ((k : Nat) : Int), i64 a, i64 b, i64 c, i64 v]) (t := 46) (v := pt) (d := 1) hA hO ?_)
  clear hA hO fr; intro fr w1 b1 hA hO
  replace hA := hA.sb (e' := [(1, pt b1)])
  refine ck (l := [1]) (r := []) (e' := [(1, pt b1), (2, str (⟨#[]⟩))]) hA [] c0 ?_
  clear hA fr; intro fr hA
  refine end_ops ?_
  refine then_normal ?_
  refine wp_seq ?_
  refine sR (l := [0, 1, 2]) ?_
  refine ck (l := [0]) (r := [1, 2]) (e' := [(1, pt b1), (2, str (⟨#[]⟩)), (7, .agg #[i64 ((k : Nat) : Int), i64 a, i64 b, i64 c, i64 v])]) hA [.agg #[i64 ((k : Nat) : Int), i64 a, i64 b, i64 c, i64 v]] (cc (hO.ln 0 0 46 [i64 ((k : Nat) : Int), i64 a, i64 b, i64 c, i64 v]) c0) ?_
  clear hA fr; intro fr hA
  refine wpOps_cons' (mK (f := 39) (args := [.agg #[i64 ((k : Nat) : Int), i64 a, i64 b, i64 c, i64 v]]) (d := (some 8)) (v := bl true) hA hO Tryd.func39 (rs (legal_any ((k : Nat) : Int) a b c v _ (hT.keep hO.only (fun h => h))) (congrArg Value.bool hl)) ?_)
  clear hA hO fr; intro fr w2 hA hO
  replace hA := hA.sb (e' := [(1, pt b1), (2, str (⟨#[]⟩)), (8, bl true)])
  refine ck (l := [2]) (r := []) (e' := [(1, pt b1), (2, str (⟨#[]⟩)), (9, bl false)]) hA [] c0 ?_
  clear hA fr; intro fr hA
  refine end_ops ?_
  refine then_normal ?_
  refine cF hA ?_
  refine wp_skip ?_
  refine then_normal ?_
  refine sR (l := (rg 0 6)) ?_
  refine ck (l := [0, 1, 2, 3]) (r := [4, 5]) (e' := [(1, pt b1), (2, str (⟨#[]⟩)), (13, .agg #[str nm, bl false, bl false, bl false, bl true, bl false])]) hA [i64 ((k : Nat) : Int), .agg #[str nm, bl false, bl false, bl false, bl true, bl false]] (cc (hO.l1 0 0 3 (i64 ((k : Nat) : Int))) (cc (⟨by omega, by omega⟩ : (0 : Int) ≤ ((k : Nat) : Int) ∧ ((k : Nat) : Int) < ((23 : Nat) : Int)) (cc ((hrow _ hO.only) : Ld Tryd.prog w2 ((⟨0, 0, none⟩ : Addr).add (k * 6)) 63 (.agg #[str nm, bl false, bl false, bl false, bl true, bl false])) c0))) ?_
  clear hA fr; intro fr hA
  refine wpOps_cons' (mN (l := [str (⟨#[]⟩), bl false, bl false, bl false, bl false, bl false]) (t := 63) (v := pt) (d := 3) hA hO ?_)
  clear hA hO fr; intro fr w3 b2 hA hO
  refine wpOps_cons' (mS (off := 0) (vc := [str nm, bl false, bl false, bl false, bl true, bl false]) 0 hA hO ?_)
  clear hO; intro w4 hO
  replace hA := hA.sb (e' := [(1, pt b1), (2, str (⟨#[]⟩)), (3, pt b2)])
  refine end_ops ?_
  refine then_normal ?_
  refine sR (l := [0, 1, 2, 3]) ?_
  refine ck (l := [0, 1]) (r := [2, 3]) (e' := [(1, pt b1), (2, str (⟨#[]⟩)), (3, pt b2), (15, str nm)]) hA [str nm] (cc (hO.l1 0 0 9 (str nm)) c0) ?_
  clear hA fr; intro fr hA
  refine wpOps_cons' (mN (l := [str nm]) (t := 9) (v := fun b => .slice (some ⟨b, 0, none⟩) 1 1) (d := 16) hA hO ?_)
  clear hA hO fr; intro fr w5 b3 hA hO
  replace hA := hA.sb (e' := [(1, pt b1), (2, str (⟨#[]⟩)), (3, pt b2), (16, .slice (some ⟨b3, 0, none⟩) 1 1)])
  refine ck (l := [3]) (r := []) (e' := [(1, pt b1), (2, str (⟨#[]⟩)), (3, pt b2), (4, .slice (some ⟨b3, 0, none⟩) 1 1)]) hA [] c0 ?_
  clear hA fr; intro fr hA
  refine end_ops ?_
  refine then_normal ?_
  refine wp_seq ?_
  refine sC (e' := [(2, str (⟨#[]⟩)), (4, .slice (some ⟨b3, 0, none⟩) 1 1), (37, .agg #[bl false, i64 a, bl false, i64 b, bl false, i64 c, bl true, i64 v]), (38, i64 0)]) 22 hA [bl false, i64 a, bl false, i64 b, bl false, i64 c, bl true, i64 v] (cc (hO.l1 1 1 4 (bl false)) (cc (hO.l1 2 1 3 (i64 a)) (cc (hO.l1 1 2 4 (bl false)) (cc (hO.l1 2 2 3 (i64 b)) (cc (hO.l1 1 3 4 (bl false)) (cc (hO.l1 2 3 3 (i64 c)) (cc (hO.l1 1 4 4 (bl true)) (cc (hO.l1 2 4 3 (i64 v)) c0)))))))) ?_
  clear hA fr; intro fr hA
  refine wp_block ?_
  have hT1 : One fT 9 1 (some ⟨b3, 0, none⟩) 1 ([nm] : List ByteArray) [(b3, 9, [str nm])] := One.ofBlk (r := []) (by kernel_rfl) (by first | decide | simp) (by decide) (by kernel_rfl)
  replace hO := Ow.move (A := []) (B := [(b2, 63, [str nm, bl false, bl false, bl false, bl true, bl false]), (b1, 46, [i64 ((k : Nat) : Int), i64 a, i64 b, i64 c, i64 v])]) (C := []) (x := (b3, 9, [str nm])) hO
  replace hO : Ow Tryd.prog none' w w5 ([(b2, 63, [str nm, bl false, bl false, bl false, bl true, bl false]), (b1, 46, [i64 ((k : Nat) : Int), i64 a, i64 b, i64 c, i64 v])] ++ ([(b3, 9, [str nm])] ++ ([]))) := hO.to (by simp only [List.append_assoc, List.cons_append, List.nil_append, List.append_nil])
  refine c_loop (fun mm fr W => (mm = 4 ∧ Holds 52 [] fr [(2, str (⟨#[]⟩)), (4, .slice (some ⟨b3, 0, none⟩) 1 1), (37, .agg #[bl false, i64 a, bl false, i64 b, bl false, i64 c, bl true, i64 v]), (38, i64 0)] ∧ Ow Tryd.prog none' w W ([(b2, 63, [str nm, bl false, bl false, bl false, bl true, bl false]), (b1, 46, [i64 ((k : Nat) : Int), i64 a, i64 b, i64 c, i64 v])] ++ ([(b3, 9, [str nm])] ++ ([])))) ∨ (mm = 3 ∧ Holds 52 [] fr [(2, str (⟨#[]⟩)), (4, .slice (some ⟨b3, 0, none⟩) 1 1), (37, .agg #[bl false, i64 a, bl false, i64 b, bl false, i64 c, bl true, i64 v]), (38, i64 1)] ∧ Ow Tryd.prog none' w W ([(b2, 63, [str nm, bl false, bl false, bl false, bl true, bl false]), (b1, 46, [i64 ((k : Nat) : Int), i64 a, i64 b, i64 c, i64 v])] ++ ([(b3, 9, [str nm])] ++ ([])))) ∨ (mm = 2 ∧ Holds 52 [] fr [(2, str (⟨#[]⟩)), (4, .slice (some ⟨b3, 0, none⟩) 1 1), (37, .agg #[bl false, i64 a, bl false, i64 b, bl false, i64 c, bl true, i64 v]), (38, i64 2)] ∧ Ow Tryd.prog none' w W ([(b2, 63, [str nm, bl false, bl false, bl false, bl true, bl false]), (b1, 46, [i64 ((k : Nat) : Int), i64 a, i64 b, i64 c, i64 v])] ++ ([(b3, 9, [str nm])] ++ ([])))) ∨ (mm = 1 ∧ Holds 52 [] fr [(2, str (⟨#[]⟩)), (4, .slice (some ⟨b3, 0, none⟩) 1 1), (37, .agg #[bl false, i64 a, bl false, i64 b, bl false, i64 c, bl true, i64 v]), (38, i64 3)] ∧ Ow Tryd.prog none' w W ([(b2, 63, [str nm, bl false, bl false, bl false, bl true, bl false]), (b1, 46, [i64 ((k : Nat) : Int), i64 a, i64 b, i64 c, i64 v])] ++ ([(b3, 9, [str nm])] ++ ([])))) ∨ (mm = 0 ∧ ∃ (p1 : Option Addr) (c1 : Nat) (T2 : OwL), Holds 52 [] fr [(2, str (⟨#[]⟩)), (4, .slice p1 ((([nm] : List ByteArray) ++ ([itoaS v] : List ByteArray)).length) c1), (37, .agg #[bl false, i64 a, bl false, i64 b, bl false, i64 c, bl true, i64 v]), (38, i64 4)] ∧ Ow Tryd.prog none' w W ([(b2, 63, [str nm, bl false, bl false, bl false, bl true, bl false]), (b1, 46, [i64 ((k : Nat) : Int), i64 a, i64 b, i64 c, i64 v])] ++ (T2 ++ ([]))) ∧ One fT 9 1 p1 c1 (([nm] : List ByteArray) ++ ([itoaS v] : List ByteArray)) T2)) ?_ ?_
  · exact ⟨_, (.inl ⟨rfl, hA.sb, (hO : Ow Tryd.prog none' w _ ([(b2, 63, [str nm, bl false, bl false, bl false, bl true, bl false]), (b1, 46, [i64 ((k : Nat) : Int), i64 a, i64 b, i64 c, i64 v])] ++ ([(b3, 9, [str nm])] ++ ([]))))⟩)⟩
  · rintro _ fr w17 (⟨rfl, hA, hO⟩ | ⟨rfl, hA, hO⟩ | ⟨rfl, hA, hO⟩ | ⟨rfl, hA, hO⟩ | ⟨rfl, p1, c1, T2, hA, hO, hT2⟩)
    ·
      refine sC (e' := [(2, str (⟨#[]⟩)), (4, .slice (some ⟨b3, 0, none⟩) 1 1), (37, .agg #[bl false, i64 a, bl false, i64 b, bl false, i64 c, bl true, i64 v]), (38, i64 0), (39, bl true)]) 1 hA [] c0 ?_
      clear hA fr; intro fr hA
      refine wp_seq ?_
      refine cT hA ?_
      refine wp_skip ?_
      refine then_normal ?_
      refine wp_seq ?_
      refine wp_block ?_
      refine sR (l := [0, 1, 2]) ?_
      refine ck (l := [0]) (r := [1, 2]) (e' := [(2, str (⟨#[]⟩)), (4, .slice (some ⟨b3, 0, none⟩) 1 1), (37, .agg #[bl false, i64 a, bl false, i64 b, bl false, i64 c, bl true, i64 v]), (38, i64 0), (40, .agg #[bl false, i64 a])]) hA [] c0 ?_
      clear hA fr; intro fr hA
      refine wpOps_cons' (mN (l := [bl false, i64 0]) (t := 72) (v := pt) (d := 6) hA hO ?_)
      clear hA hO fr; intro fr w18 b9 hA hO
      refine wpOps_cons' (mS (off := 0) (vc := [bl false, i64 a]) 0 hA hO ?_)
      clear hO; intro w19 hO
      replace hA := hA.sb (e' := [(2, str (⟨#[]⟩)), (4, .slice (some ⟨b3, 0, none⟩) 1 1), (6, pt b9), (37, .agg #[bl false, i64 a, bl false, i64 b, bl false, i64 c, bl true, i64 v]), (38, i64 0)])
      refine end_ops ?_
      refine then_normal ?_
      refine sC (e' := [(2, str (⟨#[]⟩)), (4, .slice (some ⟨b3, 0, none⟩) 1 1), (6, pt b9), (37, .agg #[bl false, i64 a, bl false, i64 b, bl false, i64 c, bl true, i64 v]), (38, i64 0), (42, bl false)]) 2 hA [bl false] (cc (hO.l1 0 0 4 (bl false)) c0) ?_
      clear hA fr; intro fr hA
      refine cF hA ?_
      refine wp_skip ?_
      refine inBlock_normal ?_
      refine then_normal ?_
      refine rC (e' := [(2, str (⟨#[]⟩)), (4, .slice (some ⟨b3, 0, none⟩) 1 1), (37, .agg #[bl false, i64 a, bl false, i64 b, bl false, i64 c, bl true, i64 v]), (38, i64 1)]) 2 hA [bl false] c0 ?_
      clear hA fr; intro fr hA
      refine then_normal ?_
      exact ⟨3, by decide, (.inr (.inl ⟨rfl, hA.sb, (Ow.subP (A := [(b9, 72, [bl false, i64 a]), (b2, 63, [str nm, bl false, bl false, bl false, bl true, bl false]), (b1, 46, [i64 ((k : Nat) : Int), i64 a, i64 b, i64 c, i64 v])]) (A' := [(b2, 63, [str nm, bl false, bl false, bl false, bl true, bl false]), (b1, 46, [i64 ((k : Nat) : Int), i64 a, i64 b, i64 c, i64 v])]) (B := [(b3, 9, [str nm])] ++ ([])) hO (.cons _ (.cons_cons _ (.cons_cons _ .slnil))))⟩))⟩
    ·
      refine sC (e' := [(2, str (⟨#[]⟩)), (4, .slice (some ⟨b3, 0, none⟩) 1 1), (37, .agg #[bl false, i64 a, bl false, i64 b, bl false, i64 c, bl true, i64 v]), (38, i64 1), (39, bl true)]) 1 hA [] c0 ?_
      clear hA fr; intro fr hA
      refine wp_seq ?_
      refine cT hA ?_
      refine wp_skip ?_
      refine then_normal ?_
      refine wp_seq ?_
      refine wp_block ?_
      refine sR (l := [0, 1, 2]) ?_
      refine ck (l := [0]) (r := [1, 2]) (e' := [(2, str (⟨#[]⟩)), (4, .slice (some ⟨b3, 0, none⟩) 1 1), (37, .agg #[bl false, i64 a, bl false, i64 b, bl false, i64 c, bl true, i64 v]), (38, i64 1), (40, .agg #[bl false, i64 b])]) hA [] c0 ?_
      clear hA fr; intro fr hA
      refine wpOps_cons' (mN (l := [bl false, i64 0]) (t := 72) (v := pt) (d := 6) hA hO ?_)
      clear hA hO fr; intro fr w20 b10 hA hO
      refine wpOps_cons' (mS (off := 0) (vc := [bl false, i64 b]) 0 hA hO ?_)
      clear hO; intro w21 hO
      replace hA := hA.sb (e' := [(2, str (⟨#[]⟩)), (4, .slice (some ⟨b3, 0, none⟩) 1 1), (6, pt b10), (37, .agg #[bl false, i64 a, bl false, i64 b, bl false, i64 c, bl true, i64 v]), (38, i64 1)])
      refine end_ops ?_
      refine then_normal ?_
      refine sC (e' := [(2, str (⟨#[]⟩)), (4, .slice (some ⟨b3, 0, none⟩) 1 1), (6, pt b10), (37, .agg #[bl false, i64 a, bl false, i64 b, bl false, i64 c, bl true, i64 v]), (38, i64 1), (42, bl false)]) 2 hA [bl false] (cc (hO.l1 0 0 4 (bl false)) c0) ?_
      clear hA fr; intro fr hA
      refine cF hA ?_
      refine wp_skip ?_
      refine inBlock_normal ?_
      refine then_normal ?_
      refine rC (e' := [(2, str (⟨#[]⟩)), (4, .slice (some ⟨b3, 0, none⟩) 1 1), (37, .agg #[bl false, i64 a, bl false, i64 b, bl false, i64 c, bl true, i64 v]), (38, i64 2)]) 2 hA [bl false] c0 ?_
      clear hA fr; intro fr hA
      refine then_normal ?_
      exact ⟨2, by decide, (.inr (.inr (.inl ⟨rfl, hA.sb, (Ow.subP (A := [(b10, 72, [bl false, i64 b]), (b2, 63, [str nm, bl false, bl false, bl false, bl true, bl false]), (b1, 46, [i64 ((k : Nat) : Int), i64 a, i64 b, i64 c, i64 v])]) (A' := [(b2, 63, [str nm, bl false, bl false, bl false, bl true, bl false]), (b1, 46, [i64 ((k : Nat) : Int), i64 a, i64 b, i64 c, i64 v])]) (B := [(b3, 9, [str nm])] ++ ([])) hO (.cons _ (.cons_cons _ (.cons_cons _ .slnil))))⟩)))⟩
    ·
      refine sC (e' := [(2, str (⟨#[]⟩)), (4, .slice (some ⟨b3, 0, none⟩) 1 1), (37, .agg #[bl false, i64 a, bl false, i64 b, bl false, i64 c, bl true, i64 v]), (38, i64 2), (39, bl true)]) 1 hA [] c0 ?_
      clear hA fr; intro fr hA
      refine wp_seq ?_
      refine cT hA ?_
      refine wp_skip ?_
      refine then_normal ?_
      refine wp_seq ?_
      refine wp_block ?_
      refine sR (l := [0, 1, 2]) ?_
      refine ck (l := [0]) (r := [1, 2]) (e' := [(2, str (⟨#[]⟩)), (4, .slice (some ⟨b3, 0, none⟩) 1 1), (37, .agg #[bl false, i64 a, bl false, i64 b, bl false, i64 c, bl true, i64 v]), (38, i64 2), (40, .agg #[bl false, i64 c])]) hA [] c0 ?_
      clear hA fr; intro fr hA
      refine wpOps_cons' (mN (l := [bl false, i64 0]) (t := 72) (v := pt) (d := 6) hA hO ?_)
      clear hA hO fr; intro fr w22 b11 hA hO
      refine wpOps_cons' (mS (off := 0) (vc := [bl false, i64 c]) 0 hA hO ?_)
      clear hO; intro w23 hO
      replace hA := hA.sb (e' := [(2, str (⟨#[]⟩)), (4, .slice (some ⟨b3, 0, none⟩) 1 1), (6, pt b11), (37, .agg #[bl false, i64 a, bl false, i64 b, bl false, i64 c, bl true, i64 v]), (38, i64 2)])
      refine end_ops ?_
      refine then_normal ?_
      refine sC (e' := [(2, str (⟨#[]⟩)), (4, .slice (some ⟨b3, 0, none⟩) 1 1), (6, pt b11), (37, .agg #[bl false, i64 a, bl false, i64 b, bl false, i64 c, bl true, i64 v]), (38, i64 2), (42, bl false)]) 2 hA [bl false] (cc (hO.l1 0 0 4 (bl false)) c0) ?_
      clear hA fr; intro fr hA
      refine cF hA ?_
      refine wp_skip ?_
      refine inBlock_normal ?_
      refine then_normal ?_
      refine rC (e' := [(2, str (⟨#[]⟩)), (4, .slice (some ⟨b3, 0, none⟩) 1 1), (37, .agg #[bl false, i64 a, bl false, i64 b, bl false, i64 c, bl true, i64 v]), (38, i64 3)]) 2 hA [bl false] c0 ?_
      clear hA fr; intro fr hA
      refine then_normal ?_
      exact ⟨1, by decide, (.inr (.inr (.inr (.inl ⟨rfl, hA.sb, (Ow.subP (A := [(b11, 72, [bl false, i64 c]), (b2, 63, [str nm, bl false, bl false, bl false, bl true, bl false]), (b1, 46, [i64 ((k : Nat) : Int), i64 a, i64 b, i64 c, i64 v])]) (A' := [(b2, 63, [str nm, bl false, bl false, bl false, bl true, bl false]), (b1, 46, [i64 ((k : Nat) : Int), i64 a, i64 b, i64 c, i64 v])]) (B := [(b3, 9, [str nm])] ++ ([])) hO (.cons _ (.cons_cons _ (.cons_cons _ .slnil))))⟩))))⟩
    ·
      refine sC (e' := [(2, str (⟨#[]⟩)), (4, .slice (some ⟨b3, 0, none⟩) 1 1), (37, .agg #[bl false, i64 a, bl false, i64 b, bl false, i64 c, bl true, i64 v]), (38, i64 3), (39, bl true)]) 1 hA [] c0 ?_
      clear hA fr; intro fr hA
      refine wp_seq ?_
      refine cT hA ?_
      refine wp_skip ?_
      refine then_normal ?_
      refine wp_seq ?_
      refine wp_block ?_
      refine sR (l := [0, 1, 2]) ?_
      refine ck (l := [0]) (r := [1, 2]) (e' := [(2, str (⟨#[]⟩)), (4, .slice (some ⟨b3, 0, none⟩) 1 1), (37, .agg #[bl false, i64 a, bl false, i64 b, bl false, i64 c, bl true, i64 v]), (38, i64 3), (40, .agg #[bl true, i64 v])]) hA [] c0 ?_
      clear hA fr; intro fr hA
      refine wpOps_cons' (mN (l := [bl false, i64 0]) (t := 72) (v := pt) (d := 6) hA hO ?_)
      clear hA hO fr; intro fr w24 b12 hA hO
      refine wpOps_cons' (mS (off := 0) (vc := [bl true, i64 v]) 0 hA hO ?_)
      clear hO; intro w25 hO
      replace hA := hA.sb (e' := [(2, str (⟨#[]⟩)), (4, .slice (some ⟨b3, 0, none⟩) 1 1), (6, pt b12), (37, .agg #[bl false, i64 a, bl false, i64 b, bl false, i64 c, bl true, i64 v]), (38, i64 3)])
      refine end_ops ?_
      refine then_normal ?_
      refine sC (e' := [(2, str (⟨#[]⟩)), (4, .slice (some ⟨b3, 0, none⟩) 1 1), (6, pt b12), (37, .agg #[bl false, i64 a, bl false, i64 b, bl false, i64 c, bl true, i64 v]), (38, i64 3), (42, bl true)]) 2 hA [bl true] (cc (hO.l1 0 0 4 (bl true)) c0) ?_
      clear hA fr; intro fr hA
      refine cT hA ?_
      refine rR (l := (rg 0 7)) ?_
      refine ck (l := [0, 1, 2]) (r := [3, 4, 5, 6]) (e' := [(2, str (⟨#[]⟩)), (4, .slice (some ⟨b3, 0, none⟩) 1 1), (37, .agg #[bl false, i64 a, bl false, i64 b, bl false, i64 c, bl true, i64 v]), (38, i64 3), (43, .slice (some ⟨b3, 0, none⟩) 1 1), (45, i64 v)]) hA [i64 v] (cc (hO.l1 0 1 3 (i64 v)) c0) ?_
      clear hA fr; intro fr hA
      refine wpOps_cons' (mK (f := 35) (args := [i64 v]) (d := (some 46)) (v := str (itoaS v)) hA hO Tryd.func35 (itoa_any v _ (inK_i64 (by omega) (by omega)) (hP.keep hO.only)) ?_)
      clear hA hO fr; intro fr w26 hA hO
      replace hA := hA.sb (e' := [(2, str (⟨#[]⟩)), (4, .slice (some ⟨b3, 0, none⟩) 1 1), (37, .agg #[bl false, i64 a, bl false, i64 b, bl false, i64 c, bl true, i64 v]), (38, i64 3), (43, .slice (some ⟨b3, 0, none⟩) 1 1), (46, str (itoaS v))])
      refine wpOps_cons' (mN (l := [str (itoaS v)]) (t := 9) (v := fun b => .slice (some ⟨b, 0, none⟩) 1 1) (d := 47) hA hO ?_)
      clear hA hO fr; intro fr w27 b13 hA hO
      replace hA := hA.sb (e' := [(2, str (⟨#[]⟩)), (4, .slice (some ⟨b3, 0, none⟩) 1 1), (37, .agg #[bl false, i64 a, bl false, i64 b, bl false, i64 c, bl true, i64 v]), (38, i64 3), (43, .slice (some ⟨b3, 0, none⟩) 1 1), (47, .slice (some ⟨b13, 0, none⟩) 1 1)])
      replace hO : Ow Tryd.prog none' w w27 ([(b13, 9, [str (itoaS v)]), (b12, 72, [bl true, i64 v]), (b2, 63, [str nm, bl false, bl false, bl false, bl true, bl false]), (b1, 46, [i64 ((k : Nat) : Int), i64 a, i64 b, i64 c, i64 v])] ++ ([(b3, 9, [str nm])] ++ ([]))) := hO
      refine wpOps_cons' (mA (f := fT) (el := 9) (sz := 1) (bytes := 16) (p := some ⟨b3, 0, none⟩) (c := 1) (l := ([nm] : List ByteArray)) (l' := ([itoaS v] : List ByteArray)) (T := [(b3, 9, [str nm])]) (t := 40) (tx := 40) (ty := 40) (x := .slice (some ⟨b13, 0, none⟩) 1 1) (d := 48) [(b13, 9, [str (itoaS v)]), (b12, 72, [bl true, i64 v]), (b2, 63, [str nm, bl false, bl false, bl false, bl true, bl false]), (b1, 46, [i64 ((k : Nat) : Int), i64 a, i64 b, i64 c, i64 v])] ([]) encT hA hO hT1 (Vw.src (e' := 9) encT ((hO.b 0).vw (off := 0) (xs := ([itoaS v] : List ByteArray)) (by kernel_rfl)) (by kernel_rfl)) (by simp) (by unfold maxLen; simp) ?_)
      clear hA hO fr; intro fr w28 p2 c2 T3 hA hO hT3
      replace hA := hA.sb (e' := [(2, str (⟨#[]⟩)), (4, .slice (some ⟨b3, 0, none⟩) 1 1), (37, .agg #[bl false, i64 a, bl false, i64 b, bl false, i64 c, bl true, i64 v]), (38, i64 3), (48, .slice p2 ((([nm] : List ByteArray) ++ ([itoaS v] : List ByteArray)).length) c2)])
      refine ck (l := [6]) (r := []) (e' := [(2, str (⟨#[]⟩)), (4, .slice p2 ((([nm] : List ByteArray) ++ ([itoaS v] : List ByteArray)).length) c2), (37, .agg #[bl false, i64 a, bl false, i64 b, bl false, i64 c, bl true, i64 v]), (38, i64 3)]) hA [] c0 ?_
      clear hA fr; intro fr hA
      refine end_ops ?_
      refine inBlock_normal ?_
      refine then_normal ?_
      refine rC (e' := [(2, str (⟨#[]⟩)), (4, .slice p2 ((([nm] : List ByteArray) ++ ([itoaS v] : List ByteArray)).length) c2), (37, .agg #[bl false, i64 a, bl false, i64 b, bl false, i64 c, bl true, i64 v]), (38, i64 4)]) 2 hA [bl false] c0 ?_
      clear hA fr; intro fr hA
      refine then_normal ?_
      exact ⟨0, by decide, (.inr (.inr (.inr (.inr ⟨rfl, p2, c2, T3, hA.sb, (Ow.subP (A := [(b13, 9, [str (itoaS v)]), (b12, 72, [bl true, i64 v]), (b2, 63, [str nm, bl false, bl false, bl false, bl true, bl false]), (b1, 46, [i64 ((k : Nat) : Int), i64 a, i64 b, i64 c, i64 v])]) (A' := [(b2, 63, [str nm, bl false, bl false, bl false, bl true, bl false]), (b1, 46, [i64 ((k : Nat) : Int), i64 a, i64 b, i64 c, i64 v])]) (B := T3 ++ ([])) hO (.cons _ (.cons _ (.cons_cons _ (.cons_cons _ .slnil))))), hT3⟩))))⟩
    ·
      refine sC (e' := [(2, str (⟨#[]⟩)), (4, .slice p1 ((([nm] : List ByteArray) ++ ([itoaS v] : List ByteArray)).length) c1), (37, .agg #[bl false, i64 a, bl false, i64 b, bl false, i64 c, bl true, i64 v]), (38, i64 4), (39, bl false)]) 1 hA [] c0 ?_
      clear hA fr; intro fr hA
      refine wp_seq ?_
      refine cF hA ?_
      refine wp_exit ?_
      refine then_exit ?_
      refine then_exit ?_
      refine inBlock_exit ?_
      refine then_normal ?_
      refine sR (l := [0, 1, 2]) ?_
      refine ck (l := [0]) (r := [1, 2]) (e' := [(2, str (⟨#[]⟩)), (50, .slice p1 ((([nm] : List ByteArray) ++ ([itoaS v] : List ByteArray)).length) c1)]) hA [] c0 ?_
      clear hA fr; intro fr hA
      replace hO : Ow Tryd.prog none' w w17 ([(b2, 63, [str nm, bl false, bl false, bl false, bl true, bl false]), (b1, 46, [i64 ((k : Nat) : Int), i64 a, i64 b, i64 c, i64 v])] ++ (T2 ++ ([]))) := hO
      obtain ⟨b14, r1, rfl, rfl, hle_b14, hcap_b14⟩ := hT2.open (by simp)
      replace hO : Ow Tryd.prog none' w w17 [(b2, 63, [str nm, bl false, bl false, bl false, bl true, bl false]), (b1, 46, [i64 ((k : Nat) : Int), i64 a, i64 b, i64 c, i64 v]), (b14, 9, ((([nm] : List ByteArray) ++ ([itoaS v] : List ByteArray)).flatMap fT ++ r1))] := hO.to (by simp only [List.append_assoc, List.cons_append, List.nil_append, List.append_nil])
      refine wpOps_cons' (mK (f := 46) (args := [.slice (some ⟨b14, 0, none⟩) (([nm] : List ByteArray) ++ ([itoaS v] : List ByteArray)).length c1, str (⟨#[32]⟩)]) (d := (some 51)) (v := str (joinS (([nm] : List ByteArray) ++ ([itoaS v] : List ByteArray)))) hA hO Tryd.func46 (join_any b14 0 c1 (([nm] : List ByteArray) ++ ([itoaS v] : List ByteArray)) (⟨#[32]⟩) _ (hO.b 2).strs (hO.b 2).lt (by simp) hle_b14 (by simp [Lib.join, List.intercalate]; try simp at la_; try simp at lb_; try simp at lc_; try simp at lv_; try simp at hnm; omega)) ?_)
      clear hA hO fr; intro fr w29 hA hO
      replace hA := hA.sb (e' := [(2, str (⟨#[]⟩)), (51, str (joinS (([nm] : List ByteArray) ++ ([itoaS v] : List ByteArray))))])
      refine ck (l := [2]) (r := []) (e' := [(2, str (joinS (([nm] : List ByteArray) ++ ([itoaS v] : List ByteArray))))]) hA [] c0 ?_
      clear hA fr; intro fr hA
      refine end_ops ?_
      refine then_normal ?_
      refine wp_ret ?_
      refine cR (cs := [none]) (us := [str (joinS (([nm] : List ByteArray) ++ ([itoaS v] : List ByteArray)))]) hA [] trivial ?_
      have hF := hO.only; clear hA hO
      exact ⟨rfl, hF⟩

theorem show_5 (k : Nat) (a b c v : Int) (nm : ByteArray) (w : World) (hT : Tab w) (hP : Pow w) (h1 : 1 ≤ k) (h2 : k ≤ 22) (hl : legalB ((k : Nat) : Int) a b c v = true) (hnm : nm.data.toList.length ≤ 100) (hrow : RowAt Tryd.prog w 63 k nm true false false false false) :
    Calls Tryd.prog 36 #[.agg #[i64 ((k : Nat) : Int), i64 a, i64 b, i64 c, i64 v]] w fun e w' => e = .returned (.string (joinS ([nm, itoaS a] : List ByteArray))) ∧ Only none' w w' := by
  refine c_enter (args := [.agg #[i64 ((k : Nat) : Int), i64 a, i64 b, i64 c, i64 v]]) (m := 51) (n := 52) Tryd.func36 rfl (by kernel_rfl) (by kernel_rfl) fun fr hA => ?_
  have hO := Ow.nil Tryd.prog none' w
  obtain ⟨ho_, ha_, hb_, hc_, hv_, hc2_⟩ := legal_spec hl; have la_ := itoaS_len a; have lb_ := itoaS_len b; have lc_ := itoaS_len c; have lv_ := itoaS_len v
  refine sR (l := [0, 1]) ?_
  refine wpOps_cons' (mN (l := [i64 ((k : Nat) : Int), i64 a, i64 b, i64 c, i64 v]) (t := 46) (v := pt) (d := 1) hA hO ?_)
  clear hA hO fr; intro fr w1 b1 hA hO
  replace hA := hA.sb (e' := [(1, pt b1)])
  refine ck (l := [1]) (r := []) (e' := [(1, pt b1), (2, str (⟨#[]⟩))]) hA [] c0 ?_
  clear hA fr; intro fr hA
  refine end_ops ?_
  refine then_normal ?_
  refine wp_seq ?_
  refine sR (l := [0, 1, 2]) ?_
  refine ck (l := [0]) (r := [1, 2]) (e' := [(1, pt b1), (2, str (⟨#[]⟩)), (7, .agg #[i64 ((k : Nat) : Int), i64 a, i64 b, i64 c, i64 v])]) hA [.agg #[i64 ((k : Nat) : Int), i64 a, i64 b, i64 c, i64 v]] (cc (hO.ln 0 0 46 [i64 ((k : Nat) : Int), i64 a, i64 b, i64 c, i64 v]) c0) ?_
  clear hA fr; intro fr hA
  refine wpOps_cons' (mK (f := 39) (args := [.agg #[i64 ((k : Nat) : Int), i64 a, i64 b, i64 c, i64 v]]) (d := (some 8)) (v := bl true) hA hO Tryd.func39 (rs (legal_any ((k : Nat) : Int) a b c v _ (hT.keep hO.only (fun h => h))) (congrArg Value.bool hl)) ?_)
  clear hA hO fr; intro fr w2 hA hO
  replace hA := hA.sb (e' := [(1, pt b1), (2, str (⟨#[]⟩)), (8, bl true)])
  refine ck (l := [2]) (r := []) (e' := [(1, pt b1), (2, str (⟨#[]⟩)), (9, bl false)]) hA [] c0 ?_
  clear hA fr; intro fr hA
  refine end_ops ?_
  refine then_normal ?_
  refine cF hA ?_
  refine wp_skip ?_
  refine then_normal ?_
  refine sR (l := (rg 0 6)) ?_
  refine ck (l := [0, 1, 2, 3]) (r := [4, 5]) (e' := [(1, pt b1), (2, str (⟨#[]⟩)), (13, .agg #[str nm, bl true, bl false, bl false, bl false, bl false])]) hA [i64 ((k : Nat) : Int), .agg #[str nm, bl true, bl false, bl false, bl false, bl false]] (cc (hO.l1 0 0 3 (i64 ((k : Nat) : Int))) (cc (⟨by omega, by omega⟩ : (0 : Int) ≤ ((k : Nat) : Int) ∧ ((k : Nat) : Int) < ((23 : Nat) : Int)) (cc ((hrow _ hO.only) : Ld Tryd.prog w2 ((⟨0, 0, none⟩ : Addr).add (k * 6)) 63 (.agg #[str nm, bl true, bl false, bl false, bl false, bl false])) c0))) ?_
  clear hA fr; intro fr hA
  refine wpOps_cons' (mN (l := [str (⟨#[]⟩), bl false, bl false, bl false, bl false, bl false]) (t := 63) (v := pt) (d := 3) hA hO ?_)
  clear hA hO fr; intro fr w3 b2 hA hO
  refine wpOps_cons' (mS (off := 0) (vc := [str nm, bl true, bl false, bl false, bl false, bl false]) 0 hA hO ?_)
  clear hO; intro w4 hO
  replace hA := hA.sb (e' := [(1, pt b1), (2, str (⟨#[]⟩)), (3, pt b2)])
  refine end_ops ?_
  refine then_normal ?_
  refine sR (l := [0, 1, 2, 3]) ?_
  refine ck (l := [0, 1]) (r := [2, 3]) (e' := [(1, pt b1), (2, str (⟨#[]⟩)), (3, pt b2), (15, str nm)]) hA [str nm] (cc (hO.l1 0 0 9 (str nm)) c0) ?_
  clear hA fr; intro fr hA
  refine wpOps_cons' (mN (l := [str nm]) (t := 9) (v := fun b => .slice (some ⟨b, 0, none⟩) 1 1) (d := 16) hA hO ?_)
  clear hA hO fr; intro fr w5 b3 hA hO
  replace hA := hA.sb (e' := [(1, pt b1), (2, str (⟨#[]⟩)), (3, pt b2), (16, .slice (some ⟨b3, 0, none⟩) 1 1)])
  refine ck (l := [3]) (r := []) (e' := [(1, pt b1), (2, str (⟨#[]⟩)), (3, pt b2), (4, .slice (some ⟨b3, 0, none⟩) 1 1)]) hA [] c0 ?_
  clear hA fr; intro fr hA
  refine end_ops ?_
  refine then_normal ?_
  refine wp_seq ?_
  refine sC (e' := [(2, str (⟨#[]⟩)), (4, .slice (some ⟨b3, 0, none⟩) 1 1), (37, .agg #[bl true, i64 a, bl false, i64 b, bl false, i64 c, bl false, i64 v]), (38, i64 0)]) 22 hA [bl true, i64 a, bl false, i64 b, bl false, i64 c, bl false, i64 v] (cc (hO.l1 1 1 4 (bl true)) (cc (hO.l1 2 1 3 (i64 a)) (cc (hO.l1 1 2 4 (bl false)) (cc (hO.l1 2 2 3 (i64 b)) (cc (hO.l1 1 3 4 (bl false)) (cc (hO.l1 2 3 3 (i64 c)) (cc (hO.l1 1 4 4 (bl false)) (cc (hO.l1 2 4 3 (i64 v)) c0)))))))) ?_
  clear hA fr; intro fr hA
  refine wp_block ?_
  have hT1 : One fT 9 1 (some ⟨b3, 0, none⟩) 1 ([nm] : List ByteArray) [(b3, 9, [str nm])] := One.ofBlk (r := []) (by kernel_rfl) (by first | decide | simp) (by decide) (by kernel_rfl)
  replace hO := Ow.move (A := []) (B := [(b2, 63, [str nm, bl true, bl false, bl false, bl false, bl false]), (b1, 46, [i64 ((k : Nat) : Int), i64 a, i64 b, i64 c, i64 v])]) (C := []) (x := (b3, 9, [str nm])) hO
  replace hO : Ow Tryd.prog none' w w5 ([(b2, 63, [str nm, bl true, bl false, bl false, bl false, bl false]), (b1, 46, [i64 ((k : Nat) : Int), i64 a, i64 b, i64 c, i64 v])] ++ ([(b3, 9, [str nm])] ++ ([]))) := hO.to (by simp only [List.append_assoc, List.cons_append, List.nil_append, List.append_nil])
  refine c_loop (fun mm fr W => (mm = 4 ∧ Holds 52 [] fr [(2, str (⟨#[]⟩)), (4, .slice (some ⟨b3, 0, none⟩) 1 1), (37, .agg #[bl true, i64 a, bl false, i64 b, bl false, i64 c, bl false, i64 v]), (38, i64 0)] ∧ Ow Tryd.prog none' w W ([(b2, 63, [str nm, bl true, bl false, bl false, bl false, bl false]), (b1, 46, [i64 ((k : Nat) : Int), i64 a, i64 b, i64 c, i64 v])] ++ ([(b3, 9, [str nm])] ++ ([])))) ∨ (mm = 3 ∧ ∃ (p1 : Option Addr) (c1 : Nat) (T2 : OwL), Holds 52 [] fr [(2, str (⟨#[]⟩)), (4, .slice p1 ((([nm] : List ByteArray) ++ ([itoaS a] : List ByteArray)).length) c1), (37, .agg #[bl true, i64 a, bl false, i64 b, bl false, i64 c, bl false, i64 v]), (38, i64 1)] ∧ Ow Tryd.prog none' w W ([(b2, 63, [str nm, bl true, bl false, bl false, bl false, bl false]), (b1, 46, [i64 ((k : Nat) : Int), i64 a, i64 b, i64 c, i64 v])] ++ (T2 ++ ([]))) ∧ One fT 9 1 p1 c1 (([nm] : List ByteArray) ++ ([itoaS a] : List ByteArray)) T2) ∨ (mm = 2 ∧ ∃ (p1 : Option Addr) (c1 : Nat) (T2 : OwL), Holds 52 [] fr [(2, str (⟨#[]⟩)), (4, .slice p1 ((([nm] : List ByteArray) ++ ([itoaS a] : List ByteArray)).length) c1), (37, .agg #[bl true, i64 a, bl false, i64 b, bl false, i64 c, bl false, i64 v]), (38, i64 2)] ∧ Ow Tryd.prog none' w W ([(b2, 63, [str nm, bl true, bl false, bl false, bl false, bl false]), (b1, 46, [i64 ((k : Nat) : Int), i64 a, i64 b, i64 c, i64 v])] ++ (T2 ++ ([]))) ∧ One fT 9 1 p1 c1 (([nm] : List ByteArray) ++ ([itoaS a] : List ByteArray)) T2) ∨ (mm = 1 ∧ ∃ (p1 : Option Addr) (c1 : Nat) (T2 : OwL), Holds 52 [] fr [(2, str (⟨#[]⟩)), (4, .slice p1 ((([nm] : List ByteArray) ++ ([itoaS a] : List ByteArray)).length) c1), (37, .agg #[bl true, i64 a, bl false, i64 b, bl false, i64 c, bl false, i64 v]), (38, i64 3)] ∧ Ow Tryd.prog none' w W ([(b2, 63, [str nm, bl true, bl false, bl false, bl false, bl false]), (b1, 46, [i64 ((k : Nat) : Int), i64 a, i64 b, i64 c, i64 v])] ++ (T2 ++ ([]))) ∧ One fT 9 1 p1 c1 (([nm] : List ByteArray) ++ ([itoaS a] : List ByteArray)) T2) ∨ (mm = 0 ∧ ∃ (p1 : Option Addr) (c1 : Nat) (T2 : OwL), Holds 52 [] fr [(2, str (⟨#[]⟩)), (4, .slice p1 ((([nm] : List ByteArray) ++ ([itoaS a] : List ByteArray)).length) c1), (37, .agg #[bl true, i64 a, bl false, i64 b, bl false, i64 c, bl false, i64 v]), (38, i64 4)] ∧ Ow Tryd.prog none' w W ([(b2, 63, [str nm, bl true, bl false, bl false, bl false, bl false]), (b1, 46, [i64 ((k : Nat) : Int), i64 a, i64 b, i64 c, i64 v])] ++ (T2 ++ ([]))) ∧ One fT 9 1 p1 c1 (([nm] : List ByteArray) ++ ([itoaS a] : List ByteArray)) T2)) ?_ ?_
  · exact ⟨_, (.inl ⟨rfl, hA.sb, (hO : Ow Tryd.prog none' w _ ([(b2, 63, [str nm, bl true, bl false, bl false, bl false, bl false]), (b1, 46, [i64 ((k : Nat) : Int), i64 a, i64 b, i64 c, i64 v])] ++ ([(b3, 9, [str nm])] ++ ([]))))⟩)⟩
  · rintro _ fr w17 (⟨rfl, hA, hO⟩ | ⟨rfl, p1, c1, T2, hA, hO, hT2⟩ | ⟨rfl, p1, c1, T2, hA, hO, hT2⟩ | ⟨rfl, p1, c1, T2, hA, hO, hT2⟩ | ⟨rfl, p1, c1, T2, hA, hO, hT2⟩)
    ·
      refine sC (e' := [(2, str (⟨#[]⟩)), (4, .slice (some ⟨b3, 0, none⟩) 1 1), (37, .agg #[bl true, i64 a, bl false, i64 b, bl false, i64 c, bl false, i64 v]), (38, i64 0), (39, bl true)]) 1 hA [] c0 ?_
      clear hA fr; intro fr hA
      refine wp_seq ?_
      refine cT hA ?_
      refine wp_skip ?_
      refine then_normal ?_
      refine wp_seq ?_
      refine wp_block ?_
      refine sR (l := [0, 1, 2]) ?_
      refine ck (l := [0]) (r := [1, 2]) (e' := [(2, str (⟨#[]⟩)), (4, .slice (some ⟨b3, 0, none⟩) 1 1), (37, .agg #[bl true, i64 a, bl false, i64 b, bl false, i64 c, bl false, i64 v]), (38, i64 0), (40, .agg #[bl true, i64 a])]) hA [] c0 ?_
      clear hA fr; intro fr hA
      refine wpOps_cons' (mN (l := [bl false, i64 0]) (t := 72) (v := pt) (d := 6) hA hO ?_)
      clear hA hO fr; intro fr w18 b9 hA hO
      refine wpOps_cons' (mS (off := 0) (vc := [bl true, i64 a]) 0 hA hO ?_)
      clear hO; intro w19 hO
      replace hA := hA.sb (e' := [(2, str (⟨#[]⟩)), (4, .slice (some ⟨b3, 0, none⟩) 1 1), (6, pt b9), (37, .agg #[bl true, i64 a, bl false, i64 b, bl false, i64 c, bl false, i64 v]), (38, i64 0)])
      refine end_ops ?_
      refine then_normal ?_
      refine sC (e' := [(2, str (⟨#[]⟩)), (4, .slice (some ⟨b3, 0, none⟩) 1 1), (6, pt b9), (37, .agg #[bl true, i64 a, bl false, i64 b, bl false, i64 c, bl false, i64 v]), (38, i64 0), (42, bl true)]) 2 hA [bl true] (cc (hO.l1 0 0 4 (bl true)) c0) ?_
      clear hA fr; intro fr hA
      refine cT hA ?_
      refine rR (l := (rg 0 7)) ?_
      refine ck (l := [0, 1, 2]) (r := [3, 4, 5, 6]) (e' := [(2, str (⟨#[]⟩)), (4, .slice (some ⟨b3, 0, none⟩) 1 1), (37, .agg #[bl true, i64 a, bl false, i64 b, bl false, i64 c, bl false, i64 v]), (38, i64 0), (43, .slice (some ⟨b3, 0, none⟩) 1 1), (45, i64 a)]) hA [i64 a] (cc (hO.l1 0 1 3 (i64 a)) c0) ?_
      clear hA fr; intro fr hA
      refine wpOps_cons' (mK (f := 35) (args := [i64 a]) (d := (some 46)) (v := str (itoaS a)) hA hO Tryd.func35 (itoa_any a _ (inK_i64 (by omega) (by omega)) (hP.keep hO.only)) ?_)
      clear hA hO fr; intro fr w20 hA hO
      replace hA := hA.sb (e' := [(2, str (⟨#[]⟩)), (4, .slice (some ⟨b3, 0, none⟩) 1 1), (37, .agg #[bl true, i64 a, bl false, i64 b, bl false, i64 c, bl false, i64 v]), (38, i64 0), (43, .slice (some ⟨b3, 0, none⟩) 1 1), (46, str (itoaS a))])
      refine wpOps_cons' (mN (l := [str (itoaS a)]) (t := 9) (v := fun b => .slice (some ⟨b, 0, none⟩) 1 1) (d := 47) hA hO ?_)
      clear hA hO fr; intro fr w21 b10 hA hO
      replace hA := hA.sb (e' := [(2, str (⟨#[]⟩)), (4, .slice (some ⟨b3, 0, none⟩) 1 1), (37, .agg #[bl true, i64 a, bl false, i64 b, bl false, i64 c, bl false, i64 v]), (38, i64 0), (43, .slice (some ⟨b3, 0, none⟩) 1 1), (47, .slice (some ⟨b10, 0, none⟩) 1 1)])
      replace hO : Ow Tryd.prog none' w w21 ([(b10, 9, [str (itoaS a)]), (b9, 72, [bl true, i64 a]), (b2, 63, [str nm, bl true, bl false, bl false, bl false, bl false]), (b1, 46, [i64 ((k : Nat) : Int), i64 a, i64 b, i64 c, i64 v])] ++ ([(b3, 9, [str nm])] ++ ([]))) := hO
      refine wpOps_cons' (mA (f := fT) (el := 9) (sz := 1) (bytes := 16) (p := some ⟨b3, 0, none⟩) (c := 1) (l := ([nm] : List ByteArray)) (l' := ([itoaS a] : List ByteArray)) (T := [(b3, 9, [str nm])]) (t := 40) (tx := 40) (ty := 40) (x := .slice (some ⟨b10, 0, none⟩) 1 1) (d := 48) [(b10, 9, [str (itoaS a)]), (b9, 72, [bl true, i64 a]), (b2, 63, [str nm, bl true, bl false, bl false, bl false, bl false]), (b1, 46, [i64 ((k : Nat) : Int), i64 a, i64 b, i64 c, i64 v])] ([]) encT hA hO hT1 (Vw.src (e' := 9) encT ((hO.b 0).vw (off := 0) (xs := ([itoaS a] : List ByteArray)) (by kernel_rfl)) (by kernel_rfl)) (by simp) (by unfold maxLen; simp) ?_)
      clear hA hO fr; intro fr w22 p2 c2 T3 hA hO hT3
      replace hA := hA.sb (e' := [(2, str (⟨#[]⟩)), (4, .slice (some ⟨b3, 0, none⟩) 1 1), (37, .agg #[bl true, i64 a, bl false, i64 b, bl false, i64 c, bl false, i64 v]), (38, i64 0), (48, .slice p2 ((([nm] : List ByteArray) ++ ([itoaS a] : List ByteArray)).length) c2)])
      refine ck (l := [6]) (r := []) (e' := [(2, str (⟨#[]⟩)), (4, .slice p2 ((([nm] : List ByteArray) ++ ([itoaS a] : List ByteArray)).length) c2), (37, .agg #[bl true, i64 a, bl false, i64 b, bl false, i64 c, bl false, i64 v]), (38, i64 0)]) hA [] c0 ?_
      clear hA fr; intro fr hA
      refine end_ops ?_
      refine inBlock_normal ?_
      refine then_normal ?_
      refine rC (e' := [(2, str (⟨#[]⟩)), (4, .slice p2 ((([nm] : List ByteArray) ++ ([itoaS a] : List ByteArray)).length) c2), (37, .agg #[bl true, i64 a, bl false, i64 b, bl false, i64 c, bl false, i64 v]), (38, i64 1)]) 2 hA [bl false] c0 ?_
      clear hA fr; intro fr hA
      refine then_normal ?_
      exact ⟨3, by decide, (.inr (.inl ⟨rfl, p2, c2, T3, hA.sb, (Ow.subP (A := [(b10, 9, [str (itoaS a)]), (b9, 72, [bl true, i64 a]), (b2, 63, [str nm, bl true, bl false, bl false, bl false, bl false]), (b1, 46, [i64 ((k : Nat) : Int), i64 a, i64 b, i64 c, i64 v])]) (A' := [(b2, 63, [str nm, bl true, bl false, bl false, bl false, bl false]), (b1, 46, [i64 ((k : Nat) : Int), i64 a, i64 b, i64 c, i64 v])]) (B := T3 ++ ([])) hO (.cons _ (.cons _ (.cons_cons _ (.cons_cons _ .slnil))))), hT3⟩))⟩
    ·
      refine sC (e' := [(2, str (⟨#[]⟩)), (4, .slice p1 ((([nm] : List ByteArray) ++ ([itoaS a] : List ByteArray)).length) c1), (37, .agg #[bl true, i64 a, bl false, i64 b, bl false, i64 c, bl false, i64 v]), (38, i64 1), (39, bl true)]) 1 hA [] c0 ?_
      clear hA fr; intro fr hA
      refine wp_seq ?_
      refine cT hA ?_
      refine wp_skip ?_
      refine then_normal ?_
      refine wp_seq ?_
      refine wp_block ?_
      refine sR (l := [0, 1, 2]) ?_
      refine ck (l := [0]) (r := [1, 2]) (e' := [(2, str (⟨#[]⟩)), (4, .slice p1 ((([nm] : List ByteArray) ++ ([itoaS a] : List ByteArray)).length) c1), (37, .agg #[bl true, i64 a, bl false, i64 b, bl false, i64 c, bl false, i64 v]), (38, i64 1), (40, .agg #[bl false, i64 b])]) hA [] c0 ?_
      clear hA fr; intro fr hA
      refine wpOps_cons' (mN (l := [bl false, i64 0]) (t := 72) (v := pt) (d := 6) hA hO ?_)
      clear hA hO fr; intro fr w23 b11 hA hO
      refine wpOps_cons' (mS (off := 0) (vc := [bl false, i64 b]) 0 hA hO ?_)
      clear hO; intro w24 hO
      replace hA := hA.sb (e' := [(2, str (⟨#[]⟩)), (4, .slice p1 ((([nm] : List ByteArray) ++ ([itoaS a] : List ByteArray)).length) c1), (6, pt b11), (37, .agg #[bl true, i64 a, bl false, i64 b, bl false, i64 c, bl false, i64 v]), (38, i64 1)])
      refine end_ops ?_
      refine then_normal ?_
      refine sC (e' := [(2, str (⟨#[]⟩)), (4, .slice p1 ((([nm] : List ByteArray) ++ ([itoaS a] : List ByteArray)).length) c1), (6, pt b11), (37, .agg #[bl true, i64 a, bl false, i64 b, bl false, i64 c, bl false, i64 v]), (38, i64 1), (42, bl false)]) 2 hA [bl false] (cc (hO.l1 0 0 4 (bl false)) c0) ?_
      clear hA fr; intro fr hA
      refine cF hA ?_
      refine wp_skip ?_
      refine inBlock_normal ?_
      refine then_normal ?_
      refine rC (e' := [(2, str (⟨#[]⟩)), (4, .slice p1 ((([nm] : List ByteArray) ++ ([itoaS a] : List ByteArray)).length) c1), (37, .agg #[bl true, i64 a, bl false, i64 b, bl false, i64 c, bl false, i64 v]), (38, i64 2)]) 2 hA [bl false] c0 ?_
      clear hA fr; intro fr hA
      refine then_normal ?_
      exact ⟨2, by decide, (.inr (.inr (.inl ⟨rfl, p1, c1, T2, hA.sb, (Ow.subP (A := [(b11, 72, [bl false, i64 b]), (b2, 63, [str nm, bl true, bl false, bl false, bl false, bl false]), (b1, 46, [i64 ((k : Nat) : Int), i64 a, i64 b, i64 c, i64 v])]) (A' := [(b2, 63, [str nm, bl true, bl false, bl false, bl false, bl false]), (b1, 46, [i64 ((k : Nat) : Int), i64 a, i64 b, i64 c, i64 v])]) (B := T2 ++ ([])) hO (.cons _ (.cons_cons _ (.cons_cons _ .slnil)))), hT2⟩)))⟩
    ·
      refine sC (e' := [(2, str (⟨#[]⟩)), (4, .slice p1 ((([nm] : List ByteArray) ++ ([itoaS a] : List ByteArray)).length) c1), (37, .agg #[bl true, i64 a, bl false, i64 b, bl false, i64 c, bl false, i64 v]), (38, i64 2), (39, bl true)]) 1 hA [] c0 ?_
      clear hA fr; intro fr hA
      refine wp_seq ?_
      refine cT hA ?_
      refine wp_skip ?_
      refine then_normal ?_
      refine wp_seq ?_
      refine wp_block ?_
      refine sR (l := [0, 1, 2]) ?_
      refine ck (l := [0]) (r := [1, 2]) (e' := [(2, str (⟨#[]⟩)), (4, .slice p1 ((([nm] : List ByteArray) ++ ([itoaS a] : List ByteArray)).length) c1), (37, .agg #[bl true, i64 a, bl false, i64 b, bl false, i64 c, bl false, i64 v]), (38, i64 2), (40, .agg #[bl false, i64 c])]) hA [] c0 ?_
      clear hA fr; intro fr hA
      refine wpOps_cons' (mN (l := [bl false, i64 0]) (t := 72) (v := pt) (d := 6) hA hO ?_)
      clear hA hO fr; intro fr w25 b12 hA hO
      refine wpOps_cons' (mS (off := 0) (vc := [bl false, i64 c]) 0 hA hO ?_)
      clear hO; intro w26 hO
      replace hA := hA.sb (e' := [(2, str (⟨#[]⟩)), (4, .slice p1 ((([nm] : List ByteArray) ++ ([itoaS a] : List ByteArray)).length) c1), (6, pt b12), (37, .agg #[bl true, i64 a, bl false, i64 b, bl false, i64 c, bl false, i64 v]), (38, i64 2)])
      refine end_ops ?_
      refine then_normal ?_
      refine sC (e' := [(2, str (⟨#[]⟩)), (4, .slice p1 ((([nm] : List ByteArray) ++ ([itoaS a] : List ByteArray)).length) c1), (6, pt b12), (37, .agg #[bl true, i64 a, bl false, i64 b, bl false, i64 c, bl false, i64 v]), (38, i64 2), (42, bl false)]) 2 hA [bl false] (cc (hO.l1 0 0 4 (bl false)) c0) ?_
      clear hA fr; intro fr hA
      refine cF hA ?_
      refine wp_skip ?_
      refine inBlock_normal ?_
      refine then_normal ?_
      refine rC (e' := [(2, str (⟨#[]⟩)), (4, .slice p1 ((([nm] : List ByteArray) ++ ([itoaS a] : List ByteArray)).length) c1), (37, .agg #[bl true, i64 a, bl false, i64 b, bl false, i64 c, bl false, i64 v]), (38, i64 3)]) 2 hA [bl false] c0 ?_
      clear hA fr; intro fr hA
      refine then_normal ?_
      exact ⟨1, by decide, (.inr (.inr (.inr (.inl ⟨rfl, p1, c1, T2, hA.sb, (Ow.subP (A := [(b12, 72, [bl false, i64 c]), (b2, 63, [str nm, bl true, bl false, bl false, bl false, bl false]), (b1, 46, [i64 ((k : Nat) : Int), i64 a, i64 b, i64 c, i64 v])]) (A' := [(b2, 63, [str nm, bl true, bl false, bl false, bl false, bl false]), (b1, 46, [i64 ((k : Nat) : Int), i64 a, i64 b, i64 c, i64 v])]) (B := T2 ++ ([])) hO (.cons _ (.cons_cons _ (.cons_cons _ .slnil)))), hT2⟩))))⟩
    ·
      refine sC (e' := [(2, str (⟨#[]⟩)), (4, .slice p1 ((([nm] : List ByteArray) ++ ([itoaS a] : List ByteArray)).length) c1), (37, .agg #[bl true, i64 a, bl false, i64 b, bl false, i64 c, bl false, i64 v]), (38, i64 3), (39, bl true)]) 1 hA [] c0 ?_
      clear hA fr; intro fr hA
      refine wp_seq ?_
      refine cT hA ?_
      refine wp_skip ?_
      refine then_normal ?_
      refine wp_seq ?_
      refine wp_block ?_
      refine sR (l := [0, 1, 2]) ?_
      refine ck (l := [0]) (r := [1, 2]) (e' := [(2, str (⟨#[]⟩)), (4, .slice p1 ((([nm] : List ByteArray) ++ ([itoaS a] : List ByteArray)).length) c1), (37, .agg #[bl true, i64 a, bl false, i64 b, bl false, i64 c, bl false, i64 v]), (38, i64 3), (40, .agg #[bl false, i64 v])]) hA [] c0 ?_
      clear hA fr; intro fr hA
      refine wpOps_cons' (mN (l := [bl false, i64 0]) (t := 72) (v := pt) (d := 6) hA hO ?_)
      clear hA hO fr; intro fr w27 b13 hA hO
      refine wpOps_cons' (mS (off := 0) (vc := [bl false, i64 v]) 0 hA hO ?_)
      clear hO; intro w28 hO
      replace hA := hA.sb (e' := [(2, str (⟨#[]⟩)), (4, .slice p1 ((([nm] : List ByteArray) ++ ([itoaS a] : List ByteArray)).length) c1), (6, pt b13), (37, .agg #[bl true, i64 a, bl false, i64 b, bl false, i64 c, bl false, i64 v]), (38, i64 3)])
      refine end_ops ?_
      refine then_normal ?_
      refine sC (e' := [(2, str (⟨#[]⟩)), (4, .slice p1 ((([nm] : List ByteArray) ++ ([itoaS a] : List ByteArray)).length) c1), (6, pt b13), (37, .agg #[bl true, i64 a, bl false, i64 b, bl false, i64 c, bl false, i64 v]), (38, i64 3), (42, bl false)]) 2 hA [bl false] (cc (hO.l1 0 0 4 (bl false)) c0) ?_
      clear hA fr; intro fr hA
      refine cF hA ?_
      refine wp_skip ?_
      refine inBlock_normal ?_
      refine then_normal ?_
      refine rC (e' := [(2, str (⟨#[]⟩)), (4, .slice p1 ((([nm] : List ByteArray) ++ ([itoaS a] : List ByteArray)).length) c1), (37, .agg #[bl true, i64 a, bl false, i64 b, bl false, i64 c, bl false, i64 v]), (38, i64 4)]) 2 hA [bl false] c0 ?_
      clear hA fr; intro fr hA
      refine then_normal ?_
      exact ⟨0, by decide, (.inr (.inr (.inr (.inr ⟨rfl, p1, c1, T2, hA.sb, (Ow.subP (A := [(b13, 72, [bl false, i64 v]), (b2, 63, [str nm, bl true, bl false, bl false, bl false, bl false]), (b1, 46, [i64 ((k : Nat) : Int), i64 a, i64 b, i64 c, i64 v])]) (A' := [(b2, 63, [str nm, bl true, bl false, bl false, bl false, bl false]), (b1, 46, [i64 ((k : Nat) : Int), i64 a, i64 b, i64 c, i64 v])]) (B := T2 ++ ([])) hO (.cons _ (.cons_cons _ (.cons_cons _ .slnil)))), hT2⟩))))⟩
    ·
      refine sC (e' := [(2, str (⟨#[]⟩)), (4, .slice p1 ((([nm] : List ByteArray) ++ ([itoaS a] : List ByteArray)).length) c1), (37, .agg #[bl true, i64 a, bl false, i64 b, bl false, i64 c, bl false, i64 v]), (38, i64 4), (39, bl false)]) 1 hA [] c0 ?_
      clear hA fr; intro fr hA
      refine wp_seq ?_
      refine cF hA ?_
      refine wp_exit ?_
      refine then_exit ?_
      refine then_exit ?_
      refine inBlock_exit ?_
      refine then_normal ?_
      refine sR (l := [0, 1, 2]) ?_
      refine ck (l := [0]) (r := [1, 2]) (e' := [(2, str (⟨#[]⟩)), (50, .slice p1 ((([nm] : List ByteArray) ++ ([itoaS a] : List ByteArray)).length) c1)]) hA [] c0 ?_
      clear hA fr; intro fr hA
      replace hO : Ow Tryd.prog none' w w17 ([(b2, 63, [str nm, bl true, bl false, bl false, bl false, bl false]), (b1, 46, [i64 ((k : Nat) : Int), i64 a, i64 b, i64 c, i64 v])] ++ (T2 ++ ([]))) := hO
      obtain ⟨b14, r1, rfl, rfl, hle_b14, hcap_b14⟩ := hT2.open (by simp)
      replace hO : Ow Tryd.prog none' w w17 [(b2, 63, [str nm, bl true, bl false, bl false, bl false, bl false]), (b1, 46, [i64 ((k : Nat) : Int), i64 a, i64 b, i64 c, i64 v]), (b14, 9, ((([nm] : List ByteArray) ++ ([itoaS a] : List ByteArray)).flatMap fT ++ r1))] := hO.to (by simp only [List.append_assoc, List.cons_append, List.nil_append, List.append_nil])
      refine wpOps_cons' (mK (f := 46) (args := [.slice (some ⟨b14, 0, none⟩) (([nm] : List ByteArray) ++ ([itoaS a] : List ByteArray)).length c1, str (⟨#[32]⟩)]) (d := (some 51)) (v := str (joinS (([nm] : List ByteArray) ++ ([itoaS a] : List ByteArray)))) hA hO Tryd.func46 (join_any b14 0 c1 (([nm] : List ByteArray) ++ ([itoaS a] : List ByteArray)) (⟨#[32]⟩) _ (hO.b 2).strs (hO.b 2).lt (by simp) hle_b14 (by simp [Lib.join, List.intercalate]; try simp at la_; try simp at lb_; try simp at lc_; try simp at lv_; try simp at hnm; omega)) ?_)
      clear hA hO fr; intro fr w29 hA hO
      replace hA := hA.sb (e' := [(2, str (⟨#[]⟩)), (51, str (joinS (([nm] : List ByteArray) ++ ([itoaS a] : List ByteArray))))])
      refine ck (l := [2]) (r := []) (e' := [(2, str (joinS (([nm] : List ByteArray) ++ ([itoaS a] : List ByteArray))))]) hA [] c0 ?_
      clear hA fr; intro fr hA
      refine end_ops ?_
      refine then_normal ?_
      refine wp_ret ?_
      refine cR (cs := [none]) (us := [str (joinS (([nm] : List ByteArray) ++ ([itoaS a] : List ByteArray)))]) hA [] trivial ?_
      have hF := hO.only; clear hA hO
      exact ⟨rfl, hF⟩

theorem show_6 (k : Nat) (a b c v : Int) (nm : ByteArray) (w : World) (hT : Tab w) (hP : Pow w) (h1 : 1 ≤ k) (h2 : k ≤ 22) (hl : legalB ((k : Nat) : Int) a b c v = true) (hnm : nm.data.toList.length ≤ 100) (hrow : RowAt Tryd.prog w 63 k nm false false false false false) :
    Calls Tryd.prog 36 #[.agg #[i64 ((k : Nat) : Int), i64 a, i64 b, i64 c, i64 v]] w fun e w' => e = .returned (.string (joinS ([nm] : List ByteArray))) ∧ Only none' w w' := by
  refine c_enter (args := [.agg #[i64 ((k : Nat) : Int), i64 a, i64 b, i64 c, i64 v]]) (m := 51) (n := 52) Tryd.func36 rfl (by kernel_rfl) (by kernel_rfl) fun fr hA => ?_
  have hO := Ow.nil Tryd.prog none' w
  obtain ⟨ho_, ha_, hb_, hc_, hv_, hc2_⟩ := legal_spec hl; have la_ := itoaS_len a; have lb_ := itoaS_len b; have lc_ := itoaS_len c; have lv_ := itoaS_len v
  refine sR (l := [0, 1]) ?_
  refine wpOps_cons' (mN (l := [i64 ((k : Nat) : Int), i64 a, i64 b, i64 c, i64 v]) (t := 46) (v := pt) (d := 1) hA hO ?_)
  clear hA hO fr; intro fr w1 b1 hA hO
  replace hA := hA.sb (e' := [(1, pt b1)])
  refine ck (l := [1]) (r := []) (e' := [(1, pt b1), (2, str (⟨#[]⟩))]) hA [] c0 ?_
  clear hA fr; intro fr hA
  refine end_ops ?_
  refine then_normal ?_
  refine wp_seq ?_
  refine sR (l := [0, 1, 2]) ?_
  refine ck (l := [0]) (r := [1, 2]) (e' := [(1, pt b1), (2, str (⟨#[]⟩)), (7, .agg #[i64 ((k : Nat) : Int), i64 a, i64 b, i64 c, i64 v])]) hA [.agg #[i64 ((k : Nat) : Int), i64 a, i64 b, i64 c, i64 v]] (cc (hO.ln 0 0 46 [i64 ((k : Nat) : Int), i64 a, i64 b, i64 c, i64 v]) c0) ?_
  clear hA fr; intro fr hA
  refine wpOps_cons' (mK (f := 39) (args := [.agg #[i64 ((k : Nat) : Int), i64 a, i64 b, i64 c, i64 v]]) (d := (some 8)) (v := bl true) hA hO Tryd.func39 (rs (legal_any ((k : Nat) : Int) a b c v _ (hT.keep hO.only (fun h => h))) (congrArg Value.bool hl)) ?_)
  clear hA hO fr; intro fr w2 hA hO
  replace hA := hA.sb (e' := [(1, pt b1), (2, str (⟨#[]⟩)), (8, bl true)])
  refine ck (l := [2]) (r := []) (e' := [(1, pt b1), (2, str (⟨#[]⟩)), (9, bl false)]) hA [] c0 ?_
  clear hA fr; intro fr hA
  refine end_ops ?_
  refine then_normal ?_
  refine cF hA ?_
  refine wp_skip ?_
  refine then_normal ?_
  refine sR (l := (rg 0 6)) ?_
  refine ck (l := [0, 1, 2, 3]) (r := [4, 5]) (e' := [(1, pt b1), (2, str (⟨#[]⟩)), (13, .agg #[str nm, bl false, bl false, bl false, bl false, bl false])]) hA [i64 ((k : Nat) : Int), .agg #[str nm, bl false, bl false, bl false, bl false, bl false]] (cc (hO.l1 0 0 3 (i64 ((k : Nat) : Int))) (cc (⟨by omega, by omega⟩ : (0 : Int) ≤ ((k : Nat) : Int) ∧ ((k : Nat) : Int) < ((23 : Nat) : Int)) (cc ((hrow _ hO.only) : Ld Tryd.prog w2 ((⟨0, 0, none⟩ : Addr).add (k * 6)) 63 (.agg #[str nm, bl false, bl false, bl false, bl false, bl false])) c0))) ?_
  clear hA fr; intro fr hA
  refine wpOps_cons' (mN (l := [str (⟨#[]⟩), bl false, bl false, bl false, bl false, bl false]) (t := 63) (v := pt) (d := 3) hA hO ?_)
  clear hA hO fr; intro fr w3 b2 hA hO
  refine wpOps_cons' (mS (off := 0) (vc := [str nm, bl false, bl false, bl false, bl false, bl false]) 0 hA hO ?_)
  clear hO; intro w4 hO
  replace hA := hA.sb (e' := [(1, pt b1), (2, str (⟨#[]⟩)), (3, pt b2)])
  refine end_ops ?_
  refine then_normal ?_
  refine sR (l := [0, 1, 2, 3]) ?_
  refine ck (l := [0, 1]) (r := [2, 3]) (e' := [(1, pt b1), (2, str (⟨#[]⟩)), (3, pt b2), (15, str nm)]) hA [str nm] (cc (hO.l1 0 0 9 (str nm)) c0) ?_
  clear hA fr; intro fr hA
  refine wpOps_cons' (mN (l := [str nm]) (t := 9) (v := fun b => .slice (some ⟨b, 0, none⟩) 1 1) (d := 16) hA hO ?_)
  clear hA hO fr; intro fr w5 b3 hA hO
  replace hA := hA.sb (e' := [(1, pt b1), (2, str (⟨#[]⟩)), (3, pt b2), (16, .slice (some ⟨b3, 0, none⟩) 1 1)])
  refine ck (l := [3]) (r := []) (e' := [(1, pt b1), (2, str (⟨#[]⟩)), (3, pt b2), (4, .slice (some ⟨b3, 0, none⟩) 1 1)]) hA [] c0 ?_
  clear hA fr; intro fr hA
  refine end_ops ?_
  refine then_normal ?_
  refine wp_seq ?_
  refine sC (e' := [(2, str (⟨#[]⟩)), (4, .slice (some ⟨b3, 0, none⟩) 1 1), (37, .agg #[bl false, i64 a, bl false, i64 b, bl false, i64 c, bl false, i64 v]), (38, i64 0)]) 22 hA [bl false, i64 a, bl false, i64 b, bl false, i64 c, bl false, i64 v] (cc (hO.l1 1 1 4 (bl false)) (cc (hO.l1 2 1 3 (i64 a)) (cc (hO.l1 1 2 4 (bl false)) (cc (hO.l1 2 2 3 (i64 b)) (cc (hO.l1 1 3 4 (bl false)) (cc (hO.l1 2 3 3 (i64 c)) (cc (hO.l1 1 4 4 (bl false)) (cc (hO.l1 2 4 3 (i64 v)) c0)))))))) ?_
  clear hA fr; intro fr hA
  refine wp_block ?_
  have hT1 : One fT 9 1 (some ⟨b3, 0, none⟩) 1 ([nm] : List ByteArray) [(b3, 9, [str nm])] := One.ofBlk (r := []) (by kernel_rfl) (by first | decide | simp) (by decide) (by kernel_rfl)
  replace hO := Ow.move (A := []) (B := [(b2, 63, [str nm, bl false, bl false, bl false, bl false, bl false]), (b1, 46, [i64 ((k : Nat) : Int), i64 a, i64 b, i64 c, i64 v])]) (C := []) (x := (b3, 9, [str nm])) hO
  replace hO : Ow Tryd.prog none' w w5 ([(b2, 63, [str nm, bl false, bl false, bl false, bl false, bl false]), (b1, 46, [i64 ((k : Nat) : Int), i64 a, i64 b, i64 c, i64 v])] ++ ([(b3, 9, [str nm])] ++ ([]))) := hO.to (by simp only [List.append_assoc, List.cons_append, List.nil_append, List.append_nil])
  refine c_loop (fun mm fr W => (mm = 4 ∧ Holds 52 [] fr [(2, str (⟨#[]⟩)), (4, .slice (some ⟨b3, 0, none⟩) 1 1), (37, .agg #[bl false, i64 a, bl false, i64 b, bl false, i64 c, bl false, i64 v]), (38, i64 0)] ∧ Ow Tryd.prog none' w W ([(b2, 63, [str nm, bl false, bl false, bl false, bl false, bl false]), (b1, 46, [i64 ((k : Nat) : Int), i64 a, i64 b, i64 c, i64 v])] ++ ([(b3, 9, [str nm])] ++ ([])))) ∨ (mm = 3 ∧ Holds 52 [] fr [(2, str (⟨#[]⟩)), (4, .slice (some ⟨b3, 0, none⟩) 1 1), (37, .agg #[bl false, i64 a, bl false, i64 b, bl false, i64 c, bl false, i64 v]), (38, i64 1)] ∧ Ow Tryd.prog none' w W ([(b2, 63, [str nm, bl false, bl false, bl false, bl false, bl false]), (b1, 46, [i64 ((k : Nat) : Int), i64 a, i64 b, i64 c, i64 v])] ++ ([(b3, 9, [str nm])] ++ ([])))) ∨ (mm = 2 ∧ Holds 52 [] fr [(2, str (⟨#[]⟩)), (4, .slice (some ⟨b3, 0, none⟩) 1 1), (37, .agg #[bl false, i64 a, bl false, i64 b, bl false, i64 c, bl false, i64 v]), (38, i64 2)] ∧ Ow Tryd.prog none' w W ([(b2, 63, [str nm, bl false, bl false, bl false, bl false, bl false]), (b1, 46, [i64 ((k : Nat) : Int), i64 a, i64 b, i64 c, i64 v])] ++ ([(b3, 9, [str nm])] ++ ([])))) ∨ (mm = 1 ∧ Holds 52 [] fr [(2, str (⟨#[]⟩)), (4, .slice (some ⟨b3, 0, none⟩) 1 1), (37, .agg #[bl false, i64 a, bl false, i64 b, bl false, i64 c, bl false, i64 v]), (38, i64 3)] ∧ Ow Tryd.prog none' w W ([(b2, 63, [str nm, bl false, bl false, bl false, bl false, bl false]), (b1, 46, [i64 ((k : Nat) : Int), i64 a, i64 b, i64 c, i64 v])] ++ ([(b3, 9, [str nm])] ++ ([])))) ∨ (mm = 0 ∧ Holds 52 [] fr [(2, str (⟨#[]⟩)), (4, .slice (some ⟨b3, 0, none⟩) 1 1), (37, .agg #[bl false, i64 a, bl false, i64 b, bl false, i64 c, bl false, i64 v]), (38, i64 4)] ∧ Ow Tryd.prog none' w W ([(b2, 63, [str nm, bl false, bl false, bl false, bl false, bl false]), (b1, 46, [i64 ((k : Nat) : Int), i64 a, i64 b, i64 c, i64 v])] ++ ([(b3, 9, [str nm])] ++ ([]))))) ?_ ?_
  · exact ⟨_, (.inl ⟨rfl, hA.sb, (hO : Ow Tryd.prog none' w _ ([(b2, 63, [str nm, bl false, bl false, bl false, bl false, bl false]), (b1, 46, [i64 ((k : Nat) : Int), i64 a, i64 b, i64 c, i64 v])] ++ ([(b3, 9, [str nm])] ++ ([]))))⟩)⟩
  · rintro _ fr w14 (⟨rfl, hA, hO⟩ | ⟨rfl, hA, hO⟩ | ⟨rfl, hA, hO⟩ | ⟨rfl, hA, hO⟩ | ⟨rfl, hA, hO⟩)
    ·
      refine sC (e' := [(2, str (⟨#[]⟩)), (4, .slice (some ⟨b3, 0, none⟩) 1 1), (37, .agg #[bl false, i64 a, bl false, i64 b, bl false, i64 c, bl false, i64 v]), (38, i64 0), (39, bl true)]) 1 hA [] c0 ?_
      clear hA fr; intro fr hA
      refine wp_seq ?_
      refine cT hA ?_
      refine wp_skip ?_
      refine then_normal ?_
      refine wp_seq ?_
      refine wp_block ?_
      refine sR (l := [0, 1, 2]) ?_
      refine ck (l := [0]) (r := [1, 2]) (e' := [(2, str (⟨#[]⟩)), (4, .slice (some ⟨b3, 0, none⟩) 1 1), (37, .agg #[bl false, i64 a, bl false, i64 b, bl false, i64 c, bl false, i64 v]), (38, i64 0), (40, .agg #[bl false, i64 a])]) hA [] c0 ?_
      clear hA fr; intro fr hA
      refine wpOps_cons' (mN (l := [bl false, i64 0]) (t := 72) (v := pt) (d := 6) hA hO ?_)
      clear hA hO fr; intro fr w15 b8 hA hO
      refine wpOps_cons' (mS (off := 0) (vc := [bl false, i64 a]) 0 hA hO ?_)
      clear hO; intro w16 hO
      replace hA := hA.sb (e' := [(2, str (⟨#[]⟩)), (4, .slice (some ⟨b3, 0, none⟩) 1 1), (6, pt b8), (37, .agg #[bl false, i64 a, bl false, i64 b, bl false, i64 c, bl false, i64 v]), (38, i64 0)])
      refine end_ops ?_
      refine then_normal ?_
      refine sC (e' := [(2, str (⟨#[]⟩)), (4, .slice (some ⟨b3, 0, none⟩) 1 1), (6, pt b8), (37, .agg #[bl false, i64 a, bl false, i64 b, bl false, i64 c, bl false, i64 v]), (38, i64 0), (42, bl false)]) 2 hA [bl false] (cc (hO.l1 0 0 4 (bl false)) c0) ?_
      clear hA fr; intro fr hA
      refine cF hA ?_
      refine wp_skip ?_
      refine inBlock_normal ?_
      refine then_normal ?_
      refine rC (e' := [(2, str (⟨#[]⟩)), (4, .slice (some ⟨b3, 0, none⟩) 1 1), (37, .agg #[bl false, i64 a, bl false, i64 b, bl false, i64 c, bl false, i64 v]), (38, i64 1)]) 2 hA [bl false] c0 ?_
      clear hA fr; intro fr hA
      refine then_normal ?_
      exact ⟨3, by decide, (.inr (.inl ⟨rfl, hA.sb, (Ow.subP (A := [(b8, 72, [bl false, i64 a]), (b2, 63, [str nm, bl false, bl false, bl false, bl false, bl false]), (b1, 46, [i64 ((k : Nat) : Int), i64 a, i64 b, i64 c, i64 v])]) (A' := [(b2, 63, [str nm, bl false, bl false, bl false, bl false, bl false]), (b1, 46, [i64 ((k : Nat) : Int), i64 a, i64 b, i64 c, i64 v])]) (B := [(b3, 9, [str nm])] ++ ([])) hO (.cons _ (.cons_cons _ (.cons_cons _ .slnil))))⟩))⟩
    ·
      refine sC (e' := [(2, str (⟨#[]⟩)), (4, .slice (some ⟨b3, 0, none⟩) 1 1), (37, .agg #[bl false, i64 a, bl false, i64 b, bl false, i64 c, bl false, i64 v]), (38, i64 1), (39, bl true)]) 1 hA [] c0 ?_
      clear hA fr; intro fr hA
      refine wp_seq ?_
      refine cT hA ?_
      refine wp_skip ?_
      refine then_normal ?_
      refine wp_seq ?_
      refine wp_block ?_
      refine sR (l := [0, 1, 2]) ?_
      refine ck (l := [0]) (r := [1, 2]) (e' := [(2, str (⟨#[]⟩)), (4, .slice (some ⟨b3, 0, none⟩) 1 1), (37, .agg #[bl false, i64 a, bl false, i64 b, bl false, i64 c, bl false, i64 v]), (38, i64 1), (40, .agg #[bl false, i64 b])]) hA [] c0 ?_
      clear hA fr; intro fr hA
      refine wpOps_cons' (mN (l := [bl false, i64 0]) (t := 72) (v := pt) (d := 6) hA hO ?_)
      clear hA hO fr; intro fr w17 b9 hA hO
      refine wpOps_cons' (mS (off := 0) (vc := [bl false, i64 b]) 0 hA hO ?_)
      clear hO; intro w18 hO
      replace hA := hA.sb (e' := [(2, str (⟨#[]⟩)), (4, .slice (some ⟨b3, 0, none⟩) 1 1), (6, pt b9), (37, .agg #[bl false, i64 a, bl false, i64 b, bl false, i64 c, bl false, i64 v]), (38, i64 1)])
      refine end_ops ?_
      refine then_normal ?_
      refine sC (e' := [(2, str (⟨#[]⟩)), (4, .slice (some ⟨b3, 0, none⟩) 1 1), (6, pt b9), (37, .agg #[bl false, i64 a, bl false, i64 b, bl false, i64 c, bl false, i64 v]), (38, i64 1), (42, bl false)]) 2 hA [bl false] (cc (hO.l1 0 0 4 (bl false)) c0) ?_
      clear hA fr; intro fr hA
      refine cF hA ?_
      refine wp_skip ?_
      refine inBlock_normal ?_
      refine then_normal ?_
      refine rC (e' := [(2, str (⟨#[]⟩)), (4, .slice (some ⟨b3, 0, none⟩) 1 1), (37, .agg #[bl false, i64 a, bl false, i64 b, bl false, i64 c, bl false, i64 v]), (38, i64 2)]) 2 hA [bl false] c0 ?_
      clear hA fr; intro fr hA
      refine then_normal ?_
      exact ⟨2, by decide, (.inr (.inr (.inl ⟨rfl, hA.sb, (Ow.subP (A := [(b9, 72, [bl false, i64 b]), (b2, 63, [str nm, bl false, bl false, bl false, bl false, bl false]), (b1, 46, [i64 ((k : Nat) : Int), i64 a, i64 b, i64 c, i64 v])]) (A' := [(b2, 63, [str nm, bl false, bl false, bl false, bl false, bl false]), (b1, 46, [i64 ((k : Nat) : Int), i64 a, i64 b, i64 c, i64 v])]) (B := [(b3, 9, [str nm])] ++ ([])) hO (.cons _ (.cons_cons _ (.cons_cons _ .slnil))))⟩)))⟩
    ·
      refine sC (e' := [(2, str (⟨#[]⟩)), (4, .slice (some ⟨b3, 0, none⟩) 1 1), (37, .agg #[bl false, i64 a, bl false, i64 b, bl false, i64 c, bl false, i64 v]), (38, i64 2), (39, bl true)]) 1 hA [] c0 ?_
      clear hA fr; intro fr hA
      refine wp_seq ?_
      refine cT hA ?_
      refine wp_skip ?_
      refine then_normal ?_
      refine wp_seq ?_
      refine wp_block ?_
      refine sR (l := [0, 1, 2]) ?_
      refine ck (l := [0]) (r := [1, 2]) (e' := [(2, str (⟨#[]⟩)), (4, .slice (some ⟨b3, 0, none⟩) 1 1), (37, .agg #[bl false, i64 a, bl false, i64 b, bl false, i64 c, bl false, i64 v]), (38, i64 2), (40, .agg #[bl false, i64 c])]) hA [] c0 ?_
      clear hA fr; intro fr hA
      refine wpOps_cons' (mN (l := [bl false, i64 0]) (t := 72) (v := pt) (d := 6) hA hO ?_)
      clear hA hO fr; intro fr w19 b10 hA hO
      refine wpOps_cons' (mS (off := 0) (vc := [bl false, i64 c]) 0 hA hO ?_)
      clear hO; intro w20 hO
      replace hA := hA.sb (e' := [(2, str (⟨#[]⟩)), (4, .slice (some ⟨b3, 0, none⟩) 1 1), (6, pt b10), (37, .agg #[bl false, i64 a, bl false, i64 b, bl false, i64 c, bl false, i64 v]), (38, i64 2)])
      refine end_ops ?_
      refine then_normal ?_
      refine sC (e' := [(2, str (⟨#[]⟩)), (4, .slice (some ⟨b3, 0, none⟩) 1 1), (6, pt b10), (37, .agg #[bl false, i64 a, bl false, i64 b, bl false, i64 c, bl false, i64 v]), (38, i64 2), (42, bl false)]) 2 hA [bl false] (cc (hO.l1 0 0 4 (bl false)) c0) ?_
      clear hA fr; intro fr hA
      refine cF hA ?_
      refine wp_skip ?_
      refine inBlock_normal ?_
      refine then_normal ?_
      refine rC (e' := [(2, str (⟨#[]⟩)), (4, .slice (some ⟨b3, 0, none⟩) 1 1), (37, .agg #[bl false, i64 a, bl false, i64 b, bl false, i64 c, bl false, i64 v]), (38, i64 3)]) 2 hA [bl false] c0 ?_
      clear hA fr; intro fr hA
      refine then_normal ?_
      exact ⟨1, by decide, (.inr (.inr (.inr (.inl ⟨rfl, hA.sb, (Ow.subP (A := [(b10, 72, [bl false, i64 c]), (b2, 63, [str nm, bl false, bl false, bl false, bl false, bl false]), (b1, 46, [i64 ((k : Nat) : Int), i64 a, i64 b, i64 c, i64 v])]) (A' := [(b2, 63, [str nm, bl false, bl false, bl false, bl false, bl false]), (b1, 46, [i64 ((k : Nat) : Int), i64 a, i64 b, i64 c, i64 v])]) (B := [(b3, 9, [str nm])] ++ ([])) hO (.cons _ (.cons_cons _ (.cons_cons _ .slnil))))⟩))))⟩
    ·
      refine sC (e' := [(2, str (⟨#[]⟩)), (4, .slice (some ⟨b3, 0, none⟩) 1 1), (37, .agg #[bl false, i64 a, bl false, i64 b, bl false, i64 c, bl false, i64 v]), (38, i64 3), (39, bl true)]) 1 hA [] c0 ?_
      clear hA fr; intro fr hA
      refine wp_seq ?_
      refine cT hA ?_
      refine wp_skip ?_
      refine then_normal ?_
      refine wp_seq ?_
      refine wp_block ?_
      refine sR (l := [0, 1, 2]) ?_
      refine ck (l := [0]) (r := [1, 2]) (e' := [(2, str (⟨#[]⟩)), (4, .slice (some ⟨b3, 0, none⟩) 1 1), (37, .agg #[bl false, i64 a, bl false, i64 b, bl false, i64 c, bl false, i64 v]), (38, i64 3), (40, .agg #[bl false, i64 v])]) hA [] c0 ?_
      clear hA fr; intro fr hA
      refine wpOps_cons' (mN (l := [bl false, i64 0]) (t := 72) (v := pt) (d := 6) hA hO ?_)
      clear hA hO fr; intro fr w21 b11 hA hO
      refine wpOps_cons' (mS (off := 0) (vc := [bl false, i64 v]) 0 hA hO ?_)
      clear hO; intro w22 hO
      replace hA := hA.sb (e' := [(2, str (⟨#[]⟩)), (4, .slice (some ⟨b3, 0, none⟩) 1 1), (6, pt b11), (37, .agg #[bl false, i64 a, bl false, i64 b, bl false, i64 c, bl false, i64 v]), (38, i64 3)])
      refine end_ops ?_
      refine then_normal ?_
      refine sC (e' := [(2, str (⟨#[]⟩)), (4, .slice (some ⟨b3, 0, none⟩) 1 1), (6, pt b11), (37, .agg #[bl false, i64 a, bl false, i64 b, bl false, i64 c, bl false, i64 v]), (38, i64 3), (42, bl false)]) 2 hA [bl false] (cc (hO.l1 0 0 4 (bl false)) c0) ?_
      clear hA fr; intro fr hA
      refine cF hA ?_
      refine wp_skip ?_
      refine inBlock_normal ?_
      refine then_normal ?_
      refine rC (e' := [(2, str (⟨#[]⟩)), (4, .slice (some ⟨b3, 0, none⟩) 1 1), (37, .agg #[bl false, i64 a, bl false, i64 b, bl false, i64 c, bl false, i64 v]), (38, i64 4)]) 2 hA [bl false] c0 ?_
      clear hA fr; intro fr hA
      refine then_normal ?_
      exact ⟨0, by decide, (.inr (.inr (.inr (.inr ⟨rfl, hA.sb, (Ow.subP (A := [(b11, 72, [bl false, i64 v]), (b2, 63, [str nm, bl false, bl false, bl false, bl false, bl false]), (b1, 46, [i64 ((k : Nat) : Int), i64 a, i64 b, i64 c, i64 v])]) (A' := [(b2, 63, [str nm, bl false, bl false, bl false, bl false, bl false]), (b1, 46, [i64 ((k : Nat) : Int), i64 a, i64 b, i64 c, i64 v])]) (B := [(b3, 9, [str nm])] ++ ([])) hO (.cons _ (.cons_cons _ (.cons_cons _ .slnil))))⟩))))⟩
    ·
      refine sC (e' := [(2, str (⟨#[]⟩)), (4, .slice (some ⟨b3, 0, none⟩) 1 1), (37, .agg #[bl false, i64 a, bl false, i64 b, bl false, i64 c, bl false, i64 v]), (38, i64 4), (39, bl false)]) 1 hA [] c0 ?_
      clear hA fr; intro fr hA
      refine wp_seq ?_
      refine cF hA ?_
      refine wp_exit ?_
      refine then_exit ?_
      refine then_exit ?_
      refine inBlock_exit ?_
      refine then_normal ?_
      refine sR (l := [0, 1, 2]) ?_
      refine ck (l := [0]) (r := [1, 2]) (e' := [(2, str (⟨#[]⟩)), (50, .slice (some ⟨b3, 0, none⟩) 1 1)]) hA [] c0 ?_
      clear hA fr; intro fr hA
      replace hO : Ow Tryd.prog none' w w14 ([(b2, 63, [str nm, bl false, bl false, bl false, bl false, bl false]), (b1, 46, [i64 ((k : Nat) : Int), i64 a, i64 b, i64 c, i64 v])] ++ ([(b3, 9, [str nm])] ++ ([]))) := hO
      have hle_b3 : ([nm] : List ByteArray).length ≤ 1 := by first | decide | simp
      replace hO : Ow Tryd.prog none' w w14 [(b2, 63, [str nm, bl false, bl false, bl false, bl false, bl false]), (b1, 46, [i64 ((k : Nat) : Int), i64 a, i64 b, i64 c, i64 v]), (b3, 9, (([nm] : List ByteArray).flatMap fT ++ []))] := hO
      refine wpOps_cons' (mK (f := 46) (args := [.slice (some ⟨b3, 0, none⟩) ([nm] : List ByteArray).length 1, str (⟨#[32]⟩)]) (d := (some 51)) (v := str (joinS ([nm] : List ByteArray))) hA hO Tryd.func46 (join_any b3 0 1 ([nm] : List ByteArray) (⟨#[32]⟩) _ (hO.b 2).strs (hO.b 2).lt (by simp) hle_b3 (by simp [Lib.join, List.intercalate]; try simp at la_; try simp at lb_; try simp at lc_; try simp at lv_; try simp at hnm; omega)) ?_)
      clear hA hO fr; intro fr w23 hA hO
      replace hA := hA.sb (e' := [(2, str (⟨#[]⟩)), (51, str (joinS ([nm] : List ByteArray)))])
      refine ck (l := [2]) (r := []) (e' := [(2, str (joinS ([nm] : List ByteArray)))]) hA [] c0 ?_
      clear hA fr; intro fr hA
      refine end_ops ?_
      refine then_normal ?_
      refine wp_ret ?_
      refine cR (cs := [none]) (us := [str (joinS ([nm] : List ByteArray))]) hA [] trivial ?_
      have hF := hO.only; clear hA hO
      exact ⟨rfl, hF⟩

end Go.Proofs.YtkfnkcpdabdboaaDoor
