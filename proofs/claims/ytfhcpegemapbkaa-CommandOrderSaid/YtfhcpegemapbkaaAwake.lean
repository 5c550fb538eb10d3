/- The layer command: the example. -/
import Derived.Test.YtfhcpegemapbkaaParsf
import Derived.Test.YtfhcpegemapbkaaPrinte
set_option linter.unusedVariables false
set_option linter.unusedSimpArgs false
set_option maxRecDepth 10000
namespace Go.Proofs.Ytfhcpegemapbkaa
open Go Go.Shelf Go.RowKit Go.Proofs Go.Proofs.Sx

theorem awake_line : lineP false ⟨#[99, 97, 116, 32, 60, 47, 97, 124, 119, 99, 62, 62, 47, 98, 38, 100, 97, 116, 101]⟩ = .ok ([⟨[⟨[⟨#[99, 97, 116]⟩], ⟨#[47, 97]⟩, ⟨#[]⟩, false⟩, ⟨[⟨#[119, 99]⟩], ⟨#[]⟩, ⟨#[47, 98]⟩, true⟩], true⟩, ⟨[⟨[⟨#[100, 97, 116, 101]⟩], ⟨#[]⟩, ⟨#[]⟩, false⟩], false⟩] : List JobL) := by kernel_rfl
theorem awake_shape {l : List JV} (h : lineP false ⟨#[99, 97, 116, 32, 60, 47, 97, 124, 119, 99, 62, 62, 47, 98, 38, 100, 97, 116, 101]⟩ = .ok (l.map JV.d)) : ∃ p1 c1 q1 e1 q2 e2 p2 c2 q3 e3, l = [⟨p1, c1, [⟨q1, e1, ⟨[⟨#[99, 97, 116]⟩], ⟨#[47, 97]⟩, ⟨#[]⟩, false⟩⟩, ⟨q2, e2, ⟨[⟨#[119, 99]⟩], ⟨#[]⟩, ⟨#[47, 98]⟩, true⟩⟩], true⟩, ⟨p2, c2, [⟨q3, e3, ⟨[⟨#[100, 97, 116, 101]⟩], ⟨#[]⟩, ⟨#[]⟩, false⟩⟩], false⟩] := by
  rw [awake_line] at h
  have h := Except.ok.inj h
  match l, h with
  | [], h => cases h
  | [_], h => simp at h
  | _ :: _ :: _ :: _, h => simp at h
  | [⟨p1, c1, l1, b1⟩, ⟨p2, c2, l2, b2⟩], h =>
    simp only [List.map_cons, List.map_nil, JV.d, List.cons.injEq, JobL.mk.injEq, and_true] at h
    obtain ⟨⟨h1, rfl⟩, h2, rfl⟩ := h
    match l1, l2, h1, h2 with
    | [⟨q1, e1, d1⟩, ⟨q2, e2, d2⟩], [⟨q3, e3, d3⟩], h1, h2 =>
      simp only [List.map_cons, List.map_nil, List.cons.injEq, and_true] at h1 h2
      obtain ⟨rfl, rfl⟩ := h1
      subst h2
      exact ⟨_, _, _, _, _, _, _, _, _, _, rfl⟩
    | [], _, h1, _ => simp at h1
    | [_], _, h1, _ => simp at h1
    | _ :: _ :: _ :: _, _, h1, _ => simp at h1
    | [_, _], [], _, h2 => simp at h2
    | [_, _], _ :: _ :: _, _, h2 => simp at h2
theorem VL_own {P : Program} {X : Nat → Prop} {w₀ w : World} {eJ eC : TypeId} {p : Option Addr} {k : Nat} {l : List JV} {T0 T1 A B : OwL} (h0 : One fJ eJ 2 p k l T0) (h1 : InJ eC 9 l T1) (hO : Ow P X w₀ w (A ++ (T0 ++ (T1 ++ B)))) : VL w (.slice p l.length k) l :=
  ⟨h0.vw (A := A) (B := T1 ++ B) hO.m, InJ.view (A := A ++ T0) (B := B) h1 (by have := hO.m; simpa [List.append_assoc] using this)⟩
theorem eqL_self (a : List JobL) : eqL a a = true := (eqL_iff a a).2 rfl

theorem awake_any (w : World) :
    Calls Try.prog 9 #[] w fun e w' => e = .returned (.bool true) ∧ Only none' w w' := by
 refine c_enter (args := []) (m := 66) (n := 66) Try.func9 rfl (by kernel_rfl) (by kernel_rfl) fun fr hA => ?_
 have hO := Ow.nil Try.prog none' w
 refine sC (e' := [(0, bl false)]) 1 hA [] c0 ?_
 clear hA fr; intro fr hA
 refine sR (l := [0, 1, 2, 3, 4, 5, 6, 7]) ?_
 refine wpOps_cons' (mC (f := 10) (args := [str (⟨#[99, 97, 116, 32, 60, 47, 97, 124, 119, 99, 62, 62, 47, 98, 38, 100, 97, 116, 101]⟩)]) (d := (some 7)) hA Try.func10 ((parse_any ⟨#[99, 97, 116, 32, 60, 47, 97, 124, 119, 99, 62, 62, 47, 98, 38, 100, 97, 116, 101]⟩ _ (by decide)).mono ?_))
 rintro en w1 (⟨ea, ee, hr, rfl, hW⟩ | ⟨p_, k_, l_, T0, T1, hr, rfl, hT0, hT1, hW, hll⟩)
 · exact absurd (hr.symm.trans awake_line) (by simp)
 refine ⟨_, rfl, ?_⟩
 clear hA fr; intro fr hA
 obtain ⟨p1, c1, q1, e1, q2, e2, p2, c2, q3, e3, rfl⟩ := awake_shape hr
 replace hO := Ow.join hO hW; clear hW hr
 replace hO : Ow Try.prog none' w _ ([] ++ (T0 ++ (T1 ++ ([])))) := hO.to (by first | rfl | (simp only [TP, apd]))
 obtain ⟨ad0, rfl⟩ := (VL_own (A := []) (B := []) hT0 hT1 hO).1.pos (Nat.zero_lt_succ _)
 obtain ⟨ad1, rfl⟩ := ((VL_own (A := []) (B := []) hT0 hT1 hO).2 _ List.mem_cons_self).1.pos (Nat.zero_lt_succ _)
 replace hO : Ow Try.prog none' w _ ([] ++ (T0 ++ (T1 ++ ([])))) := hO
 replace hA := hA.sb (e' := [(0, bl false), (7, .tuple #[.slice (some ad0) (([⟨some ad1, c1, [⟨q1, e1, ⟨[⟨#[99, 97, 116]⟩], ⟨#[47, 97]⟩, ⟨#[]⟩, false⟩⟩, ⟨q2, e2, ⟨[⟨#[119, 99]⟩], ⟨#[]⟩, ⟨#[47, 98]⟩, true⟩⟩], true⟩, ⟨p2, c2, [⟨q3, e3, ⟨[⟨#[100, 97, 116, 101]⟩], ⟨#[]⟩, ⟨#[]⟩, false⟩⟩], false⟩] : List JV).length) k_, i64 0, i64 0])])
 refine ck (l := (rg 1 7)) (r := []) (e' := [(0, bl false), (1, .slice (some ad0) (([⟨some ad1, c1, [⟨q1, e1, ⟨[⟨#[99, 97, 116]⟩], ⟨#[47, 97]⟩, ⟨#[]⟩, false⟩⟩, ⟨q2, e2, ⟨[⟨#[119, 99]⟩], ⟨#[]⟩, ⟨#[47, 98]⟩, true⟩⟩], true⟩, ⟨p2, c2, [⟨q3, e3, ⟨[⟨#[100, 97, 116, 101]⟩], ⟨#[]⟩, ⟨#[]⟩, false⟩⟩], false⟩] : List JV).length) k_), (3, i64 0)]) hA [] c0 ?_
 clear hA fr; intro fr hA
 rw [show (([⟨some ad1, c1, [⟨q1, e1, ⟨[⟨#[99, 97, 116]⟩], ⟨#[47, 97]⟩, ⟨#[]⟩, false⟩⟩, ⟨q2, e2, ⟨[⟨#[119, 99]⟩], ⟨#[]⟩, ⟨#[47, 98]⟩, true⟩⟩], true⟩, ⟨p2, c2, [⟨q3, e3, ⟨[⟨#[100, 97, 116, 101]⟩], ⟨#[]⟩, ⟨#[]⟩, false⟩⟩], false⟩] : List JV).length) = 2 from rfl] at hA
 refine end_ops ?_
 refine then_normal ?_
 refine sR (l := (rg 0 7)) ?_
 refine ck (l := [0]) (r := (rg 1 6)) (e' := [(0, bl false), (1, .slice (some ad0) 2 k_), (3, i64 0), (12, .slice (some ad0) 2 k_)]) hA [] c0 ?_
 clear hA fr; intro fr hA
 refine wpOps_cons' (mK (f := 16) (args := [.slice (some ad0) 2 k_]) (d := (some 13)) (v := .tuple #[str (⟨#[99, 97, 116, 32, 60, 32, 47, 97, 32, 124, 32, 119, 99, 32, 62, 62, 32, 47, 98, 32, 38, 32, 100, 97, 116, 101]⟩), i64 0]) hA hO Try.func16 (rs (Print_ok _ _ ([⟨some ad1, c1, [⟨q1, e1, ⟨[⟨#[99, 97, 116]⟩], ⟨#[47, 97]⟩, ⟨#[]⟩, false⟩⟩, ⟨q2, e2, ⟨[⟨#[119, 99]⟩], ⟨#[]⟩, ⟨#[47, 98]⟩, true⟩⟩], true⟩, ⟨p2, c2, [⟨q3, e3, ⟨[⟨#[100, 97, 116, 101]⟩], ⟨#[]⟩, ⟨#[]⟩, false⟩⟩], false⟩] : List JV) _ (VL_own (A := ([] ++ ([]))) (B := []) hT0 hT1 (hO.to (by first | rfl | (simp only [TP, apd])))) (fewL_small (by kernel_rfl)) (by kernel_rfl)) (by kernel_rfl)) ?_)
 clear hA hO fr; intro fr w2 hA hO
 replace hA := hA.sb (e' := [(0, bl false), (1, .slice (some ad0) 2 k_), (3, i64 0), (13, .tuple #[str (⟨#[99, 97, 116, 32, 60, 32, 47, 97, 32, 124, 32, 119, 99, 32, 62, 62, 32, 47, 98, 32, 38, 32, 100, 97, 116, 101]⟩), i64 0])])
 refine ck (l := (rg 2 5)) (r := []) (e' := [(0, bl false), (1, .slice (some ad0) 2 k_), (3, i64 0), (4, str (⟨#[99, 97, 116, 32, 60, 32, 47, 97, 32, 124, 32, 119, 99, 32, 62, 62, 32, 47, 98, 32, 38, 32, 100, 97, 116, 101]⟩)), (5, i64 0)]) hA [] c0 ?_
 clear hA fr; intro fr hA
 refine end_ops ?_
 refine then_normal ?_
 refine sR (l := (rg 0 51)) ?_
 refine ck (l := (rg 0 40)) (r := (rg 40 11)) (e' := [(0, bl false), (1, .slice (some ad0) 2 k_), (54, bl true), (55, .slice (some ad0) 2 k_)]) hA [bl true, .slice (some ad1) 2 c1, .slice (some ad1) 2 c1, bl true] (cc (⟨by omega, by omega⟩ : (0 : Int) ≤ 0 ∧ 0 < ((2 : Nat) : Int)) (cc (((VL_own (A := ([] ++ ([]))) (B := []) hT0 hT1 (hO.to (by first | rfl | (simp only [TP, apd])))).1.ld1 encJ (i := 0) (k := 1) rfl rfl) : Ld Try.prog w2 ((ad0.add 0).add 1) 4 (bl true)) (cc (⟨by omega, by omega⟩ : (0 : Int) ≤ 0 ∧ 0 < ((2 : Nat) : Int)) (cc (((VL_own (A := ([] ++ ([]))) (B := []) hT0 hT1 (hO.to (by first | rfl | (simp only [TP, apd])))).1.ld0 encJ (i := 0) rfl rfl) : Ld Try.prog w2 (ad0.add 0) 51 (.slice (some ad1) 2 c1)) (cc (⟨by omega, by omega⟩ : (0 : Int) ≤ 0 ∧ 0 < ((2 : Nat) : Int)) (cc (((VL_own (A := ([] ++ ([]))) (B := []) hT0 hT1 (hO.to (by first | rfl | (simp only [TP, apd])))).1.ld0 encJ (i := 0) rfl rfl) : Ld Try.prog w2 (ad0.add 0) 51 (.slice (some ad1) 2 c1)) (cc (⟨by omega, by omega⟩ : (0 : Int) ≤ 1 ∧ 1 < ((2 : Nat) : Int)) (cc ((((VL_own (A := ([] ++ ([]))) (B := []) hT0 hT1 (hO.to (by first | rfl | (simp only [TP, apd])))).2 _ List.mem_cons_self).1.ld1 encC (i := 1) (k := 3) rfl rfl) : Ld Try.prog w2 ((ad1.add 4).add 3) 4 (bl true)) c0)))))))) ?_
 clear hA fr; intro fr hA
 refine wpOps_cons' (mK (f := 14) (args := [.slice (some ad0) 2 k_]) (d := (some 56)) (v := bl true) hA hO Try.func14 (rs (Valid_any _ _ ([⟨some ad1, c1, [⟨q1, e1, ⟨[⟨#[99, 97, 116]⟩], ⟨#[47, 97]⟩, ⟨#[]⟩, false⟩⟩, ⟨q2, e2, ⟨[⟨#[119, 99]⟩], ⟨#[]⟩, ⟨#[47, 98]⟩, true⟩⟩], true⟩, ⟨p2, c2, [⟨q3, e3, ⟨[⟨#[100, 97, 116, 101]⟩], ⟨#[]⟩, ⟨#[]⟩, false⟩⟩], false⟩] : List JV) _ (VL_own (A := ([] ++ ([]))) (B := []) hT0 hT1 (hO.to (by first | rfl | (simp only [TP, apd])))) (fewL_small (by kernel_rfl))) (by kernel_rfl)) ?_)
 clear hA hO fr; intro fr w3 hA hO
 replace hA := hA.sb (e' := [(0, bl false), (1, .slice (some ad0) 2 k_), (54, bl true), (56, bl true)])
 refine ck (l := [41, 42]) (r := (rg 43 8)) (e' := [(0, bl false), (1, .slice (some ad0) 2 k_), (58, bl true)]) hA [] c0 ?_
 clear hA fr; intro fr hA
 refine wpOps_cons' (mK (f := 21) (args := [str (⟨#[97]⟩)]) (d := (some 59)) (v := bl true) hA hO Try.func21 (rs (isword_any ⟨#[97]⟩ _ (by decide)) (by kernel_rfl)) ?_)
 clear hA hO fr; intro fr w4 hA hO
 replace hA := hA.sb (e' := [(0, bl false), (1, .slice (some ad0) 2 k_), (58, bl true), (59, bl true)])
 refine ck (l := [44, 45, 46, 47]) (r := [48, 49, 50]) (e' := [(0, bl false), (61, bl true), (62, .slice (some ad0) 2 k_), (63, .slice (some ad0) 2 k_)]) hA [] c0 ?_
 clear hA fr; intro fr hA
 refine wpOps_cons' (mK (f := 20) (args := [.slice (some ad0) 2 k_, .slice (some ad0) 2 k_]) (d := (some 64)) (v := bl true) hA hO Try.func20 (rs (Equal_any _ _ _ _ ([⟨some ad1, c1, [⟨q1, e1, ⟨[⟨#[99, 97, 116]⟩], ⟨#[47, 97]⟩, ⟨#[]⟩, false⟩⟩, ⟨q2, e2, ⟨[⟨#[119, 99]⟩], ⟨#[]⟩, ⟨#[47, 98]⟩, true⟩⟩], true⟩, ⟨p2, c2, [⟨q3, e3, ⟨[⟨#[100, 97, 116, 101]⟩], ⟨#[]⟩, ⟨#[]⟩, false⟩⟩], false⟩] : List JV) ([⟨some ad1, c1, [⟨q1, e1, ⟨[⟨#[99, 97, 116]⟩], ⟨#[47, 97]⟩, ⟨#[]⟩, false⟩⟩, ⟨q2, e2, ⟨[⟨#[119, 99]⟩], ⟨#[]⟩, ⟨#[47, 98]⟩, true⟩⟩], true⟩, ⟨p2, c2, [⟨q3, e3, ⟨[⟨#[100, 97, 116, 101]⟩], ⟨#[]⟩, ⟨#[]⟩, false⟩⟩], false⟩] : List JV) _ (VL_own (A := ([] ++ ([]))) (B := []) hT0 hT1 (hO.to (by first | rfl | (simp only [TP, apd])))) (VL_own (A := ([] ++ ([]))) (B := []) hT0 hT1 (hO.to (by first | rfl | (simp only [TP, apd])))) (fewL_small (by kernel_rfl))) (congrArg Value.bool (eqL_self _))) ?_)
 clear hA hO fr; intro fr w5 hA hO
 replace hA := hA.sb (e' := [(0, bl false), (61, bl true), (64, bl true)])
 refine ck (l := [49, 50]) (r := []) (e' := [(0, bl true)]) hA [] c0 ?_
 clear hA fr; intro fr hA
 refine end_ops ?_
 refine then_normal ?_
 refine wp_ret ?_
 refine cR (cs := [none]) (us := [bl true]) hA [] trivial ?_
 have hF := hO.only; clear hA hO
 exact ⟨rfl, hF⟩

end Go.Proofs.Ytfhcpegemapbkaa
