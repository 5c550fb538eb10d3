/- The layer cpu: walks of Exec. -/
import Derived.Test.YtcaokjdihhbkjaaDoorExecb
import Derived.Test.YtcaokjdihhbkjaaDoorExec
set_option linter.unusedVariables false
set_option linter.unusedSimpArgs false
set_option maxRecDepth 10000
namespace Go.Proofs.YtcaokjdihhbkjaaDoor
open Go Go.RowKit Go.Proofs.Sx

theorem exec_bad (R : Nat → Int) (pc ld : Int) (sl : Value) (w : World) (hdec : ∀ w', Only none' w w' → Calls Tryd.prog 13 #[sl] w' fun e w2 => e = .returned (.tuple #[insV 0 0 0 0 0, .int .i64 4]) ∧ Only none' w' w2) :
    Calls Tryd.prog 18 #[.agg (List.toArray (regsL R pc)), sl, i64 ld] w fun e w' => e = .returned (outV R pc 0 (trapL 2 1 0 0 0 0 0)) ∧ Only none' w w' := by
  refine c_enter (args := [.agg (List.toArray (regsL R pc)), sl, i64 ld]) (m := 206) (n := 209) Tryd.func18 rfl (by kernel_rfl) (by kernel_rfl) fun fr hA => ?_
  have hO := Ow.nil Tryd.prog none' w
  refine sR (l := [0, 1, 2, 3]) ?_
  refine wpOps_cons' (mN (l := (regsL R pc)) (t := 40) (v := pt) (d := 3) hA hO ?_)
  clear hA hO fr; intro fr w1 b1 hA hO
  replace hA := hA.sb (e' := [(1, sl), (2, i64 ld), (3, pt b1)])
  refine wpOps_cons' (mN (l := [i32 0, i32 0, i32 0, i32 0, i32 0, i32 0, i32 0, i32 0, i32 0, i32 0, i32 0, i32 0, i32 0, i32 0, i32 0, i32 0, i64 0]) (t := 40) (v := pt) (d := 6) hA hO ?_)
  clear hA hO fr; intro fr w2 b2 hA hO
  refine ck (l := [2]) (r := [3]) (e' := [(1, sl), (2, i64 ld), (3, pt b1), (6, pt b2), (7, i64 0)]) hA [] c0 ?_
  clear hA fr; intro fr hA
  refine wpOps_cons' (mN (l := [i64 0, i64 0, i64 0, i64 0, i64 0, i64 0, i64 0]) (t := 43) (v := pt) (d := 8) hA hO ?_)
  clear hA hO fr; intro fr w3 b3 hA hO
  refine end_ops ?_
  refine then_normal ?_
  refine sR (l := (rg 0 8)) ?_
  refine ck (l := [0]) (r := (rg 1 7)) (e' := [(2, i64 ld), (3, pt b1), (6, pt b2), (7, i64 0), (8, pt b3), (18, sl)]) hA [] c0 ?_
  clear hA fr; intro fr hA
  refine wpOps_cons' (mK (f := 13) (args := [sl]) (d := (some 19)) (v := .tuple #[.agg #[i64 0, i64 0, i64 0, i64 0, i64 0], i64 4]) hA hO Tryd.func13 (hdec _ hO.only) ?_)
  clear hA hO fr; intro fr w4 hA hO
  replace hA := hA.sb (e' := [(2, i64 ld), (3, pt b1), (6, pt b2), (7, i64 0), (8, pt b3), (19, .tuple #[.agg #[i64 0, i64 0, i64 0, i64 0, i64 0], i64 4])])
  refine ck (l := [2, 3, 4]) (r := [5, 6, 7]) (e' := [(2, i64 ld), (3, pt b1), (6, pt b2), (7, i64 0), (8, pt b3), (20, .agg #[i64 0, i64 0, i64 0, i64 0, i64 0]), (21, i64 4)]) hA [] c0 ?_
  clear hA fr; intro fr hA
  refine wpOps_cons' (mN (l := [i64 0, i64 0, i64 0, i64 0, i64 0]) (t := 25) (v := pt) (d := 9) hA hO ?_)
  clear hA hO fr; intro fr w5 b4 hA hO
  refine wpOps_cons' (mS (off := 0) (vc := [i64 0, i64 0, i64 0, i64 0, i64 0]) 0 hA hO ?_)
  clear hO; intro w6 hO
  replace hA := hA.sb (e' := [(2, i64 ld), (3, pt b1), (6, pt b2), (7, i64 0), (8, pt b3), (9, pt b4), (21, i64 4)])
  refine ck (l := [7]) (r := []) (e' := [(2, i64 ld), (3, pt b1), (6, pt b2), (7, i64 0), (8, pt b3), (9, pt b4), (10, i64 4)]) hA [] c0 ?_
  clear hA fr; intro fr hA
  refine end_ops ?_
  refine then_normal ?_
  refine wp_seq ?_
  refine sC (e' := [(2, i64 ld), (3, pt b1), (6, pt b2), (7, i64 0), (8, pt b3), (9, pt b4), (23, bl true)]) 2 hA [] c0 ?_
  clear hA fr; intro fr hA
  refine cT hA ?_
  refine wp_seq ?_
  have hS : Ow Tryd.prog none' w _ [(b4, 25, [i64 0, i64 0, i64 0, i64 0, i64 0]), (b1, 40, (regsL R pc))] := hO.sub [0, 3]
  refine rP [(0, true), (1, false), (2, false), (3, true), (4, false)] hS ?_
  intro w7 ho; replace hO := hO.st ho; clear ho
  refine ckS (l := [0]) (r := [(1, false), (2, false), (3, true), (4, false)]) (e' := [(2, i64 ld), (3, pt b1), (6, pt b2), (7, i64 0), (8, pt b3), (9, pt b4), (24, .agg (List.toArray (regsL R pc)))]) hA [.agg (List.toArray (regsL R pc))] (cc (hS.sn 1 0 40 (regsL R pc)) c0) ?_
  clear hA fr; intro fr hA
  refine plan_mem (mK (f := 35) (args := [i64 1]) (d := (some 25)) (v := .agg #[i64 2, i64 1, i64 0, i64 0, i64 0, i64 0, i64 0]) hA hO Tryd.func35 (exception_any 1 _) ?_)
  clear hA hO fr; intro fr w8 hA hO
  refine ⟨(hO.sub [0, 3]), ?_⟩
  refine plan_mem (mS (off := 0) (vc := (regsL R pc)) 2 hA hO ?_)
  clear hO; intro w9 hO
  refine ⟨(hO.sub [0, 3]), ?_⟩
  replace hA := hA.sb (e' := [(2, i64 ld), (3, pt b1), (6, pt b2), (7, i64 0), (8, pt b3), (9, pt b4), (25, .agg #[i64 2, i64 1, i64 0, i64 0, i64 0, i64 0, i64 0])])
  refine ckS (l := [3]) (r := [(4, false)]) (e' := [(2, i64 ld), (3, pt b1), (6, pt b2), (7, i64 0), (8, pt b3), (9, pt b4), (25, .agg #[i64 2, i64 1, i64 0, i64 0, i64 0, i64 0, i64 0])]) hA [] c0 ?_
  clear hA fr; intro fr hA
  refine plan_mem (mS (off := 0) (vc := [i64 2, i64 1, i64 0, i64 0, i64 0, i64 0, i64 0]) 1 hA hO ?_)
  clear hO; intro w10 hO
  refine ⟨(hO.sub [0, 3]), ?_⟩
  replace hA := hA.sb (e' := [(2, i64 ld), (3, pt b1), (6, pt b2), (7, i64 0), (8, pt b3), (9, pt b4)])
  refine end_plan ?_
  refine then_normal ?_
  refine wp_ret ?_
  refine then_ret ?_
  refine cR (cs := [some (⟨b2, 0, none⟩, 40), none, some (⟨b3, 0, none⟩, 43)]) (us := [.agg (List.toArray (regsL R pc)), i64 0, .agg #[i64 2, i64 1, i64 0, i64 0, i64 0, i64 0, i64 0]]) hA [.agg (List.toArray (regsL R pc)), .agg #[i64 2, i64 1, i64 0, i64 0, i64 0, i64 0, i64 0]] ⟨(hO.ln 2 0 40 (regsL R pc)), (hO.ln 1 0 43 [i64 2, i64 1, i64 0, i64 0, i64 0, i64 0, i64 0]), trivial⟩ ?_
  have hF := hO.only; clear hA hO
  exact ⟨rfl, hF⟩

theorem exec_any (R : Nat → Int) (pc ld : Int) (sl : Value) (xs : List Int) (w : World) (hT : Tab w) (hR : RegsOk R) (hp : -1099511627776 < pc) (hp' : pc < 1099511627776) (hs : SlI w sl xs) :
    Calls Tryd.prog 18 #[.agg (List.toArray (regsL R pc)), sl, .int .i64 ld] w fun e w' => e = .returned (execX R pc ld xs) ∧ Only none' w w' := by
  have hdec := fun w' (ho : Only none' w w') => decode_any sl xs w' (hT.keep ho fun h => h) (hs.keep ho)
  unfold execX
  rcases hx : decX xs with _ | ⟨o, a, b, c, v⟩
  · rw [hx] at hdec
    exact exec_bad R pc ld sl w hdec
  · rw [hx] at hdec
    obtain ⟨ho, ha, hb, hc, hv, hc2⟩ := legal_spec (decX_legal hx)
    have : o = 1 ∨ o = 2 ∨ o = 3 ∨ o = 4 ∨ o = 5 ∨ o = 6 ∨ o = 7 ∨ o = 8 ∨ o = 9 ∨ o = 10 ∨ o = 11 ∨ o = 12 ∨ o = 13 ∨ o = 14 ∨ o = 15 ∨ o = 16 ∨ o = 17 ∨ o = 18 ∨ o = 19 ∨ o = 20 ∨ o = 21 ∨ o = 22 := by omega
    have hd : ∀ k, o = k → ∀ w', Only none' w w' → Calls Tryd.prog 13 #[sl] w' fun e w2 => e = .returned (.tuple #[insV k a b c v, .int .i64 0]) ∧ Only none' w' w2 := fun k hk => hk ▸ hdec
    rcases this with rfl | rfl | rfl | rfl | rfl | rfl | rfl | rfl | rfl | rfl | rfl | rfl | rfl | rfl | rfl | rfl | rfl | rfl | rfl | rfl | rfl | rfl
    · exact exec_1 R pc ld a b c v sl w hT hR hp hp' ha.1 ha.2 hb.1 hb.2 hc.1 hc.2 hv.1 hv.2 (hd _ rfl)
    · exact exec_2 R pc ld a b c v sl w hT hR hp hp' ha.1 ha.2 hb.1 hb.2 hc.1 hc.2 hv.1 hv.2 (hd _ rfl)
    · exact exec_3 R pc ld a b c v sl w hT hR hp hp' ha.1 ha.2 hb.1 hb.2 hc.1 hc.2 hv.1 hv.2 (hd _ rfl)
    · exact exec_4 R pc ld a b c v sl w hT hR hp hp' ha.1 ha.2 hb.1 hb.2 (hc2 (by omega)).1 (hc2 (by omega)).2 hv.1 hv.2 (hd _ rfl)
    · exact exec_5 R pc ld a b c v sl w hT hR hp hp' ha.1 ha.2 hb.1 hb.2 (hc2 (by omega)).1 (hc2 (by omega)).2 hv.1 hv.2 (hd _ rfl)
    · exact exec_6 R pc ld a b c v sl w hT hR hp hp' ha.1 ha.2 hb.1 hb.2 (hc2 (by omega)).1 (hc2 (by omega)).2 hv.1 hv.2 (hd _ rfl)
    · exact exec_7 R pc ld a b c v sl w hT hR hp hp' ha.1 ha.2 hb.1 hb.2 (hc2 (by omega)).1 (hc2 (by omega)).2 hv.1 hv.2 (hd _ rfl)
    · exact exec_8 R pc ld a b c v sl w hT hR hp hp' ha.1 ha.2 hb.1 hb.2 (hc2 (by omega)).1 (hc2 (by omega)).2 hv.1 hv.2 (hd _ rfl)
    · exact exec_9 R pc ld a b c v sl w hT hR hp hp' ha.1 ha.2 hb.1 hb.2 (hc2 (by omega)).1 (hc2 (by omega)).2 hv.1 hv.2 (hd _ rfl)
    · exact exec_10 R pc ld a b c v sl w hT hR hp hp' ha.1 ha.2 hb.1 hb.2 (hc2 (by omega)).1 (hc2 (by omega)).2 hv.1 hv.2 (hd _ rfl)
    · exact exec_11 R pc ld a b c v sl w hT hR hp hp' ha.1 ha.2 hb.1 hb.2 (hc2 (by omega)).1 (hc2 (by omega)).2 hv.1 hv.2 (hd _ rfl)
    · exact exec_12 R pc ld a b c v sl w hT hR hp hp' ha.1 ha.2 hb.1 hb.2 (hc2 (by omega)).1 (hc2 (by omega)).2 hv.1 hv.2 (hd _ rfl)
    · exact exec_13 R pc ld a b c v sl w hT hR hp hp' ha.1 ha.2 hb.1 hb.2 (hc2 (by omega)).1 (hc2 (by omega)).2 hv.1 hv.2 (hd _ rfl)
    · exact exec_14 R pc ld a b c v sl w hT hR hp hp' ha.1 ha.2 hb.1 hb.2 hc.1 hc.2 hv.1 hv.2 (hd _ rfl)
    · exact exec_15 R pc ld a b c v sl w hT hR hp hp' ha.1 ha.2 hb.1 hb.2 hc.1 hc.2 hv.1 hv.2 (hd _ rfl)
    · exact exec_16 R pc ld a b c v sl w hT hR hp hp' ha.1 ha.2 hb.1 hb.2 hc.1 hc.2 hv.1 hv.2 (hd _ rfl)
    · exact exec_17 R pc ld a b c v sl w hT hR hp hp' ha.1 ha.2 hb.1 hb.2 hc.1 hc.2 hv.1 hv.2 (hd _ rfl)
    · exact exec_18 R pc ld a b c v sl w hT hR hp hp' ha.1 ha.2 hb.1 hb.2 hc.1 hc.2 hv.1 hv.2 (hd _ rfl)
    · exact exec_19 R pc ld a b c v sl w hT hR hp hp' ha.1 ha.2 hb.1 hb.2 hc.1 hc.2 hv.1 hv.2 (hd _ rfl)
    · exact exec_20 R pc ld a b c v sl w hT hR hp hp' ha.1 ha.2 hb.1 hb.2 hc.1 hc.2 hv.1 hv.2 (hd _ rfl)
    · exact exec_21 R pc ld a b c v sl w hT hR hp hp' ha.1 ha.2 hb.1 hb.2 hc.1 hc.2 hv.1 hv.2 (hd _ rfl)
    · exact exec_22 R pc ld a b c v sl w hT hR hp hp' ha.1 ha.2 hb.1 hb.2 hc.1 hc.2 hv.1 hv.2 (hd _ rfl)

end Go.Proofs.YtcaokjdihhbkjaaDoor
