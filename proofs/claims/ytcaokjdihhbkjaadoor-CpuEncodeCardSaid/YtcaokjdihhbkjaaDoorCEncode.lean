/- Proved: for every input the law ratoonlaw16.CpuEncode returns true, and each argument reads behind the call as before (the tied card). Condition: the listed package variables read, when the call begins, as the program's text lays them, which the card ties. -/
import Derived.Test.YtcaokjdihhbkjaaDoorLEncode
import Derived.Test.YtcaokjdihhbkjaaDoorFr
import Derived.Test.YtcaokjdihhbkjaaDoorLaid
import Derived.Test.YtcaokjdihhbkjaaDoorArgs
import Derived.Test.YtcaokjdihhbkjaaDoorCards
import Derived.Test.YtcaokjdihhbkjaaDoorTie
set_option linter.unusedVariables false
namespace Go.Proofs.YtcaokjdihhbkjaaDoor
open Go Go.ChangeShapes Go.WideShapes Go.ChangeAt Go.RowKit Go.Proofs.Sx Go.Proofs.Fr
theorem own_cpuEncode : ownKnob Tryd.prog.godebug = none := by kernel_rfl
theorem out_cpuEncode : laidOutB Tryd.prog = true := by kernel_rfl
theorem met_cpuEncode (os : Os) (args : Array Value) : laidMet Tryd.prog Rows.cpuEncodeRow.laid ((World.doorLaid Tryd.prog 200 os).forCall (fun _ _ => 0) ⟨#[], args, []⟩).memory :=
  laidMet_of_run' 8 (by kernel_rfl) (by kernel_rfl)
theorem tab_of {W : World} (h : laidMet Tryd.prog Rows.cpuEncodeRow.laid W) : Tab W :=
  lv_cells (g := 0) (t := 75) (cs := tblL) (lv_tail (lv_tail (lv_tail (lv_of h)))) (by kernel_rfl) (by kernel_rfl) 8 8 (by kernel_rfl) (p := []) (by kernel_rfl)
theorem pow_of {W : World} (h : laidMet Tryd.prog Rows.cpuEncodeRow.laid W) : Pow W :=
  lv_var (g := 1) (t := 119) (cs := Lib.pow10Tab.map (.int .u64 ·)) (lv_tail (lv_tail (lv_of h))) (by kernel_rfl) (by kernel_rfl) 8 8 (by kernel_rfl) (p := []) (by kernel_rfl)
set_option maxRecDepth 100000 in
theorem cpuEncode_lifted (os : Os) (started : os.Started) (H : Type) (enc : TypeId × Value → H) :
    ReturnsInHanded {} Tryd.checked os 11 .any (fun w args => (Rows.cpuEncodeSpec.pre enc Tryd.prog Tryd.f11 [] false w args ∧ laidMet Tryd.prog Rows.cpuEncodeRow.laid w) ∧ sizedMet enc Tryd.prog Tryd.f11 (OpenSpec.ofChange Rows.cpuEncodeSpec) false w args)
      (Rows.cpuEncodeSpec.post enc Tryd.prog Tryd.f11 false true false false) := by
  refine frame_law (C := Tryd.checked) (X := fun w => laidMet Tryd.prog Rows.cpuEncodeRow.laid w) (fun _ _ hh h => h.of_heap hh) own_cpuEncode started (by kernel_rfl) Tryd.func11
    (ChangeSpec.witness_shaped (enc := enc) (C := Tryd.checked) (os := os) (X := fun w _ => laidMet Tryd.prog Rows.cpuEncodeRow.laid w) false (World.doorLaid Tryd.prog 200 os) #[.agg #[.int .i64 0, .int .i64 0, .int .i64 0, .int .i64 0, .int .i64 0]] 8 rfl (World.shaped_of_RefB (by kernel_rfl) (by kernel_rfl)) (by kernel_rfl) (by kernel_rfl) (by kernel_rfl) (met_cpuEncode os _))
    out_cpuEncode (by kernel_rfl) ⟨4, by kernel_rfl, by kernel_rfl⟩ rfl (fun ds hd => by
      have hd' : ds.length = 1 := hd
      match ds, hd' with
      | [_], _ => rfl) ?_
  intro W base args ds p hval0 hA0 _ hL
  have hval : ∀ (j : Nat) t v, Tryd.f11.params[j]? = some t → args[j]? = some v → Value.okWide Tryd.prog W .any base t v := hval0
  have hA : DataW.TrodAll enc Tryd.prog W 0 (fun _ => true) true Tryd.f11.params.toList args.toList ds p := hA0
  have hT := tab_of hL
  rw [Tryd.params11] at hA hval
  obtain ⟨v0, vs0, d0, ds0, p0, q0, hargs, rfl, rfl, h0, r0⟩ := trodAll_cons hA
  obtain ⟨rfl, rfl, rfl⟩ := trodAll_nil r0
  obtain rfl : args = #[v0] := by cases args; simp_all
  obtain ⟨o0, a0, b0, c0, x0, rfl, ho, ha, hb, hc, hx⟩ := ins_arg under29 (by kernel_rfl) (by kernel_rfl) (hval 0 29 _ rfl rfl) h0
  exact law_encode o0 a0 b0 c0 x0 W hT (pow_of hL)
theorem cpuEncode_holds : Rows.cpuEncodeRow.holds Tryd.pinned (OpenSpec.ofChange Rows.cpuEncodeSpec) :=
  OpenClaim.holds_of_wide 11 Tryd.f11 rfl rfl rfl rfl rfl rfl rfl ⟨rfl, rfl, rfl, rfl, rfl⟩ rfl rfl rfl rfl rfl (by kernel_rfl) Tryd.func11 (by kernel_rfl)
    (of_decide_eq_true (by kernel_rfl)) (by unfold Func.isWrapper; first | (rw [if_pos (by decide +kernel)]; kernel_rfl) | (rw [if_neg (by decide +kernel)]; exact ⟨rfl, rfl⟩))
    (fun os started H enc _ => cpuEncode_lifted os started H enc)
theorem cpuEncode_card : Rows.CpuEncodeCardSaid :=
  Claim7.holds_tied_plain_at .later [] [.data, .data, .data, .data] true (true, "6ded239800dc637bd3fdd23dc90ba235ffdfcc0339399b68588c752a39ea639a") false
    cpuEncode_holds (fun _ h => by cases h) (by kernel_rfl) (fun _ h => by cases h) cpuEncode_row_tie rfl ⟨rfl, rfl⟩ (by kernel_rfl) rfl
    (fun f fn hf hfn => by
      obtain rfl : f = 11 := Option.some.inj ((show Tryd.prog.funcNamed "ratoon/ratoonlaw16.CpuEncode" = some 11 by kernel_rfl).symm.trans hf) |>.symm
      obtain rfl : fn = Tryd.f11 := (Option.some.inj (Tryd.func11.symm.trans hfn)).symm
      exact ⟨by kernel_rfl, fun j t ht => by
        rw [Tryd.params11] at ht
        have hm : t ∈ [29] := by simpa using Array.mem_of_getElem? ht
        have hall : ([29].all fun u => !Tryd.prog.wantsStandIn u) = true := by kernel_rfl
        exact (show Tryd.prog.wantsStandIn t = false by simpa using List.all_eq_true.1 hall t hm)⟩)
    (by kernel_rfl)
#print axioms cpuEncode_card
end Go.Proofs.YtcaokjdihhbkjaaDoor
