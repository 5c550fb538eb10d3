/- Proved: for every input the law ratoonlaw16.CpuDecode returns true, and each argument reads behind the call as before (the tied card). Condition: the listed package variables read, when the call begins, as the program's text lays them, which the card ties. -/
import Derived.Test.YtcaokjdihhbkjaaDoorLDecode
import Derived.Test.YtcaokjdihhbkjaaDoorFr
import Derived.Test.YtcaokjdihhbkjaaDoorCards
import Derived.Test.YtcaokjdihhbkjaaDoorTie
set_option linter.unusedVariables false
namespace Go.Proofs.YtcaokjdihhbkjaaDoor
open Go Go.ChangeShapes Go.WideShapes Go.ChangeAt Go.RowKit Go.Proofs.Sx Go.Proofs.Fr
theorem own_cpuDecode : ownKnob Tryd.prog.godebug = none := by kernel_rfl
theorem out_cpuDecode : laidOutB Tryd.prog = true := by kernel_rfl
theorem met_cpuDecode (os : Os) (args : Array Value) : laidMet Tryd.prog Rows.cpuDecodeRow.laid ((World.doorLaid Tryd.prog 200 os).forCall (fun _ _ => 0) ⟨#[], args, []⟩).memory :=
  laidMet_of_run' 8 (by kernel_rfl) (by kernel_rfl)
theorem tab_of {W : World} (h : laidMet Tryd.prog Rows.cpuDecodeRow.laid W) : Tab W :=
  laid_head (g := 0) (t := 75) (cs := tblL) h (by kernel_rfl) (by kernel_rfl) 8 8 (by kernel_rfl) (p := []) (by kernel_rfl)
set_option maxRecDepth 100000 in
theorem cpuDecode_lifted (os : Os) (started : os.Started) (H : Type) (enc : TypeId × Value → H) :
    ReturnsInHanded {} Tryd.checked os 3 .any (fun w args => (Rows.cpuDecodeSpec.pre enc Tryd.prog Tryd.f3 [] false w args ∧ laidMet Tryd.prog Rows.cpuDecodeRow.laid w) ∧ sizedMet enc Tryd.prog Tryd.f3 (OpenSpec.ofChange Rows.cpuDecodeSpec) false w args)
      (Rows.cpuDecodeSpec.post enc Tryd.prog Tryd.f3 false true false false) := by
  refine frame_law (C := Tryd.checked) (X := fun w => laidMet Tryd.prog Rows.cpuDecodeRow.laid w) (fun _ _ hh h => h.of_heap hh) own_cpuDecode started (by kernel_rfl) Tryd.func3
    (ChangeSpec.witness_shaped (enc := enc) (C := Tryd.checked) (os := os) (X := fun w _ => laidMet Tryd.prog Rows.cpuDecodeRow.laid w) false (World.doorLaid Tryd.prog 200 os) #[.slice none 0 0] 8 rfl (World.shaped_of_RefB (by kernel_rfl) (by kernel_rfl)) (by kernel_rfl) (by kernel_rfl) (by kernel_rfl) (met_cpuDecode os _))
    out_cpuDecode (by kernel_rfl) ⟨4, by kernel_rfl, by kernel_rfl⟩ rfl (fun ds hd => by
      have hd' : ds.length = 1 := hd
      match ds, hd' with
      | [_], _ => rfl) ?_
  intro W base args ds p hval0 hA0 _ hL
  have hval : ∀ (j : Nat) t v, Tryd.f3.params[j]? = some t → args[j]? = some v → Value.okWide Tryd.prog W .any base t v := hval0
  have hA : DataW.TrodAll enc Tryd.prog W 0 (fun _ => true) true Tryd.f3.params.toList args.toList ds p := hA0
  have hT := tab_of hL
  rw [Tryd.params3] at hA hval
  obtain ⟨v0, d0, hargs, rfl, h0⟩ := trodAll_one hA
  obtain rfl : args = #[v0] := by cases args; simp_all
  obtain ⟨a0, len0, cap0, rfl⟩ := okWide_slice (show Tryd.prog.underlying 22 = some (.slice 5) by kernel_rfl) (hval 0 22 v0 rfl rfl)
  have hs := sl_arg (show Tryd.prog.underlying 22 = some (.slice 5) by kernel_rfl) (show Tryd.prog.underlying 5 = some (.int .u8) by kernel_rfl) (by kernel_rfl) h0
  obtain ⟨xs, hs⟩ := hs
  exact law_decode a0 len0 cap0 xs W hT hs
theorem cpuDecode_holds : Rows.cpuDecodeRow.holds Tryd.pinned (OpenSpec.ofChange Rows.cpuDecodeSpec) :=
  OpenClaim.holds_of_wide 3 Tryd.f3 rfl rfl rfl rfl rfl rfl rfl ⟨rfl, rfl, rfl, rfl, rfl⟩ rfl rfl rfl rfl rfl (by kernel_rfl) Tryd.func3 (by kernel_rfl)
    (of_decide_eq_true (by kernel_rfl)) (by unfold Func.isWrapper; first | (rw [if_pos (by decide +kernel)]; kernel_rfl) | (rw [if_neg (by decide +kernel)]; exact ⟨rfl, rfl⟩))
    (fun os started H enc _ => cpuDecode_lifted os started H enc)
theorem cpuDecode_card : Rows.CpuDecodeCardSaid :=
  Claim7.holds_tied_plain_at .later [] [.data] true (true, "6ded239800dc637bd3fdd23dc90ba235ffdfcc0339399b68588c752a39ea639a") false
    cpuDecode_holds (fun _ h => by cases h) (by kernel_rfl) (fun _ h => by cases h) cpuDecode_row_tie rfl ⟨rfl, rfl⟩ (by kernel_rfl) rfl
    (fun f fn hf hfn => by
      obtain rfl : f = 3 := Option.some.inj ((show Tryd.prog.funcNamed "ratoon/ratoonlaw16.CpuDecode" = some 3 by kernel_rfl).symm.trans hf) |>.symm
      obtain rfl : fn = Tryd.f3 := (Option.some.inj (Tryd.func3.symm.trans hfn)).symm
      exact ⟨by kernel_rfl, fun j t ht => by
        rw [Tryd.params3] at ht
        have hm : t ∈ [22] := by simpa using Array.mem_of_getElem? ht
        have hall : ([22].all fun u => !Tryd.prog.wantsStandIn u) = true := by kernel_rfl
        exact (show Tryd.prog.wantsStandIn t = false by simpa using List.all_eq_true.1 hall t hm)⟩)
    (by kernel_rfl)
#print axioms cpuDecode_card
end Go.Proofs.YtcaokjdihhbkjaaDoor
