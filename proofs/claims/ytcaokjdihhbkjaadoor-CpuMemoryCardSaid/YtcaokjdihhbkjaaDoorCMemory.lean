/- Proved: for every input the law ratoonlaw16.CpuMemory returns true, and each argument reads behind the call as before (the tied card). Condition: the listed package variables read, when the call begins, as the program's text lays them, which the card ties. -/
import Derived.Test.YtcaokjdihhbkjaaDoorLMemory
import Derived.Test.YtcaokjdihhbkjaaDoorFr
import Derived.Test.YtcaokjdihhbkjaaDoorArgs
import Derived.Test.YtcaokjdihhbkjaaDoorCards
import Derived.Test.YtcaokjdihhbkjaaDoorTie
set_option linter.unusedVariables false
namespace Go.Proofs.YtcaokjdihhbkjaaDoor
open Go Go.ChangeShapes Go.WideShapes Go.ChangeAt Go.RowKit Go.Proofs.Sx Go.Proofs.Fr
theorem own_cpuMemory : ownKnob Tryd.prog.godebug = none := by kernel_rfl
theorem out_cpuMemory : laidOutB Tryd.prog = true := by kernel_rfl
theorem met_cpuMemory (os : Os) (args : Array Value) : laidMet Tryd.prog Rows.cpuMemoryRow.laid ((World.doorLaid Tryd.prog 200 os).forCall (fun _ _ => 0) ⟨#[], args, []⟩).memory :=
  laidMet_of_run' 8 (by kernel_rfl) (by kernel_rfl)
theorem tab_of {W : World} (h : laidMet Tryd.prog Rows.cpuMemoryRow.laid W) : Tab W :=
  laid_head (g := 0) (t := 75) (cs := tblL) h (by kernel_rfl) (by kernel_rfl) 8 8 (by kernel_rfl) (p := []) (by kernel_rfl)
set_option maxRecDepth 100000 in
theorem cpuMemory_lifted (os : Os) (started : os.Started) (H : Type) (enc : TypeId × Value → H) :
    ReturnsInHanded {} Tryd.checked os 10 .any (fun w args => (Rows.cpuMemorySpec.pre enc Tryd.prog Tryd.f10 [] false w args ∧ laidMet Tryd.prog Rows.cpuMemoryRow.laid w) ∧ sizedMet enc Tryd.prog Tryd.f10 (OpenSpec.ofChange Rows.cpuMemorySpec) false w args)
      (Rows.cpuMemorySpec.post enc Tryd.prog Tryd.f10 false true false false) := by
  refine frame_law (C := Tryd.checked) (X := fun w => laidMet Tryd.prog Rows.cpuMemoryRow.laid w) (fun _ _ hh h => h.of_heap hh) own_cpuMemory started (by kernel_rfl) Tryd.func10
    (ChangeSpec.witness_shaped (enc := enc) (C := Tryd.checked) (os := os) (X := fun w _ => laidMet Tryd.prog Rows.cpuMemoryRow.laid w) false (World.doorLaid Tryd.prog 200 os) #[.agg #[.int .i32 0, .int .i32 0, .int .i32 0, .int .i32 0, .int .i32 0, .int .i32 0, .int .i32 0, .int .i32 0, .int .i32 0, .int .i32 0, .int .i32 0, .int .i32 0, .int .i32 0, .int .i32 0, .int .i32 0, .int .i32 0, .int .i64 0], .agg #[.int .i64 0, .int .i64 0, .int .i64 0, .int .i64 0, .int .i64 0], .int .i32 0] 8 rfl (World.shaped_of_RefB (by kernel_rfl) (by kernel_rfl)) (by kernel_rfl) (by kernel_rfl) (by kernel_rfl) (met_cpuMemory os _))
    out_cpuMemory (by kernel_rfl) ⟨4, by kernel_rfl, by kernel_rfl⟩ rfl (fun ds hd => by
      have hd' : ds.length = 3 := hd
      match ds, hd' with
      | [_, _, _], _ => rfl) ?_
  intro W base args ds p hval0 hA0 _ hL
  have hval : ∀ (j : Nat) t v, Tryd.f10.params[j]? = some t → args[j]? = some v → Value.okWide Tryd.prog W .any base t v := hval0
  have hA : DataW.TrodAll enc Tryd.prog W 0 (fun _ => true) true Tryd.f10.params.toList args.toList ds p := hA0
  have hT := tab_of hL
  rw [Tryd.params10] at hA hval
  obtain ⟨v0, vs0, d0, ds0, p0, q0, hargs, rfl, rfl, h0, r0⟩ := trodAll_cons hA
  obtain ⟨v1, vs1, d1, ds1, p1, q1, rfl, rfl, rfl, h1, r1⟩ := trodAll_cons r0
  obtain ⟨v2, vs2, d2, ds2, p2, q2, rfl, rfl, rfl, h2, r2⟩ := trodAll_cons r1
  obtain ⟨rfl, rfl, rfl⟩ := trodAll_nil r2
  obtain rfl : args = #[v0, v1, v2] := by cases args; simp_all
  obtain ⟨R0, pc0, rfl, hR0, hpc0⟩ := regs_arg under38 (by kernel_rfl) (by kernel_rfl) (by kernel_rfl) (hval 0 38 _ rfl rfl) h0
  obtain ⟨o1, a1, b1, c1, x1, rfl, ho, ha, hb, hc, hx⟩ := ins_arg under29 (by kernel_rfl) (by kernel_rfl) (hval 1 29 _ rfl rfl) h1
  obtain ⟨n2, rfl, rfl, rfl, wn2⟩ := open_int (show Tryd.prog.underlying 21 = some (.int .i32) by kernel_rfl) (hval 2 21 _ rfl rfl) h2
  exact law_memory R0 pc0 o1 a1 b1 c1 x1 n2 W hT hR0 (wf_inK wn2)
theorem cpuMemory_holds : Rows.cpuMemoryRow.holds Tryd.pinned (OpenSpec.ofChange Rows.cpuMemorySpec) :=
  OpenClaim.holds_of_wide 10 Tryd.f10 rfl rfl rfl rfl rfl rfl rfl ⟨rfl, rfl, rfl, rfl, rfl⟩ rfl rfl rfl rfl rfl (by kernel_rfl) Tryd.func10 (by kernel_rfl)
    (of_decide_eq_true (by kernel_rfl)) (by unfold Func.isWrapper; first | (rw [if_pos (by decide +kernel)]; kernel_rfl) | (rw [if_neg (by decide +kernel)]; exact ⟨rfl, rfl⟩))
    (fun os started H enc _ => cpuMemory_lifted os started H enc)
theorem cpuMemory_card : Rows.CpuMemoryCardSaid :=
  Claim7.holds_tied_plain_at .later [] [.data] true (true, "6ded239800dc637bd3fdd23dc90ba235ffdfcc0339399b68588c752a39ea639a") false
    cpuMemory_holds (fun _ h => by cases h) (by kernel_rfl) (fun _ h => by cases h) cpuMemory_row_tie rfl ⟨rfl, rfl⟩ (by kernel_rfl) rfl
    (fun f fn hf hfn => by
      obtain rfl : f = 10 := Option.some.inj ((show Tryd.prog.funcNamed "ratoon/ratoonlaw16.CpuMemory" = some 10 by kernel_rfl).symm.trans hf) |>.symm
      obtain rfl : fn = Tryd.f10 := (Option.some.inj (Tryd.func10.symm.trans hfn)).symm
      exact ⟨by kernel_rfl, fun j t ht => by
        rw [Tryd.params10] at ht
        have hm : t ∈ [38, 29, 21] := by simpa using Array.mem_of_getElem? ht
        have hall : ([38, 29, 21].all fun u => !Tryd.prog.wantsStandIn u) = true := by kernel_rfl
        exact (show Tryd.prog.wantsStandIn t = false by simpa using List.all_eq_true.1 hall t hm)⟩)
    (by kernel_rfl)
#print axioms cpuMemory_card
end Go.Proofs.YtcaokjdihhbkjaaDoor
