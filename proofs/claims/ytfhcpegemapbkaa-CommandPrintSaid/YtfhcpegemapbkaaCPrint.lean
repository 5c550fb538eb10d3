/- Proved: for every input the law ratoonlaw51.CommandPrint returns true, and each argument reads behind the call as before. No condition. -/
import Derived.Test.YtfhcpegemapbkaaLPrint
import Derived.Test.YtfhcpegemapbkaaCmdArgs
import Derived.Test.YtfhcpegemapbkaaRows
set_option linter.unusedVariables false
namespace Go.Proofs.Ytfhcpegemapbkaa
open Go Go.ChangeShapes Go.WideShapes Go.ChangeAt Go.ChangeMaps Go.RowKit Go.Proofs.Sx Go.Proofs.Fr
theorem own_commandPrint : ownKnob Try.prog.godebug = none := by kernel_rfl
theorem out_commandPrint : laidOutB Try.prog = true := by kernel_rfl

set_option maxRecDepth 100000 in
theorem commandPrint_lifted (os : Os) (started : os.Started) (H : Type) (enc : TypeId × Value → H) :
    ReturnsInHanded {} Try.checked os 4 .any (fun w args => Rows.commandPrintSpec.pre enc Try.prog Try.f4 [] false w args ∧ sizedMet enc Try.prog Try.f4 (OpenSpec.ofChange Rows.commandPrintSpec) false w args)
      (Rows.commandPrintSpec.post enc Try.prog Try.f4 false true false false) := by
  have e : (fun w args => (Rows.commandPrintSpec.pre enc Try.prog Try.f4 [] false w args ∧ True) ∧ sizedMet enc Try.prog Try.f4 (OpenSpec.ofChange Rows.commandPrintSpec) false w args) = (fun w args => Rows.commandPrintSpec.pre enc Try.prog Try.f4 [] false w args ∧ sizedMet enc Try.prog Try.f4 (OpenSpec.ofChange Rows.commandPrintSpec) false w args) := by
    funext w args; rw [and_true]
  rw [← e]
  refine frame_lawS (C := Try.checked) (X := fun _ => True) (fun _ _ _ h => h) own_commandPrint started (by kernel_rfl) Try.func4
    (ChangeSpec.witness_shaped (enc := enc) (C := Try.checked) (os := os) (X := fun _ _ => True) false (World.doorLaid Try.prog 200 os) #[.slice none 0 0] 8 rfl (World.shaped_of_RefB (by kernel_rfl) (by kernel_rfl)) (by kernel_rfl) (by kernel_rfl) (by kernel_rfl) trivial)
    out_commandPrint (by kernel_rfl) ⟨4, by kernel_rfl, by kernel_rfl⟩ rfl (fun ds hd => by
      have hd' : ds.length = 1 := hd
      match ds, hd' with
      | [_], _ => rfl) ?_
  intro W base args ds p hval0 hA0 _ hwt0 hL
  have hval : ∀ (j : Nat) t v, Try.f4.params[j]? = some t → args[j]? = some v → Value.okWide Try.prog W .any base t v := hval0
  have hA : DataW.TrodAll enc Try.prog W 0 (fun _ => true) true Try.f4.params.toList args.toList ds p := hA0
  have hwt : ∀ (j : Nat) t d, Try.f4.params.toList[j]? = some t → ds[j]? = some d → ∀ n ∈ d.weights Try.prog t, n ≤ reachBytes := hwt0
  rw [Try.params4] at hA hval hwt
  obtain ⟨v0, vs0, d0, ds0, p0, q0, hargs, rfl, rfl, h0, r0⟩ := trodAll_cons hA
  obtain ⟨rfl, rfl, rfl⟩ := trodAll_nil r0
  obtain rfl : args = #[v0] := by cases args; simp_all
  obtain ⟨a0, c0, l0, rfl, hl0, hm0⟩ := jobs_arg (hval 0 27 _ rfl rfl) h0 (hwt 0 27 _ rfl rfl)
  exact law_print _ _ l0 W hl0 hm0
theorem commandPrint_said : Rows.CommandPrintSaid :=
  OpenClaim.holds_of_wide 4 Try.f4 rfl rfl rfl rfl rfl rfl rfl ⟨rfl, rfl, rfl, rfl, rfl⟩ rfl rfl rfl rfl rfl (by kernel_rfl) Try.func4 (by kernel_rfl)
    (of_decide_eq_true (by kernel_rfl)) (by unfold Func.isWrapper; first | (rw [if_pos (by decide +kernel)]; kernel_rfl) | (rw [if_neg (by decide +kernel)]; exact ⟨rfl, rfl⟩))
    (fun os started H enc _ => commandPrint_lifted os started H enc)
#print axioms commandPrint_said
end Go.Proofs.Ytfhcpegemapbkaa
