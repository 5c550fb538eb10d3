/- Proved: for every input the law ratoonlaw51.CommandParse returns true, and each argument reads behind the call as before. No condition. -/
import Derived.Test.YtfhcpegemapbkaaLParse
import Derived.Test.YtfhcpegemapbkaaFr
import Derived.Test.YtfhcpegemapbkaaRows
set_option linter.unusedVariables false
namespace Go.Proofs.Ytfhcpegemapbkaa
open Go Go.ChangeShapes Go.WideShapes Go.ChangeAt Go.ChangeMaps Go.RowKit Go.Proofs.Sx Go.Proofs.Fr
theorem own_commandParse : ownKnob Try.prog.godebug = none := by kernel_rfl
theorem out_commandParse : laidOutB Try.prog = true := by kernel_rfl

set_option maxRecDepth 100000 in
theorem commandParse_lifted (os : Os) (started : os.Started) (H : Type) (enc : TypeId × Value → H) :
    ReturnsInHanded {} Try.checked os 3 .any (fun w args => Rows.commandParseSpec.pre enc Try.prog Try.f3 [] false w args ∧ sizedMet enc Try.prog Try.f3 (OpenSpec.ofChange Rows.commandParseSpec) false w args)
      (Rows.commandParseSpec.post enc Try.prog Try.f3 false true false false) := by
  have e : (fun w args => (Rows.commandParseSpec.pre enc Try.prog Try.f3 [] false w args ∧ True) ∧ sizedMet enc Try.prog Try.f3 (OpenSpec.ofChange Rows.commandParseSpec) false w args) = (fun w args => Rows.commandParseSpec.pre enc Try.prog Try.f3 [] false w args ∧ sizedMet enc Try.prog Try.f3 (OpenSpec.ofChange Rows.commandParseSpec) false w args) := by
    funext w args; rw [and_true]
  rw [← e]
  refine frame_law (C := Try.checked) (X := fun _ => True) (fun _ _ _ h => h) own_commandParse started (by kernel_rfl) Try.func3
    (ChangeSpec.witness_shaped (enc := enc) (C := Try.checked) (os := os) (X := fun _ _ => True) false (World.doorLaid Try.prog 200 os) #[.string ⟨#[]⟩] 8 rfl (World.shaped_of_RefB (by kernel_rfl) (by kernel_rfl)) (by kernel_rfl) (by kernel_rfl) (by kernel_rfl) trivial)
    out_commandParse (by kernel_rfl) ⟨4, by kernel_rfl, by kernel_rfl⟩ rfl (fun ds hd => by
      have hd' : ds.length = 1 := hd
      match ds, hd' with
      | [_], _ => rfl) ?_
  intro W base args ds p hval0 hA0 _ hL
  have hval : ∀ (j : Nat) t v, Try.f3.params[j]? = some t → args[j]? = some v → Value.okWide Try.prog W .any base t v := hval0
  have hA : DataW.TrodAll enc Try.prog W 0 (fun _ => true) true Try.f3.params.toList args.toList ds p := hA0
  rw [Try.params3] at hA hval
  obtain ⟨v0, vs0, d0, ds0, p0, q0, hargs, rfl, rfl, h0, r0⟩ := trodAll_cons hA
  obtain ⟨rfl, rfl, rfl⟩ := trodAll_nil r0
  obtain rfl : args = #[v0] := by cases args; simp_all
  obtain ⟨s0, rfl, rfl, rfl, hs0⟩ := open_string (show Try.prog.underlying 9 = some .string by kernel_rfl) (hval 0 9 _ rfl rfl) h0
  exact law_parse s0 W
theorem commandParse_said : Rows.CommandParseSaid :=
  OpenClaim.holds_of_wide 3 Try.f3 rfl rfl rfl rfl rfl rfl rfl ⟨rfl, rfl, rfl, rfl, rfl⟩ rfl rfl rfl rfl rfl (by kernel_rfl) Try.func3 (by kernel_rfl)
    (of_decide_eq_true (by kernel_rfl)) (by unfold Func.isWrapper; first | (rw [if_pos (by decide +kernel)]; kernel_rfl) | (rw [if_neg (by decide +kernel)]; exact ⟨rfl, rfl⟩))
    (fun os started H enc _ => commandParse_lifted os started H enc)
#print axioms commandParse_said
end Go.Proofs.Ytfhcpegemapbkaa
