/- Proved: for every input the law ratoonlaw51.CommandJoined returns true, and each argument reads behind the call as before. No condition. -/
import Derived.Test.YtfhcpegemapbkaaLJoined
import Derived.Test.YtfhcpegemapbkaaFr
import Derived.Test.YtfhcpegemapbkaaRows
set_option linter.unusedVariables false
namespace Go.Proofs.Ytfhcpegemapbkaa
open Go Go.ChangeShapes Go.WideShapes Go.ChangeAt Go.ChangeMaps Go.RowKit Go.Proofs.Sx Go.Proofs.Fr
theorem own_commandJoined : ownKnob Try.prog.godebug = none := by kernel_rfl
theorem out_commandJoined : laidOutB Try.prog = true := by kernel_rfl

set_option maxRecDepth 100000 in
theorem commandJoined_lifted (os : Os) (started : os.Started) (H : Type) (enc : TypeId × Value → H) :
    ReturnsInHanded {} Try.checked os 7 .any (fun w args => Rows.commandJoinedSpec.pre enc Try.prog Try.f7 [] false w args ∧ sizedMet enc Try.prog Try.f7 (OpenSpec.ofChange Rows.commandJoinedSpec) false w args)
      (Rows.commandJoinedSpec.post enc Try.prog Try.f7 false true false false) := by
  have e : (fun w args => (Rows.commandJoinedSpec.pre enc Try.prog Try.f7 [] false w args ∧ True) ∧ sizedMet enc Try.prog Try.f7 (OpenSpec.ofChange Rows.commandJoinedSpec) false w args) = (fun w args => Rows.commandJoinedSpec.pre enc Try.prog Try.f7 [] false w args ∧ sizedMet enc Try.prog Try.f7 (OpenSpec.ofChange Rows.commandJoinedSpec) false w args) := by
    funext w args; rw [and_true]
  rw [← e]
  refine frame_law (C := Try.checked) (X := fun _ => True) (fun _ _ _ h => h) own_commandJoined started (by kernel_rfl) Try.func7
    (ChangeSpec.witness_shaped (enc := enc) (C := Try.checked) (os := os) (X := fun _ _ => True) false (World.doorLaid Try.prog 200 os) #[.string ⟨#[]⟩, .string ⟨#[]⟩, .bool false] 8 rfl (World.shaped_of_RefB (by kernel_rfl) (by kernel_rfl)) (by kernel_rfl) (by kernel_rfl) (by kernel_rfl) trivial)
    out_commandJoined (by kernel_rfl) ⟨4, by kernel_rfl, by kernel_rfl⟩ rfl (fun ds hd => by
      have hd' : ds.length = 3 := hd
      match ds, hd' with
      | [_, _, _], _ => rfl) ?_
  intro W base args ds p hval0 hA0 _ hL
  have hval : ∀ (j : Nat) t v, Try.f7.params[j]? = some t → args[j]? = some v → Value.okWide Try.prog W .any base t v := hval0
  have hA : DataW.TrodAll enc Try.prog W 0 (fun _ => true) true Try.f7.params.toList args.toList ds p := hA0
  rw [Try.params7] at hA hval
  obtain ⟨v0, vs0, d0, ds0, p0, q0, hargs, rfl, rfl, h0, r0⟩ := trodAll_cons hA
  obtain ⟨v1, vs1, d1, ds1, p1, q1, rfl, rfl, rfl, h1, r1⟩ := trodAll_cons r0
  obtain ⟨v2, vs2, d2, ds2, p2, q2, rfl, rfl, rfl, h2, r2⟩ := trodAll_cons r1
  obtain ⟨rfl, rfl, rfl⟩ := trodAll_nil r2
  obtain rfl : args = #[v0, v1, v2] := by cases args; simp_all
  obtain ⟨s0, rfl, rfl, rfl, hs0⟩ := open_string (show Try.prog.underlying 9 = some .string by kernel_rfl) (hval 0 9 _ rfl rfl) h0
  obtain ⟨s1, rfl, rfl, rfl, hs1⟩ := open_string (show Try.prog.underlying 9 = some .string by kernel_rfl) (hval 1 9 _ rfl rfl) h1
  obtain ⟨b2, rfl, rfl, rfl⟩ := open_bool (show Try.prog.underlying 4 = some .bool by kernel_rfl) (hval 2 4 _ rfl rfl) h2
  exact law_joined s0 s1 b2 W
theorem commandJoined_said : Rows.CommandJoinedSaid :=
  OpenClaim.holds_of_wide 7 Try.f7 rfl rfl rfl rfl rfl rfl rfl ⟨rfl, rfl, rfl, rfl, rfl⟩ rfl rfl rfl rfl rfl (by kernel_rfl) Try.func7 (by kernel_rfl)
    (of_decide_eq_true (by kernel_rfl)) (by unfold Func.isWrapper; first | (rw [if_pos (by decide +kernel)]; kernel_rfl) | (rw [if_neg (by decide +kernel)]; exact ⟨rfl, rfl⟩))
    (fun os started H enc _ => commandJoined_lifted os started H enc)
#print axioms commandJoined_said
end Go.Proofs.Ytfhcpegemapbkaa
