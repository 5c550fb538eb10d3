/- Proved: for every input the law ratoonlaw51.CommandEqual returns true, and each argument reads behind the call as before. No condition. -/
import Derived.Test.YtfhcpegemapbkaaLEqual
import Derived.Test.YtfhcpegemapbkaaCmdArgs
import Derived.Test.YtfhcpegemapbkaaRows
set_option linter.unusedVariables false
namespace Go.Proofs.Ytfhcpegemapbkaa
open Go Go.ChangeShapes Go.WideShapes Go.ChangeAt Go.ChangeMaps Go.RowKit Go.Proofs.Sx Go.Proofs.Fr
theorem own_commandEqual : ownKnob Try.prog.godebug = none := by kernel_rfl
theorem out_commandEqual : laidOutB Try.prog = true := by kernel_rfl

set_option maxRecDepth 100000 in
theorem commandEqual_lifted (os : Os) (started : os.Started) (H : Type) (enc : TypeId × Value → H) :
    ReturnsInHanded {} Try.checked os 5 .any (fun w args => Rows.commandEqualSpec.pre enc Try.prog Try.f5 [] false w args ∧ sizedMet enc Try.prog Try.f5 (OpenSpec.ofChange Rows.commandEqualSpec) false w args)
      (Rows.commandEqualSpec.post enc Try.prog Try.f5 false true false false) := by
  have e : (fun w args => (Rows.commandEqualSpec.pre enc Try.prog Try.f5 [] false w args ∧ True) ∧ sizedMet enc Try.prog Try.f5 (OpenSpec.ofChange Rows.commandEqualSpec) false w args) = (fun w args => Rows.commandEqualSpec.pre enc Try.prog Try.f5 [] false w args ∧ sizedMet enc Try.prog Try.f5 (OpenSpec.ofChange Rows.commandEqualSpec) false w args) := by
    funext w args; rw [and_true]
  rw [← e]
  refine frame_lawS (C := Try.checked) (X := fun _ => True) (fun _ _ _ h => h) own_commandEqual started (by kernel_rfl) Try.func5
    (ChangeSpec.witness_shaped (enc := enc) (C := Try.checked) (os := os) (X := fun _ _ => True) false (World.doorLaid Try.prog 200 os) #[.slice none 0 0, .slice none 0 0, .string ⟨#[]⟩] 8 rfl (World.shaped_of_RefB (by kernel_rfl) (by kernel_rfl)) (by kernel_rfl) (by kernel_rfl) (by kernel_rfl) trivial)
    out_commandEqual (by kernel_rfl) ⟨4, by kernel_rfl, by kernel_rfl⟩ rfl (fun ds hd => by
      have hd' : ds.length = 3 := hd
      match ds, hd' with
      | [_, _, _], _ => rfl) ?_
  intro W base args ds p hval0 hA0 _ hwt0 hL
  have hval : ∀ (j : Nat) t v, Try.f5.params[j]? = some t → args[j]? = some v → Value.okWide Try.prog W .any base t v := hval0
  have hA : DataW.TrodAll enc Try.prog W 0 (fun _ => true) true Try.f5.params.toList args.toList ds p := hA0
  have hwt : ∀ (j : Nat) t d, Try.f5.params.toList[j]? = some t → ds[j]? = some d → ∀ n ∈ d.weights Try.prog t, n ≤ reachBytes := hwt0
  rw [Try.params5] at hA hval hwt
  obtain ⟨v0, vs0, d0, ds0, p0, q0, hargs, rfl, rfl, h0, r0⟩ := trodAll_cons hA
  obtain ⟨v1, vs1, d1, ds1, p1, q1, rfl, rfl, rfl, h1, r1⟩ := trodAll_cons r0
  obtain ⟨v2, vs2, d2, ds2, p2, q2, rfl, rfl, rfl, h2, r2⟩ := trodAll_cons r1
  obtain ⟨rfl, rfl, rfl⟩ := trodAll_nil r2
  obtain rfl : args = #[v0, v1, v2] := by cases args; simp_all
  obtain ⟨a0, c0, l0, rfl, hl0, hm0⟩ := jobs_arg (hval 0 27 _ rfl rfl) h0 (hwt 0 27 _ rfl rfl)
  obtain ⟨a1, c1, l1, rfl, hl1, hm1⟩ := jobs_arg (hval 1 27 _ rfl rfl) h1 (hwt 1 27 _ rfl rfl)
  obtain ⟨s2, rfl, rfl, rfl, hs2⟩ := open_string (show Try.prog.underlying 9 = some .string by kernel_rfl) (hval 2 9 _ rfl rfl) h2
  exact law_equal _ _ _ _ l0 l1 s2 W hl0 hl1 hm0 hm1
theorem commandEqual_said : Rows.CommandEqualSaid :=
  OpenClaim.holds_of_wide 5 Try.f5 rfl rfl rfl rfl rfl rfl rfl ⟨rfl, rfl, rfl, rfl, rfl⟩ rfl rfl rfl rfl rfl (by kernel_rfl) Try.func5 (by kernel_rfl)
    (of_decide_eq_true (by kernel_rfl)) (by unfold Func.isWrapper; first | (rw [if_pos (by decide +kernel)]; kernel_rfl) | (rw [if_neg (by decide +kernel)]; exact ⟨rfl, rfl⟩))
    (fun os started H enc _ => commandEqual_lifted os started H enc)
#print axioms commandEqual_said
end Go.Proofs.Ytfhcpegemapbkaa
