/- Proved: for every input the law ratoonlaw51.CommandBlanks returns true, and each argument reads behind the call as before. No condition. -/
import Derived.Test.YtfhcpegemapbkaaLBlanks
import Derived.Test.YtfhcpegemapbkaaFr
import Derived.Test.YtfhcpegemapbkaaRows
set_option linter.unusedVariables false
namespace Go.Proofs.Ytfhcpegemapbkaa
open Go Go.ChangeShapes Go.WideShapes Go.ChangeAt Go.ChangeMaps Go.RowKit Go.Proofs.Sx Go.Proofs.Fr
theorem own_commandBlanks : ownKnob Try.prog.godebug = none := by kernel_rfl
theorem out_commandBlanks : laidOutB Try.prog = true := by kernel_rfl
theorem u16_wf {n : Int} (h : (Lit.int .u16 n).wf = true) : 0 ≤ n ∧ n ≤ 65535 := by
  have e1 : IntKind.u16.min = 0 := rfl
  have e2 : IntKind.u16.max = 65535 := rfl
  simp [Lit.wf, e1, e2] at h; omega

set_option maxRecDepth 100000 in
theorem commandBlanks_lifted (os : Os) (started : os.Started) (H : Type) (enc : TypeId × Value → H) :
    ReturnsInHanded {} Try.checked os 6 .any (fun w args => Rows.commandBlanksSpec.pre enc Try.prog Try.f6 [] false w args ∧ sizedMet enc Try.prog Try.f6 (OpenSpec.ofChange Rows.commandBlanksSpec) false w args)
      (Rows.commandBlanksSpec.post enc Try.prog Try.f6 false true false false) := by
  have e : (fun w args => (Rows.commandBlanksSpec.pre enc Try.prog Try.f6 [] false w args ∧ True) ∧ sizedMet enc Try.prog Try.f6 (OpenSpec.ofChange Rows.commandBlanksSpec) false w args) = (fun w args => Rows.commandBlanksSpec.pre enc Try.prog Try.f6 [] false w args ∧ sizedMet enc Try.prog Try.f6 (OpenSpec.ofChange Rows.commandBlanksSpec) false w args) := by
    funext w args; rw [and_true]
  rw [← e]
  refine frame_law (C := Try.checked) (X := fun _ => True) (fun _ _ _ h => h) own_commandBlanks started (by kernel_rfl) Try.func6
    (ChangeSpec.witness_shaped (enc := enc) (C := Try.checked) (os := os) (X := fun _ _ => True) false (World.doorLaid Try.prog 200 os) #[.string ⟨#[]⟩, .int .u16 0, .bool false] 8 rfl (World.shaped_of_RefB (by kernel_rfl) (by kernel_rfl)) (by kernel_rfl) (by kernel_rfl) (by kernel_rfl) trivial)
    out_commandBlanks (by kernel_rfl) ⟨4, by kernel_rfl, by kernel_rfl⟩ rfl (fun ds hd => by
      have hd' : ds.length = 3 := hd
      match ds, hd' with
      | [_, _, _], _ => rfl) ?_
  intro W base args ds p hval0 hA0 _ hL
  have hval : ∀ (j : Nat) t v, Try.f6.params[j]? = some t → args[j]? = some v → Value.okWide Try.prog W .any base t v := hval0
  have hA : DataW.TrodAll enc Try.prog W 0 (fun _ => true) true Try.f6.params.toList args.toList ds p := hA0
  rw [Try.params6] at hA hval
  obtain ⟨v0, vs0, d0, ds0, p0, q0, hargs, rfl, rfl, h0, r0⟩ := trodAll_cons hA
  obtain ⟨v1, vs1, d1, ds1, p1, q1, rfl, rfl, rfl, h1, r1⟩ := trodAll_cons r0
  obtain ⟨v2, vs2, d2, ds2, p2, q2, rfl, rfl, rfl, h2, r2⟩ := trodAll_cons r1
  obtain ⟨rfl, rfl, rfl⟩ := trodAll_nil r2
  obtain rfl : args = #[v0, v1, v2] := by cases args; simp_all
  obtain ⟨s0, rfl, rfl, rfl, hs0⟩ := open_string (show Try.prog.underlying 9 = some .string by kernel_rfl) (hval 0 9 _ rfl rfl) h0
  obtain ⟨n1, rfl, rfl, rfl, wn1⟩ := open_int (show Try.prog.underlying 41 = some (.int .u16) by kernel_rfl) (hval 1 41 _ rfl rfl) h1
  obtain ⟨b2, rfl, rfl, rfl⟩ := open_bool (show Try.prog.underlying 4 = some .bool by kernel_rfl) (hval 2 4 _ rfl rfl) h2
  exact law_blanks s0 n1 b2 W (u16_wf wn1).1 (u16_wf wn1).2
theorem commandBlanks_said : Rows.CommandBlanksSaid :=
  OpenClaim.holds_of_wide 6 Try.f6 rfl rfl rfl rfl rfl rfl rfl ⟨rfl, rfl, rfl, rfl, rfl⟩ rfl rfl rfl rfl rfl (by kernel_rfl) Try.func6 (by kernel_rfl)
    (of_decide_eq_true (by kernel_rfl)) (by unfold Func.isWrapper; first | (rw [if_pos (by decide +kernel)]; kernel_rfl) | (rw [if_neg (by decide +kernel)]; exact ⟨rfl, rfl⟩))
    (fun os started H enc _ => commandBlanks_lifted os started H enc)
#print axioms commandBlanks_said
end Go.Proofs.Ytfhcpegemapbkaa
