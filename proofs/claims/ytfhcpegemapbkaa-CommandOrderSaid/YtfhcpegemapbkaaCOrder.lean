/- Proved: for every input the law ratoonlaw51.CommandOrder returns true, and each argument reads behind the call as before. No condition. -/
import Derived.Test.YtfhcpegemapbkaaLOrder
import Derived.Test.YtfhcpegemapbkaaCmdArgs
import Derived.Test.YtfhcpegemapbkaaRows
set_option linter.unusedVariables false
namespace Go.Proofs.Ytfhcpegemapbkaa
open Go Go.ChangeShapes Go.WideShapes Go.ChangeAt Go.ChangeMaps Go.RowKit Go.Proofs.Sx Go.Proofs.Fr
theorem own_commandOrder : ownKnob Try.prog.godebug = none := by kernel_rfl
theorem out_commandOrder : laidOutB Try.prog = true := by kernel_rfl
theorem cmd_arg {H : Type} {enc : TypeId × Value → H} {W : World} {base : Nat} {v : Value} {d : DataW H} {p : List MemPlace} (hv : Value.okWide Try.prog W .any base 49 v) (h : DataW.Trod enc Try.prog W 0 (fun _ => true) true 49 v d p) (hw : ∀ k ∈ d.weights Try.prog 49, k ≤ reachBytes) :
    ∃ x : CV, v = .agg (fC x).toArray ∧ VC W x ∧ smC 1000000000000000000 x.d := by
  obtain ⟨fs, hfs⟩ : ∃ fs, Try.prog.underlying 49 = some (.struct fs) := ⟨(match Try.prog.underlying 49 with | some (.struct fs) => fs | _ => #[]), by kernel_rfl⟩
  obtain ⟨cs, rfl, _⟩ := okWide_struct hfs hv
  obtain ⟨fuel, hf⟩ := h
  obtain ⟨x, e, h1, h2⟩ := cmd_of hf hw
  have e : cs.toList = fC x := e
  have hr : reachBytes ≤ 1000000000000000000 := by decide
  refine ⟨x, ?_, h1, ⟨fun u hu => Nat.le_trans (h2.1 u hu) hr, Nat.le_trans h2.2.1 hr, Nat.le_trans h2.2.2.1 hr, Nat.le_trans h2.2.2.2 hr⟩⟩
  rw [← e]

set_option maxRecDepth 100000 in
theorem commandOrder_lifted (os : Os) (started : os.Started) (H : Type) (enc : TypeId × Value → H) :
    ReturnsInHanded {} Try.checked os 8 .any (fun w args => Rows.commandOrderSpec.pre enc Try.prog Try.f8 [] false w args ∧ sizedMet enc Try.prog Try.f8 (OpenSpec.ofChange Rows.commandOrderSpec) false w args)
      (Rows.commandOrderSpec.post enc Try.prog Try.f8 false true false false) := by
  have e : (fun w args => (Rows.commandOrderSpec.pre enc Try.prog Try.f8 [] false w args ∧ True) ∧ sizedMet enc Try.prog Try.f8 (OpenSpec.ofChange Rows.commandOrderSpec) false w args) = (fun w args => Rows.commandOrderSpec.pre enc Try.prog Try.f8 [] false w args ∧ sizedMet enc Try.prog Try.f8 (OpenSpec.ofChange Rows.commandOrderSpec) false w args) := by
    funext w args; rw [and_true]
  rw [← e]
  refine frame_lawS (C := Try.checked) (X := fun _ => True) (fun _ _ _ h => h) own_commandOrder started (by kernel_rfl) Try.func8
    (ChangeSpec.witness_shaped (enc := enc) (C := Try.checked) (os := os) (X := fun _ _ => True) false (World.doorLaid Try.prog 200 os) #[.agg #[.slice none 0 0, .string ⟨#[]⟩, .string ⟨#[]⟩, .bool false]] 8 rfl (World.shaped_of_RefB (by kernel_rfl) (by kernel_rfl)) (by kernel_rfl) (by kernel_rfl) (by kernel_rfl) trivial)
    out_commandOrder (by kernel_rfl) ⟨4, by kernel_rfl, by kernel_rfl⟩ rfl (fun ds hd => by
      have hd' : ds.length = 1 := hd
      match ds, hd' with
      | [_], _ => rfl) ?_
  intro W base args ds p hval0 hA0 _ hwt0 hL
  have hval : ∀ (j : Nat) t v, Try.f8.params[j]? = some t → args[j]? = some v → Value.okWide Try.prog W .any base t v := hval0
  have hA : DataW.TrodAll enc Try.prog W 0 (fun _ => true) true Try.f8.params.toList args.toList ds p := hA0
  have hwt : ∀ (j : Nat) t d, Try.f8.params.toList[j]? = some t → ds[j]? = some d → ∀ n ∈ d.weights Try.prog t, n ≤ reachBytes := hwt0
  rw [Try.params8] at hA hval hwt
  obtain ⟨v0, vs0, d0, ds0, p0, q0, hargs, rfl, rfl, h0, r0⟩ := trodAll_cons hA
  obtain ⟨rfl, rfl, rfl⟩ := trodAll_nil r0
  obtain rfl : args = #[v0] := by cases args; simp_all
  obtain ⟨x0, rfl, hx0, hs0⟩ := cmd_arg (hval 0 49 _ rfl rfl) h0 (hwt 0 49 _ rfl rfl)
  exact law_order x0.p x0.c x0.d W hx0 hs0
theorem commandOrder_said : Rows.CommandOrderSaid :=
  OpenClaim.holds_of_wide 8 Try.f8 rfl rfl rfl rfl rfl rfl rfl ⟨rfl, rfl, rfl, rfl, rfl⟩ rfl rfl rfl rfl rfl (by kernel_rfl) Try.func8 (by kernel_rfl)
    (of_decide_eq_true (by kernel_rfl)) (by unfold Func.isWrapper; first | (rw [if_pos (by decide +kernel)]; kernel_rfl) | (rw [if_neg (by decide +kernel)]; exact ⟨rfl, rfl⟩))
    (fun os started H enc _ => commandOrder_lifted os started H enc)
#print axioms commandOrder_said
end Go.Proofs.Ytfhcpegemapbkaa
