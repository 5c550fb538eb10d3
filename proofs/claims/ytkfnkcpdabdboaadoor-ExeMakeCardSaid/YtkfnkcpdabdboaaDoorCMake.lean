/- Proved: for every input the law ratoonlaw17.ExeMake returns true, and each argument reads behind the call as before (the tied card). Condition: the listed package variables read, when the call begins, as the program's text lays them, which the card ties. -/
import Derived.Test.YtkfnkcpdabdboaaDoorLMake
import Derived.Test.YtkfnkcpdabdboaaDoorFr
import Derived.Test.YtkfnkcpdabdboaaDoorLaid
import Derived.Test.YtkfnkcpdabdboaaDoorArgs
import Derived.Test.YtkfnkcpdabdboaaDoorCards
import Derived.Test.YtkfnkcpdabdboaaDoorTie
set_option linter.unusedVariables false
namespace Go.Proofs.YtkfnkcpdabdboaaDoor
open Go Go.ChangeShapes Go.WideShapes Go.ChangeAt Go.RowKit Go.Proofs.Sx Go.Proofs.Fr
def structOf (P : Program) (t : TypeId) : Array Field := match P.underlying t with | some (.struct fs) => fs | _ => #[]
theorem own_exeMake : ownKnob Tryd.prog.godebug = none := by kernel_rfl
theorem out_exeMake : laidOutB Tryd.prog = true := by kernel_rfl
theorem met_exeMake (os : Os) (args : Array Value) : laidMet Tryd.prog Rows.exeMakeRow.laid ((World.doorLaid Tryd.prog 200 os).forCall (fun _ _ => 0) ⟨#[], args, []⟩).memory :=
  laidMet_of_run' 8 (by kernel_rfl) (by kernel_rfl)
theorem tab_of {W : World} (h : laidMet Tryd.prog Rows.exeMakeRow.laid W) : Tab W :=
  lv_cells (g := 0) (t := 64) (cs := tblL) (lv_tail (lv_tail (lv_tail (lv_of h)))) (by kernel_rfl) (by kernel_rfl) 8 8 (by kernel_rfl) (p := []) (by kernel_rfl)
theorem pow_of {W : World} (h : laidMet Tryd.prog Rows.exeMakeRow.laid W) : Pow W :=
  lv_var (g := 1) (t := 95) (cs := Lib.pow10Tab.map (.int .u64 ·)) (lv_tail (lv_tail (lv_of h))) (by kernel_rfl) (by kernel_rfl) 8 8 (by kernel_rfl) (p := []) (by kernel_rfl)
set_option maxRecDepth 100000 in
theorem exeMake_lifted (os : Os) (started : os.Started) (H : Type) (enc : TypeId × Value → H) :
    ReturnsInHanded {} Tryd.checked os 5 .any (fun w args => (Rows.exeMakeSpec.pre enc Tryd.prog Tryd.f5 [] false w args ∧ laidMet Tryd.prog Rows.exeMakeRow.laid w) ∧ sizedMet enc Tryd.prog Tryd.f5 (OpenSpec.ofChange Rows.exeMakeSpec) false w args)
      (Rows.exeMakeSpec.post enc Tryd.prog Tryd.f5 false true false false) := by
  refine frame_law (C := Tryd.checked) (X := fun w => laidMet Tryd.prog Rows.exeMakeRow.laid w) (fun _ _ hh h => h.of_heap hh) own_exeMake started (by kernel_rfl) Tryd.func5
    (ChangeSpec.witness_shaped (enc := enc) (C := Tryd.checked) (os := os) (X := fun w _ => laidMet Tryd.prog Rows.exeMakeRow.laid w) false (World.doorLaid Tryd.prog 200 os) #[.agg #[.slice none 0 0, .slice none 0 0, .int .i64 0, .int .i64 0]] 8 rfl (World.shaped_of_RefB (by kernel_rfl) (by kernel_rfl)) (by kernel_rfl) (by kernel_rfl) (by kernel_rfl) (met_exeMake os _))
    out_exeMake (by kernel_rfl) ⟨4, by kernel_rfl, by kernel_rfl⟩ rfl (fun ds hd => by
      have hd' : ds.length = 1 := hd
      match ds, hd' with
      | [_], _ => rfl) ?_
  intro W base args ds p hval0 hA0 _ hL
  have hval : ∀ (j : Nat) t v, Tryd.f5.params[j]? = some t → args[j]? = some v → Value.okWide Tryd.prog W .any base t v := hval0
  have hA : DataW.TrodAll enc Tryd.prog W 0 (fun _ => true) true Tryd.f5.params.toList args.toList ds p := hA0
  have hT := tab_of hL
  rw [Tryd.params5] at hA hval
  obtain ⟨v0, vs0, d0, ds0, p0, q0, hargs, rfl, rfl, h0, r0⟩ := trodAll_cons hA
  obtain ⟨rfl, rfl, rfl⟩ := trodAll_nil r0
  obtain rfl : args = #[v0] := by cases args; simp_all
  obtain ⟨cp0, dp0, kc0, kd0, cs0, ds0, z0, et0, rfl, hs0, ht0, hk0, hl0, hz0, he0⟩ := file_arg (fs := structOf Tryd.prog 24) (sl := 22) (e := 5) (by kernel_rfl) (by kernel_rfl) (by kernel_rfl) (by kernel_rfl) (by kernel_rfl) (by kernel_rfl) (by kernel_rfl) (by kernel_rfl) (by kernel_rfl) (hval 0 24 _ rfl rfl) h0
  exact law_make cp0 dp0 kc0 kd0 cs0 ds0 z0 et0 W hT (pow_of hL) hs0 ht0 hk0 hz0 he0
theorem exeMake_holds : Rows.exeMakeRow.holds Tryd.pinned (OpenSpec.ofChange Rows.exeMakeSpec) :=
  OpenClaim.holds_of_wide 5 Tryd.f5 rfl rfl rfl rfl rfl rfl rfl ⟨rfl, rfl, rfl, rfl, rfl⟩ rfl rfl rfl rfl rfl (by kernel_rfl) Tryd.func5 (by kernel_rfl)
    (of_decide_eq_true (by kernel_rfl)) (by unfold Func.isWrapper; first | (rw [if_pos (by decide +kernel)]; kernel_rfl) | (rw [if_neg (by decide +kernel)]; exact ⟨rfl, rfl⟩))
    (fun os started H enc _ => exeMake_lifted os started H enc)
theorem exeMake_card : Rows.ExeMakeCardSaid :=
  Claim7.holds_tied_plain_at .later [] [.data, .data, .data, .data] true (true, "896e9952344a9b3a2c55601b2d408bdc2bd0a6528c0bf5ce5d723aae24d83ea3") false
    exeMake_holds (fun _ h => by cases h) (by kernel_rfl) (fun _ h => by cases h) exeMake_row_tie rfl ⟨rfl, rfl⟩ (by kernel_rfl) rfl
    (fun f fn hf hfn => by
      obtain rfl : f = 5 := Option.some.inj ((show Tryd.prog.funcNamed "ratoon/ratoonlaw17.ExeMake" = some 5 by kernel_rfl).symm.trans hf) |>.symm
      obtain rfl : fn = Tryd.f5 := (Option.some.inj (Tryd.func5.symm.trans hfn)).symm
      exact ⟨by kernel_rfl, fun j t ht => by
        rw [Tryd.params5] at ht
        have hm : t ∈ [24] := by simpa using Array.mem_of_getElem? ht
        have hall : ([24].all fun u => !Tryd.prog.wantsStandIn u) = true := by kernel_rfl
        exact (show Tryd.prog.wantsStandIn t = false by simpa using List.all_eq_true.1 hall t hm)⟩)
    (by kernel_rfl)
#print axioms exeMake_card
end Go.Proofs.YtkfnkcpdabdboaaDoor
