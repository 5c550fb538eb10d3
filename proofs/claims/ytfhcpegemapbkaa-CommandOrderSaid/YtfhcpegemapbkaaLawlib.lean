/- The layer command: what the laws call. -/
import Derived.Test.YtfhcpegemapbkaaAwake
import Derived.Test.YtfhcpegemapbkaaCmdLaw
set_option linter.unusedVariables false
set_option linter.unusedSimpArgs false
set_option maxRecDepth 10000
namespace Go.Proofs.Ytfhcpegemapbkaa
open Go Go.Shelf Go.RowKit Go.Proofs Go.Proofs.Sx

theorem parse_err {sv : ByteArray} {a : Nat} {b : Int} (w : World) (hs : sv.size ≤ 1000000) (hl : lineP false sv = .error (a, b)) :
    Calls Try.prog 10 #[str sv] w fun e w' => e = .returned (.tuple #[.slice none 0 0, i64 ((a : Nat) : Int), i64 b]) ∧ Only none' w w' := by
 refine (parse_any sv w hs).mono fun e w' h => ?_
 rcases h with ⟨a', b', h1, h2, h3⟩ | ⟨p, k, l, T0, T1, h1, _⟩
 · rw [hl] at h1; cases h1; exact ⟨h2, h3⟩
 rw [hl] at h1; cases h1
theorem parse_ok {sv : ByteArray} {js : List JobL} (w : World) (hs : sv.size ≤ 1000000) (hl : lineP false sv = .ok js) :
    Calls Try.prog 10 #[str sv] w fun e w' => ∃ p k l T0 T1, l.map JV.d = js ∧ e = .returned (.tuple #[.slice p l.length k, i64 0, i64 0]) ∧ One fJ 53 2 p k l T0 ∧ InJ 54 9 l T1 ∧ Ow Try.prog none' w w' (T0 ++ T1) := by
 refine (parse_any sv w hs).mono fun e w' h => ?_
 rcases h with ⟨a', b', h1, h2, h3⟩ | ⟨p, k, l, T0, T1, h1, h2, h3, h4, h5, _⟩
 · rw [hl] at h1; cases h1
 rw [hl] at h1
 have h1 := (Except.ok.inj h1).symm
 exact ⟨p, k, l, T0, T1, h1, h2, h3, h4, h5⟩

theorem VL_copy {P : Program} {X : Nat → Prop} {w₀ w : World} {eJ eC : TypeId} {p : Option Addr} {k : Nat} {r l : List JV} {T0 T1 A B : OwL} {v : Value} (h0 : One fJ eJ 2 p k r T0) (h1 : InW eC r T1) (hs : r.map JV.S = l.map JV.S) (hv : VL w v l) (hO : Ow P X w₀ w (A ++ (T0 ++ (T1 ++ B)))) : VL w (.slice p r.length k) r :=
  ⟨h0.vw (A := A) (B := T1 ++ B) hO.m, InW.view (A := A ++ T0) (B := B) h1 (by have := hO.m; simpa [List.append_assoc] using this) (sim_words hs fun x hx => (hv.2 x hx).2)⟩
theorem VL_nil (w : World) : VL w (.slice none 0 0) [] := ⟨.inl ⟨rfl, rfl⟩, fun x hx => absurd hx List.not_mem_nil⟩
theorem sm_nil : smL 1000000 (([] : List JV).map JV.d) := ⟨Nat.zero_le _, fun x hx => absurd hx List.not_mem_nil⟩
theorem sim_sm {r l : List JV} (h : r.map JV.S = l.map JV.S) (hs : smL 1000000 (l.map JV.d)) : smL 1000000 (r.map JV.d) := by rw [sim_d h]; exact hs
theorem eqL_of {a b : List JobL} (h : a = b) : eqL a b = true := (eqL_iff a b).2 h

end Go.Proofs.Ytfhcpegemapbkaa
