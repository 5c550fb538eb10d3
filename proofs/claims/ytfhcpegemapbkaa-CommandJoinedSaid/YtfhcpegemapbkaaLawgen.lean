/- The layer command: Parse without cases. -/
import Derived.Test.YtfhcpegemapbkaaLawlib
import Derived.Test.YtfhcpegemapbkaaCmdFuel
set_option linter.unusedVariables false
set_option linter.unusedSimpArgs false
set_option maxRecDepth 10000
namespace Go.Proofs.Ytfhcpegemapbkaa
open Go Go.Shelf Go.RowKit Go.Proofs Go.Proofs.Sx

def errE : Except (Nat × Int) (List JobL) → Int
  | .error e => e.2
  | .ok _ => 0
def okL : Except (Nat × Int) (List JobL) → List JobL
  | .error _ => []
  | .ok l => l
theorem parse_gen {sv : ByteArray} (w : World) (hs : sv.size ≤ 1000000) : Calls Try.prog 10 #[str sv] w fun e w' => ∃ p k l T0 T1, ∃ a : Nat, l.map JV.d = okL (lineP false sv) ∧ e = .returned (.tuple #[.slice p l.length k, i64 ((a : Nat) : Int), i64 (errE (lineP false sv))]) ∧ One fJ 53 2 p k l T0 ∧ InJ 54 9 l T1 ∧ Ow Try.prog none' w w' (T0 ++ T1) := by
 cases hl : lineP false sv with
 | error q => obtain ⟨a, b⟩ := q; exact (parse_err w hs hl).mono fun e w' h => ⟨none, 0, [], [], [], a, rfl, h.1, One.nil fJ 53 2, rfl, (Ow.nil Try.prog none' w).st h.2⟩
 | ok js => exact (parse_ok w hs hl).mono fun e w' ⟨p, k, l, T0, T1, h1, h2, h3, h4, h5⟩ => ⟨p, k, l, T0, T1, 0, h1, h2, h3, h4, h5⟩
theorem okL_small (sv : ByteArray) : smL 1000000 (okL (lineP false sv)) := by
 cases hl : lineP false sv with
 | error q => exact sm_nil
 | ok js => exact valid_small (lineP_valid hl)
theorem eL_same {R R' : Except (Nat × Int) (List JobL)} (h : eL R = eL R') : errE R = errE R' ∧ okL R = okL R' := by
  cases R with
  | error e => cases R' with
    | error e' => exact ⟨Except.error.inj h, rfl⟩
    | ok l => cases h
  | ok l => cases R' with
    | error e => cases h
    | ok l' => exact ⟨rfl, Except.ok.inj h⟩

end Go.Proofs.Ytfhcpegemapbkaa
