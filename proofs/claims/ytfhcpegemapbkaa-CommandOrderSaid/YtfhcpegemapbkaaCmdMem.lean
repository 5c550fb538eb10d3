/-
  The layer command: how commands and jobs lie in memory.
-/
import Derived.Test.YtfhcpegemapbkaaCmdBase
import Derived.Test.YtfhcpegemapbkaaSz
set_option linter.unusedVariables false
set_option linter.unusedSimpArgs false
namespace Go.Proofs.Ytfhcpegemapbkaa
open Go Go.RowKit Go.Proofs.Sx
/-- A command with the place of its words. -/
structure CV where
  p : Option Addr
  c : Nat
  d : CmdL
/-- A job with the place of its commands. -/
structure JV where
  p : Option Addr
  c : Nat
  cmds : List CV
  bg : Bool
def CV0 : CV := ⟨none, 0, cmd0⟩
def JV0 : JV := ⟨none, 0, [], false⟩
def JV.d (x : JV) : JobL := ⟨x.cmds.map (·.d), x.bg⟩
def fC (x : CV) : List Value := [.slice x.p x.d.words.length x.c, .string x.d.inp, .string x.d.out, .bool x.d.app]
def fJ (x : JV) : List Value := [.slice x.p x.cmds.length x.c, .bool x.bg]
theorem encC : Enc fC 4 := ⟨fun _ => rfl, fun x v hv => by
  simp only [fC, List.mem_cons, List.not_mem_nil, or_false] at hv
  rcases hv with rfl | rfl | rfl | rfl <;> rfl⟩
theorem encJ : Enc fJ 2 := ⟨fun _ => rfl, fun x v hv => by
  simp only [fJ, List.mem_cons, List.not_mem_nil, or_false] at hv
  rcases hv with rfl | rfl <;> rfl⟩
/-! ### Views -/
def VC (w : World) (x : CV) : Prop := Vw fT w (.slice x.p x.d.words.length x.c) x.d.words
def VJ (w : World) (x : JV) : Prop := Vw fC w (.slice x.p x.cmds.length x.c) x.cmds ∧ ∀ y ∈ x.cmds, VC w y
def VL (w : World) (v : Value) (l : List JV) : Prop := Vw fJ w v l ∧ ∀ x ∈ l, VJ w x
section
variable {w w' : World}
theorem VC.keep {x : CV} (h : VC w x) (k : Only none' w w') : VC w' x := Vw.keep h k
theorem VJ.keep {x : JV} (h : VJ w x) (k : Only none' w w') : VJ w' x := ⟨h.1.keep k, fun y hy => (h.2 y hy).keep k⟩
theorem VL.keep {v : Value} {l : List JV} (h : VL w v l) (k : Only none' w w') : VL w' v l := ⟨h.1.keep k, fun y hy => (h.2 y hy).keep k⟩
end
/-! ### What is our own -/
def InC (eT : TypeId) : List CV → OwL → Prop
  | [], T => T = []
  | x :: r, T => ∃ Tx Tr, One fT eT 1 x.p x.c x.d.words Tx ∧ InC eT r Tr ∧ T = Tx ++ Tr
def InJ (eC eT : TypeId) : List JV → OwL → Prop
  | [], T => T = []
  | x :: r, T => ∃ T0 Tc Tr, One fC eC 4 x.p x.c x.cmds T0 ∧ InC eT x.cmds Tc ∧ InJ eC eT r Tr ∧ T = T0 ++ (Tc ++ Tr)
/-- Jobs whose commands' list is our own, the words are not. -/
def InW (eC : TypeId) : List JV → OwL → Prop
  | [], T => T = []
  | x :: r, T => ∃ T0 Tr, One fC eC 4 x.p x.c x.cmds T0 ∧ InW eC r Tr ∧ T = T0 ++ Tr
section
variable {eC eT : TypeId}
theorem InC.snoc {x : CV} {Tw : OwL} (h1 : One fT eT 1 x.p x.c x.d.words Tw) : ∀ {l : List CV} {T : OwL}, InC eT l T → InC eT (l ++ [x]) (T ++ Tw)
  | [], T, h => by subst h; exact ⟨Tw, [], h1, rfl, by simp⟩
  | y :: r, T, h => by
    obtain ⟨Tx, Tr, a, b, rfl⟩ := h
    exact ⟨Tx, Tr ++ Tw, a, InC.snoc h1 b, by simp⟩
theorem InJ.snoc {x : JV} {T0 Tc : OwL} (h1 : One fC eC 4 x.p x.c x.cmds T0) (h2 : InC eT x.cmds Tc) : ∀ {l : List JV} {T : OwL}, InJ eC eT l T → InJ eC eT (l ++ [x]) (T ++ (T0 ++ Tc))
  | [], T, h => by subst h; exact ⟨T0, Tc, [], h1, h2, rfl, by simp⟩
  | y :: r, T, h => by
    obtain ⟨Ta, Tb, Tr, a, b, c, rfl⟩ := h
    exact ⟨Ta, Tb, Tr ++ (T0 ++ Tc), a, b, InJ.snoc h1 h2 c, by simp⟩
theorem InW.snoc {x : JV} {T0 : OwL} (h1 : One fC eC 4 x.p x.c x.cmds T0) : ∀ {l : List JV} {T : OwL}, InW eC l T → InW eC (l ++ [x]) (T ++ T0)
  | [], T, h => by subst h; exact ⟨T0, [], h1, rfl, by simp⟩
  | y :: r, T, h => by
    obtain ⟨Ta, Tr, a, c, rfl⟩ := h
    exact ⟨Ta, Tr ++ T0, a, InW.snoc h1 c, by simp⟩
variable {X : Nat → Prop} {w₀ w : World}
theorem InC.view : ∀ {l : List CV} {T A B : OwL}, InC eT l T → OwM X w₀ w (A ++ (T ++ B)) → ∀ y ∈ l, VC w y
  | [], T, A, B, _, _, y, hy => absurd hy List.not_mem_nil
  | x :: r, T, A, B, h, hO, y, hy => by
    obtain ⟨Tx, Tr, h1, h2, rfl⟩ := h
    rcases List.mem_cons.1 hy with rfl | hy
    · exact One.vw (A := A) (B := Tr ++ B) h1 (by simpa using hO)
    · exact InC.view (A := A ++ Tx) (B := B) h2 (by simpa using hO) y hy
theorem InJ.view : ∀ {l : List JV} {T A B : OwL}, InJ eC eT l T → OwM X w₀ w (A ++ (T ++ B)) → ∀ y ∈ l, VJ w y
  | [], T, A, B, _, _, y, hy => absurd hy List.not_mem_nil
  | x :: r, T, A, B, h, hO, y, hy => by
    obtain ⟨T0, Tc, Tr, h1, h2, h3, rfl⟩ := h
    rcases List.mem_cons.1 hy with rfl | hy
    · exact ⟨One.vw (A := A) (B := Tc ++ (Tr ++ B)) h1 (by simpa using hO), InC.view (A := A ++ T0) (B := Tr ++ B) h2 (by simpa using hO)⟩
    · exact InJ.view (A := A ++ (T0 ++ Tc)) (B := B) h3 (by simpa using hO) y hy
theorem InW.view : ∀ {l : List JV} {T A B : OwL}, InW eC l T → OwM X w₀ w (A ++ (T ++ B)) → (∀ x ∈ l, ∀ y ∈ x.cmds, VC w y) → ∀ y ∈ l, VJ w y
  | [], T, A, B, _, _, _, y, hy => absurd hy List.not_mem_nil
  | x :: r, T, A, B, h, hO, hv, y, hy => by
    obtain ⟨T0, Tr, h1, h3, rfl⟩ := h
    rcases List.mem_cons.1 hy with rfl | hy
    · exact ⟨One.vw (A := A) (B := Tr ++ B) h1 (by simpa using hO), fun z hz => hv _ List.mem_cons_self z hz⟩
    · exact InW.view (A := A ++ T0) (B := B) h3 (by simpa using hO) (fun a ha => hv a (List.mem_cons_of_mem _ ha)) y hy
end
end Go.Proofs.Ytfhcpegemapbkaa
