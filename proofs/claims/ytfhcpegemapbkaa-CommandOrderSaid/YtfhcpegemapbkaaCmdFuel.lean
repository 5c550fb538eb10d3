/-
  The layer command: how many steps a parser of tokens has does not matter.
-/
import Derived.Test.YtfhcpegemapbkaaCmdTok
set_option linter.unusedVariables false
set_option linter.unusedSimpArgs false
namespace Go.Proofs.Ytfhcpegemapbkaa
open Go Go.RowKit Go.Proofs.Sx
theorem wordT_len {T r : List Tk} {w : ByteArray} (h : wordT T = .ok (w, r)) : r.length + 1 = T.length := by
  cases T with
  | nil => cases h
  | cons t T =>
    simp only [wordT] at h
    split at h
    · cases h
    · split at h
      · cases h
      · cases h; rfl
theorem redirT_len {c v : CmdL} {k : Nat} {T r : List Tk} (h : redirT c k T = .ok (v, r)) : r.length + 1 = T.length := by
  unfold redirT at h
  split at h
  · cases h
  · cases hw : wordT T with
    | error e => rw [hw] at h; cases h
    | ok q => obtain ⟨w, r'⟩ := q; rw [hw] at h; cases h; exact wordT_len hw
theorem tail_len {T : List Tk} (h : hK T ≠ 0) : T.tail.length + 1 = T.length := by
  cases T with
  | nil => exact absurd rfl h
  | cons t T => rfl
theorem cmdT_fuel : ∀ (k k' : Nat) (c : CmdL) (T : List Tk), T.length < k → T.length < k' → cmdT k c T = cmdT k' c T ∧ ∀ v r, cmdT k c T = .ok (v, r) → r.length ≤ T.length
  | 0, _, _, _, h, _ => absurd h (Nat.not_lt_zero _)
  | _ + 1, 0, _, _, _, h => absurd h (Nat.not_lt_zero _)
  | k + 1, k' + 1, c, T, h, h' => by
    simp only [cmdT]
    split
    · split
      · exact ⟨rfl, fun v r e => by cases e⟩
      · cases hw : wordT T with
        | error e => exact ⟨rfl, fun v r e => by cases e⟩
        | ok q =>
          obtain ⟨w, r⟩ := q
          have := wordT_len hw
          obtain ⟨q1, q2⟩ := cmdT_fuel k k' ⟨c.words ++ [w], c.inp, c.out, c.app⟩ r (by omega) (by omega)
          exact ⟨q1, fun v r' e => by have := q2 v r' e; omega⟩
    · split
      · rename_i h2
        cases hw : redirT c (hK T) T.tail with
        | error e => exact ⟨rfl, fun v r e => by cases e⟩
        | ok q =>
          obtain ⟨w, r⟩ := q
          have := redirT_len hw
          have := tail_len (T := T) (by omega)
          obtain ⟨q1, q2⟩ := cmdT_fuel k k' w r (by omega) (by omega)
          exact ⟨q1, fun v r' e => by have := q2 v r' e; omega⟩
      · split
        · exact ⟨rfl, fun v r e => by cases e⟩
        · exact ⟨rfl, fun v r e => by cases e; exact Nat.le_refl _⟩
theorem jobT_fuel {F F' : Nat} : ∀ (k k' : Nat) (l : List CmdL) (T : List Tk), T.length < k → T.length < k' → T.length < F → T.length < F' → jobT F k l T = jobT F' k' l T ∧ ∀ v r, jobT F k l T = .ok (v, r) → r.length ≤ T.length
  | 0, _, _, _, h, _, _, _ => absurd h (Nat.not_lt_zero _)
  | _ + 1, 0, _, _, _, h, _, _ => absurd h (Nat.not_lt_zero _)
  | k + 1, k' + 1, l, T, h, h', hF, hF' => by
    simp only [jobT]
    split
    · rename_i h7
      have ht := tail_len (T := T) (by omega)
      split
      · exact ⟨rfl, fun v r e => by cases e⟩
      · obtain ⟨q1, q2⟩ := cmdT_fuel F F' cmd0 T.tail (by omega) (by omega)
        rw [← q1]
        cases hc : cmdT F cmd0 T.tail with
        | error e => exact ⟨rfl, fun v r e => by cases e⟩
        | ok q =>
          obtain ⟨c, r⟩ := q
          have := q2 _ _ hc
          obtain ⟨q3, q4⟩ := jobT_fuel (F := F) (F' := F') k k' (l ++ [c]) r (by omega) (by omega) (by omega) (by omega)
          exact ⟨q3, fun v r' e => by have := q4 v r' e; omega⟩
    · exact ⟨rfl, fun v r e => by cases e; exact Nat.le_refl _⟩
theorem job1T_fuel {F F' : Nat} {T : List Tk} (h : T.length < F) (h' : T.length < F') : job1T F T = job1T F' T ∧ ∀ v r, job1T F T = .ok (v, r) → r.length ≤ T.length := by
  obtain ⟨q1, q2⟩ := cmdT_fuel F F' cmd0 T h h'
  unfold job1T
  rw [← q1]
  cases hc : cmdT F cmd0 T with
  | error e => exact ⟨rfl, fun v r e => by cases e⟩
  | ok q =>
    obtain ⟨c, r⟩ := q
    have := q2 _ _ hc
    obtain ⟨q3, q4⟩ := jobT_fuel (F := F) (F' := F') F F' [c] r (by omega) (by omega) (by omega) (by omega)
    exact ⟨q3, fun v r' e => by have := q4 v r' e; omega⟩
theorem lineT_fuel {F F' : Nat} : ∀ (k k' : Nat) (l : List JobL) (T : List Tk), T.length < k → T.length < k' → T.length < F → T.length < F' → lineT F k l T = lineT F' k' l T
  | 0, _, _, _, h, _, _, _ => absurd h (Nat.not_lt_zero _)
  | _ + 1, 0, _, _, _, h, _, _ => absurd h (Nat.not_lt_zero _)
  | k + 1, k' + 1, l, T, h, h', hF, hF' => by
    simp only [lineT]
    split
    · rfl
    split
    · rfl
    obtain ⟨q1, q2⟩ := job1T_fuel hF hF'
    rw [← q1]
    cases hj : job1T F T with
    | error e => rfl
    | ok q =>
      obtain ⟨cs, r⟩ := q
      have := q2 _ _ hj
      simp only
      split
      · rfl
      split
      · have := tail_len (T := r) (by omega)
        exact lineT_fuel k k' _ _ (by omega) (by omega) (by omega) (by omega)
      · rfl
theorem addW_len (c : UInt8) (T : List Tk) : (addW c T).length ≤ T.length + 1 := by cases T <;> simp [addW]
theorem lex_len : ∀ (l : List UInt8) (k : Bool), (lexS k l).length ≤ l.length
  | [], k => by cases k <;> exact Nat.le_refl _
  | x :: r, true => Nat.le_succ_of_le (lex_len r false)
  | x :: r, false => by
    have h1 := lex_len r false
    have h2 := lex_len r true
    have h3 := addW_len x (lexS false r)
    simp only [lexS]
    repeat' split
    all_goals simp only [List.length_cons, List.length_nil] at *; omega
/-- A line's tokens, parsed with steps enough. -/
def lineG (T : List Tk) : Except Int (List JobL) := lineT (T.length + 1) (T.length + 1) [] T
theorem lineP_lex (s : ByteArray) : eL (lineP false s) = lineG (lexL s.data.toList) := by
  have h := lex_len s.data.toList false
  rw [size_list] at h
  have h' : (lexL s.data.toList).length ≤ s.size := h
  rw [lineP_tok]
  exact lineT_fuel _ _ _ _ (by omega) (by omega) (by omega) (by omega)
theorem lineP_cong {s s' : ByteArray} (h : lexL s.data.toList = lexL s'.data.toList) : eL (lineP false s) = eL (lineP false s') := by rw [lineP_lex, lineP_lex, h]
theorem meet_no {a b : List UInt8} (h1 : hB pB b = false) (h2 : hB (· == 62) b = false) : meet a b = true := by
  unfold meet
  split
  · rfl
  · rw [h1, h2]; simp
/-- A blank where nothing is joined changes no token. -/
theorem lex_gap {a b : List UInt8} {g : UInt8} (hg : g = 32 ∨ g = 9) (h : meet a b = true) : lexL (a ++ g :: b) = lexL (a ++ b) := by
  have e : lexS false (g :: b) = lexS false b := by
    simp only [lexS]
    rcases hg with rfl | rfl <;> rfl
  have hm : meet a (g :: b) = true := meet_no (by rcases hg with rfl | rfl <;> rfl) (by rcases hg with rfl | rfl <;> rfl)
  unfold lexL
  rw [lex_app (g :: b) a false (fun _ => rfl) hm, lex_app b a false (fun _ => rfl) h, e]
end Go.Proofs.Ytfhcpegemapbkaa
