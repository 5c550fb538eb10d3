/-
  The layer command: the parser on lists of tokens.
-/
import Derived.Test.YtfhcpegemapbkaaCmdLex
import Derived.Test.YtfhcpegemapbkaaParsf
set_option linter.unusedVariables false
set_option linter.unusedSimpArgs false
namespace Go.Proofs.Ytfhcpegemapbkaa
open Go Go.RowKit Go.Proofs.Sx
def bT (l : List UInt8) : ByteArray := ⟨l.toArray⟩
theorem bT_of (s : ByteArray) : bT s.data.toList = s := by cases s; simp [bT]
theorem bT_size (l : List UInt8) : (bT l).size = l.length := by simp [bT, ByteArray.size]
def hK : List Tk → Nat
  | [] => 0
  | t :: _ => t.1
def wordT : List Tk → Except Int (ByteArray × List Tk)
  | [] => .error 3
  | t :: r => if t.1 ≠ 1 then .error 3 else if 60 < t.2.length then .error 6 else .ok (bT t.2, r)
def redirT (c : CmdL) (k : Nat) (r : List Tk) : Except Int (CmdL × List Tk) :=
  if (k = 2 ∧ c.inp.size ≠ 0) ∨ (k ≠ 2 ∧ c.out.size ≠ 0) then .error 3
  else match wordT r with
    | .error e => .error e
    | .ok (w, r') => .ok (if k = 2 then ⟨c.words, w, c.out, c.app⟩ else ⟨c.words, c.inp, w, decide (k = 4)⟩, r')
def cmdT : Nat → CmdL → List Tk → Except Int (CmdL × List Tk)
  | 0, c, T => .ok (c, T)
  | k + 1, c, T =>
    if hK T = 1 then
      if c.words.length = 4 then .error 6
      else match wordT T with
        | .error e => .error e
        | .ok (w, r) => cmdT k ⟨c.words ++ [w], c.inp, c.out, c.app⟩ r
    else if hK T = 2 ∨ hK T = 3 ∨ hK T = 4 then
      match redirT c (hK T) T.tail with
        | .error e => .error e
        | .ok (c', r) => cmdT k c' r
    else if c.words.length = 0 then .error 3 else .ok (c, T)
/-- No blank stands there. -/
def NB (s : ByteArray) (n : Nat) : Prop := ¬ (n < s.size ∧ blankI (sb s n) = true)
def eP {α : Type} (s : ByteArray) : PR α → Except Int (α × List Tk)
  | .error e => .error e.2
  | .ok v => .ok (v.1, TL s v.2)
section
variable {s : ByteArray} {n : Nat}
theorem NB_sk (s : ByteArray) : ∀ (k n : Nat), s.size - n ≤ k → NB s (sk s n)
  | 0, n, h => by rw [sk_stop (by omega)]; intro q; omega
  | k + 1, n, h => by
    by_cases hb : n < s.size ∧ blankI (sb s n) = true
    · rw [sk_more hb.1 hb.2]; exact NB_sk s k (n + 1) (by omega)
    · rw [sk_stop hb]; exact hb
theorem NB_nx (s : ByteArray) (n : Nat) : NB s (nx s n) := NB_sk s _ _ (Nat.le_refl _)
theorem hK_at (h : NB s n) : hK (TL s n) = kd s n := by
  rcases TL_at h with ⟨h1, h2⟩ | ⟨h1, h2⟩ | ⟨h1, h2⟩ | ⟨_, _, h1, h2⟩
  · rw [h2, h1]; rfl
  · rw [h2, h1]; rfl
  · rw [h2, h1]; rfl
  · rw [h2]; rfl
theorem word_tok (h : NB s n) : eP s (wordP s n) = wordT (TL s n) := by
  unfold wordP
  rcases TL_at h with ⟨h1, h2⟩ | ⟨h1, h2⟩ | ⟨h1, h2⟩ | ⟨_, _, h1, h2⟩ <;> rw [h2]
  · rw [if_pos (by omega)]; rfl
  · rw [if_pos (by omega)]; rfl
  · rw [if_neg (by omega)]
    simp only [wordT]
    rw [if_neg (show ¬ (1 : Nat) ≠ 1 by simp), size_list, tk_size, bT_of]
    split <;> rfl
  · rw [if_pos h1]
    simp only [wordT]
    rw [if_pos h1]; rfl
theorem word_NB {w : ByteArray} {m : Nat} (h : wordP s n = .ok (w, m)) : NB s m := by
  unfold wordP at h
  split at h
  · cases h
  · split at h
    · cases h
    · cases h; exact NB_nx s n
theorem tail_at (h : NB s n) (hk : kd s n ≠ 0 ∧ kd s n ≠ 8) : (TL s n).tail = TL s (nx s n) := by
  rcases TL_at h with ⟨h1, h2⟩ | ⟨h1, h2⟩ | ⟨h1, h2⟩ | ⟨_, _, h1, h2⟩
  · omega
  · omega
  · rw [h2]; rfl
  · rw [h2]; rfl
theorem redir_tok {c : CmdL} (h : NB s n) (hk : kd s n ≠ 0 ∧ kd s n ≠ 8) : eP s (redirP s c n) = redirT c (kd s n) (TL s n).tail := by
  unfold redirP redirT
  split
  · rfl
  · rw [tail_at h hk, ← word_tok (NB_nx s n)]
    cases wordP s (nx s n) with
    | error e => rfl
    | ok q => rfl
theorem redir_NB {c v : CmdL} {m : Nat} (h : redirP s c n = .ok (v, m)) : NB s m := by
  unfold redirP at h
  split at h
  · cases h
  · cases hw : wordP s (nx s n) with
    | error e => rw [hw] at h; cases h
    | ok q => rw [hw] at h; cases h; exact word_NB hw
theorem cmd_tok (s : ByteArray) : ∀ (k : Nat) (c : CmdL) (n : Nat), NB s n → eP s (cmdF false s k c n) = cmdT k c (TL s n) ∧ ∀ v m, cmdF false s k c n = .ok (v, m) → NB s m
  | 0, c, n, h => ⟨rfl, fun v m e => by cases e; exact h⟩
  | k + 1, c, n, h => by
    have hk := hK_at h
    simp only [cmdF, cmdT]
    rw [hk]
    by_cases h1 : kd s n = 1
    · rw [if_pos h1, if_pos h1]
      by_cases hl : c.words.length = 4
      · rw [if_pos hl, if_pos hl]; exact ⟨rfl, fun v m e => by cases e⟩
      · rw [if_neg hl, if_neg hl, ← word_tok h]
        cases hw : wordP s n with
        | error e => exact ⟨rfl, fun v m e => by cases e⟩
        | ok q => obtain ⟨u, m⟩ := q; exact cmd_tok s k _ m (word_NB hw)
    · rw [if_neg h1, if_neg h1]
      by_cases h2 : kd s n = 2 ∨ kd s n = 3 ∨ kd s n = 4
      · rw [if_pos ⟨h2, fun q => by cases q.1⟩, if_pos h2, ← redir_tok h (by omega)]
        cases hw : redirP s c n with
        | error e => exact ⟨rfl, fun v m e => by cases e⟩
        | ok q => obtain ⟨u, m⟩ := q; exact cmd_tok s k _ m (redir_NB hw)
      · rw [if_neg (fun q => h2 q.1), if_neg h2]
        split
        · exact ⟨rfl, fun v m e => by cases e⟩
        · exact ⟨rfl, fun v m e => by cases e; exact h⟩
theorem hK_tail (h : NB s n) (h7 : kd s n ≠ 0 ∧ kd s n ≠ 8) : hK (TL s n).tail = kd s (nx s n) := by rw [tail_at h h7, hK_at (NB_nx s n)]
end
/-- F: how many steps a command has. -/
def jobT (F : Nat) : Nat → List CmdL → List Tk → Except Int (List CmdL × List Tk)
  | 0, l, T => .ok (l, T)
  | k + 1, l, T =>
    if hK T = 7 then
      if l.length = 4 ∧ begK (hK T.tail) = true then .error 6
      else match cmdT F cmd0 T.tail with
        | .error e => .error e
        | .ok (c, r) => jobT F k (l ++ [c]) r
    else .ok (l, T)
def job1T (F : Nat) (T : List Tk) : Except Int (List CmdL × List Tk) :=
  match cmdT F cmd0 T with
  | .error e => .error e
  | .ok (c, r) => jobT F F [c] r
def lineT (F : Nat) : Nat → List JobL → List Tk → Except Int (List JobL)
  | 0, l, _ => .ok l
  | k + 1, l, T =>
    if T.isEmpty = true then .ok l
    else if l.length = 8 ∧ begK (hK T) = true then .error 6
    else match job1T F T with
      | .error e => .error e
      | .ok (cs, r) =>
        if hK r = 0 then .ok (l ++ [⟨cs, decide (hK r = 6)⟩])
        else if hK r = 5 ∨ hK r = 6 then lineT F k (l ++ [⟨cs, decide (hK r = 6)⟩]) r.tail
        else .error 3
def eL : Except (Nat × Int) (List JobL) → Except Int (List JobL)
  | .error e => .error e.2
  | .ok v => .ok v
section
variable {s : ByteArray} {n : Nat}
theorem job_tok (s : ByteArray) : ∀ (k : Nat) (l : List CmdL) (n : Nat), NB s n → eP s (jobF false s k l n) = jobT (s.size + 1) k l (TL s n) ∧ ∀ v m, jobF false s k l n = .ok (v, m) → NB s m
  | 0, l, n, h => ⟨rfl, fun v m e => by cases e; exact h⟩
  | k + 1, l, n, h => by
    simp only [jobF, jobT]
    rw [hK_at h]
    by_cases h7 : kd s n = 7
    · rw [if_pos h7, if_pos h7, hK_tail h (by omega), tail_at h (by omega)]
      by_cases hl : l.length = 4 ∧ begK (kd s (nx s n)) = true
      · rw [if_pos hl, if_pos hl]; exact ⟨rfl, fun v m e => by cases e⟩
      · rw [if_neg hl, if_neg hl]
        obtain ⟨q1, q2⟩ := cmd_tok s (s.size + 1) cmd0 (nx s n) (NB_nx s n)
        rw [← q1]
        show eP s (match cmdF false s (s.size + 1) cmd0 (nx s n) with | .error e => .error e | .ok (c, m) => jobF false s k (l ++ [c]) m) = _ ∧ _
        cases hc : cmdF false s (s.size + 1) cmd0 (nx s n) with
        | error e => exact ⟨rfl, fun v m e => by simp only [cmdP, hc] at e; cases e⟩
        | ok q =>
          obtain ⟨c, m⟩ := q
          obtain ⟨q3, q4⟩ := job_tok s k (l ++ [c]) m (q2 _ _ hc)
          refine ⟨q3, fun v m' e => ?_⟩
          simp only [cmdP, hc] at e
          exact q4 v m' e
    · rw [if_neg h7, if_neg h7]; exact ⟨rfl, fun v m e => by cases e; exact h⟩
theorem jobP_tok (h : NB s n) : eP s (jobP false s n) = job1T (s.size + 1) (TL s n) ∧ ∀ v m, jobP false s n = .ok (v, m) → NB s m := by
  obtain ⟨q1, q2⟩ := cmd_tok s (s.size + 1) cmd0 n h
  unfold jobP job1T cmdP
  rw [← q1]
  cases hc : cmdF false s (s.size + 1) cmd0 n with
  | error e => exact ⟨rfl, fun v m e => by cases e⟩
  | ok q => obtain ⟨c, m⟩ := q; exact job_tok s _ _ m (q2 _ _ hc)
theorem TL_empty (h : NB s n) : (TL s n).isEmpty = decide (¬ n < s.size) := by
  have hk := kd_spec s n
  rcases TL_at h with ⟨h1, h2⟩ | ⟨h1, h2⟩ | ⟨h1, h2⟩ | ⟨_, _, _, h2⟩ <;> rw [h2]
  · exact (decide_eq_true (by omega)).symm
  · exact (decide_eq_false (by omega)).symm
  · exact (decide_eq_false (by omega)).symm
  · exact (decide_eq_false (by omega)).symm
theorem line_tok (s : ByteArray) : ∀ (k : Nat) (l : List JobL) (n : Nat), NB s n → eL (lineF false s k l n) = lineT (s.size + 1) k l (TL s n)
  | 0, l, n, h => rfl
  | k + 1, l, n, h => by
    simp only [lineF, lineT]
    rw [TL_empty h, hK_at h]
    by_cases hn : n < s.size
    · rw [if_pos hn, if_neg (show ¬ decide (¬ n < s.size) = true by simpa using hn)]
      by_cases hl : l.length = 8 ∧ begK (kd s n) = true
      · rw [if_pos hl, if_pos hl]; rfl
      · rw [if_neg hl, if_neg hl]
        obtain ⟨q1, q2⟩ := jobP_tok h
        rw [← q1]
        cases hj : jobP false s n with
        | error e => rfl
        | ok q =>
          obtain ⟨cs, m⟩ := q
          have hm := q2 _ _ hj
          simp only [eP]
          rw [hK_at hm]
          by_cases h0 : kd s m = 0
          · rw [if_pos h0, if_pos h0]; rfl
          · rw [if_neg h0, if_neg h0]
            by_cases h5 : kd s m = 5 ∨ kd s m = 6
            · rw [if_pos h5, if_pos h5, tail_at hm (by omega)]
              exact line_tok s k _ _ (NB_nx s m)
            · rw [if_neg h5, if_neg h5]; rfl
    · rw [if_neg hn, if_pos (show decide (¬ n < s.size) = true by simpa using hn)]; rfl
/-- What a line says hangs on its tokens alone. -/
theorem lineP_tok (s : ByteArray) : eL (lineP false s) = lineT (s.size + 1) (s.size + 1) [] (lexL s.data.toList) := by
  unfold lineP
  rw [line_tok s _ _ _ (NB_sk s _ _ (Nat.le_refl _)), TL_sk s _ _ (Nat.le_refl _)]
  rfl
end
end Go.Proofs.Ytfhcpegemapbkaa
