/-
  The layer command: two lines that are joined by a separator.
-/
import Derived.Test.YtfhcpegemapbkaaCmdFuel
set_option linter.unusedVariables false
set_option linter.unusedSimpArgs false
namespace Go.Proofs.Ytfhcpegemapbkaa
open Go Go.RowKit Go.Proofs.Sx
/-- What was taken from a list of tokens: no token of no kind. -/
def Con (T r : List Tk) : Prop := ∃ p, T = p ++ r ∧ ∀ t ∈ p, t.1 ≠ 8
def noz (T : List Tk) : Prop := ∀ t ∈ T, t.1 ≠ 0
theorem Con.refl (T : List Tk) : Con T T := ⟨[], rfl, fun t h => absurd h List.not_mem_nil⟩
theorem Con.trans {A B C : List Tk} (h : Con A B) (g : Con B C) : Con A C := by
  obtain ⟨p, rfl, hp⟩ := h
  obtain ⟨q, rfl, hq⟩ := g
  exact ⟨p ++ q, by simp, fun t ht => (List.mem_append.1 ht).elim (hp t) (hq t)⟩
theorem Con.cons {t : Tk} {T r : List Tk} (ht : t.1 ≠ 8) (h : Con T r) : Con (t :: T) r := by
  obtain ⟨p, rfl, hp⟩ := h
  exact ⟨t :: p, rfl, fun s hs => (List.mem_cons.1 hs).elim (fun e => e ▸ ht) (hp s)⟩
theorem Con.noz {T r : List Tk} (h : Con T r) (hz : noz T) : noz r := by
  obtain ⟨p, rfl, _⟩ := h
  exact fun t ht => hz t (List.mem_append_right _ ht)
theorem hK_pos {T : List Tk} (h : hK T ≠ 0) : ∃ t r, T = t :: r ∧ t.1 = hK T := by
  cases T with
  | nil => exact absurd rfl h
  | cons t r => exact ⟨t, r, rfl, rfl⟩
theorem wordT_ok {T r : List Tk} {w : ByteArray} (h : wordT T = .ok (w, r)) : ∃ t, T = t :: r ∧ t.1 = 1 ∧ ∀ U, wordT (t :: (r ++ U)) = .ok (w, r ++ U) := by
  cases T with
  | nil => cases h
  | cons t T =>
    simp only [wordT] at h
    split at h
    · cases h
    · rename_i h1
      split at h
      · cases h
      · rename_i h2
        cases h
        refine ⟨t, rfl, by simpa using h1, fun U => ?_⟩
        simp only [wordT]
        rw [if_neg h1, if_neg h2]
theorem redirT_ok {c v : CmdL} {k : Nat} {T r : List Tk} (h : redirT c k T = .ok (v, r)) : Con T r ∧ ∀ U, redirT c k (T ++ U) = .ok (v, r ++ U) := by
  unfold redirT at h
  split at h
  · cases h
  · rename_i hc
    cases hw : wordT T with
    | error e => rw [hw] at h; cases h
    | ok q =>
      obtain ⟨w, r'⟩ := q
      rw [hw] at h
      obtain ⟨t, rfl, ht, hU⟩ := wordT_ok hw
      cases h
      refine ⟨Con.cons (by omega) (Con.refl _), fun U => ?_⟩
      unfold redirT
      rw [if_neg hc, List.cons_append, hU]
/-- Behind a separator nothing is taken. -/
def Sep (U : List Tk) : Prop := hK U = 5 ∨ hK U = 6
theorem hK_app {T U : List Tk} (hU : Sep U) : (hK (T ++ U) = hK T ∧ T ≠ []) ∨ (T = [] ∧ (hK (T ++ U) = 5 ∨ hK (T ++ U) = 6)) := by
  cases T with
  | nil => exact .inr ⟨rfl, hU⟩
  | cons t r => exact .inl ⟨rfl, by simp⟩
theorem cmdT_con : ∀ (k : Nat) (c v : CmdL) (T r : List Tk), T.length < k → cmdT k c T = .ok (v, r) → Con T r ∧ ∀ U, Sep U → cmdT k c (T ++ U) = .ok (v, r ++ U)
  | 0, _, _, _, _, h, _ => absurd h (Nat.not_lt_zero _)
  | k + 1, c, v, T, r, hk, h => by
    simp only [cmdT] at h
    by_cases h1 : hK T = 1
    · rw [if_pos h1] at h
      obtain ⟨t, T', rfl, ht⟩ := hK_pos (T := T) (by omega)
      split at h
      · cases h
      · rename_i hl
        cases hw : wordT (t :: T') with
        | error e => rw [hw] at h; cases h
        | ok q =>
          obtain ⟨w, r'⟩ := q
          rw [hw] at h
          obtain ⟨t', e, ht', hU⟩ := wordT_ok hw
          cases e
          rw [List.length_cons] at hk
          obtain ⟨q1, q2⟩ := cmdT_con k _ v T' r (by omega) h
          refine ⟨Con.cons (by omega) q1, fun U hs => ?_⟩
          rw [List.cons_append]
          simp only [cmdT]
          rw [if_pos (show hK (t :: (T' ++ U)) = 1 from h1), if_neg hl, hU U]
          exact q2 U hs
    · rw [if_neg h1] at h
      by_cases h2 : hK T = 2 ∨ hK T = 3 ∨ hK T = 4
      · rw [if_pos h2] at h
        obtain ⟨t, T', rfl, ht⟩ := hK_pos (T := T) (by omega)
        cases hr : redirT c (hK (t :: T')) T' with
        | error e => rw [List.tail_cons, hr] at h; cases h
        | ok q =>
          obtain ⟨w, r'⟩ := q
          rw [List.tail_cons, hr] at h
          obtain ⟨g1, g2⟩ := redirT_ok hr
          have hlen := redirT_len hr
          rw [List.length_cons] at hk
          obtain ⟨q1, q2⟩ := cmdT_con k _ v r' r (by omega) h
          refine ⟨Con.cons (by omega) (g1.trans q1), fun U hs => ?_⟩
          rw [List.cons_append]
          simp only [cmdT]
          rw [if_neg (show ¬ hK (t :: (T' ++ U)) = 1 from h1), if_pos (show hK (t :: (T' ++ U)) = 2 ∨ hK (t :: (T' ++ U)) = 3 ∨ hK (t :: (T' ++ U)) = 4 from h2), List.tail_cons, show hK (t :: (T' ++ U)) = hK (t :: T') from rfl, g2 U]
          exact q2 U hs
      · rw [if_neg h2] at h
        split at h
        · cases h
        · rename_i hc
          cases h
          refine ⟨Con.refl _, fun U hs => ?_⟩
          simp only [cmdT]
          have ha := hK_app (T := T) hs
          rw [if_neg (by omega), if_neg (by omega), if_neg hc]
theorem jobT_con {F : Nat} : ∀ (k : Nat) (l v : List CmdL) (T r : List Tk), T.length < k → T.length < F → jobT F k l T = .ok (v, r) → Con T r ∧ ∀ U, Sep U → jobT F k l (T ++ U) = .ok (v, r ++ U)
  | 0, _, _, _, _, h, _, _ => absurd h (Nat.not_lt_zero _)
  | k + 1, l, v, T, r, hk, hF, h => by
    simp only [jobT] at h
    by_cases h7 : hK T = 7
    · rw [if_pos h7] at h
      obtain ⟨t, T', rfl, ht⟩ := hK_pos (T := T) (by omega)
      rw [List.tail_cons] at h
      rw [List.length_cons] at hk hF
      split at h
      · cases h
      · rename_i hl
        cases hc : cmdT F cmd0 T' with
        | error e => rw [hc] at h; cases h
        | ok q =>
          obtain ⟨c, r'⟩ := q
          rw [hc] at h
          obtain ⟨g1, g2⟩ := cmdT_con F _ _ _ _ (by omega) hc
          have hle := (cmdT_fuel F F cmd0 T' (by omega) (by omega)).2 _ _ hc
          obtain ⟨q1, q2⟩ := jobT_con k _ v r' r (by omega) (by omega) h
          refine ⟨Con.cons (by omega) (g1.trans q1), fun U hs => ?_⟩
          rw [List.cons_append]
          simp only [jobT]
          rw [if_pos (show hK (t :: (T' ++ U)) = 7 from h7), List.tail_cons, if_neg ?_, g2 U hs]
          · exact q2 U hs
          · rintro ⟨e1, e2⟩
            refine hl ⟨e1, ?_⟩
            have e3 := of_decide_eq_true e2
            refine decide_eq_true ?_
            have ha := hK_app (T := T') hs
            omega
    · rw [if_neg h7] at h
      cases h
      refine ⟨Con.refl _, fun U hs => ?_⟩
      simp only [jobT]
      have ha := hK_app (T := T) hs
      rw [if_neg (by omega)]
theorem job1T_con {F : Nat} {v : List CmdL} {T r : List Tk} (hF : T.length < F) (h : job1T F T = .ok (v, r)) : Con T r ∧ ∀ U, Sep U → job1T F (T ++ U) = .ok (v, r ++ U) := by
  unfold job1T at h
  cases hc : cmdT F cmd0 T with
  | error e => rw [hc] at h; cases h
  | ok q =>
    obtain ⟨c, r'⟩ := q
    rw [hc] at h
    obtain ⟨g1, g2⟩ := cmdT_con F _ _ _ _ hF hc
    have hle := (cmdT_fuel F F cmd0 T hF hF).2 _ _ hc
    obtain ⟨q1, q2⟩ := jobT_con (F := F) F _ v r' r (by omega) (by omega) h
    refine ⟨g1.trans q1, fun U hs => ?_⟩
    unfold job1T
    rw [g2 U hs]
    exact q2 U hs
theorem job1T_beg {F : Nat} {T : List Tk} {q : List CmdL × List Tk} (h : job1T (F + 1) T = .ok q) : begK (hK T) = true := by
  unfold job1T at h
  refine decide_eq_true ?_
  rcases Classical.em (1 ≤ hK T ∧ hK T ≤ 4) with g | g
  · exact g
  · have : cmdT (F + 1) cmd0 T = .error 3 := by
      simp only [cmdT]
      rw [if_neg (by omega), if_neg (by omega)]; rfl
    rw [this] at h; cases h
/-- The last token is no separator. -/
def endK (T : List Tk) : Prop := ∀ p t, T = p ++ [t] → t.1 ≠ 5 ∧ t.1 ≠ 6
/-- What is accepted is read to its end; a separator and a second line go on. -/
theorem lineT_join {F : Nat} : ∀ (k : Nat) (l v : List JobL) (T : List Tk), T ≠ [] → noz T → T.length < k → T.length < F → lineT F k l T = .ok v →
    (∀ t ∈ T, t.1 ≠ 8) ∧ (endK T → ∃ u j, v = u ++ [j] ∧ ∀ q U, q = 5 ∨ q = 6 → T.length + U.length + 1 < k → T.length + U.length + 1 < F → ∃ k', U.length < k' ∧ lineT F k l (T ++ (q, []) :: U) = lineT F k' (u ++ [⟨j.cmds, decide (q = 6)⟩]) U)
  | 0, _, _, _, _, _, h, _, _ => absurd h (Nat.not_lt_zero _)
  | k + 1, l, v, T, hne, hz, hk, hF, h => by
    simp only [lineT] at h
    have he : ∀ U, ¬ (T ++ U).isEmpty = true := fun U => by cases T with
      | nil => exact absurd rfl hne
      | cons t r => simp
    have he0 := he []
    rw [List.append_nil] at he0
    rw [if_neg he0] at h
    split at h
    · cases h
    · rename_i hl
      cases hj : job1T F T with
      | error e => rw [hj] at h; cases h
      | ok q =>
        obtain ⟨cs, r⟩ := q
        rw [hj] at h
        simp only at h
        obtain ⟨hc, hU⟩ := job1T_con hF hj
        have hK0 : ∀ U, hK (T ++ U) = hK T := fun U => by cases T with
          | nil => exact absurd rfl hne
          | cons t r => rfl
        have hle := (job1T_fuel hF hF).2 _ _ hj
        have step : ∀ q U, q = 5 ∨ q = 6 → lineT F (k + 1) l (T ++ (q, []) :: U) = (if hK (r ++ (q, []) :: U) = 0 then .ok (l ++ [⟨cs, decide (hK (r ++ (q, []) :: U) = 6)⟩]) else if hK (r ++ (q, []) :: U) = 5 ∨ hK (r ++ (q, []) :: U) = 6 then lineT F k (l ++ [⟨cs, decide (hK (r ++ (q, []) :: U) = 6)⟩]) (r ++ (q, []) :: U).tail else .error 3) := fun q U hq => by
          simp only [lineT]
          rw [if_neg (he _), hK0, if_neg hl, hU _ (show Sep ((q, []) :: U) from hq)]
        by_cases h0 : hK r = 0
        · rw [if_pos h0] at h
          have hr : r = [] := by
            cases r with
            | nil => rfl
            | cons t r => exact absurd h0 (hc.noz hz t List.mem_cons_self)
          subst hr
          cases h
          obtain ⟨p, hp, hp8⟩ := hc
          rw [List.append_nil] at hp
          refine ⟨by rw [hp]; exact hp8, fun _ => ⟨l, _, rfl, fun q U hq hU1 hU2 => ⟨k, by omega, ?_⟩⟩⟩
          rw [step q U hq]
          have hq' : hK ([] ++ (q, []) :: U) = q := rfl
          rw [hq', if_neg (by omega), if_pos hq]; rfl
        · rw [if_neg h0] at h
          split at h
          · rename_i h5
            obtain ⟨t, r', rfl, ht⟩ := hK_pos h0
            rw [List.tail_cons] at h
            have hcz := hc.noz hz
            have hz' : noz r' := fun x hx => hcz x (List.mem_cons_of_mem _ hx)
            rw [List.length_cons] at hle
            obtain ⟨p, hp, hp8⟩ := hc
            by_cases hr : r' = []
            · subst hr
              cases k with
              | zero => omega
              | succ k =>
              refine ⟨?_, fun hend => ?_⟩
              · rw [hp]; intro x hx
                rcases List.mem_append.1 hx with hx | hx
                · exact hp8 x hx
                · rw [List.mem_singleton.1 hx]; omega
              · have := hend p t hp; omega
            · obtain ⟨g1, g2⟩ := lineT_join k _ v r' hr hz' (by omega) (by omega) h
              refine ⟨?_, fun hend => ?_⟩
              · rw [hp]; intro x hx
                rcases List.mem_append.1 hx with hx | hx
                · exact hp8 x hx
                · rcases List.mem_cons.1 hx with hx | hx
                  · rw [hx]; omega
                  · exact g1 x hx
              · obtain ⟨u, j, e, g⟩ := g2 fun p' t' e => hend (p ++ t :: p') t' (by rw [hp, e]; simp)
                refine ⟨u, j, e, fun q U hq hU1 hU2 => ?_⟩
                obtain ⟨k', hk', e'⟩ := g q U hq (by omega) (by omega)
                refine ⟨k', hk', ?_⟩
                rw [step q U hq, List.cons_append]
                have hq' : hK (t :: (r' ++ (q, []) :: U)) = hK (t :: r') := rfl
                rw [hq', if_neg h0, if_pos h5, List.tail_cons, e']
          · cases h
/-- The jobs ahead do not matter. -/
theorem lineT_front {F : Nat} : ∀ (k : Nat) (l v : List JobL) (T : List Tk), lineT (F + 1) k l T = .ok v → ∃ w, v = l ++ w ∧ ∀ l0 : List JobL, l0.length + w.length ≤ 8 → lineT (F + 1) k l0 T = .ok (l0 ++ w)
  | 0, l, v, T, h => by cases h; exact ⟨[], by simp, fun l0 _ => by simp [lineT]⟩
  | k + 1, l, v, T, h => by
    simp only [lineT] at h
    by_cases he : T.isEmpty = true
    · rw [if_pos he] at h
      cases h
      exact ⟨[], by simp, fun l0 _ => by simp only [lineT]; rw [if_pos he]; simp⟩
    · rw [if_neg he] at h
      split at h
      · cases h
      · rename_i hl
        cases hj : job1T (F + 1) T with
        | error e => rw [hj] at h; cases h
        | ok q =>
          obtain ⟨cs, r⟩ := q
          rw [hj] at h
          simp only at h
          by_cases h0 : hK r = 0
          · rw [if_pos h0] at h
            cases h
            refine ⟨_, rfl, fun l0 h8 => ?_⟩
            simp only [List.length_cons, List.length_nil] at h8
            simp only [lineT]
            rw [if_neg he, if_neg (fun q => by omega), hj]
            simp only
            rw [if_pos h0]
          · rw [if_neg h0] at h
            split at h
            · rename_i h5
              obtain ⟨w, rfl, g⟩ := lineT_front k _ v _ h
              refine ⟨⟨cs, decide (hK r = 6)⟩ :: w, by simp, fun l0 h8 => ?_⟩
              rw [List.length_cons] at h8
              simp only [lineT]
              rw [if_neg he, if_neg (fun q => by omega), hj]
              simp only
              rw [if_neg h0, if_pos h5, g _ (by simp only [List.length_append, List.length_cons, List.length_nil]; omega)]
              simp only [List.append_assoc, List.cons_append, List.nil_append]
            · cases h
/-! ### The tokens of a text -/
theorem lex_noz : ∀ (l : List UInt8) (k : Bool), noz (lexS k l)
  | [], k => by cases k <;> exact fun t h => absurd h List.not_mem_nil
  | x :: r, true => lex_noz r false
  | x :: r, false => by
    have h1 := lex_noz r false
    have h2 := lex_noz r true
    have one : ∀ {n : Nat} {b : List UInt8} {T : List Tk}, n ≠ 0 → noz T → noz ((n, b) :: T) := fun hn hT t ht => (List.mem_cons.1 ht).elim (fun e => by rw [e]; exact hn) (hT t)
    have hadd : noz (addW x (lexS false r)) := by
      cases hl : lexS false r with
      | nil => exact one (by decide) fun t h => absurd h List.not_mem_nil
      | cons t T =>
        rw [hl] at h1
        exact one (h1 t List.mem_cons_self) fun s hs => h1 s (List.mem_cons_of_mem _ hs)
    simp only [lexS]
    split
    · exact h1
    split
    · split
      · exact hadd
      · exact one (by decide) h1
    split
    · split
      · exact one (by decide) h2
      · exact one (by decide) h1
    split
    · exact one (by decide) h1
    split
    · exact one (by decide) h1
    split
    · exact one (by decide) h1
    split
    · exact one (by decide) h1
    · exact one (by decide) fun t h => absurd h List.not_mem_nil
/-- The last byte that is no blank. -/
def lastB (d : UInt8) (l : List UInt8) : UInt8 := l.foldl (fun d x => if blankI (x.toNat : Int) = true then d else x) d
theorem lastB_nil {l : List UInt8} (h : lexS false l = []) : ∀ d, lastB d l = d := by
  induction l with
  | nil => exact fun d => rfl
  | cons x r ih =>
    simp only [lexS] at h
    by_cases hb : blankI (x.toNat : Int) = true
    · rw [if_pos hb] at h
      intro d
      show lastB (if blankI (x.toNat : Int) = true then d else x) r = d
      rw [if_pos hb]; exact ih h d
    · rw [if_neg hb] at h
      exfalso
      split at h
      · split at h
        · cases hl : lexS false r with
          | nil => rw [hl] at h; cases h
          | cons t T => rw [hl] at h; cases h
        · cases h
      · split at h
        · split at h <;> cases h
        · split at h
          · cases h
          · split at h
            · cases h
            · split at h
              · cases h
              · split at h <;> cases h
theorem lex_last : ∀ (l : List UInt8) (k : Bool) (d : UInt8) (p : List Tk) (t : Tk), lexS k l = p ++ [t] → t.1 = 5 ∨ t.1 = 6 → lastB d l = 59 ∨ lastB d l = 38
  | [], k, d, p, t, h, _ => by cases k <;> simp [lexS] at h
  | x :: r, true, d, p, t, h, ht => lex_last r false _ p t h ht
  | x :: r, false, d, p, t, h, ht => by
    have ih := lex_last r false (if blankI (x.toNat : Int) = true then d else x) 
    have ih2 := lex_last r true (if blankI (x.toNat : Int) = true then d else x)
    show lastB (if blankI (x.toNat : Int) = true then d else x) r = 59 ∨ lastB (if blankI (x.toNat : Int) = true then d else x) r = 38
    have one : ∀ {n : Nat} {b : List UInt8} {T : List Tk}, (n, b) :: T = p ++ [t] → n ≠ 5 → n ≠ 6 → ∃ p', T = p' ++ [t] := fun {n b T} e h5 h6 => by
      cases p with
      | nil => simp at e; rw [← e.1] at ht; exact absurd ht (by omega)
      | cons y p => simp at e; exact ⟨p, e.2⟩
    have sep : ∀ {n : Nat} {b : List UInt8} {T : List Tk}, (n, b) :: T = p ++ [t] → T = [] ∨ ∃ p', T = p' ++ [t] := fun {n b T} e => by
      cases p with
      | nil => simp at e; exact .inl e.2
      | cons y p => simp at e; exact .inr ⟨p, e.2⟩
    simp only [lexS] at h
    by_cases hb : blankI (x.toNat : Int) = true
    · rw [if_pos hb] at h; exact ih p t h ht
    rw [if_neg hb] at h
    split at h
    · split at h
      · cases hl : lexS false r with
        | nil => rw [hl] at h; obtain ⟨p', e⟩ := one h (by decide) (by decide); simp at e
        | cons s T =>
          rw [hl] at h
          have h : (s.1, x :: s.2) :: T = p ++ [t] := h
          cases p with
          | nil =>
            simp at h
            have e1 := h.1
            refine ih [] s (by rw [hl, h.2]; rfl) ?_
            rw [← e1] at ht; exact ht
          | cons y p => simp at h; exact ih (s :: p) t (by rw [hl, h.2]; rfl) ht
      · obtain ⟨p', e⟩ := one h (by decide) (by decide); exact ih p' t e ht
    split at h
    · split at h
      · obtain ⟨p', e⟩ := one h (by decide) (by decide); exact ih2 p' t e ht
      · obtain ⟨p', e⟩ := one h (by decide) (by decide); exact ih p' t e ht
    split at h
    · obtain ⟨p', e⟩ := one h (by decide) (by decide); exact ih p' t e ht
    split at h
    · rename_i hx
      rcases sep h with e | ⟨p', e⟩
      · rw [if_neg hb, lastB_nil e]; exact .inl hx
      · exact ih p' t e ht
    split at h
    · rename_i hx
      rcases sep h with e | ⟨p', e⟩
      · rw [if_neg hb, lastB_nil e]; exact .inr hx
      · exact ih p' t e ht
    split at h
    · obtain ⟨p', e⟩ := one h (by decide) (by decide); exact ih p' t e ht
    · obtain ⟨p', e⟩ := one h (by decide) (by decide); simp at e
/-- The jobs of two lines that are joined. -/
theorem lineP_join {a b s : ByteArray} {x y : List JobL} {m : UInt8} (hx : lineP false a = .ok x) (hy : lineP false b = .ok y) (h0 : x ≠ []) (h8 : x.length + y.length ≤ 8) (hm : m = 59 ∨ m = 38)
    (hl : lastB 32 a.data.toList ≠ 59 ∧ lastB 32 a.data.toList ≠ 38) (hs : s.data.toList = a.data.toList ++ m :: b.data.toList) :
    ∃ u j, x = u ++ [j] ∧ lineP false s = .ok (u ++ [⟨j.cmds, decide (m = 38)⟩] ++ y) := by
  have ga := lineP_lex a
  have gb := lineP_lex b
  rw [hx] at ga
  rw [hy] at gb
  generalize hTA : lexL a.data.toList = TA at ga
  generalize hTB : lexL b.data.toList = TB at gb
  have hz : noz TA := by rw [← hTA]; exact lex_noz _ _
  have hne : TA ≠ [] := fun e => by
    rw [e] at ga
    have : Except.ok x = (Except.ok [] : Except Int (List JobL)) := ga
    exact h0 (Except.ok.inj this)
  obtain ⟨q, hq, hlex, hqm⟩ : ∃ q : Nat, (q = 5 ∨ q = 6) ∧ lexL (m :: b.data.toList) = (q, []) :: TB ∧ decide (q = 6) = decide (m = 38) := by
    rcases hm with rfl | rfl
    · exact ⟨5, .inl rfl, by rw [← hTB]; rfl, by decide⟩
    · exact ⟨6, .inr rfl, by rw [← hTB]; rfl, by decide⟩
  have fA : ∀ F, TA.length < F → lineT F F [] TA = .ok x := fun F hF => by
    rw [show Except.ok x = lineG TA from ga]
    exact lineT_fuel _ _ _ _ hF (by omega) hF (by omega)
  have hF := fA (TA.length + TB.length + 2 + 1) (by omega)
  obtain ⟨h8', hj⟩ := lineT_join _ [] x TA hne hz (by omega) (by omega) hF
  obtain ⟨u, j, e, g⟩ := hj fun p t e => by
    have h2 := lex_last a.data.toList false 32 p t (by rw [← e, ← hTA]; rfl)
    exact ⟨fun e5 => by rcases h2 (.inl e5) with h | h; exact hl.1 h; exact hl.2 h, fun e6 => by rcases h2 (.inr e6) with h | h; exact hl.1 h; exact hl.2 h⟩
  obtain ⟨k', hk', e'⟩ := g q TB hq (by omega) (by omega)
  have hB : lineT (TA.length + TB.length + 2 + 1) k' [] TB = .ok y := by
    rw [show Except.ok y = lineG TB from gb]
    exact lineT_fuel _ _ _ _ hk' (by omega) (by omega) (by omega)
  obtain ⟨w, hw, hf⟩ := lineT_front k' [] y TB hB
  rw [List.nil_append] at hw
  subst hw
  refine ⟨u, j, e, ?_⟩
  have hlen : x.length = u.length + 1 := by rw [e]; simp
  have fin := hf (u ++ [⟨j.cmds, decide (q = 6)⟩]) (by simp only [List.length_append, List.length_cons, List.length_nil]; omega)
  have hcat : lexL s.data.toList = TA ++ (q, []) :: TB := by
    rw [hs]
    have hmt : meet a.data.toList (m :: b.data.toList) = true := by
      refine meet_no ?_ ?_ <;> rcases hm with rfl | rfl <;> rfl
    have h1 := lex_app (m :: b.data.toList) a.data.toList false (fun _ => rfl) hmt
    unfold lexL at hlex hTA ⊢
    rw [h1, hTA, hlex]
    unfold cat
    rw [if_neg]
    intro h
    obtain ⟨t, ht, ht8⟩ := List.any_eq_true.1 h
    exact h8' t ht (by simpa using ht8)
  have hs2 : eL (lineP false s) = .ok (u ++ [⟨j.cmds, decide (q = 6)⟩] ++ y) := by
    rw [lineP_lex, hcat]
    refine Eq.trans ?_ (e'.trans fin)
    exact lineT_fuel _ _ _ _ (by omega) (by simp only [List.length_append, List.length_cons]; omega) (by omega) (by simp only [List.length_append, List.length_cons]; omega)
  rw [← hqm]
  revert hs2
  cases lineP false s with
  | error e => intro h; cases h
  | ok l => intro h; exact congrArg _ (Except.ok.inj h)
end Go.Proofs.Ytfhcpegemapbkaa
