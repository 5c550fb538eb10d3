/-
  The layer command: a source as a list of tokens.
-/
import Derived.Test.YtfhcpegemapbkaaCmdBase
set_option linter.unusedVariables false
set_option linter.unusedSimpArgs false
namespace Go.Proofs.Ytfhcpegemapbkaa
open Go Go.RowKit Go.Proofs.Sx
/-- A token: its kind (as kd), a word's bytes. -/
abbrev Tk := Nat × List UInt8
def pB (c : UInt8) : Bool := partI (c.toNat : Int)
def hB (p : UInt8 → Bool) : List UInt8 → Bool
  | [] => false
  | x :: _ => p x
def addW (c : UInt8) : List Tk → List Tk
  | [] => [(1, [c])]
  | t :: r => (t.1, c :: t.2) :: r
def lexS : Bool → List UInt8 → List Tk
  | _, [] => []
  | true, _ :: r => lexS false r
  | false, c :: r =>
    if blankI (c.toNat : Int) = true then lexS false r
    else if pB c = true then (if hB pB r = true then addW c (lexS false r) else (1, [c]) :: lexS false r)
    else if c = 62 then (if hB (· == 62) r = true then (4, []) :: lexS true r else (3, []) :: lexS false r)
    else if c = 60 then (2, []) :: lexS false r
    else if c = 59 then (5, []) :: lexS false r
    else if c = 38 then (6, []) :: lexS false r
    else if c = 124 then (7, []) :: lexS false r
    else [(8, [])]
def lexL (l : List UInt8) : List Tk := lexS false l
/-- The tokens from a place on. -/
def TL (s : ByteArray) (n : Nat) : List Tk := lexL (s.data.toList.drop n)
section
variable {s : ByteArray} {n : Nat}
theorem drop_at (h : n < s.size) : ∃ c, s.data.toList.drop n = c :: s.data.toList.drop (n + 1) ∧ sb s n = (c.toNat : Int) := by
  have hl : n < s.data.toList.length := by rw [size_list]; exact h
  refine ⟨s.data.toList[n], List.drop_eq_getElem_cons hl, ?_⟩
  unfold sb
  rw [List.getD_eq_getElem?_getD, List.getElem?_eq_getElem hl]; rfl
theorem TL_end (h : ¬ n < s.size) : TL s n = [] := by
  unfold TL
  rw [List.drop_eq_nil_of_le (by rw [size_list]; omega)]; rfl
theorem TL_blank (h : n < s.size) (hb : blankI (sb s n) = true) : TL s n = TL s (n + 1) := by
  obtain ⟨c, hc, hs⟩ := drop_at h
  unfold TL lexL
  rw [hc]
  simp only [lexS]
  rw [if_pos (by rw [← hs]; exact hb)]
theorem TL_sk (s : ByteArray) : ∀ (k n : Nat), s.size - n ≤ k → TL s (sk s n) = TL s n
  | 0, n, h => by rw [sk_stop (by omega)]
  | k + 1, n, h => by
    by_cases hb : n < s.size ∧ blankI (sb s n) = true
    · rw [sk_more hb.1 hb.2, TL_sk s k (n + 1) (by omega), TL_blank hb.1 hb.2]
    · rw [sk_stop hb]
theorem part_blank {c : Int} (h : partI c = true) : blankI c = false := by
  have := not_part h
  unfold blankI; exact decide_eq_false (by omega)
theorem hB_at (p : UInt8 → Bool) (n : Nat) : hB p (s.data.toList.drop n) = true ↔ ∃ c : UInt8, n < s.size ∧ sb s n = (c.toNat : Int) ∧ p c = true := by
  by_cases h : n < s.size
  · obtain ⟨c, hc, hs⟩ := drop_at h
    rw [hc]
    refine ⟨fun q => ⟨c, h, hs, q⟩, fun ⟨d, _, hd, q⟩ => ?_⟩
    have : c = d := UInt8.toNat_inj.1 (by omega)
    subst this; exact q
  · rw [List.drop_eq_nil_of_le (by rw [size_list]; omega)]
    constructor
    · intro q; cases q
    · intro ⟨_, q, _⟩; exact absurd q h
/-- A word. -/
theorem TL_word (s : ByteArray) : ∀ (k n : Nat), wl s n = k + 1 → TL s n = (1, (s.data.toList.drop n).take (k + 1)) :: TL s (n + (k + 1)) := by
  intro k
  induction k with
  | zero =>
    intro n h
    have h1 := wl_pos.1 (show 0 < wl s n by omega)
    have h2 : ¬ (n + 1 < s.size ∧ partI (sb s (n + 1)) = true) := fun q => by have := wl_more h1.1 h1.2; have := wl_pos.2 q; omega
    obtain ⟨c, hc, hs⟩ := drop_at h1.1
    have hp : pB c = true := by unfold pB; rw [← hs]; exact h1.2
    unfold TL lexL
    rw [hc]
    simp only [lexS]
    rw [if_neg (by rw [← hs, part_blank h1.2]; simp), if_pos hp, if_neg (fun q => by obtain ⟨d, hd, hs2, hp2⟩ := (hB_at pB (n + 1)).1 q; exact h2 ⟨hd, by rw [hs2]; exact hp2⟩)]
    rfl
  | succ k ih =>
    intro n h
    have h1 := wl_pos.1 (show 0 < wl s n by omega)
    have h3 : wl s (n + 1) = k + 1 := by have := wl_more h1.1 h1.2; omega
    have h2 := wl_pos.1 (show 0 < wl s (n + 1) by omega)
    obtain ⟨c, hc, hs⟩ := drop_at h1.1
    obtain ⟨d, _, hs2⟩ := drop_at h2.1
    have hp : pB c = true := by unfold pB; rw [← hs]; exact h1.2
    have hi := ih (n + 1) h3
    unfold TL lexL at hi ⊢
    rw [hc]
    simp only [lexS]
    rw [if_neg (by rw [← hs, part_blank h1.2]; simp), if_pos hp, if_pos ((hB_at pB (n + 1)).2 ⟨d, h2.1, hs2, by unfold pB; rw [← hs2]; exact h2.2⟩), hi]
    simp only [addW, List.take_succ_cons, show n + 1 + (k + 1) = n + (k + 1 + 1) by omega]
/-- The tokens by places. -/
theorem TL_at (hb : ¬ (n < s.size ∧ blankI (sb s n) = true)) : (kd s n = 0 ∧ TL s n = []) ∨ (kd s n = 8 ∧ TL s n = [(8, [])]) ∨ (kd s n = 1 ∧ TL s n = (1, (tk s n).data.toList) :: TL s (nx s n)) ∨ (kd s n ≠ 0 ∧ kd s n ≠ 8 ∧ kd s n ≠ 1 ∧ TL s n = (kd s n, []) :: TL s (nx s n)) := by
  have hnx : TL s (nx s n) = TL s (n + tl s n) := TL_sk s _ _ (Nat.le_refl _)
  rw [hnx]
  have hk := tl_kd s n
  rcases kd_spec s n with ⟨h, h1⟩ | ⟨h, h1, h2⟩ | ⟨hn, hp, h⟩
  · exact .inl ⟨h, TL_end h1⟩
  · refine .inr (.inr (.inl ⟨h, ?_⟩))
    obtain ⟨k, hw⟩ : ∃ k, wl s n = k + 1 := ⟨wl s n - 1, by have := wl_pos.2 ⟨h1, h2⟩; omega⟩
    have ht : tl s n = k + 1 := by omega
    rw [TL_word s k n hw, show n + tl s n = n + (k + 1) by omega]
    unfold tk
    rw [ext_bytes, show n + tl s n - n = k + 1 by omega]
  · obtain ⟨c, hc, hs⟩ := drop_at hn
    have e0 : ¬ blankI (c.toNat : Int) = true := fun q => hb ⟨hn, by rw [hs]; exact q⟩
    have e1 : ¬ pB c = true := by unfold pB; rw [← hs, hp]; simp
    have eq (x : UInt8) : sb s n = (x.toNat : Int) ↔ c = x := by
      rw [hs]
      exact ⟨fun q => UInt8.toNat_inj.1 (by omega), fun q => by rw [q]⟩
    have q62 := eq 62; have q60 := eq 60; have q59 := eq 59; have q38 := eq 38; have q124 := eq 124
    simp only [show (62 : UInt8).toNat = 62 from rfl, show (60 : UInt8).toNat = 60 from rfl, show (59 : UInt8).toNat = 59 from rfl, show (38 : UInt8).toNat = 38 from rfl, show (124 : UInt8).toNat = 124 from rfl] at q62 q60 q59 q38 q124
    have step : TL s n = (if c = 62 then (if hB (· == 62) (s.data.toList.drop (n + 1)) = true then (4, []) :: lexS true (s.data.toList.drop (n + 1)) else (3, []) :: lexS false (s.data.toList.drop (n + 1)))
        else if c = 60 then (2, []) :: lexS false (s.data.toList.drop (n + 1)) else if c = 59 then (5, []) :: lexS false (s.data.toList.drop (n + 1)) else if c = 38 then (6, []) :: lexS false (s.data.toList.drop (n + 1)) else if c = 124 then (7, []) :: lexS false (s.data.toList.drop (n + 1)) else [(8, [])]) := by
      unfold TL lexL
      rw [hc]
      simp only [lexS]
      rw [if_neg e0, if_neg e1]
    have h62 : hB (· == 62) (s.data.toList.drop (n + 1)) = true ↔ n + 1 < s.size ∧ sb s (n + 1) = 62 := by
      rw [hB_at]
      constructor
      · rintro ⟨d, h1, h2, h3⟩
        have : d = 62 := by simpa using h3
        subst this; exact ⟨h1, h2⟩
      · rintro ⟨h1, h2⟩; exact ⟨62, h1, h2, rfl⟩
    rcases h with ⟨h, g⟩ | ⟨h, g, g2⟩ | ⟨h, g, g2⟩ | ⟨h, g⟩ | ⟨h, g⟩ | ⟨h, g⟩ | ⟨h, g⟩
    · refine .inr (.inr (.inr ⟨by omega, by omega, by omega, ?_⟩))
      have hc' := q60.1 (by omega)
      rw [step, h, show tl s n = 1 by omega, if_neg (by rw [hc']; decide), if_pos hc']; rfl
    · refine .inr (.inr (.inr ⟨by omega, by omega, by omega, ?_⟩))
      rw [step, h, show tl s n = 1 by omega, if_pos (q62.1 (by omega)), if_neg (fun q => g2 (h62.1 q))]; rfl
    · refine .inr (.inr (.inr ⟨by omega, by omega, by omega, ?_⟩))
      rw [step, h, show tl s n = 2 by omega, if_pos (q62.1 (by omega)), if_pos (h62.2 g2)]
      obtain ⟨d, hd, _⟩ := drop_at g2.1
      unfold TL lexL
      rw [hd]; rfl
    · refine .inr (.inr (.inr ⟨by omega, by omega, by omega, ?_⟩))
      have hc' := q59.1 (by omega)
      rw [step, h, show tl s n = 1 by omega, if_neg (by rw [hc']; decide), if_neg (by rw [hc']; decide), if_pos hc']; rfl
    · refine .inr (.inr (.inr ⟨by omega, by omega, by omega, ?_⟩))
      have hc' := q38.1 (by omega)
      rw [step, h, show tl s n = 1 by omega, if_neg (by rw [hc']; decide), if_neg (by rw [hc']; decide), if_neg (by rw [hc']; decide), if_pos hc']; rfl
    · refine .inr (.inr (.inr ⟨by omega, by omega, by omega, ?_⟩))
      have hc' := q124.1 (by omega)
      rw [step, h, show tl s n = 1 by omega, if_neg (by rw [hc']; decide), if_neg (by rw [hc']; decide), if_neg (by rw [hc']; decide), if_neg (by rw [hc']; decide), if_pos hc']; rfl
    · refine .inr (.inl ⟨h, ?_⟩)
      rw [step, if_neg (fun q => by have := q62.2 q; omega), if_neg (fun q => by have := q60.2 q; omega), if_neg (fun q => by have := q59.2 q; omega), if_neg (fun q => by have := q38.2 q; omega), if_neg (fun q => by have := q124.2 q; omega)]
end
/-! ### Two texts in a row -/
def has8 (T : List Tk) : Bool := T.any fun t => t.1 == 8
def cat (T U : List Tk) : List Tk := if has8 T = true then T else T ++ U
theorem cat_cons {t : Tk} {T U : List Tk} (h : t.1 ≠ 8) : cat (t :: T) U = t :: cat T U := by
  have e : has8 (t :: T) = has8 T := by unfold has8; rw [List.any_cons, beq_false_of_ne h, Bool.false_or]
  unfold cat
  rw [e]
  split <;> rfl
theorem addW_cat {c : UInt8} {T U : List Tk} (h : ∃ w T', T = (1, w) :: T') : cat (addW c T) U = addW c (cat T U) := by
  obtain ⟨w, T', rfl⟩ := h
  show cat ((1, c :: w) :: T') U = _
  rw [cat_cons (by simp), cat_cons (by simp)]; rfl
theorem lex_part {x : UInt8} {r : List UInt8} (h : pB x = true) : ∃ w T', lexS false (x :: r) = (1, w) :: T' := by
  induction r generalizing x with
  | nil => simp only [lexS]; rw [if_neg (by have := part_blank h; rw [this]; simp), if_pos h]; exact ⟨_, _, rfl⟩
  | cons y r ih =>
    simp only [lexS]
    rw [if_neg (by have := part_blank h; rw [this]; simp), if_pos h]
    split
    · rename_i hy
      obtain ⟨w, T', e⟩ := ih (x := y) hy
      simp only [lexS] at e
      rw [e]; exact ⟨_, _, rfl⟩
    · exact ⟨_, _, rfl⟩
/-- Where two texts meet, neither a word nor '>>' is joined. -/
def meet (a b : List UInt8) : Bool := match a.getLast? with
  | none => true
  | some x => !((pB x && hB pB b) || (x == 62 && hB (· == 62) b))
theorem meet_cons {x y : UInt8} {r b : List UInt8} (h : meet (x :: y :: r) b = true) : meet (y :: r) b = true := by
  unfold meet at h ⊢
  rw [List.getLast?_cons_cons] at h; exact h
theorem lex_app (b : List UInt8) : ∀ (a : List UInt8) (k : Bool), (a = [] → k = false) → meet a b = true → lexS k (a ++ b) = cat (lexS k a) (lexS false b)
  | [], k, hk, _ => by rw [hk rfl]; rfl
  | x :: r, k, _, h => by
    have hr : meet r b = true := by
      cases r with
      | nil => rfl
      | cons y r => exact meet_cons h
    have ih := lex_app b r false (fun _ => rfl) hr
    cases k with
    | true => exact ih
    | false =>
      rw [List.cons_append]
      simp only [lexS]
      split
      · exact ih
      split
      · rename_i hp
        cases r with
        | nil =>
          have hb : ¬ hB pB b = true := fun q => by
            simp only [meet, List.getLast?_singleton, hp, q, Bool.and_self, Bool.true_or, Bool.not_true] at h
            cases h
          rw [List.nil_append, if_neg hb]
          show _ = cat ((1, [x]) :: []) _
          rw [cat_cons (by simp)]; rfl
        | cons y r =>
          show (if pB y = true then _ else _) = cat (if pB y = true then _ else _) _
          split
          · rename_i hy
            rw [ih, addW_cat (lex_part hy)]
          · rw [ih, cat_cons (by simp)]
      split
      · rename_i hx
        cases r with
        | nil =>
          have hb : ¬ hB (· == 62) b = true := fun q => by
            simp only [meet, List.getLast?_singleton, hx, q, beq_self_eq_true, Bool.and_self, Bool.or_true, Bool.not_true] at h
            cases h
          rw [List.nil_append, if_neg hb]
          show _ = cat ((3, []) :: []) _
          rw [cat_cons (by simp)]; rfl
        | cons y r =>
          show (if (y == 62) = true then _ else _) = cat (if (y == 62) = true then _ else _) _
          split
          · rw [lex_app b (y :: r) true (fun q => by cases q) hr, cat_cons (by simp)]
          · rw [ih, cat_cons (by simp)]
      split
      · rw [ih, cat_cons (by simp)]
      split
      · rw [ih, cat_cons (by simp)]
      split
      · rw [ih, cat_cons (by simp)]
      split
      · rw [ih, cat_cons (by simp)]
      · rfl
end Go.Proofs.Ytfhcpegemapbkaa
