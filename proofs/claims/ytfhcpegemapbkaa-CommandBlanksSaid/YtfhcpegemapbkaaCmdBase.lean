/-
  Plain words of the layer command: tokens of a source by their places, the program's parser and the reference's as pure functions.
-/
import Derived.Test.YtfhcpegemapbkaaSy
set_option linter.unusedVariables false
namespace Go.Proofs.Ytfhcpegemapbkaa
open Go Go.RowKit Go.Proofs.Sx
/-- A command: words, in, out, append. -/
structure CmdL where
  words : List ByteArray
  inp : ByteArray
  out : ByteArray
  app : Bool
/-- A job: commands, background. -/
structure JobL where
  cmds : List CmdL
  bg : Bool
theorem sb_b (s : ByteArray) (i : Nat) : 0 ≤ sb s i ∧ sb s i ≤ 255 := by
  unfold sb
  have := (s.data.toList.getD i 0).toNat_lt
  omega
def partI (c : Int) : Bool := decide ((97 ≤ c ∧ c ≤ 122) ∨ (48 ≤ c ∧ c ≤ 57) ∨ c = 46 ∨ c = 45 ∨ c = 95 ∨ c = 47)
def blankI (c : Int) : Bool := decide (c = 32 ∨ c = 9)
/-- How many bytes of a kind stand from a place on. -/
def runP (p : Int → Bool) (s : ByteArray) : Nat → Nat → Nat
  | 0, _ => 0
  | k + 1, n => if n < s.size ∧ p (sb s n) = true then runP p s k (n + 1) + 1 else 0
def wl (s : ByteArray) (n : Nat) : Nat := runP partI s (s.size - n) n
def bw (s : ByteArray) (n : Nat) : Nat := runP blankI s (s.size - n) n
def sk (s : ByteArray) (n : Nat) : Nat := n + bw s n
section
variable {p : Int → Bool} {s : ByteArray} {n : Nat}
theorem run_more (h : n < s.size) (hp : p (sb s n) = true) : runP p s (s.size - n) n = runP p s (s.size - (n + 1)) (n + 1) + 1 := by
  rw [show s.size - n = (s.size - (n + 1)) + 1 by omega]
  simp only [runP]
  rw [if_pos ⟨h, hp⟩]
theorem run_stop (h : ¬ (n < s.size ∧ p (sb s n) = true)) : runP p s (s.size - n) n = 0 := by
  cases hk : s.size - n with
  | zero => rfl
  | succ k => simp only [runP]; rw [if_neg h]
theorem run_le (p : Int → Bool) (s : ByteArray) : ∀ k n, runP p s k n ≤ k
  | 0, _ => Nat.le_refl 0
  | k + 1, n => by simp only [runP]; split; { have := run_le p s k (n + 1); omega }; { omega }
theorem runIn (p : Int → Bool) (s : ByteArray) : ∀ k n i, i < runP p s k n → n + i < s.size ∧ p (sb s (n + i)) = true
  | 0, n, i, h => absurd h (Nat.not_lt_zero _)
  | k + 1, n, i, h => by
    simp only [runP] at h
    split at h
    · rename_i hc
      cases i with
      | zero => exact hc
      | succ i => have := runIn p s k (n + 1) i (by omega); rw [show n + (i + 1) = n + 1 + i by omega]; exact this
    · exact absurd h (Nat.not_lt_zero _)
theorem wl_more (h : n < s.size) (hp : partI (sb s n) = true) : wl s n = wl s (n + 1) + 1 := run_more h hp
theorem wl_stop (h : ¬ (n < s.size ∧ partI (sb s n) = true)) : wl s n = 0 := run_stop h
theorem wl_le (s : ByteArray) (n : Nat) : wl s n ≤ s.size - n := run_le _ _ _ _
theorem wl_pos : 0 < wl s n ↔ n < s.size ∧ partI (sb s n) = true := by
  constructor
  · intro h; have := runIn partI s _ n 0 h; simpa using this
  · intro h; rw [wl_more h.1 h.2]; omega
theorem sk_more (h : n < s.size) (hp : blankI (sb s n) = true) : sk s n = sk s (n + 1) := by
  unfold sk bw; rw [run_more h hp]; omega
theorem sk_stop (h : ¬ (n < s.size ∧ blankI (sb s n) = true)) : sk s n = n := by unfold sk bw; rw [run_stop h]; rfl
theorem sk_le (h : n ≤ s.size) : sk s n ≤ s.size := by
  unfold sk bw; have := run_le blankI s (s.size - n) n; omega
theorem le_sk (s : ByteArray) (n : Nat) : n ≤ sk s n := Nat.le_add_right _ _
end
/-- The kind of the token at a place: 0 the end, 1 a word, 2 <, 3 >, 4 >>, 5 ;, 6 &, 7 |, 8 none. -/
def kd (s : ByteArray) (n : Nat) : Nat :=
  if n < s.size then
    if partI (sb s n) = true then 1
    else if sb s n = 60 then 2
    else if sb s n = 62 then (if n + 1 < s.size ∧ sb s (n + 1) = 62 then 4 else 3)
    else if sb s n = 59 then 5 else if sb s n = 38 then 6 else if sb s n = 124 then 7 else 8
  else 0
def tlK (w : Nat) : Nat → Nat
  | 0 => 0
  | 1 => w
  | 4 => 2
  | 8 => 0
  | _ => 1
/-- Its length. -/
def tl (s : ByteArray) (n : Nat) : Nat := tlK (wl s n) (kd s n)
def tk (s : ByteArray) (n : Nat) : ByteArray := s.extract n (n + tl s n)
/-- The place behind a token and the blanks behind it. -/
def nx (s : ByteArray) (n : Nat) : Nat := sk s (n + tl s n)
section
variable {s : ByteArray} {n : Nat}
/-- What each kind says. -/
theorem kd_spec (s : ByteArray) (n : Nat) :
    (kd s n = 0 ∧ ¬ n < s.size) ∨ (kd s n = 1 ∧ n < s.size ∧ partI (sb s n) = true) ∨
    (n < s.size ∧ partI (sb s n) = false ∧ ((kd s n = 2 ∧ sb s n = 60) ∨ (kd s n = 3 ∧ sb s n = 62 ∧ ¬ (n + 1 < s.size ∧ sb s (n + 1) = 62)) ∨ (kd s n = 4 ∧ sb s n = 62 ∧ n + 1 < s.size ∧ sb s (n + 1) = 62) ∨
      (kd s n = 5 ∧ sb s n = 59) ∨ (kd s n = 6 ∧ sb s n = 38) ∨ (kd s n = 7 ∧ sb s n = 124) ∨ (kd s n = 8 ∧ sb s n ≠ 60 ∧ sb s n ≠ 62 ∧ sb s n ≠ 59 ∧ sb s n ≠ 38 ∧ sb s n ≠ 124))) := by
  unfold kd
  by_cases h : n < s.size
  · rw [if_pos h]
    by_cases hp : partI (sb s n) = true
    · rw [if_pos hp]; exact .inr (.inl ⟨rfl, h, hp⟩)
    · rw [if_neg hp]
      refine .inr (.inr ⟨h, by simpa using hp, ?_⟩)
      by_cases h1 : sb s n = 60
      · rw [if_pos h1]; exact .inl ⟨rfl, h1⟩
      rw [if_neg h1]
      by_cases h2 : sb s n = 62
      · rw [if_pos h2]
        by_cases h3 : n + 1 < s.size ∧ sb s (n + 1) = 62
        · rw [if_pos h3]; exact .inr (.inr (.inl ⟨rfl, h2, h3.1, h3.2⟩))
        · rw [if_neg h3]; exact .inr (.inl ⟨rfl, h2, h3⟩)
      rw [if_neg h2]
      by_cases h3 : sb s n = 59
      · rw [if_pos h3]; simp [h3]
      rw [if_neg h3]
      by_cases h4 : sb s n = 38
      · rw [if_pos h4]; simp [h4]
      rw [if_neg h4]
      by_cases h5 : sb s n = 124
      · rw [if_pos h5]; simp [h5]
      rw [if_neg h5]; simp [h1, h2, h3, h4, h5]
  · rw [if_neg h]; exact .inl ⟨rfl, h⟩
theorem tl_of {k : Nat} (h : kd s n = k) : tl s n = tlK (wl s n) k := by unfold tl; rw [h]
theorem tl_le (s : ByteArray) (n : Nat) : tl s n ≤ s.size - n := by
  have hw := wl_le s n
  rcases kd_spec s n with ⟨h, _⟩ | ⟨h, _⟩ | ⟨hn, _, h⟩
  · rw [tl_of h]; exact Nat.zero_le _
  · rw [tl_of h]; exact hw
  · rcases h with ⟨h, _⟩ | ⟨h, _⟩ | ⟨h, _, h2, _⟩ | ⟨h, _⟩ | ⟨h, _⟩ | ⟨h, _⟩ | ⟨h, _⟩ <;> rw [tl_of h] <;> simp only [tlK] <;> omega
/-- The length goes with the kind. -/
theorem tl_kd (s : ByteArray) (n : Nat) : (kd s n = 0 ∧ tl s n = 0) ∨ (kd s n = 8 ∧ tl s n = 0) ∨ (kd s n = 1 ∧ tl s n = wl s n ∧ 1 ≤ wl s n) ∨ (kd s n = 4 ∧ tl s n = 2) ∨ ((kd s n = 2 ∨ kd s n = 3 ∨ kd s n = 5 ∨ kd s n = 6 ∨ kd s n = 7) ∧ tl s n = 1) := by
  rcases kd_spec s n with ⟨h, _⟩ | ⟨h, h1, h2⟩ | ⟨hn, _, h⟩
  · exact .inl ⟨h, tl_of h⟩
  · exact .inr (.inr (.inl ⟨h, tl_of h, wl_pos.2 ⟨h1, h2⟩⟩))
  · rcases h with ⟨h, _⟩ | ⟨h, _⟩ | ⟨h, _, h2, _⟩ | ⟨h, _⟩ | ⟨h, _⟩ | ⟨h, _⟩ | ⟨h, _⟩ <;> have ht := tl_of h <;> simp only [tlK] at ht <;> omega
theorem nx_le (h : n ≤ s.size) : nx s n ≤ s.size := by
  unfold nx; have := tl_le s n; exact sk_le (by omega)
theorem nx_gt (h : kd s n ≠ 0 ∧ kd s n ≠ 8) : n < nx s n := by
  unfold nx
  have h1 := le_sk s (n + tl s n)
  have h2 := tl_kd s n
  omega
/-- The bytes of a token. -/
theorem ext_bytes (s : ByteArray) (n m : Nat) : (s.extract n m).data.toList = (s.data.toList.drop n).take (m - n) := by
  simp only [ByteArray.data_extract, Array.toList_extract, List.extract_eq_take_drop]
theorem tk_size (s : ByteArray) (n : Nat) : (tk s n).size = tl s n := by
  unfold tk
  have h := tl_le s n
  rw [ByteArray.size_extract]; omega
theorem sb_ext {a b i : Nat} (h : i < b - a) : sb (s.extract a b) i = sb s (a + i) := by
  unfold sb
  rw [ext_bytes, List.getD_eq_getElem?_getD, List.getD_eq_getElem?_getD, List.getElem?_take, if_pos h, List.getElem?_drop]
theorem sb_tk {i : Nat} (h : i < tl s n) : sb (tk s n) i = sb s (n + i) := sb_ext (by omega)
theorem size_list (s : ByteArray) : s.data.toList.length = s.size := by rw [Array.length_toList]; rfl
theorem str_empty (s : ByteArray) : (s.toList == (⟨#[]⟩ : ByteArray).toList) = decide (s.size = 0) := by
  rw [bytes_toList, bytes_toList, ← size_list s]
  cases s.data.toList with
  | nil => rfl
  | cons x r => simp
theorem sb_eq (s : ByteArray) (i : Nat) (x : UInt8) (h : i < s.size) : sb s i = (x.toNat : Int) ↔ s.data.toList[i]? = some x := by
  unfold sb
  rw [← size_list] at h
  rw [List.getD_eq_getElem?_getD, List.getElem?_eq_getElem h]
  simp only [Option.getD_some, Option.some.injEq]
  constructor
  · intro e; exact UInt8.toNat_inj.1 (by omega)
  · intro e; rw [e]
theorem str_one (s : ByteArray) (x : UInt8) : (s.toList == (⟨#[x]⟩ : ByteArray).toList) = decide (s.size = 1 ∧ sb s 0 = (x.toNat : Int)) := by
  rw [bytes_toList, bytes_toList]
  have hs := size_list s
  have hb := sb_eq s 0 x
  show (s.data.toList == [x]) = _
  match hl : s.data.toList with
  | [] => rw [hl] at hs; simp only [List.length_nil] at hs; rw [← hs]; simp
  | [y] =>
    rw [hl] at hs hb
    simp only [List.length_cons, List.length_nil] at hs
    have := hb (by omega)
    simp only [List.getElem?_cons_zero, Option.some.injEq] at this
    simp only [← hs, this, true_and]
    rw [Bool.eq_iff_iff]; simp
  | y :: z :: r => rw [hl] at hs; simp only [List.length_cons] at hs; rw [Bool.eq_iff_iff]; simp; omega
theorem str_two (s : ByteArray) (x y : UInt8) : (s.toList == (⟨#[x, y]⟩ : ByteArray).toList) = decide (s.size = 2 ∧ sb s 0 = (x.toNat : Int) ∧ sb s 1 = (y.toNat : Int)) := by
  rw [bytes_toList, bytes_toList]
  have hs := size_list s
  have hb := sb_eq s 0 x
  have hc := sb_eq s 1 y
  show (s.data.toList == [x, y]) = _
  match hl : s.data.toList with
  | [] => rw [hl] at hs; simp only [List.length_nil] at hs; rw [← hs]; simp
  | [y'] => rw [hl] at hs; simp only [List.length_cons, List.length_nil] at hs; rw [← hs]; simp
  | [x', y'] =>
    rw [hl] at hs hb hc
    simp only [List.length_cons, List.length_nil] at hs
    have h1 := hb (by omega)
    have h2 := hc (by omega)
    simp only [List.getElem?_cons_zero, List.getElem?_cons_succ, Option.some.injEq] at h1 h2
    simp only [← hs, h1, h2, true_and]
    rw [Bool.eq_iff_iff]; simp
  | x' :: y' :: z :: r => rw [hl] at hs; simp only [List.length_cons] at hs; rw [Bool.eq_iff_iff]; simp; omega
theorem not_part {c : Int} (h : partI c = true) : c ≠ 60 ∧ c ≠ 62 ∧ c ≠ 59 ∧ c ≠ 38 ∧ c ≠ 124 ∧ c ≠ 32 ∧ c ≠ 9 := by
  unfold partI at h
  have := of_decide_eq_true h
  omega
theorem tk_none (s : ByteArray) (n : Nat) : ((tk s n).toList == (⟨#[]⟩ : ByteArray).toList) = decide (kd s n = 0 ∨ kd s n = 8) := by
  rw [str_empty, tk_size]
  have := tl_kd s n
  exact decide_eq_decide.2 (by omega)
theorem tk_one (x : UInt8) (k : Nat) (hx : (x.toNat = 60 ∧ k = 2) ∨ (x.toNat = 62 ∧ k = 3) ∨ (x.toNat = 59 ∧ k = 5) ∨ (x.toNat = 38 ∧ k = 6) ∨ (x.toNat = 124 ∧ k = 7)) (s : ByteArray) (n : Nat) : ((tk s n).toList == (⟨#[x]⟩ : ByteArray).toList) = decide (kd s n = k) := by
  rw [str_one, tk_size]
  refine decide_eq_decide.2 ?_
  have h1 := tl_kd s n
  have h2 := kd_spec s n
  constructor
  · rintro ⟨e1, e2⟩
    rw [sb_tk (by omega), Nat.add_zero] at e2
    rcases h2 with ⟨h, _⟩ | ⟨h, _, hp⟩ | ⟨_, _, h⟩
    · omega
    · have := not_part hp; omega
    · omega
  · intro e
    have ht : tl s n = 1 := by omega
    refine ⟨ht, ?_⟩
    rw [sb_tk (by omega), Nat.add_zero]
    rcases h2 with ⟨h, _⟩ | ⟨h, _, hp⟩ | ⟨_, _, h⟩
    · omega
    · omega
    · omega
theorem tk_lt (s : ByteArray) (n : Nat) : ((tk s n).toList == (⟨#[60]⟩ : ByteArray).toList) = decide (kd s n = 2) := tk_one 60 2 (by decide) s n
theorem tk_gt (s : ByteArray) (n : Nat) : ((tk s n).toList == (⟨#[62]⟩ : ByteArray).toList) = decide (kd s n = 3) := tk_one 62 3 (by decide) s n
theorem tk_semi (s : ByteArray) (n : Nat) : ((tk s n).toList == (⟨#[59]⟩ : ByteArray).toList) = decide (kd s n = 5) := tk_one 59 5 (by decide) s n
theorem tk_amp (s : ByteArray) (n : Nat) : ((tk s n).toList == (⟨#[38]⟩ : ByteArray).toList) = decide (kd s n = 6) := tk_one 38 6 (by decide) s n
theorem tk_bar (s : ByteArray) (n : Nat) : ((tk s n).toList == (⟨#[124]⟩ : ByteArray).toList) = decide (kd s n = 7) := tk_one 124 7 (by decide) s n
theorem tk_app (s : ByteArray) (n : Nat) : ((tk s n).toList == (⟨#[62, 62]⟩ : ByteArray).toList) = decide (kd s n = 4) := by
  rw [str_two, tk_size]
  refine decide_eq_decide.2 ?_
  have h1 := tl_kd s n
  have h2 := kd_spec s n
  show (_ ∧ _ = (62 : Int) ∧ _ = (62 : Int)) ↔ _
  constructor
  · rintro ⟨e1, e2, e3⟩
    rw [sb_tk (by omega), Nat.add_zero] at e2
    rcases h2 with ⟨h, _⟩ | ⟨h, _, hp⟩ | ⟨_, _, h⟩
    · omega
    · have := not_part hp; omega
    · omega
  · intro e
    have ht : tl s n = 2 := by omega
    rw [sb_tk (by omega), sb_tk (by omega), Nat.add_zero]
    refine ⟨ht, ?_⟩
    rcases h2 with ⟨h, _⟩ | ⟨h, _, hp⟩ | ⟨_, _, h⟩
    · omega
    · omega
    · omega
end
/-! ### What a method of the parser ends with: an error and its place, or a value and the place behind -/
abbrev PR (α : Type) := Except (Nat × Int) (α × Nat)
def wordP (s : ByteArray) (n : Nat) : PR ByteArray :=
  if kd s n ≠ 1 then .error (n, 3) else if 60 < tl s n then .error (n, 6) else .ok (tk s n, nx s n)
def redirP (s : ByteArray) (c : CmdL) (n : Nat) : PR CmdL :=
  if (kd s n = 2 ∧ c.inp.size ≠ 0) ∨ (kd s n ≠ 2 ∧ c.out.size ≠ 0) then .error (n, 3)
  else match wordP s (nx s n) with
    | .error e => .error e
    | .ok (w, m) => .ok (if kd s n = 2 then ⟨c.words, w, c.out, c.app⟩ else ⟨c.words, c.inp, w, decide (kd s n = 4)⟩, m)
/-- 'soft': a second redirection ends the command (the reference) in place of an error (the program). -/
def cmdF (soft : Bool) (s : ByteArray) : Nat → CmdL → Nat → PR CmdL
  | 0, c, n => .ok (c, n)
  | k + 1, c, n =>
    if kd s n = 1 then
      if c.words.length = 4 then .error (n, 6)
      else match wordP s n with
        | .error e => .error e
        | .ok (w, m) => cmdF soft s k ⟨c.words ++ [w], c.inp, c.out, c.app⟩ m
    else if (kd s n = 2 ∨ kd s n = 3 ∨ kd s n = 4) ∧ ¬ (soft = true ∧ ((kd s n = 2 ∧ c.inp.size ≠ 0) ∨ (kd s n ≠ 2 ∧ c.out.size ≠ 0))) then
      match redirP s c n with
        | .error e => .error e
        | .ok (c', m) => cmdF soft s k c' m
    else if c.words.length = 0 then .error (n, 3) else .ok (c, n)
def cmd0 : CmdL := ⟨[], ⟨#[]⟩, ⟨#[]⟩, false⟩
def cmdP (soft : Bool) (s : ByteArray) (n : Nat) : PR CmdL := cmdF soft s (s.size + 1) cmd0 n
def begK (k : Nat) : Bool := decide (1 ≤ k ∧ k ≤ 4)
def jobF (soft : Bool) (s : ByteArray) : Nat → List CmdL → Nat → PR (List CmdL)
  | 0, l, n => .ok (l, n)
  | k + 1, l, n =>
    if kd s n = 7 then
      if l.length = 4 ∧ begK (kd s (nx s n)) = true then .error (nx s n, 6)
      else match cmdP soft s (nx s n) with
        | .error e => .error e
        | .ok (c, m) => jobF soft s k (l ++ [c]) m
    else .ok (l, n)
def jobP (soft : Bool) (s : ByteArray) (n : Nat) : PR (List CmdL) :=
  match cmdP soft s n with
  | .error e => .error e
  | .ok (c, m) => jobF soft s (s.size + 1) [c] m
def lineF (soft : Bool) (s : ByteArray) : Nat → List JobL → Nat → Except (Nat × Int) (List JobL)
  | 0, l, _ => .ok l
  | k + 1, l, n =>
    if n < s.size then
      if l.length = 8 ∧ begK (kd s n) = true then .error (n, 6)
      else match jobP soft s n with
        | .error e => .error e
        | .ok (cs, m) =>
          if kd s m = 0 then .ok (l ++ [⟨cs, decide (kd s m = 6)⟩])
          else if kd s m = 5 ∨ kd s m = 6 then lineF soft s k (l ++ [⟨cs, decide (kd s m = 6)⟩]) (nx s m)
          else .error (m, 3)
    else .ok l
def lineP (soft : Bool) (s : ByteArray) : Except (Nat × Int) (List JobL) := lineF soft s (s.size + 1) [] (sk s 0)
/-! ### Words -/
def okW (s : ByteArray) : Nat → Bool
  | 0 => true
  | k + 1 => okW s k && partI (sb s k)
theorem okW_no {s : ByteArray} {i : Nat} (h : partI (sb s i) = false) : ∀ m, i < m → okW s m = false
  | 0, hm => by omega
  | m + 1, hm => by
    simp only [okW]
    by_cases e : i = m
    · subst e; rw [h, Bool.and_false]
    · rw [okW_no h m (by omega)]; rfl
def isWordB (s : ByteArray) : Bool := okW s s.size && decide (1 ≤ s.size ∧ s.size ≤ 60)
theorem isw_no {s : ByteArray} {i : Nat} (h : partI (sb s i) = false) (hi : i < s.size) : isWordB s = false := by unfold isWordB; rw [okW_no h _ hi]; rfl
theorem isw_len {s : ByteArray} (h : okW s s.size = true) : isWordB s = decide (1 ≤ s.size ∧ s.size ≤ 60) := by unfold isWordB; rw [h, Bool.true_and]
end Go.Proofs.Ytfhcpegemapbkaa
