/-
  The layer command: the tokens of a printed line and of a command with its redirections ahead; two lines in a row.
-/
import Derived.Test.YtfhcpegemapbkaaCmdFuel
import Derived.Test.YtfhcpegemapbkaaPrinte
set_option linter.unusedVariables false
set_option linter.unusedSimpArgs false
namespace Go.Proofs.Ytfhcpegemapbkaa
open Go Go.RowKit Go.Proofs.Sx
def wT (u : ByteArray) : Tk := (1, u.data.toList)
section
variable {k : Nat} {c d : CmdL} {u : ByteArray} {U : List Tk}
theorem wordT_w (hu : u.size ≤ 60) : wordT (wT u :: U) = .ok (u, U) := by
  have hl : ¬ 60 < u.data.toList.length := by rw [size_list]; omega
  show (if (1 : Nat) ≠ 1 then Except.error 3 else if 60 < u.data.toList.length then Except.error 6 else Except.ok (bT u.data.toList, U)) = _
  rw [if_neg (by simp), if_neg hl, bT_of]
theorem cmdT_w (h : c.words.length ≠ 4) (hu : u.size ≤ 60) : cmdT (k + 1) c (wT u :: U) = cmdT k ⟨c.words ++ [u], c.inp, c.out, c.app⟩ U := by
  simp only [cmdT]
  rw [if_pos (show hK (wT u :: U) = 1 from rfl), if_neg h]
  simp only [wordT_w hu]
theorem cmdT_ws (k : Nat) (U : List Tk) : ∀ (ws : List ByteArray) (c : CmdL), c.words.length + ws.length ≤ 4 → (∀ u ∈ ws, u.size ≤ 60) → cmdT (k + ws.length) c (ws.map wT ++ U) = cmdT k ⟨c.words ++ ws, c.inp, c.out, c.app⟩ U
  | [], c, _, _ => by simp
  | u :: r, c, h, hs => by
    rw [List.length_cons] at h
    show cmdT (k + r.length + 1) c (wT u :: (r.map wT ++ U)) = _
    rw [cmdT_w (by omega) (hs u List.mem_cons_self), cmdT_ws k U r _ (by simp only [List.length_append, List.length_cons, List.length_nil]; omega) fun v hv => hs v (List.mem_cons_of_mem _ hv)]
    simp only [List.append_assoc, List.cons_append, List.nil_append]
theorem redirT_w {q : Nat} (hg : ¬ ((q = 2 ∧ c.inp.size ≠ 0) ∨ (q ≠ 2 ∧ c.out.size ≠ 0))) (hu : u.size ≤ 60) : redirT c q (wT u :: U) = .ok (if q = 2 then ⟨c.words, u, c.out, c.app⟩ else ⟨c.words, c.inp, u, decide (q = 4)⟩, U) := by
  unfold redirT
  rw [if_neg hg]
  simp only [wordT_w hu]
theorem cmdT_r {q : Nat} (hq : q = 2 ∨ q = 3 ∨ q = 4) (hg : ¬ ((q = 2 ∧ c.inp.size ≠ 0) ∨ (q ≠ 2 ∧ c.out.size ≠ 0))) (hu : u.size ≤ 60) : cmdT (k + 1) c ((q, []) :: wT u :: U) = cmdT k (if q = 2 then ⟨c.words, u, c.out, c.app⟩ else ⟨c.words, c.inp, u, decide (q = 4)⟩) U := by
  have e : hK ((q, []) :: wT u :: U) = q := rfl
  simp only [cmdT]
  rw [e, if_neg (by omega), if_pos hq, List.tail_cons]
  simp only [redirT_w hg hu]
theorem cmdT_in (h : c.inp.size = 0) (hu : u.size ≤ 60) : cmdT (k + 1) c ((2, []) :: wT u :: U) = cmdT k ⟨c.words, u, c.out, c.app⟩ U :=
  cmdT_r (q := 2) (.inl rfl) (by omega) hu
theorem cmdT_out {q : Nat} (hq : q = 3 ∨ q = 4) (h : c.out.size = 0) (hu : u.size ≤ 60) : cmdT (k + 1) c ((q, []) :: wT u :: U) = cmdT k ⟨c.words, c.inp, u, decide (q = 4)⟩ U := by
  have := cmdT_r (k := k) (c := c) (u := u) (U := U) (q := q) (by omega) (by omega) hu
  rwa [if_neg (show ¬ q = 2 by omega)] at this
theorem cmdT_end (hU : begK (hK U) = false) (hc : c.words.length ≠ 0) : cmdT (k + 1) c U = .ok (c, U) := by
  have h := of_decide_eq_false hU
  simp only [cmdT]
  rw [if_neg (by omega), if_neg (by omega), if_neg hc]
theorem ba_nil (h : u.size = 0) : u = ⟨#[]⟩ := ba_ext (List.length_eq_zero_iff.1 (by rw [size_list]; exact h))
def inpT (d : CmdL) : List Tk := if d.inp.size = 0 then [] else [(2, []), wT d.inp]
def outT (d : CmdL) : List Tk := if d.app = true then [(4, []), wT d.out] else if d.out.size = 0 then [] else [(3, []), wT d.out]
def tokC (d : CmdL) : List Tk := d.words.map wT ++ (inpT d ++ outT d)
theorem cmdT_inT (h : c.inp = ⟨#[]⟩) (hd : d.inp.size ≤ 60) (k : Nat) (U : List Tk) : cmdT (k + (inpT d).length / 2) c (inpT d ++ U) = cmdT k ⟨c.words, d.inp, c.out, c.app⟩ U := by
  unfold inpT
  by_cases hi : d.inp.size = 0
  · rw [if_pos hi, ba_nil hi, ← h]; rfl
  · have e : ([(2, []), wT d.inp] : List Tk).length / 2 = 1 := by simp
    rw [if_neg hi, e]
    exact cmdT_in (by rw [h]; rfl) hd
theorem cmdT_outT (h : c.out = ⟨#[]⟩) (ha : c.app = false) (hd : d.out.size ≤ 60) (k : Nat) (U : List Tk) : cmdT (k + (outT d).length / 2) c (outT d ++ U) = cmdT k ⟨c.words, c.inp, d.out, d.app⟩ U := by
  unfold outT
  by_cases hp : d.app = true
  · have e : ([(4, []), wT d.out] : List Tk).length / 2 = 1 := by simp
    rw [if_pos hp, hp, e]
    exact cmdT_out (.inr rfl) (by rw [h]; rfl) hd
  · have hp' : d.app = false := by simpa using hp
    rw [if_neg hp]
    by_cases ho : d.out.size = 0
    · rw [if_pos ho, ba_nil ho, hp', ← h, ← ha]; rfl
    · have e : ([(3, []), wT d.out] : List Tk).length / 2 = 1 := by simp
      rw [if_neg ho, hp', e]
      exact cmdT_out (.inl rfl) (by rw [h]; rfl) hd
theorem inpT_len (d : CmdL) : (inpT d).length / 2 ≤ 1 := by unfold inpT; split <;> simp
theorem outT_len (d : CmdL) : (outT d).length / 2 ≤ 1 := by unfold outT; split <;> (try split) <;> simp
theorem cmdT_C (h : validC d = true) (hU : begK (hK U) = false) (k : Nat) : cmdT (k + 7) cmd0 (tokC d ++ U) = .ok (d, U) := by
  obtain ⟨h1, h2, h3, h4, _⟩ := validC_facts h
  have hi := inpT_len d
  have ho := outT_len d
  obtain ⟨m, hm⟩ : ∃ m, k + 7 = m + 1 + (outT d).length / 2 + (inpT d).length / 2 + d.words.length := ⟨k + 6 - (outT d).length / 2 - (inpT d).length / 2 - d.words.length, by omega⟩
  unfold tokC
  rw [hm, List.append_assoc, List.append_assoc, cmdT_ws _ _ _ _ (by show 0 + _ ≤ 4; omega) fun u hu => (isw_size (h1 u hu)).2, cmdT_inT rfl (optB_size h3), cmdT_outT rfl rfl (optB_size h4)]
  exact cmdT_end hU (by show ([] ++ d.words).length ≠ 0; rw [List.nil_append]; omega)
theorem cmdT_R (h : validC d = true) (hU : begK (hK U) = false) (k : Nat) : cmdT (k + 7) cmd0 (outT d ++ (inpT d ++ (d.words.map wT ++ U))) = .ok (d, U) := by
  obtain ⟨h1, h2, h3, h4, _⟩ := validC_facts h
  have hi := inpT_len d
  have ho := outT_len d
  obtain ⟨m, hm⟩ : ∃ m, k + 7 = m + 1 + d.words.length + (inpT d).length / 2 + (outT d).length / 2 := ⟨k + 6 - (outT d).length / 2 - (inpT d).length / 2 - d.words.length, by omega⟩
  rw [hm, cmdT_outT rfl rfl (optB_size h4), cmdT_inT rfl (optB_size h3), cmdT_ws _ _ _ _ (by show 0 + _ ≤ 4; omega) fun u hu => (isw_size (h1 u hu)).2]
  exact cmdT_end hU (by show ([] ++ d.words).length ≠ 0; rw [List.nil_append]; omega)
end
/-! ### Jobs -/
def tokJs : List CmdL → List Tk
  | [] => []
  | c :: r => (7, []) :: (tokC c ++ tokJs r)
def tokJ : List CmdL → List Tk
  | [] => []
  | c :: r => tokC c ++ tokJs r
def sepT (bg last : Bool) : List Tk := if bg = true then [(6, [])] else if last = true then [] else [(5, [])]
def tokLs : List JobL → List Tk
  | [] => []
  | x :: r => tokJ x.cmds ++ (sepT x.bg r.isEmpty ++ tokLs r)
theorem hK_Js (v : List CmdL) (U : List Tk) (hU : begK (hK U) = false) : begK (hK (tokJs v ++ U)) = false := by
  cases v with
  | nil => exact hU
  | cons c r => rfl
theorem jobT_Js {F : Nat} (hF : 7 ≤ F) (U : List Tk) (hU : begK (hK U) = false) (h7 : hK U ≠ 7) : ∀ (v : List CmdL) (k : Nat) (l : List CmdL), (∀ c ∈ v, validC c = true) → l.length + v.length ≤ 4 → v.length < k → jobT F k l (tokJs v ++ U) = .ok (l ++ v, U)
  | _, 0, _, _, _, h => absurd h (Nat.not_lt_zero _)
  | [], k + 1, l, _, _, _ => by
    show jobT F (k + 1) l U = _
    simp only [jobT]
    rw [if_neg h7, List.append_nil]
  | c :: r, k + 1, l, hv, hl, hk => by
    rw [List.length_cons] at hl hk
    obtain ⟨f, rfl⟩ : ∃ f, F = f + 7 := ⟨F - 7, by omega⟩
    show jobT (f + 7) (k + 1) l ((7, []) :: (tokC c ++ tokJs r ++ U)) = _
    simp only [jobT]
    rw [if_pos (show hK ((7, []) :: (tokC c ++ tokJs r ++ U)) = 7 from rfl), if_neg (fun q => by omega), List.tail_cons, List.append_assoc, cmdT_C (hv c List.mem_cons_self) (hK_Js r U hU)]
    simp only
    rw [jobT_Js hF U hU h7 r k _ (fun x hx => hv x (List.mem_cons_of_mem _ hx)) (by simp only [List.length_append, List.length_cons, List.length_nil]; omega) (by omega)]
    simp only [List.append_assoc, List.cons_append, List.nil_append]
theorem job1T_J {F : Nat} (hF : 12 ≤ F) {x : JobL} (hx : validJ x = true) (U : List Tk) (hU : begK (hK U) = false) (h7 : hK U ≠ 7) : job1T F (tokJ x.cmds ++ U) = .ok (x.cmds, U) := by
  unfold validJ at hx
  rw [Bool.and_eq_true, List.all_eq_true] at hx
  have hl := of_decide_eq_true hx.1
  have hv := hx.2
  obtain ⟨f, rfl⟩ : ∃ f, F = f + 7 := ⟨F - 7, by omega⟩
  match hc : x.cmds, hl, hv with
  | [], hl, _ => exact absurd hl.1 (by simp)
  | c :: r, hl, hv =>
    rw [List.length_cons] at hl
    show job1T (f + 7) (tokC c ++ tokJs r ++ U) = _
    unfold job1T
    rw [List.append_assoc, cmdT_C (hv c List.mem_cons_self) (hK_Js r U hU)]
    simp only
    rw [jobT_Js (by omega) U hU h7 r _ _ (fun x hx => hv x (List.mem_cons_of_mem _ hx)) (by simp only [List.length_cons, List.length_nil]; omega) (by omega)]
    rfl
theorem tokC_ne {d : CmdL} (h : validC d = true) (U : List Tk) : (tokC d ++ U).isEmpty = false := by
  obtain ⟨_, h2, _⟩ := validC_facts h
  unfold tokC
  cases hw : d.words with
  | nil => rw [hw] at h2; simp at h2
  | cons x r => rfl
theorem tokJ_ne {x : JobL} (hx : validJ x = true) (U : List Tk) : (tokJ x.cmds ++ U).isEmpty = false := by
  unfold validJ at hx
  rw [Bool.and_eq_true, List.all_eq_true] at hx
  have hl := of_decide_eq_true hx.1
  cases hc : x.cmds with
  | nil => rw [hc] at hl; simp at hl
  | cons c r =>
    show (tokC c ++ tokJs r ++ U).isEmpty = false
    rw [List.append_assoc]
    exact tokC_ne (hx.2 c (by rw [hc]; exact List.mem_cons_self)) _
theorem lineT_Ls {F : Nat} (hF : 12 ≤ F) : ∀ (v : List JobL) (k : Nat) (l : List JobL), (∀ x ∈ v, validJ x = true) → l.length + v.length ≤ 8 → v.length < k → lineT F k l (tokLs v) = .ok (l ++ v)
  | _, 0, _, _, _, h => absurd h (Nat.not_lt_zero _)
  | [], k + 1, l, _, _, _ => by
    show lineT F (k + 1) l [] = _
    simp only [lineT]
    rw [if_pos (show ([] : List Tk).isEmpty = true from rfl), List.append_nil]
  | ⟨cs, bg⟩ :: r, k + 1, l, hv, hl, hk => by
    rw [List.length_cons] at hl hk
    have hx := hv ⟨cs, bg⟩ List.mem_cons_self
    have ih := lineT_Ls hF r k (l ++ [⟨cs, bg⟩]) (fun x hx => hv x (List.mem_cons_of_mem _ hx)) (by simp only [List.length_append, List.length_cons, List.length_nil]; omega) (by omega)
    have hne : (tokJ cs ++ (sepT bg r.isEmpty ++ tokLs r)).isEmpty = false := tokJ_ne hx _
    show lineT F (k + 1) l (tokJ cs ++ (sepT bg r.isEmpty ++ tokLs r)) = _
    simp only [lineT]
    rw [if_neg (show ¬ (tokJ cs ++ (sepT bg r.isEmpty ++ tokLs r)).isEmpty = true by rw [hne]; simp), if_neg (fun q => by omega)]
    have hj : ∀ U, begK (hK U) = false → hK U ≠ 7 → job1T F (tokJ cs ++ U) = .ok (cs, U) := fun U h1 h2 => job1T_J hF hx U h1 h2
    cases bg with
    | true =>
      rw [hj _ rfl (by show 6 ≠ 7; decide)]
      show (if (6 : Nat) = 0 then _ else if (6 : Nat) = 5 ∨ (6 : Nat) = 6 then lineT F k (l ++ [⟨cs, decide ((6 : Nat) = 6)⟩]) (tokLs r) else _) = _
      rw [if_neg (by decide), if_pos (by decide)]
      refine Eq.trans ?_ (ih.trans ?_)
      · rfl
      · simp only [List.append_assoc, List.cons_append, List.nil_append]
    | false =>
      cases r with
      | nil =>
        rw [hj _ rfl (by show 0 ≠ 7; decide)]
        rfl
      | cons y r =>
        rw [hj _ rfl (by show 5 ≠ 7; decide)]
        show (if (5 : Nat) = 0 then _ else if (5 : Nat) = 5 ∨ (5 : Nat) = 6 then lineT F k (l ++ [⟨cs, decide ((5 : Nat) = 6)⟩]) (tokLs (y :: r)) else _) = _
        rw [if_neg (by decide), if_pos (by decide)]
        refine Eq.trans ?_ (ih.trans ?_)
        · rfl
        · simp only [List.append_assoc, List.cons_append, List.nil_append]
theorem lineG_more (T : List Tk) (k : Nat) : lineG T = lineT (T.length + k + 1) (T.length + k + 1) [] T := lineT_fuel _ _ _ _ (by omega) (by omega) (by omega) (by omega)
theorem validL_parts {v : List JobL} (h : validL v = true) : (∀ x ∈ v, validJ x = true) ∧ v.length ≤ 8 := by
  unfold validL at h
  rw [Bool.and_eq_true, List.all_eq_true] at h
  exact ⟨h.1, of_decide_eq_true h.2⟩
theorem lineG_Ls {v : List JobL} (h : validL v = true) : lineG (tokLs v) = .ok v := by
  obtain ⟨h1, h2⟩ := validL_parts h
  rw [lineG_more _ 20]
  exact lineT_Ls (by omega) v _ [] h1 (by simpa using h2) (by omega)
theorem lineG_R {d : CmdL} (h : validC d = true) : lineG (outT d ++ (inpT d ++ d.words.map wT)) = .ok [⟨[d], false⟩] := by
  rw [lineG_more _ 20]
  generalize hm : (outT d ++ (inpT d ++ d.words.map wT)).length + 20 + 1 = m
  obtain ⟨m, rfl⟩ : ∃ k, m = k + 7 := ⟨m - 7, by omega⟩
  have hne : (outT d ++ (inpT d ++ d.words.map wT)).isEmpty = false := by
    obtain ⟨_, h2, _⟩ := validC_facts h
    cases hw : d.words with
    | nil => rw [hw] at h2; simp at h2
    | cons x r => simp
  have hc := cmdT_R (U := []) h rfl m
  rw [List.append_nil] at hc
  have hj : job1T (m + 7) (outT d ++ (inpT d ++ d.words.map wT)) = .ok ([d], []) := by unfold job1T; rw [hc]; rfl
  show lineT (m + 7) (m + 6 + 1) [] _ = _
  simp only [lineT]
  rw [if_neg (show ¬ (outT d ++ (inpT d ++ d.words.map wT)).isEmpty = true by rw [hne]; simp), if_neg (fun q => by simp at q), hj]
  rfl
/-! ### Texts -/
theorem okW_get {s : ByteArray} : ∀ k, okW s k = true → ∀ i, i < k → partI (sb s i) = true
  | 0, _, i, hi => absurd hi (Nat.not_lt_zero _)
  | k + 1, h, i, hi => by
    simp only [okW, Bool.and_eq_true] at h
    by_cases e : i = k
    · rw [e]; exact h.2
    · exact okW_get k h.1 i (by omega)
theorem isw_pB {u : ByteArray} (h : isWordB u = true) : ∀ x ∈ u.data.toList, pB x = true := by
  intro x hx
  unfold isWordB at h
  rw [Bool.and_eq_true] at h
  obtain ⟨i, hi, he⟩ := List.mem_iff_getElem.1 hx
  have := okW_get u.size h.1 i (by rw [← size_list]; exact hi)
  unfold sb at this
  rw [List.getD_eq_getElem?_getD, List.getElem?_eq_getElem hi, he] at this
  exact this
theorem isw_ne {u : ByteArray} (h : isWordB u = true) : u.data.toList ≠ [] := fun e => by have h1 := (isw_size h).1; rw [← size_list, e] at h1; simp at h1
theorem lex_word : ∀ (xs rest : List UInt8), xs ≠ [] → (∀ x ∈ xs, pB x = true) → hB pB rest = false → lexL (xs ++ rest) = (1, xs) :: lexL rest
  | [], _, h, _, _ => absurd rfl h
  | [x], rest, _, hx, hr => by
    have hp := hx x List.mem_cons_self
    show lexS false (x :: rest) = _
    simp only [lexS]
    rw [if_neg (by have := part_blank hp; rw [this]; simp), if_pos hp, if_neg (by rw [hr]; simp)]
    rfl
  | x :: y :: r, rest, _, hx, hr => by
    have hp := hx x List.mem_cons_self
    have hy := hx y (List.mem_cons_of_mem _ List.mem_cons_self)
    have ih := lex_word (y :: r) rest (by simp) (fun z hz => hx z (List.mem_cons_of_mem _ hz)) hr
    show lexS false (x :: (y :: r ++ rest)) = _
    have ih' : lexS false (y :: r ++ rest) = (1, y :: r) :: lexL rest := ih
    have hh : hB pB (y :: r ++ rest) = true := hy
    rw [lexS]
    rw [if_neg (by have := part_blank hp; rw [this]; simp), if_pos hp, if_pos hh, ih']
    rfl
theorem lex_w {u : ByteArray} (h : isWordB u = true) {rest : List UInt8} (hr : hB pB rest = false) : lexL (u.data.toList ++ rest) = wT u :: lexL rest := lex_word _ _ (isw_ne h) (isw_pB h) hr
theorem lex_sp (r : List UInt8) : lexL (32 :: r) = lexL r := rfl
theorem lex_lt (r : List UInt8) : lexL (60 :: r) = (2, []) :: lexL r := rfl
theorem lex_bar (r : List UInt8) : lexL (124 :: r) = (7, []) :: lexL r := rfl
theorem lex_semi (r : List UInt8) : lexL (59 :: r) = (5, []) :: lexL r := rfl
theorem lex_amp (r : List UInt8) : lexL (38 :: r) = (6, []) :: lexL r := rfl
theorem lex_gt {r : List UInt8} (h : hB (· == 62) r = false) : lexL (62 :: r) = (3, []) :: lexL r := by
  show lexS false (62 :: r) = _
  rw [lexS]
  rw [if_neg (by decide), if_neg (by decide), if_pos rfl, if_neg (by rw [h]; simp)]
  rfl
theorem lex_gtgt (r : List UInt8) : lexL (62 :: 62 :: r) = (4, []) :: lexL r := rfl
theorem tail_cons (u : ByteArray) (ws : List ByteArray) (rest : List UInt8) : Lib.joinTail [32] ((u :: ws).map (·.data.toList)) ++ rest = 32 :: (u.data.toList ++ (Lib.joinTail [32] (ws.map (·.data.toList)) ++ rest)) := by
  simp only [Lib.joinTail, List.map_cons, List.flatten_cons, List.append_assoc, List.cons_append, List.nil_append]
theorem tail_hB (ws : List ByteArray) {rest : List UInt8} (hr : hB pB rest = false) : hB pB (Lib.joinTail [32] (ws.map (·.data.toList)) ++ rest) = false := by
  cases ws with
  | nil => exact hr
  | cons u r => rw [tail_cons]; rfl
theorem lex_tail {rest : List UInt8} (hr : hB pB rest = false) : ∀ (ws : List ByteArray), (∀ u ∈ ws, isWordB u = true) → lexL (Lib.joinTail [32] (ws.map (·.data.toList)) ++ rest) = ws.map wT ++ lexL rest
  | [], _ => rfl
  | u :: r, h => by
    rw [tail_cons, lex_sp, lex_w (h u List.mem_cons_self) (tail_hB r hr), lex_tail hr r fun v hv => h v (List.mem_cons_of_mem _ hv)]
    rfl
def pI (d : CmdL) : List UInt8 := if d.inp.size = 0 then [] else [32, 60, 32] ++ d.inp.data.toList
def pO (d : CmdL) : List UInt8 := if d.app = true then [32, 62, 62, 32] ++ d.out.data.toList else if d.out.size = 0 then [] else [32, 62, 32] ++ d.out.data.toList
theorem pI_hB (d : CmdL) {rest : List UInt8} (hr : hB pB rest = false) : hB pB (pI d ++ rest) = false := by unfold pI; split; { exact hr }; { rfl }
theorem pO_hB (d : CmdL) {rest : List UInt8} (hr : hB pB rest = false) : hB pB (pO d ++ rest) = false := by unfold pO; split; { rfl }; { split; { exact hr }; { rfl } }
theorem opt_word {u : ByteArray} (h : optB u = true) (hz : u.size ≠ 0) : isWordB u = true := by
  unfold optB at h
  rw [Bool.or_eq_true] at h
  rcases h with h | h
  · exact absurd (of_decide_eq_true h) hz
  · exact h
theorem lex_pI {d : CmdL} (h : optB d.inp = true) {rest : List UInt8} (hr : hB pB rest = false) : lexL (pI d ++ rest) = inpT d ++ lexL rest := by
  unfold pI inpT
  by_cases hi : d.inp.size = 0
  · rw [if_pos hi, if_pos hi]; rfl
  · rw [if_neg hi, if_neg hi]
    show lexL (32 :: 60 :: 32 :: (d.inp.data.toList ++ rest)) = _
    rw [lex_sp, lex_lt, lex_sp, lex_w (opt_word h hi) hr]; rfl
theorem lex_pO {d : CmdL} (h : optB d.out = true) (ha : d.app = true → d.out.size ≠ 0) {rest : List UInt8} (hr : hB pB rest = false) : lexL (pO d ++ rest) = outT d ++ lexL rest := by
  unfold pO outT
  by_cases hp : d.app = true
  · rw [if_pos hp, if_pos hp]
    show lexL (32 :: 62 :: 62 :: 32 :: (d.out.data.toList ++ rest)) = _
    rw [lex_sp, lex_gtgt, lex_sp, lex_w (opt_word h (ha hp)) hr]; rfl
  · rw [if_neg hp, if_neg hp]
    by_cases ho : d.out.size = 0
    · rw [if_pos ho, if_pos ho]; rfl
    · rw [if_neg ho, if_neg ho]
      show lexL (32 :: 62 :: 32 :: (d.out.data.toList ++ rest)) = _
      rw [lex_sp, lex_gt rfl, lex_sp, lex_w (opt_word h ho) hr]; rfl
theorem lex_prC {d : CmdL} (h : validC d = true) {rest : List UInt8} (hr : hB pB rest = false) : lexL (prC d ++ rest) = tokC d ++ lexL rest := by
  obtain ⟨h1, h2, h3, h4, h5⟩ := validC_facts h
  rw [prC_eq h2.1]
  show lexL (Lib.join (d.words.map (·.data.toList)) [32] ++ (pI d ++ pO d) ++ rest) = _
  unfold tokC
  cases hw : d.words with
  | nil => rw [hw] at h2; simp at h2
  | cons u r =>
    rw [hw] at h1
    rw [List.map_cons, Lib.join_cons]
    simp only [List.append_assoc]
    rw [lex_w (h1 u List.mem_cons_self) (tail_hB r (pI_hB d (pO_hB d hr))), lex_tail (pI_hB d (pO_hB d hr)) r fun v hv => h1 v (List.mem_cons_of_mem _ hv), lex_pI h3 (pO_hB d hr), lex_pO h4 h5 hr]
    rfl
def prJs : List CmdL → List UInt8
  | [] => []
  | c :: r => [32, 124, 32] ++ (prC c ++ prJs r)
theorem prJP_drop (l : List CmdL) : ∀ j i, l.length - i = j → 1 ≤ i → i ≤ l.length → prJP l l.length = prJP l i ++ prJs (l.drop i)
  | 0, i, h, h1, h2 => by
    rw [show i = l.length by omega, List.drop_length]
    exact (List.append_nil _).symm
  | j + 1, i, h, h1, h2 => by
    rw [prJP_drop l j (i + 1) (by omega) (by omega) (by omega), List.drop_eq_getElem_cons (show i < l.length by omega)]
    simp only [prJP, prJs]
    rw [if_neg (by omega), getD_of (List.getElem?_eq_getElem (show i < l.length by omega))]
    simp only [List.append_assoc]
theorem prJP_cons (c : CmdL) (r : List CmdL) : prJP (c :: r) (c :: r).length = prC c ++ prJs r := by
  rw [prJP_drop (c :: r) r.length 1 (by simp) (Nat.le_refl _) (by simp)]
  show ([] ++ ((if 0 = 0 then [] else [32, 124, 32]) ++ prC c)) ++ prJs r = _
  rw [if_pos rfl, List.nil_append, List.nil_append]
theorem prJs_hB (v : List CmdL) {rest : List UInt8} (hr : hB pB rest = false) : hB pB (prJs v ++ rest) = false := by
  cases v with
  | nil => exact hr
  | cons c r => rfl
theorem lex_prJs {rest : List UInt8} (hr : hB pB rest = false) : ∀ v : List CmdL, (∀ c ∈ v, validC c = true) → lexL (prJs v ++ rest) = tokJs v ++ lexL rest
  | [], _ => rfl
  | c :: r, h => by
    show lexL (32 :: 124 :: 32 :: (prC c ++ prJs r ++ rest)) = _
    rw [lex_sp, lex_bar, lex_sp, List.append_assoc, lex_prC (h c List.mem_cons_self) (prJs_hB r hr), lex_prJs hr r fun v hv => h v (List.mem_cons_of_mem _ hv)]
    simp only [tokJs, List.append_assoc, List.cons_append]
theorem lex_prJ {x : JobL} (hx : validJ x = true) {rest : List UInt8} (hr : hB pB rest = false) : lexL (prJ x ++ rest) = tokJ x.cmds ++ lexL rest := by
  unfold validJ at hx
  rw [Bool.and_eq_true, List.all_eq_true] at hx
  have hv := hx.2
  unfold prJ
  cases hc : x.cmds with
  | nil => rfl
  | cons c r =>
    rw [hc] at hv
    rw [prJP_cons, List.append_assoc, lex_prC (hv c List.mem_cons_self) (prJs_hB r hr), lex_prJs hr r fun v hw => hv v (List.mem_cons_of_mem _ hw)]
    simp only [tokJ, List.append_assoc]
def prLs : List JobL → List UInt8
  | [] => []
  | x :: r => prJ x ++ (sepJ x.bg r.isEmpty ++ prLs r)
theorem drop_empty {α : Type} (l : List α) (i : Nat) (h : i ≤ l.length) : (l.drop i).isEmpty = decide (i = l.length) := by
  rw [Bool.eq_iff_iff, List.isEmpty_iff, List.drop_eq_nil_iff]
  simp only [decide_eq_true_eq]
  omega
theorem prP_drop (l : List JobL) : ∀ j i, l.length - i = j → i ≤ l.length → prP l l.length = prP l i ++ prLs (l.drop i)
  | 0, i, h, h2 => by
    rw [show i = l.length by omega, List.drop_length]
    exact (List.append_nil _).symm
  | j + 1, i, h, h2 => by
    rw [prP_drop l j (i + 1) (by omega) (by omega), List.drop_eq_getElem_cons (show i < l.length by omega)]
    simp only [prP, prLs]
    rw [getD_of (List.getElem?_eq_getElem (show i < l.length by omega)), drop_empty l (i + 1) (by omega)]
    simp only [List.append_assoc]
theorem prL_cons (l : List JobL) : prL l = prLs l := prP_drop l _ 0 rfl (Nat.zero_le _)
theorem lex_sep (b c : Bool) (r : List UInt8) : lexL (sepJ b c ++ r) = sepT b c ++ lexL r := by cases b <;> cases c <;> rfl
theorem sep_hB (v : List JobL) (b : Bool) : hB pB (sepJ b v.isEmpty ++ prLs v) = false := by
  cases b with
  | true => cases v.isEmpty <;> rfl
  | false => cases v with
    | nil => rfl
    | cons y r => rfl
theorem lex_prLs : ∀ v : List JobL, (∀ x ∈ v, validJ x = true) → lexL (prLs v) = tokLs v
  | [], _ => rfl
  | x :: r, h => by
    simp only [prLs, tokLs]
    rw [lex_prJ (h x List.mem_cons_self) (sep_hB r x.bg), lex_sep, lex_prLs r fun v hv => h v (List.mem_cons_of_mem _ hv)]
theorem eL_ok {R : Except (Nat × Int) (List JobL)} {v : List JobL} (h : eL R = .ok v) : R = .ok v := by
  cases R with
  | error e => cases h
  | ok l => exact congrArg _ (Except.ok.inj h)
/-- A printed line is parsed to the jobs. -/
theorem lineP_print {v : List JobL} (h : validL v = true) : lineP false (bA (prL v)) = .ok v := by
  refine eL_ok ?_
  rw [lineP_lex, bA_list, prL_cons, lex_prLs v (validL_parts h).1]
  exact lineG_Ls h
/-! ### Redirections ahead -/
def ordO (d : CmdL) : List UInt8 := if d.out.size = 0 then [] else (if d.app = true then [62] else []) ++ (62 :: (d.out.data.toList ++ [32]))
def ordI (d : CmdL) : List UInt8 := if d.inp.size = 0 then [] else 60 :: d.inp.data.toList
def ordL (d : CmdL) : List UInt8 := ordO d ++ (ordI d ++ Lib.joinTail [32] (d.words.map (·.data.toList)))
theorem lex_ordO {d : CmdL} (h : optB d.out = true) (ha : d.app = true → d.out.size ≠ 0) (rest : List UInt8) : lexL (ordO d ++ rest) = outT d ++ lexL rest := by
  unfold ordO outT
  by_cases ho : d.out.size = 0
  · rw [if_pos ho, if_neg (fun q => ha q ho), if_pos ho]; rfl
  · rw [if_neg ho, if_neg ho]
    have hw := lex_w (opt_word h ho) (rest := 32 :: rest) rfl
    rw [lex_sp] at hw
    by_cases hp : d.app = true
    · rw [if_pos hp, if_pos hp]
      show lexL (62 :: 62 :: (d.out.data.toList ++ [32] ++ rest)) = _
      rw [lex_gtgt, List.append_assoc]
      show (4, []) :: lexL (d.out.data.toList ++ 32 :: rest) = _
      rw [hw]; rfl
    · rw [if_neg hp, if_neg hp]
      show lexL (62 :: (d.out.data.toList ++ [32] ++ rest)) = _
      rw [List.append_assoc]
      show lexL (62 :: (d.out.data.toList ++ 32 :: rest)) = _
      rw [lex_gt, hw]
      · rfl
      · have h1 := isw_ne (opt_word h ho)
        have h2 := isw_pB (opt_word h ho)
        cases hd : d.out.data.toList with
        | nil => exact absurd hd h1
        | cons x r =>
          rw [hd] at h2
          have h3 := h2 x List.mem_cons_self
          show (x == 62) = false
          refine beq_false_of_ne fun e => ?_
          subst e; revert h3; decide
theorem lex_ord {d : CmdL} (h : validC d = true) : lexL (ordL d) = outT d ++ (inpT d ++ d.words.map wT) := by
  obtain ⟨h1, h2, h3, h4, h5⟩ := validC_facts h
  have ht := lex_tail (rest := []) rfl d.words h1
  rw [List.append_nil] at ht
  have hb := tail_hB d.words (rest := []) rfl
  rw [List.append_nil] at hb
  unfold ordL
  rw [lex_ordO h4 h5]
  congr 1
  unfold ordI inpT
  by_cases hi : d.inp.size = 0
  · rw [if_pos hi, if_pos hi, List.nil_append, ht]; simp [lexL, lexS]
  · rw [if_neg hi, if_neg hi, List.cons_append, lex_lt, lex_w (opt_word h3 hi) hb, ht]; simp [lexL, lexS]
theorem lineP_ord {d : CmdL} (h : validC d = true) {s : ByteArray} (hs : s.data.toList = ordL d) : lineP false s = .ok [⟨[d], false⟩] := by
  refine eL_ok ?_
  rw [lineP_lex, hs, lex_ord h]
  exact lineG_R h
end Go.Proofs.Ytfhcpegemapbkaa
