/-
  The layer command: the program's parser and the reference's agree; what they accept is valid.
-/
import Derived.Test.YtfhcpegemapbkaaPrinte
import Derived.Test.YtfhcpegemapbkaaParsf
set_option linter.unusedVariables false
set_option linter.unusedSimpArgs false
namespace Go.Proofs.Ytfhcpegemapbkaa
open Go Go.RowKit Go.Proofs.Sx
section
variable {s : ByteArray}
theorem cmd_rel (s : ByteArray) : ∀ (k : Nat) (c : CmdL) (n : Nat), cmdF true s k c n = cmdF false s k c n ∨ ∃ x m, cmdF false s k c n = .error (m, 3) ∧ cmdF true s k c n = .ok (x, m) ∧ (kd s m = 2 ∨ kd s m = 3 ∨ kd s m = 4)
  | 0, c, n => .inl rfl
  | k + 1, c, n => by
    by_cases h1 : kd s n = 1
    · by_cases hl : c.words.length = 4
      · left; rw [cmdF_lim h1 hl, cmdF_lim h1 hl]
      · cases hw : wordP s n with
        | error e => left; rw [cmdF_wordE h1 hl hw, cmdF_wordE h1 hl hw]
        | ok q => obtain ⟨u, m⟩ := q; rw [cmdF_word h1 hl hw, cmdF_word h1 hl hw]; exact cmd_rel s k _ m
    · by_cases h2 : kd s n = 2 ∨ kd s n = 3 ∨ kd s n = 4
      · by_cases hd : (kd s n = 2 ∧ c.inp.size ≠ 0) ∨ (kd s n ≠ 2 ∧ c.out.size ≠ 0)
        · have hr : redirP s c n = .error (n, 3) := by unfold redirP; rw [if_pos hd]
          have hh : cmdF false s (k + 1) c n = .error (n, 3) := cmdF_redE h2 hard hr
          by_cases hl : c.words.length = 0
          · left; rw [hh]; exact cmdF_none h1 (fun q => q.2 ⟨rfl, hd⟩) hl
          · right; exact ⟨c, n, hh, cmdF_end h1 (fun q => q.2 ⟨rfl, hd⟩) hl, h2⟩
        · have hs : ¬ (true = true ∧ ((kd s n = 2 ∧ c.inp.size ≠ 0) ∨ (kd s n ≠ 2 ∧ c.out.size ≠ 0))) := fun q => hd q.2
          cases hr : redirP s c n with
          | error e => left; rw [cmdF_redE h2 hs hr, cmdF_redE h2 hard hr]
          | ok q => obtain ⟨u, m⟩ := q; rw [cmdF_red h2 hs hr, cmdF_red h2 hard hr]; exact cmd_rel s k u m
      · by_cases hl : c.words.length = 0
        · left; rw [cmdF_none h1 (fun q => h2 q.1) hl, cmdF_none h1 (fun q => h2 q.1) hl]
        · left; rw [cmdF_end h1 (fun q => h2 q.1) hl, cmdF_end h1 (fun q => h2 q.1) hl]
theorem job_rel (s : ByteArray) : ∀ (k : Nat) (l : List CmdL) (n : Nat), jobF true s k l n = jobF false s k l n ∨ ∃ x m, jobF false s k l n = .error (m, 3) ∧ jobF true s k l n = .ok (x, m) ∧ (kd s m = 2 ∨ kd s m = 3 ∨ kd s m = 4)
  | 0, l, n => .inl rfl
  | k + 1, l, n => by
    by_cases h1 : kd s n = 7
    · by_cases hl : l.length = 4 ∧ begK (kd s (nx s n)) = true
      · left; rw [jobF_lim h1 hl.1 hl.2, jobF_lim h1 hl.1 hl.2]
      · rcases cmd_rel s (s.size + 1) cmd0 (nx s n) with h | ⟨x, m, h2, h3, h4⟩
        · have h : cmdP true s (nx s n) = cmdP false s (nx s n) := h
          cases hc : cmdP false s (nx s n) with
          | error e => left; rw [jobF_cmdE h1 hl (h.trans hc), jobF_cmdE h1 hl hc]
          | ok q => obtain ⟨c, m⟩ := q; rw [jobF_cmd h1 hl (h.trans hc), jobF_cmd h1 hl hc]; exact job_rel s k _ m
        · right
          refine ⟨l ++ [x], m, jobF_cmdE h1 hl h2, ?_, h4⟩
          rw [jobF_cmd h1 hl h3]
          cases k with
          | zero => rfl
          | succ k => exact jobF_end (by omega)
    · left; rw [jobF_end h1, jobF_end h1]
theorem jobP_rel (s : ByteArray) (n : Nat) : jobP true s n = jobP false s n ∨ ∃ x m, jobP false s n = .error (m, 3) ∧ jobP true s n = .ok (x, m) ∧ (kd s m = 2 ∨ kd s m = 3 ∨ kd s m = 4) := by
  rcases cmd_rel s (s.size + 1) cmd0 n with h | ⟨x, m, h2, h3, h4⟩
  · have h : cmdP true s n = cmdP false s n := h
    unfold jobP
    rw [h]
    cases cmdP false s n with
    | error e => exact .inl rfl
    | ok q => exact job_rel s _ _ _
  · right
    refine ⟨[x], m, by unfold jobP; rw [show cmdP false s n = _ from h2], ?_, h4⟩
    unfold jobP; rw [show cmdP true s n = _ from h3]
    exact jobF_end (by omega)
theorem line_rel (s : ByteArray) : ∀ (k : Nat) (l : List JobL) (n : Nat), lineF true s k l n = lineF false s k l n
  | 0, l, n => rfl
  | k + 1, l, n => by
    by_cases hn : n < s.size
    · by_cases hl : l.length = 8 ∧ begK (kd s n) = true
      · rw [lineF_lim hn hl.1 hl.2, lineF_lim hn hl.1 hl.2]
      · rcases jobP_rel s n with h | ⟨x, m, h2, h3, h4⟩
        · cases hj : jobP false s n with
          | error e => rw [lineF_jobE hn hl (h.trans hj), lineF_jobE hn hl hj]
          | ok q =>
            obtain ⟨cs, m⟩ := q
            by_cases k0 : kd s m = 0
            · rw [lineF_last hn hl (h.trans hj) k0, lineF_last hn hl hj k0]
            · by_cases k5 : kd s m = 5 ∨ kd s m = 6
              · rw [lineF_more hn hl (h.trans hj) k5, lineF_more hn hl hj k5]; exact line_rel s k _ _
              · rw [lineF_bad hn hl (h.trans hj) (by omega), lineF_bad hn hl hj (by omega)]
        · rw [lineF_jobE hn hl h2, lineF_bad hn hl h3 (by omega)]
    · rw [lineF_done hn, lineF_done hn]
/-- The two parsers agree. -/
theorem lineP_same (s : ByteArray) : lineP true s = lineP false s := line_rel s _ _ _
/-! ### What is accepted is valid -/
theorem okW_all {s : ByteArray} : ∀ k, (∀ i, i < k → partI (sb s i) = true) → okW s k = true
  | 0, _ => rfl
  | k + 1, h => by simp only [okW]; rw [okW_all k (fun i hi => h i (by omega)), h k (by omega)]; rfl
theorem tk_isw {n : Nat} (hk : kd s n = 1) (hl : tl s n ≤ 60) : isWordB (tk s n) = true := by
  have h1 := tl_kd s n
  have h2 := tk_size s n
  have h3 : okW (tk s n) (tk s n).size = true := okW_all _ fun i hi => by
    rw [sb_tk (by omega)]
    have := runIn partI s (s.size - n) n i (by have : runP partI s (s.size - n) n = wl s n := rfl; omega)
    exact this.2
  rw [isw_len h3]
  exact decide_eq_true (by omega)
theorem wordP_isw {n m : Nat} {v : ByteArray} (h : wordP s n = .ok (v, m)) : isWordB v = true := by
  unfold wordP at h
  split at h
  · cases h
  · split at h
    · cases h
    · cases h; exact tk_isw (by omega) (by omega)
/-- A command that is not yet done. -/
def partC (d : CmdL) : Prop := (∀ u ∈ d.words, isWordB u = true) ∧ d.words.length ≤ 4 ∧ optB d.inp = true ∧ optB d.out = true ∧ (d.app = true → d.out.size ≠ 0)
theorem partC_done {d : CmdL} (h : partC d) (h1 : d.words.length ≠ 0) : validC d = true :=
  validC_yes ⟨by omega, h.2.1⟩ h.2.2.1 h.2.2.2.1 h.2.2.2.2 (List.all_eq_true.2 h.1)
theorem opt_isw {v : ByteArray} (h : isWordB v = true) : optB v = true := by unfold optB; rw [h, Bool.or_true]
theorem redir_part {c v : CmdL} {n m : Nat} (hp : partC c) (h : redirP s c n = .ok (v, m)) : partC v := by
  unfold redirP at h
  split at h
  · cases h
  · cases hw : wordP s (nx s n) with
    | error e => rw [hw] at h; cases h
    | ok q =>
      obtain ⟨u, k⟩ := q
      rw [hw] at h
      have hu := wordP_isw hw
      have hz := (isw_size hu).1
      cases h
      split
      · exact ⟨hp.1, hp.2.1, opt_isw hu, hp.2.2.2.1, hp.2.2.2.2⟩
      · exact ⟨hp.1, hp.2.1, hp.2.2.1, opt_isw hu, fun _ => by show u.size ≠ 0; omega⟩
theorem cmdF_valid : ∀ (k : Nat) (c : CmdL) (n : Nat) (v : CmdL) (m : Nat), partC c → n ≤ s.size → s.size - n < k → cmdF false s k c n = .ok (v, m) → validC v = true
  | 0, _, n, _, _, _, _, hk, _ => by omega
  | k + 1, c, n, v, m, hp, hn, hk, h => by
    by_cases h1 : kd s n = 1
    · by_cases hl : c.words.length = 4
      · rw [cmdF_lim h1 hl] at h; cases h
      · cases hw : wordP s n with
        | error e => rw [cmdF_wordE h1 hl hw] at h; cases h
        | ok q =>
          obtain ⟨u, m'⟩ := q
          rw [cmdF_word h1 hl hw] at h
          obtain ⟨_, _, q3, q4, _⟩ := wordP_ok hn hw
          refine cmdF_valid k ⟨c.words ++ [u], c.inp, c.out, c.app⟩ m' v m ⟨fun z hz => ?_, ?_, hp.2.2⟩ q3 (by omega) h
          · rcases List.mem_append.1 hz with hz | hz
            · exact hp.1 z hz
            · rw [List.mem_singleton] at hz; subst hz; exact wordP_isw hw
          · have := hp.2.1; simp only [List.length_append, List.length_cons, List.length_nil]; omega
    · by_cases h2 : kd s n = 2 ∨ kd s n = 3 ∨ kd s n = 4
      · cases hr : redirP s c n with
        | error e => rw [cmdF_redE h2 hard hr] at h; cases h
        | ok q =>
          obtain ⟨u, m'⟩ := q
          rw [cmdF_red h2 hard hr] at h
          obtain ⟨_, q3, q4⟩ := redirP_ok hn hr
          exact cmdF_valid k _ _ v m (redir_part hp hr) q3 (by omega) h
      · by_cases hl : c.words.length = 0
        · rw [cmdF_none h1 (fun q => h2 q.1) hl] at h; cases h
        · rw [cmdF_end h1 (fun q => h2 q.1) hl] at h
          cases h
          exact partC_done hp hl
theorem part0 : partC cmd0 := ⟨fun u hu => absurd hu List.not_mem_nil, by decide, rfl, rfl, fun h => by cases h⟩
theorem cmdP_valid {n m : Nat} {v : CmdL} (hn : n ≤ s.size) (h : cmdP false s n = .ok (v, m)) : validC v = true := cmdF_valid _ _ n v m part0 hn (by omega) h
theorem cmdP_beg {soft : Bool} {n : Nat} {q : CmdL × Nat} (h : cmdP soft s n = .ok q) : begK (kd s n) = true := by
  refine decide_eq_true ?_
  rcases Classical.em (1 ≤ kd s n ∧ kd s n ≤ 4) with h1 | h1
  · exact h1
  · have : cmdP soft s n = .error (n, 3) := cmdF_none (by omega) (fun q => by omega) rfl
    rw [this] at h; cases h
theorem jobF_valid : ∀ (k : Nat) (l : List CmdL) (n : Nat) (v : List CmdL) (m : Nat), (∀ c ∈ l, validC c = true) → 1 ≤ l.length → l.length ≤ 4 → n ≤ s.size → jobF false s k l n = .ok (v, m) → (∀ c ∈ v, validC c = true) ∧ 1 ≤ v.length ∧ v.length ≤ 4
  | 0, l, n, v, m, h1, h2, h3, _, h => by cases h; exact ⟨h1, h2, h3⟩
  | k + 1, l, n, v, m, h1, h2, h3, hn, h => by
    by_cases hk : kd s n = 7
    · by_cases hl : l.length = 4 ∧ begK (kd s (nx s n)) = true
      · rw [jobF_lim hk hl.1 hl.2] at h; cases h
      · cases hc : cmdP false s (nx s n) with
        | error e => rw [jobF_cmdE hk hl hc] at h; cases h
        | ok q =>
          obtain ⟨c, m'⟩ := q
          rw [jobF_cmd hk hl hc] at h
          have hb := cmdP_beg hc
          have hv := cmdP_valid (nx_le hn) hc
          have hm : m' ≤ s.size := by
            have := cmdF_le (s.size + 1) cmd0 (nx s n) c m' (nx_le hn) hc
            exact this
          refine jobF_valid k _ _ v m (fun z hz => ?_) (by simp) ?_ hm h
          · rcases List.mem_append.1 hz with hz | hz
            · exact h1 z hz
            · rw [List.mem_singleton] at hz; subst hz; exact hv
          · have : l.length ≠ 4 := fun e => hl ⟨e, hb⟩
            simp only [List.length_append, List.length_cons, List.length_nil]; omega
    · rw [jobF_end hk] at h; cases h; exact ⟨h1, h2, h3⟩
 where
  cmdF_le : ∀ (k : Nat) (c : CmdL) (n : Nat) (v : CmdL) (m : Nat), n ≤ s.size → cmdF false s k c n = .ok (v, m) → m ≤ s.size
  | 0, c, n, v, m, hn, h => by cases h; exact hn
  | k + 1, c, n, v, m, hn, h => by
    by_cases h1 : kd s n = 1
    · by_cases hl : c.words.length = 4
      · rw [cmdF_lim h1 hl] at h; cases h
      · cases hw : wordP s n with
        | error e => rw [cmdF_wordE h1 hl hw] at h; cases h
        | ok q =>
          obtain ⟨u, m'⟩ := q
          rw [cmdF_word h1 hl hw] at h
          exact cmdF_le k _ _ v m (wordP_ok hn hw).2.2.1 h
    · by_cases h2 : kd s n = 2 ∨ kd s n = 3 ∨ kd s n = 4
      · cases hr : redirP s c n with
        | error e => rw [cmdF_redE h2 hard hr] at h; cases h
        | ok q =>
          obtain ⟨u, m'⟩ := q
          rw [cmdF_red h2 hard hr] at h
          exact cmdF_le k _ _ v m (redirP_ok hn hr).2.1 h
      · by_cases hl : c.words.length = 0
        · rw [cmdF_none h1 (fun q => h2 q.1) hl] at h; cases h
        · rw [cmdF_end h1 (fun q => h2 q.1) hl] at h; cases h; exact hn
theorem jobF_le : ∀ (k : Nat) (l : List CmdL) (n : Nat) (v : List CmdL) (m : Nat), n ≤ s.size → jobF false s k l n = .ok (v, m) → m ≤ s.size
  | 0, l, n, v, m, hn, h => by cases h; exact hn
  | k + 1, l, n, v, m, hn, h => by
    by_cases hk : kd s n = 7
    · by_cases hl : l.length = 4 ∧ begK (kd s (nx s n)) = true
      · rw [jobF_lim hk hl.1 hl.2] at h; cases h
      · cases hc : cmdP false s (nx s n) with
        | error e => rw [jobF_cmdE hk hl hc] at h; cases h
        | ok q =>
          obtain ⟨c, m'⟩ := q
          rw [jobF_cmd hk hl hc] at h
          exact jobF_le k _ _ v m (jobF_valid.cmdF_le (s.size + 1) cmd0 _ c m' (nx_le hn) hc) h
    · rw [jobF_end hk] at h; cases h; exact hn
theorem jobP_valid {n m : Nat} {v : List CmdL} (hn : n ≤ s.size) (h : jobP false s n = .ok (v, m)) : ((∀ c ∈ v, validC c = true) ∧ 1 ≤ v.length ∧ v.length ≤ 4) ∧ m ≤ s.size ∧ begK (kd s n) = true := by
  unfold jobP at h
  cases hc : cmdP false s n with
  | error e => rw [hc] at h; cases h
  | ok q =>
    obtain ⟨c, m'⟩ := q
    rw [hc] at h
    have hm := jobF_valid.cmdF_le (s.size + 1) cmd0 n c m' hn hc
    exact ⟨jobF_valid _ _ _ v m (fun z hz => by rw [List.mem_singleton] at hz; subst hz; exact cmdP_valid hn hc) (by simp) (by simp) hm h, jobF_le _ _ _ v m hm h, cmdP_beg hc⟩
theorem job_valid {cs : List CmdL} {b : Bool} (h : (∀ c ∈ cs, validC c = true) ∧ 1 ≤ cs.length ∧ cs.length ≤ 4) : validJ ⟨cs, b⟩ = true := by
  unfold validJ
  rw [decide_eq_true h.2, Bool.true_and]
  exact List.all_eq_true.2 h.1
theorem lineF_valid : ∀ (k : Nat) (l : List JobL) (n : Nat) (v : List JobL), (∀ x ∈ l, validJ x = true) → l.length ≤ 8 → n ≤ s.size → lineF false s k l n = .ok v → (∀ x ∈ v, validJ x = true) ∧ v.length ≤ 8
  | 0, l, n, v, h1, h2, _, h => by cases h; exact ⟨h1, h2⟩
  | k + 1, l, n, v, h1, h2, hn, h => by
    by_cases hlt : n < s.size
    · by_cases hl : l.length = 8 ∧ begK (kd s n) = true
      · rw [lineF_lim hlt hl.1 hl.2] at h; cases h
      · cases hj : jobP false s n with
        | error e => rw [lineF_jobE hlt hl hj] at h; cases h
        | ok q =>
          obtain ⟨cs, m⟩ := q
          obtain ⟨q1, q2, q3⟩ := jobP_valid hn hj
          have h8 : l.length ≠ 8 := fun e => hl ⟨e, q3⟩
          have hall : ∀ b, ∀ x ∈ l ++ [(⟨cs, b⟩ : JobL)], validJ x = true := fun b x hx => by
            rcases List.mem_append.1 hx with hx | hx
            · exact h1 x hx
            · rw [List.mem_singleton] at hx; subst hx; exact job_valid q1
          have hlen : ∀ b, (l ++ [(⟨cs, b⟩ : JobL)]).length ≤ 8 := fun b => by simp only [List.length_append, List.length_cons, List.length_nil]; omega
          by_cases k0 : kd s m = 0
          · rw [lineF_last hlt hl hj k0] at h; cases h; exact ⟨hall _, hlen _⟩
          · by_cases k5 : kd s m = 5 ∨ kd s m = 6
            · rw [lineF_more hlt hl hj k5] at h
              exact lineF_valid k _ _ v (hall _) (hlen _) (nx_le q2) h
            · rw [lineF_bad hlt hl hj (by omega)] at h; cases h
    · rw [lineF_done hlt] at h; cases h; exact ⟨h1, h2⟩
theorem lineP_valid {v : List JobL} (h : lineP false s = .ok v) : validL v = true := by
  obtain ⟨h1, h2⟩ := lineF_valid _ _ _ v (fun x hx => absurd hx List.not_mem_nil) (by decide) (sk_le (Nat.zero_le _)) h
  unfold validL
  rw [decide_eq_true h2, Bool.and_true]
  exact List.all_eq_true.2 h1
theorem valid_small {l : List JobL} (h : validL l = true) : smL 1000000 l := by
  unfold validL at h
  rw [Bool.and_eq_true, List.all_eq_true] at h
  refine ⟨by have := of_decide_eq_true h.2; omega, fun x hx => ?_⟩
  have h1 := h.1 x hx
  unfold validJ at h1
  rw [Bool.and_eq_true, List.all_eq_true] at h1
  refine ⟨by have := of_decide_eq_true h1.1; omega, fun c hc => ?_⟩
  obtain ⟨q1, q2, q3, q4, _⟩ := validC_facts (h1.2 c hc)
  have := optB_size q3
  have := optB_size q4
  exact ⟨fun u hu => by have := (isw_size (q1 u hu)).2; omega, by omega, by omega, by omega⟩
end
end Go.Proofs.Ytfhcpegemapbkaa
