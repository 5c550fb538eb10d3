/-
  The layer command: the reference's tokens, and its parser's state.
-/
import Derived.Test.YtfhcpegemapbkaaParsf
set_option linter.unusedVariables false
set_option linter.unusedSimpArgs false
namespace Go.Proofs.Ytfhcpegemapbkaa
open Go Go.RowKit Go.Proofs.Sx
/-- The length of the reference's token: a byte with which none begins is one of one byte. -/
def rl (s : ByteArray) (n : Nat) : Nat := if kd s n = 8 then 1 else tl s n
def rt (s : ByteArray) (n : Nat) : ByteArray := s.extract n (n + rl s n)
def rx (s : ByteArray) (n : Nat) : Nat := sk s (n + rl s n)
section
variable {s : ByteArray} {n : Nat}
theorem rl_le (s : ByteArray) (n : Nat) : rl s n ≤ s.size - n := by
  unfold rl
  have h1 := kd_spec s n
  have h2 := tl_le s n
  split <;> omega
theorem rl_kd (s : ByteArray) (n : Nat) : (kd s n = 0 ∧ rl s n = 0) ∨ (kd s n = 1 ∧ rl s n = wl s n ∧ 1 ≤ wl s n) ∨ (kd s n = 4 ∧ rl s n = 2) ∨ ((kd s n = 2 ∨ kd s n = 3 ∨ kd s n = 5 ∨ kd s n = 6 ∨ kd s n = 7 ∨ kd s n = 8) ∧ rl s n = 1) := by
  have h := tl_kd s n
  unfold rl
  split <;> omega
theorem rx_gt (h : n < s.size) : n < rx s n := by
  unfold rx
  have h1 := le_sk s (n + rl s n)
  have h2 := rl_kd s n
  have h3 := kd_spec s n
  omega
theorem rx_le (h : n ≤ s.size) : rx s n ≤ s.size := by unfold rx; have := rl_le s n; exact sk_le (by omega)
theorem rx_nx (h : kd s n ≠ 8) : rx s n = nx s n := by unfold rx nx rl; rw [if_neg h]
theorem rt_size (s : ByteArray) (n : Nat) : (rt s n).size = rl s n := by
  unfold rt
  have := rl_le s n
  rw [ByteArray.size_extract]; omega
theorem rt_tk (h : kd s n ≠ 8) : rt s n = tk s n := by unfold rt tk rl; rw [if_neg h]
theorem sb_rt {i : Nat} (h : i < rl s n) : sb (rt s n) i = sb s (n + i) := sb_ext (by omega)
theorem rt_none (s : ByteArray) (n : Nat) : ((rt s n).toList == (⟨#[]⟩ : ByteArray).toList) = decide (kd s n = 0) := by
  rw [str_empty, rt_size]
  have := rl_kd s n
  exact decide_eq_decide.2 (by omega)
theorem rt_one (x : UInt8) (k : Nat) (hx : (x.toNat = 60 ∧ k = 2) ∨ (x.toNat = 62 ∧ k = 3) ∨ (x.toNat = 59 ∧ k = 5) ∨ (x.toNat = 38 ∧ k = 6) ∨ (x.toNat = 124 ∧ k = 7)) (s : ByteArray) (n : Nat) : ((rt s n).toList == (⟨#[x]⟩ : ByteArray).toList) = decide (kd s n = k) := by
  by_cases h : kd s n = 8
  · rw [str_one, rt_size]
    refine decide_eq_decide.2 ?_
    have h1 := rl_kd s n
    have h2 := kd_spec s n
    constructor
    · rintro ⟨e1, e2⟩
      rw [sb_rt (by omega), Nat.add_zero] at e2
      omega
    · intro e; omega
  · rw [rt_tk h]; exact tk_one x k hx s n
theorem rt_app (s : ByteArray) (n : Nat) : ((rt s n).toList == (⟨#[62, 62]⟩ : ByteArray).toList) = decide (kd s n = 4) := by
  by_cases h : kd s n = 8
  · rw [str_two, rt_size]
    have h1 := rl_kd s n
    rw [decide_eq_false (by omega), decide_eq_false (by omega)]
  · rw [rt_tk h]; exact tk_app s n
theorem rt_lt (s : ByteArray) (n : Nat) : ((rt s n).toList == (⟨#[60]⟩ : ByteArray).toList) = decide (kd s n = 2) := rt_one 60 2 (by decide) s n
theorem rt_gt (s : ByteArray) (n : Nat) : ((rt s n).toList == (⟨#[62]⟩ : ByteArray).toList) = decide (kd s n = 3) := rt_one 62 3 (by decide) s n
theorem rt_semi (s : ByteArray) (n : Nat) : ((rt s n).toList == (⟨#[59]⟩ : ByteArray).toList) = decide (kd s n = 5) := rt_one 59 5 (by decide) s n
theorem rt_amp (s : ByteArray) (n : Nat) : ((rt s n).toList == (⟨#[38]⟩ : ByteArray).toList) = decide (kd s n = 6) := rt_one 38 6 (by decide) s n
theorem rt_bar (s : ByteArray) (n : Nat) : ((rt s n).toList == (⟨#[124]⟩ : ByteArray).toList) = decide (kd s n = 7) := rt_one 124 7 (by decide) s n
theorem part_rt (h : ¬ kd s n = 0) : partI (sb (rt s n) 0) = decide (kd s n = 1) := by
  have h1 := kd_spec s n
  have h2 := rl_kd s n
  rw [sb_rt (by omega), Nat.add_zero]
  rcases h1 with h1 | ⟨h1, _, h3⟩ | ⟨h1, h3, h4⟩
  · omega
  · rw [h3]; exact (decide_eq_true h1).symm
  · rw [h3]; exact (decide_eq_false (by omega)).symm
theorem rt_end (h : ¬ n < s.size) : rt s n = ⟨#[]⟩ := by
  have h1 := rt_size s n
  have h2 := rl_le s n
  have h3 : (rt s n).data.toList.length = 0 := by rw [size_list]; omega
  exact ba_ext (List.length_eq_zero_iff.1 h3)
end
/-- The tokens from a place on, and the end. -/
def tks (s : ByteArray) (n : Nat) : List (ByteArray × Nat) :=
  if h : n < s.size then (rt s n, n) :: tks s (rx s n) else [(⟨#[]⟩, s.size)]
 termination_by s.size - n
 decreasing_by have := rx_gt h; omega
section
variable {s : ByteArray} {n : Nat}
theorem tks_more (h : n < s.size) : tks s n = (rt s n, n) :: tks s (rx s n) := by rw [tks]; rw [dif_pos h]
theorem tks_end (h : ¬ n < s.size) : tks s n = [(⟨#[]⟩, s.size)] := by rw [tks]; rw [dif_neg h]
theorem tks_head (hn : n ≤ s.size) : (tks s n)[0]? = some (rt s n, n) := by
  by_cases h : n < s.size
  · rw [tks_more h]; rfl
  · rw [tks_end h, rt_end h, show n = s.size by omega]; rfl
theorem tks_pos (s : ByteArray) (n : Nat) : 1 ≤ (tks s n).length := by
  by_cases h : n < s.size
  · rw [tks_more h]; simp
  · rw [tks_end h]; simp
theorem tks_len (h : n < s.size) : (tks s n).length - 1 = (tks s (rx s n)).length := by rw [tks_more h]; simp
end
/-- A token in memory. -/
def fK (x : ByteArray × Nat) : List Value := [.string x.1, .int .i64 ((x.2 : Nat) : Int)]
theorem encK : Enc fK 2 := ⟨fun _ => rfl, fun x v hv => by
  simp only [fK, List.mem_cons, List.not_mem_nil, or_false] at hv
  rcases hv with rfl | rfl <;> rfl⟩
/-- The tokens that are left are those from n on. -/
structure TV (toks : List (ByteArray × Nat)) (CT : List Value) (s : ByteArray) (j n k : Nat) : Prop where
  drop : toks.drop j = tks s n
  cap : (tks s n).length ≤ k
  pos : n ≤ s.size
  cells : ∃ r, CT = toks.flatMap fK ++ r
section
variable {toks : List (ByteArray × Nat)} {CT : List Value} {s : ByteArray} {j n k : Nat} {P : Program} {w : World} {tb : Nat} {t : TypeId}
theorem TV.at (h : TV toks CT s j n k) : toks[j]? = some (rt s n, n) := by
  have := tks_head h.pos
  rw [← h.drop, List.getElem?_drop] at this
  simpa using this
theorem TV.cell (h : TV toks CT s j n k) {i : Nat} {v : Value} (hv : (fK (rt s n, n))[i]? = some v) : CT[2 * j + i]? = some v := by
  obtain ⟨r, rfl⟩ := h.cells
  have h1 := flat_at encK toks j _ i v h.at hv
  rw [Nat.mul_comm] at h1
  rw [List.getElem?_append_left (List.getElem?_eq_some_iff.1 h1).1]; exact h1
theorem TV.ldn (h : TV toks CT s j n k) (hB : Blk w tb t CT) {u : TypeId} (ht : aggT P u = some 2 := by kernel_rfl) : Ld P w ((⟨tb, 2 * j, none⟩ : Addr).add 0) u (.agg #[.string (rt s n), .int .i64 ((n : Nat) : Int)]) :=
  ld_agg (cs := [.string (rt s n), .int .i64 ((n : Nat) : Int)]) ht rfl fun i v hv => by
    rw [add_off, add_off, Nat.add_zero]
    exact hB.cell (h.cell hv)
theorem TV.ld0 (h : TV toks CT s j n k) (hB : Blk w tb t CT) {u : TypeId} (ht : oneT P u = true := by kernel_rfl) : Ld P w ((⟨tb, 2 * j, none⟩ : Addr).add 0) u (.string (rt s n)) := ld_cell ht (by rw [add_off]; exact hB.cell (h.cell (i := 0) rfl))
theorem TV.ld1 (h : TV toks CT s j n k) (hB : Blk w tb t CT) {u : TypeId} (ht : oneT P u = true := by kernel_rfl) : Ld P w (((⟨tb, 2 * j, none⟩ : Addr).add 0).add 1) u (.int .i64 ((n : Nat) : Int)) := ld_cell ht (by rw [add_off, add_off]; exact hB.cell (h.cell (i := 1) rfl))
theorem TV.next (h : TV toks CT s j n k) (hn : n < s.size) : TV toks CT s (j + 1) (rx s n) (k - 1) := by
  have h1 := tks_more hn
  have h2 := h.drop
  refine ⟨?_, by have := tks_len hn; have := h.cap; omega, rx_le h.pos, h.cells⟩
  rw [h1] at h2
  have h3 := congrArg List.tail h2
  rwa [List.tail_drop, List.tail_cons] at h3
theorem TV.two (h : TV toks CT s j n k) (hn : n < s.size) : 2 ≤ (tks s n).length := by have h1 := tks_len hn; have h2 := tks_pos s (rx s n); omega
end
/-- The parser's block (the tokens from n on, the error's place and the error), and that of the tokens. -/
abbrev RP (pb tb : Nat) (CT : List Value) (s : ByteArray) (j k n a : Nat) (er : Int) : OwL := [(pb, 66, [.slice (some ⟨tb, 2 * j, none⟩) (tks s n).length k, i64 ((a : Nat) : Int), i64 er]), (tb, 68, CT)]
/-- What a method's result says: the parser had no error before (er = 0), or it keeps the one that it had. -/
def r0 {α : Type} (a : Nat) (er : Int) (r : PR α) : PR α := if er = 0 then r else .error (a, er)
def St {α : Type} (r : PR α) (v : α) (n' a' : Nat) (er' : Int) : Prop := (er' = 0 ∧ r = .ok (v, n')) ∨ (er' ≠ 0 ∧ r = .error (a', er'))
theorem r0_ok {α : Type} {a : Nat} {r : PR α} : r0 a 0 r = r := rfl
theorem r0_no {α : Type} {a : Nat} {er : Int} {r : PR α} (h : er ≠ 0) : r0 a er r = .error (a, er) := by unfold r0; rw [if_neg h]
end Go.Proofs.Ytfhcpegemapbkaa
