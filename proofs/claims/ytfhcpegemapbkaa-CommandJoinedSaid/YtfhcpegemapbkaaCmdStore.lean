/-
  The layer command: a job's flag is set in a list of our own; the last byte of a line; errors are none of 0.
-/
import Derived.Test.YtfhcpegemapbkaaLawgen
import Derived.Test.YtfhcpegemapbkaaCmdJoin
set_option linter.unusedVariables false
set_option linter.unusedSimpArgs false
namespace Go.Proofs.Ytfhcpegemapbkaa
open Go Go.RowKit Go.Proofs.Sx
theorem set_flat : ∀ (l : List JV) (i : Nat) (x : JV) (b : Bool) (r : List Value), l[i]? = some x → setL (l.flatMap fJ ++ r) (i * 2 + 1) [.bool b] = (l.set i ⟨x.p, x.c, x.cmds, b⟩).flatMap fJ ++ r
  | [], i, x, b, r, h => by simp at h
  | y :: l, 0, x, b, r, h => by
    simp only [List.getElem?_cons_zero, Option.some.injEq] at h
    subst h
    rfl
  | y :: l, i + 1, x, b, r, h => by
    rw [List.getElem?_cons_succ] at h
    have ih := set_flat l i x b r h
    unfold setL at ih ⊢
    rw [List.set_cons_succ, List.flatMap_cons, List.flatMap_cons, show (i + 1) * 2 + 1 = (i * 2 + 1) + 2 by omega]
    show (Value.slice y.p y.cmds.length y.c :: Value.bool y.bg :: (l.flatMap fJ ++ r)).take ((i * 2 + 1) + 2) ++ [.bool b] ++ (Value.slice y.p y.cmds.length y.c :: Value.bool y.bg :: (l.flatMap fJ ++ r)).drop ((i * 2 + 1) + 2 + 1) = Value.slice y.p y.cmds.length y.c :: Value.bool y.bg :: ((l.set i ⟨x.p, x.c, x.cmds, b⟩).flatMap fJ ++ r)
    rw [List.take_succ_cons, List.take_succ_cons, show (i * 2 + 1) + 2 + 1 = (i * 2 + 1 + 1) + 1 + 1 by omega, List.drop_succ_cons, List.drop_succ_cons, ← ih]
    simp only [List.cons_append, List.length_cons, List.length_nil]
theorem set_len {l : List JV} {i : Nat} {x : JV} {b : Bool} : ((l.set i ⟨x.p, x.c, x.cmds, b⟩).flatMap fJ).length = (l.flatMap fJ).length := by rw [encJ.flen, encJ.flen, List.length_set]
theorem One.addr {α : Type} {f : α → List Value} {e : TypeId} {sz : Nat} {p : Option Addr} {c : Nat} {l : List α} {T : OwL} (h : One f e sz p c l T) (hl : 0 < l.length) : ∃ ad, p = some ad := by
  obtain ⟨b, r, e, _⟩ := h.open hl
  exact ⟨_, e⟩
section
variable {P : Program} {ops : Array Oper} {Q : Exit → Act → World → Prop} {n : Nat} {ds : List Deferred} {a : Act} {e : Env} {w : World} {K : Act → World → Prop} {j : Nat}
/-- The flag of a job in a list of our own is set. -/
theorem mSP {X : Nat → Prop} {w₀ : World} {A B T : OwL} {ad : Addr} {c i : Nat} {l : List JV} {x1 : JV} {b : Bool} {eJ : TypeId} (hA : Holds n ds a e) (hO : Ow P X w₀ w (A ++ (T ++ B))) (h1 : One fJ eJ 2 (some ad) c l T) (hx : l[i]? = some x1)
    (hK : ∀ w' T', Ow P X w₀ w' (A ++ (T' ++ B)) → One fJ eJ 2 (some ad) c (l.set i ⟨x1.p, x1.c, x1.cmds, b⟩) T' → K a w')
    (hs : storeAtE P ops e j = some ((ad.add (i * 2)).add 1, [.bool b], 1) := by kernel_rfl) : wpOp P ops Q j K a w := by
  have hi := (List.getElem?_eq_some_iff.1 hx).1
  rcases h1 with ⟨h, _⟩ | ⟨bl, r, h, h2, h3, h4, rfl⟩
  · cases h
  cases h
  have hfl := encJ.flen l
  have hm : Ow P X w₀ w ((bl, eJ, l.flatMap fJ ++ r) :: (A ++ B)) := (hO.m.perm (by
    refine List.Perm.trans (List.perm_append_comm_assoc A _ B) ?_
    exact List.Perm.refl _)).o
  refine m_store hA (vc := [.bool b]) (b := bl) (off := i * 2 + 1) (t := eJ) (l := l.flatMap fJ ++ r) hs (by rw [add_off, add_off]; simp) rfl (by rfl) (hm.b 0 (by simp [Nat.blt_eq])) (by rw [Nat.ble_eq, List.length_append, hfl]; show i * 2 + 1 + 1 ≤ _; omega) rfl fun w' hb ho => ?_
  have ht := hm.turn 0 (l := setL (l.flatMap fJ ++ r) (i * 2 + 1) [.bool b]) ho hb (by simp)
  rw [set_flat l i x1 b r hx] at ht
  have ht : Ow P X w₀ w' ((bl, eJ, (l.set i ⟨x1.p, x1.c, x1.cmds, b⟩).flatMap fJ ++ r) :: (A ++ B)) := ht
  refine hK w' [(bl, eJ, (l.set i ⟨x1.p, x1.c, x1.cmds, b⟩).flatMap fJ ++ r)] ((ht.m.perm ?_).o) (.inr ⟨bl, r, rfl, by rw [List.length_set]; exact h2, h3, ?_, rfl⟩)
  · refine List.Perm.trans ?_ (List.perm_append_comm_assoc A _ B).symm
    exact List.Perm.refl _
  · rw [List.length_append, set_len, ← List.length_append]; exact h4
end
theorem VL_cat {P : Program} {X : Nat → Prop} {w₀ w : World} {eJ : TypeId} {p : Option Addr} {k i : Nat} {L lw : List JV} {x1 : JV} {b : Bool} {T A B : OwL} (h0 : One fJ eJ 2 p k lw T) (hl : lw = L.set i ⟨x1.p, x1.c, x1.cmds, b⟩) (hx : L[i]? = some x1) (hv : ∀ x ∈ L, VJ w x) (hO : Ow P X w₀ w (A ++ (T ++ B))) : VL w (.slice p lw.length k) lw := by
  refine ⟨h0.vw (A := A) (B := B) hO.m, fun x hm => ?_⟩
  rw [hl] at hm
  rcases List.mem_or_eq_of_mem_set hm with h | h
  · exact hv x h
  · rw [h]; exact hv x1 (List.mem_of_getElem? hx)
theorem cat_eq {r1 r2 lw : List JV} {u y : List JobL} {j : JobL} {i : Nat} {x1 : JV} {b : Bool} (hl : lw = (r1 ++ r2).set i ⟨x1.p, x1.c, x1.cmds, b⟩) (h1 : r1.map JV.d = u ++ [j]) (h2 : r2.map JV.d = y) (hx : (r1 ++ r2)[i]? = some x1) (hi : i + 1 = r1.length) : lw.map JV.d = u ++ [⟨j.cmds, b⟩] ++ y := by
  have hu : u.length = i := by have := congrArg List.length h1; simp only [List.length_map, List.length_append, List.length_cons, List.length_nil] at this; omega
  have hj : JV.d x1 = j := by
    have h3 : ((r1 ++ r2).map JV.d)[i]? = some (JV.d x1) := by rw [List.getElem?_map, hx]; rfl
    rw [List.map_append, h1, h2, List.append_assoc, ← hu] at h3
    simp at h3
    exact h3.symm
  have hc : (JV.d ⟨x1.p, x1.c, x1.cmds, b⟩ : JobL) = ⟨j.cmds, b⟩ := by rw [← hj]; rfl
  rw [hl, List.map_set, List.map_append, h1, h2, hc, ← hu]
  simp
/-! ### The last byte -/
def lastP (s : ByteArray) : Nat → Int
  | 0 => 32
  | i + 1 => if blankI (sb s i) = true then lastP s i else sb s i
theorem lastP_keep {s : ByteArray} {i : Nat} (h : sb s i = 32 ∨ sb s i = 9) : lastP s (i + 1) = lastP s i := by
  have hb : blankI (sb s i) = true := decide_eq_true h
  simp only [lastP]; rw [if_pos hb]
theorem lastP_new {s : ByteArray} {i : Nat} (h : ¬ (sb s i = 32 ∨ sb s i = 9)) : lastP s (i + 1) = sb s i := by
  have hb : blankI (sb s i) = false := decide_eq_false h
  simp only [lastP]; rw [if_neg (by rw [hb]; simp)]
theorem lastP_list (s : ByteArray) : ∀ i, i ≤ s.size → lastP s i = ((lastB 32 (s.data.toList.take i)).toNat : Int)
  | 0, _ => rfl
  | i + 1, h => by
    have hl : i < s.data.toList.length := by rw [size_list]; omega
    have hs : sb s i = ((s.data.toList[i]).toNat : Int) := by unfold sb; rw [List.getD_eq_getElem?_getD, List.getElem?_eq_getElem hl]; rfl
    have ih := lastP_list s i (by omega)
    have hf : lastB 32 (s.data.toList.take (i + 1)) = if blankI ((s.data.toList[i]).toNat : Int) = true then lastB 32 (s.data.toList.take i) else s.data.toList[i] := by
      unfold lastB
      rw [List.take_succ_eq_append_getElem hl, List.foldl_append]; rfl
    rw [hf, ← hs]
    simp only [lastP]
    split
    · exact ih
    · exact hs
theorem last_ne {s : ByteArray} {i : Nat} (hi : i = s.size) (h1 : lastP s i ≠ 59) (h2 : lastP s i ≠ 38) : lastB 32 s.data.toList ≠ 59 ∧ lastB 32 s.data.toList ≠ 38 := by
  subst hi
  have h := lastP_list s s.size (Nat.le_refl _)
  rw [List.take_of_length_le (by rw [size_list]; omega)] at h
  refine ⟨fun e => h1 ?_, fun e => h2 ?_⟩ <;> rw [h, e] <;> rfl
/-! ### Errors -/
theorem wordT_er {T : List Tk} {e : Int} (h : wordT T = .error e) : e ≠ 0 := by
  cases T with
  | nil => cases h; decide
  | cons t r =>
    simp only [wordT] at h
    split at h
    · cases h; decide
    · split at h
      · cases h; decide
      · cases h
theorem redirT_er {c : CmdL} {k : Nat} {T : List Tk} {e : Int} (h : redirT c k T = .error e) : e ≠ 0 := by
  unfold redirT at h
  split at h
  · cases h; decide
  · cases hw : wordT T with
    | error e' => rw [hw] at h; cases h; exact wordT_er hw
    | ok q => rw [hw] at h; cases h
theorem cmdT_er : ∀ (k : Nat) (c : CmdL) (T : List Tk) (e : Int), cmdT k c T = .error e → e ≠ 0
  | 0, _, _, _, h => by cases h
  | k + 1, c, T, e, h => by
    simp only [cmdT] at h
    split at h
    · split at h
      · cases h; decide
      · cases hw : wordT T with
        | error e' => rw [hw] at h; cases h; exact wordT_er hw
        | ok q => rw [hw] at h; exact cmdT_er k _ _ e h
    · split at h
      · cases hw : redirT c (hK T) T.tail with
        | error e' => rw [hw] at h; cases h; exact redirT_er hw
        | ok q => rw [hw] at h; exact cmdT_er k _ _ e h
      · split at h
        · cases h; decide
        · cases h
theorem jobT_er {F : Nat} : ∀ (k : Nat) (l : List CmdL) (T : List Tk) (e : Int), jobT F k l T = .error e → e ≠ 0
  | 0, _, _, _, h => by cases h
  | k + 1, l, T, e, h => by
    simp only [jobT] at h
    split at h
    · split at h
      · cases h; decide
      · cases hw : cmdT F cmd0 T.tail with
        | error e' => rw [hw] at h; cases h; exact cmdT_er _ _ _ _ hw
        | ok q => rw [hw] at h; exact jobT_er k _ _ e h
    · cases h
theorem job1T_er {F : Nat} {T : List Tk} {e : Int} (h : job1T F T = .error e) : e ≠ 0 := by
  unfold job1T at h
  cases hw : cmdT F cmd0 T with
  | error e' => rw [hw] at h; cases h; exact cmdT_er _ _ _ _ hw
  | ok q => rw [hw] at h; exact jobT_er _ _ _ e h
theorem lineT_er {F : Nat} : ∀ (k : Nat) (l : List JobL) (T : List Tk) (e : Int), lineT F k l T = .error e → e ≠ 0
  | 0, _, _, _, h => by cases h
  | k + 1, l, T, e, h => by
    simp only [lineT] at h
    split at h
    · cases h
    · split at h
      · cases h; decide
      · cases hw : job1T F T with
        | error e' => rw [hw] at h; cases h; exact job1T_er hw
        | ok q =>
          rw [hw] at h
          simp only at h
          split at h
          · cases h
          · split at h
            · exact lineT_er k _ _ e h
            · cases h; decide
theorem lineP_er {s : ByteArray} {a : Nat} {b : Int} (h : lineP false s = .error (a, b)) : (b != 0) = true := by
  have h1 := lineP_lex s
  rw [h] at h1
  rw [bne_iff_ne]
  exact lineT_er _ _ _ _ h1.symm
/-! ### The joined line -/
theorem join_data (a b : ByteArray) (m : UInt8) : (a ++ (⟨#[m]⟩ : ByteArray) ++ b).data.toList = a.data.toList ++ m :: b.data.toList := by
  rw [ByteArray.data_append, ByteArray.data_append, Array.toList_append, Array.toList_append]
  simp
theorem joined {a b s3 : ByteArray} {x y : List JobL} {l1 l2 : List JV} {m : UInt8} {z : Bool} {i : Nat} (hm : (m = 59 ∧ z = false) ∨ (m = 38 ∧ z = true)) (hs : s3 = a ++ (⟨#[m]⟩ : ByteArray) ++ b) (hx : lineP false a = .ok x) (hy : lineP false b = .ok y) (e1 : l1.map JV.d = x) (e2 : l2.map JV.d = y)
    (h0 : ((l1.length : Nat) : Int) ≠ 0) (h8 : l1.length + l2.length ≤ 8) (hi : i = a.size) (q1 : lastP a i ≠ 59) (q2 : lastP a i ≠ 38) : ∃ u j, x = u ++ [j] ∧ lineP false s3 = .ok (u ++ [⟨j.cmds, z⟩] ++ y) := by
  have n1 : x.length = l1.length := by rw [← e1, List.length_map]
  have n2 : y.length = l2.length := by rw [← e2, List.length_map]
  obtain ⟨u, j, h1, h2⟩ := lineP_join (m := m) (s := s3) hx hy (fun e => by rw [e] at n1; simp at n1; omega) (by omega) (by rcases hm with ⟨h, _⟩ | ⟨h, _⟩; exact .inl h; exact .inr h) (last_ne hi q1 q2) (by rw [hs]; exact join_data a b m)
  refine ⟨u, j, h1, ?_⟩
  rw [h2]
  rcases hm with ⟨rfl, rfl⟩ | ⟨rfl, rfl⟩ <;> rfl
end Go.Proofs.Ytfhcpegemapbkaa
