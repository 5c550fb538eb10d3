/-
  Plain words of the layers wire, sum and exe: encodings of numbers, checksums.
-/
import Derived.Test.YtkfnkcpdabdboaaDoorProg
import Derived.Test.YtkfnkcpdabdboaaDoorChecked
import Derived.Test.YtkfnkcpdabdboaaDoorSy
import Derived.Test.YtkfnkcpdabdboaaDoorCbase
set_option linter.unusedVariables false
set_option linter.unusedSimpArgs false
set_option maxRecDepth 10000
namespace Go.Proofs.YtkfnkcpdabdboaaDoor
open Go Go.RowKit Go.Proofs.Sx
theorem addr_add_add (ad : Addr) (i j : Nat) : (ad.add i).add j = ad.add (i + j) := by unfold Addr.add; split <;> split <;> simp_all [Nat.add_assoc]
/-- A number with a sign as one without. -/
def zig (n : Int) : Nat := if n < 0 then (-2 * n - 1).toNat else (2 * n).toNat
/-- Groups of seven bits. -/
def grp : Nat → Nat → List Int
  | 0, _ => []
  | k + 1, u => if u < 128 then [(u : Int)] else ((128 + u % 128 : Nat) : Int) :: grp k (u / 128)
def encI (n : Int) : List Int := grp 10 (zig n)
theorem grp_u8 : ∀ k u, U8s (grp k u)
  | 0, _ => U8s.nil
  | k + 1, u => by
    unfold grp; split
    · exact U8s.cons (inK_u8 (by omega) (by omega)) U8s.nil
    · exact U8s.cons (inK_u8 (by omega) (by omega)) (grp_u8 k _)
theorem grp_len : ∀ k u, (grp k u).length ≤ k
  | 0, _ => Nat.le_refl _
  | k + 1, u => by
    unfold grp; split
    · simp
    · have := grp_len k (u / 128); simp; omega
theorem encI_len (n : Int) : (encI n).length ≤ 10 := grp_len _ _
theorem encI_u8 (n : Int) : U8s (encI n) := grp_u8 _ _
theorem zig_lt {n : Int} (h : inK .i64 n) : zig n < 18446744073709551616 := by
  have h1 : -9223372036854775808 ≤ n ∧ n ≤ 9223372036854775807 := h
  unfold zig; split <;> omega
theorem u64_mod (z : Int) : IntKind.u64.wrap z = z % 18446744073709551616 := by
  simp only [IntKind.wrap, IntKind.signed, Bool.false_and, Bool.false_eq_true, if_false]
  rfl
theorem zig_pos {n : Int} (h : inK .i64 n) (h0 : ¬ n < 0) : IntKind.u64.wrap ((IntKind.u64.wrap n) * 2) = ((zig n : Nat) : Int) := by
  have h1 : -9223372036854775808 ≤ n ∧ n ≤ 9223372036854775807 := h
  rw [u64_mod, u64_mod]; unfold zig; rw [if_neg h0]; omega
theorem zig_neg {n : Int} (h : inK .i64 n) (h0 : n < 0) : bits .xor .u64 18446744073709551615 (IntKind.u64.wrap ((IntKind.u64.wrap n) * 2)) = ((zig n : Nat) : Int) := by
  have h1 : -9223372036854775808 ≤ n ∧ n ≤ 9223372036854775807 := h
  have e : IntKind.u64.wrap ((IntKind.u64.wrap n) * 2) = 18446744073709551616 + 2 * n := by rw [u64_mod, u64_mod]; omega
  rw [e]
  show IntKind.u64.wrap (((BitVec.ofInt 64 18446744073709551615 ^^^ BitVec.ofInt 64 (18446744073709551616 + 2 * n)).toNat : Nat) : Int) = _
  have e1 : BitVec.ofInt 64 18446744073709551615 = BitVec.allOnes 64 := by decide
  rw [e1, BitVec.allOnes_xor, BitVec.toNat_not, BitVec.toNat_ofInt]
  rw [u64_mod]; unfold zig; rw [if_pos h0]
  omega
theorem u8_id {x : Int} (h : 0 ≤ x) (h' : x ≤ 255) : IntKind.u8.wrap x = x := (inK_u8 h h').wrap
theorem grp_more {m u : Nat} (h : 128 ≤ u) : grp (m + 1) u = IntKind.u8.wrap (128 + ((u : Nat) : Int) % 128) :: grp m (u / 128) := by
  rw [grp, if_neg (by omega), u8_id (by omega) (by omega)]
  congr 1
theorem grp_last {m u : Nat} (h : u < 128) : grp (m + 1) u = [IntKind.u8.wrap ((u : Nat) : Int)] := by
  rw [grp, if_pos h, u8_id (by omega) (by omega)]
/-! ### Checksums -/
def stepF (h c : Int) : Int := bits .xor .u64 (IntKind.u64.wrap ((bits .xor .u64 h c) * 15111065706836454659)) ((IntKind.u64.wrap ((bits .xor .u64 h c) * 15111065706836454659)) / 536870912)
def sumF (h : Int) (xs : List Int) : Int := xs.foldl stepF h
theorem sumF_step (h : Int) (xs : List Int) {i : Nat} (hi : i < xs.length) : stepF (sumF h (xs.take i)) (xs.getD i 0) = sumF h (xs.take (i + 1)) := by
  unfold sumF
  rw [List.take_add_one, List.getElem?_eq_getElem hi, List.getD_eq_getElem?_getD, List.getElem?_eq_getElem hi, List.foldl_append]; rfl
/-- The lowest bytes of a number. -/
def leb (u : Int) (i : Nat) : Int := IntKind.u8.wrap (u / 2 ^ (min (8 * ((i : Nat) : Int)).toNat 64))
def leL (u : Int) (i : Nat) : List Int := (List.range i).map (leb u)
theorem leL_succ (u : Int) (i : Nat) : leL u i ++ [leb u i] = leL u (i + 1) := by simp [leL, List.range_succ]
theorem leL_len (u : Int) (i : Nat) : (leL u i).length = i := by simp [leL]
theorem leL_u8 (u : Int) (i : Nat) : U8s (leL u i) := fun x hx => by
  simp only [leL, List.mem_map] at hx
  obtain ⟨k, _, rfl⟩ := hx
  exact wrap_inK .u8 _
def sumO (xs : List Int) : Int := sumF (sumF 125762890854254 xs) (leL (IntKind.u64.wrap ((xs.length : Nat) : Int)) 8)
def sealL (xs : List Int) : List Int := xs ++ leL (sumO xs) 8
theorem SlI.sub {w : World} {ad : Addr} {k m n c c' : Nat} {xs : List Int} (h : SlI w (.slice (some ad) n c) xs) (hk : k + m ≤ n) : SlI w (.slice (some (ad.add k)) m c') ((xs.drop k).take m) := by
  rcases h.2 with ⟨h0, _⟩ | ⟨ad', cap, e, hc⟩
  · cases h0
  · obtain rfl : ad = ad' := by cases e; rfl
    obtain rfl : n = xs.length := by cases e; rfl
    refine ⟨fun x hx => h.1 x (List.mem_of_mem_drop (List.mem_of_mem_take hx)), .inr ⟨ad.add k, c', ?_, fun i hi => ?_⟩⟩
    · rw [List.length_take, List.length_drop, Nat.min_eq_left (by omega)]
    · rw [List.length_take, List.length_drop] at hi
      have := hc (k + i) (by omega)
      rw [addr_add_add]
      rw [this, List.getD_eq_getElem?_getD, List.getD_eq_getElem?_getD, List.getElem?_take, if_pos (by omega), List.getElem?_drop]
theorem SlI.cut {w : World} {ad : Addr} {n c c' : Nat} {xs : List Int} (h : SlI w (.slice (some ad) n c) xs) {l hh : Int} (h0 : 0 ≤ l) (h1 : l ≤ hh) (h2 : hh ≤ (n : Int)) : SlI w (.slice (some (atIx ad 1 l)) (hh.toNat - l.toNat) c') ((xs.drop l.toNat).take (hh.toNat - l.toNat)) := by
  have := SlI.sub (k := l.toNat) (m := hh.toNat - l.toNat) (c' := c') h (by omega)
  rw [atIx_eq, Nat.mul_one]; exact this
theorem SlI.len {w : World} {a : Option Addr} {n c : Nat} {xs : List Int} (h : SlI w (.slice a n c) xs) : n = xs.length := by
  rcases h.2 with ⟨e, rfl⟩ | ⟨ad, cap, e, _⟩ <;> cases e <;> rfl
/-! ### Programs -/
def upP (x : Int) : Int := (x + 127) / 128 * 128
def endP (cn dn z : Int) : Int := upP (upP cn + dn + z)
def chunk (xs : List Int) (k : Nat) : List Int := (xs.drop (4 * k)).take 4
def okAll (xs : List Int) : Nat → Bool
  | 0 => true
  | k + 1 => okAll xs k && (decX (chunk xs k)).isSome
def headB (cn dn z en : Int) : Bool := decide (4 ≤ cn ∧ cn % 4 = 0 ∧ 0 ≤ en ∧ en < cn ∧ en % 4 = 0 ∧ 0 ≤ z ∧ z ≤ 3072 ∧ endP cn dn z ≤ 3072)
def validB (cs : List Int) (dn z en : Int) : Bool := headB cs.length dn z en && okAll cs (cs.length / 4)
theorem dec_form (d : Option (Int × Int × Int × Int × Int)) : ∃ o a b c v er, insO d = insV o a b c v ∧ errO d = er ∧ (er = 0 ∨ er = 4) ∧ (d.isSome = true ↔ er = 0) := by
  rcases d with _ | ⟨o, a, b, c, v⟩
  · exact ⟨_, _, _, _, _, 4, rfl, rfl, .inr rfl, by simp⟩
  · exact ⟨o, a, b, c, v, 0, rfl, rfl, .inl rfl, by simp⟩
theorem upP_b {x : Int} (h : 0 ≤ x) : x ≤ upP x ∧ upP x < x + 128 ∧ upP x % 128 = 0 := by unfold upP; omega
theorem valid_no {cs : List Int} {dn z en : Int} (h : ¬ (4 ≤ ((cs.length : Nat) : Int) ∧ ((cs.length : Nat) : Int) % 4 = 0 ∧ 0 ≤ en ∧ en < ((cs.length : Nat) : Int) ∧ en % 4 = 0 ∧ 0 ≤ z ∧ z ≤ 3072 ∧ endP ((cs.length : Nat) : Int) dn z ≤ 3072)) : validB cs dn z en = false := by
  unfold validB headB; rw [decide_eq_false h]; rfl
theorem okAll_no {xs : List Int} {i : Nat} (h : ¬ (decX (chunk xs i)).isSome = true) : ∀ m, i < m → okAll xs m = false
  | 0, hm => by omega
  | m + 1, hm => by
    simp only [okAll]
    by_cases e : i = m
    · subst e; rw [Bool.not_eq_true] at h; rw [h, Bool.and_false]
    · rw [okAll_no h m (by omega)]; rfl
theorem valid_chunk {cs : List Int} {dn z en : Int} {i : Nat} (h : ¬ (decX (chunk cs i)).isSome = true) (hi : i < cs.length / 4) : validB cs dn z en = false := by
  unfold validB; rw [okAll_no h _ hi, Bool.and_false]
theorem valid_yes {cs : List Int} {dn z en : Int} {i : Nat} (h : 4 ≤ ((cs.length : Nat) : Int) ∧ ((cs.length : Nat) : Int) % 4 = 0 ∧ 0 ≤ en ∧ en < ((cs.length : Nat) : Int) ∧ en % 4 = 0 ∧ 0 ≤ z ∧ z ≤ 3072 ∧ endP ((cs.length : Nat) : Int) dn z ≤ 3072) (ho : okAll cs i = true) (hi : i = cs.length / 4) : validB cs dn z en = true := by
  unfold validB headB; rw [decide_eq_true h, ← hi, ho]; rfl
theorem chunk_cut (xs : List Int) (i : Nat) : (xs.drop (((4 * i : Nat) : Int)).toNat).take ((((4 * i : Nat) : Int) + 4).toNat - (((4 * i : Nat) : Int)).toNat) = chunk xs i := by
  unfold chunk
  rw [show (((4 * i : Nat) : Int)).toNat = 4 * i by omega, show (((4 * i : Nat) : Int) + 4).toNat - (4 * i) = 4 by omega]
theorem SlI.as {w : World} {v : Value} {xs ys : List Int} (h : SlI w v xs) (e : xs = ys) : SlI w v ys := e ▸ h
/-- The executable file of a program. -/
def bodyL (cs ds : List Int) (z en : Int) : List Int := [82, 84, 78, 49] ++ encI en ++ encI z ++ encI ((cs.length : Nat) : Int) ++ cs ++ encI ((ds.length : Nat) : Int) ++ ds
def fileL (cs ds : List Int) (z en : Int) : List Int := sealL (bodyL cs ds z en)
theorem sealL_len (xs : List Int) : (sealL xs).length = xs.length + 8 := by unfold sealL; rw [List.length_append, leL_len]
/-! ### Pages -/
def pagesV (mb k : Nat) : List (Option Addr × Nat × Nat) := (List.range k).map fun i => (some ⟨mb, 0 + (128 * i), none⟩, 128, 128)
theorem pagesV_succ (mb k : Nat) : pagesV mb k ++ [(some ⟨mb, 0 + (128 * k), none⟩, 128, 128)] = pagesV mb (k + 1) := by simp [pagesV, List.range_succ]
theorem pagesV_len (mb k : Nat) : (pagesV mb k).length = k := by simp [pagesV]
def memL (cs ds : List Int) (U N : Nat) : List Int := (List.range N).map fun i => if i < cs.length then cs.getD i 0 else if U ≤ i ∧ i < U + ds.length then ds.getD (i - U) 0 else 0
theorem memL_len (cs ds : List Int) (U N : Nat) : (memL cs ds U N).length = N := by simp [memL]
theorem setL_get (l : List Value) (o : Nat) (vs : List Value) (h : o + vs.length ≤ l.length) (i : Nat) : (setL l o vs)[i]? = if i < o then l[i]? else if i < o + vs.length then vs[i - o]? else l[i]? := by
  unfold setL
  by_cases h1 : i < o
  · rw [if_pos h1, List.append_assoc, List.getElem?_append_left (by simp; omega), List.getElem?_take_of_lt h1]
  · rw [if_neg h1, List.append_assoc, List.getElem?_append_right (by simp; omega), List.length_take, Nat.min_eq_left (by omega)]
    by_cases h2 : i < o + vs.length
    · rw [if_pos h2, List.getElem?_append_left (by omega)]
    · rw [if_neg h2, List.getElem?_append_right (by omega), List.getElem?_drop]
      congr 1; omega
theorem mem_eq {cs ds : List Int} {U N : Nat} (h1 : cs.length ≤ U) (h2 : U + ds.length ≤ N) :
    setL (setL (List.replicate N (.int .u8 0)) 0 (cs.flatMap fB)) U (ds.flatMap fB) = (memL cs ds U N).flatMap fB := by
  rw [flatB, flatB, flatB]
  have l1 : (setL (List.replicate N (Value.int .u8 0)) 0 (cs.map (.int .u8 ·))).length = N := by simp [setL]; omega
  apply List.ext_getElem?
  intro i
  rw [setL_get _ _ _ (by rw [l1, List.length_map]; exact h2), setL_get _ _ _ (by simp; omega)]
  simp only [List.length_map, Nat.zero_add, Nat.not_lt_zero, if_false, Nat.sub_zero, List.getElem?_map, memL, List.getElem?_replicate, List.getElem?_range']
  by_cases hN : i < N
  · rw [List.getElem?_range hN]
    simp only [Option.map_some, hN, if_true]
    by_cases a1 : i < cs.length
    · simp [a1, show i < U by omega]
    · by_cases a2 : U ≤ i ∧ i < U + ds.length
      · have : ¬ i < U := by omega
        have a3 : i - U < ds.length := by omega
        simp [a1, this, a2.2, a2.1, a3]
      · by_cases a3 : i < U
        · have : ¬ U ≤ i := by omega
          simp [a1, a3, this]
        · have a4 : ¬ i < U + ds.length := by omega
          simp [a1, a3, a4]
  · have b1 : ¬ i < U := by omega
    have b2 : ¬ i < U + ds.length := by omega
    have b3 : ¬ i < cs.length := by omega
    rw [List.getElem?_eq_none (l := List.range N) (by simp; omega)]
    simp [b1, b2, b3, hN]
/-! ### Different programs have different files -/
theorem grp_pre : ∀ (k u v : Nat) (r r' : List Int), u < 128 ^ k → v < 128 ^ k → grp k u ++ r = grp k v ++ r' → u = v ∧ r = r'
  | 0, u, v, r, r', hu, hv, h => by
    simp only [Nat.pow_zero] at hu hv
    exact ⟨by omega, by simpa [grp] using h⟩
  | k + 1, u, v, r, r', hu, hv, h => by
    simp only [grp] at h
    by_cases h1 : u < 128
    · rw [if_pos h1] at h
      by_cases h2 : v < 128
      · rw [if_pos h2] at h
        simp only [List.singleton_append, List.cons.injEq] at h
        exact ⟨by omega, h.2⟩
      · rw [if_neg h2] at h
        simp only [List.singleton_append, List.cons_append, List.cons.injEq] at h
        omega
    · rw [if_neg h1] at h
      by_cases h2 : v < 128
      · rw [if_pos h2] at h
        simp only [List.singleton_append, List.cons_append, List.cons.injEq] at h
        omega
      · rw [if_neg h2] at h
        simp only [List.cons_append, List.cons.injEq] at h
        rw [Nat.pow_succ] at hu hv
        obtain ⟨h3, h4⟩ := grp_pre k (u / 128) (v / 128) r r' (Nat.div_lt_of_lt_mul (by rw [Nat.mul_comm]; exact hu)) (Nat.div_lt_of_lt_mul (by rw [Nat.mul_comm]; exact hv)) h.2
        exact ⟨by omega, h4⟩
theorem zig_inj {x y : Int} (h : zig x = zig y) : x = y := by
  unfold zig at h
  split at h <;> split at h <;> omega
theorem encI_pre {x y : Int} {r r' : List Int} (hx : inK .i64 x) (hy : inK .i64 y) (h : encI x ++ r = encI y ++ r') : x = y ∧ r = r' := by
  have h1 := zig_lt hx
  have h2 := zig_lt hy
  obtain ⟨h3, h4⟩ := grp_pre 10 _ _ r r' (by omega) (by omega) h
  exact ⟨zig_inj h3, h4⟩
theorem bytes_pre {cs cs' : List Int} {r r' : List Int} (hc : cs.length ≤ 2000) (hc' : cs'.length ≤ 2000) (h : encI ((cs.length : Nat) : Int) ++ (cs ++ r) = encI ((cs'.length : Nat) : Int) ++ (cs' ++ r')) : cs = cs' ∧ r = r' := by
  obtain ⟨h1, h2⟩ := encI_pre (inK_i64 (by omega) (by omega)) (inK_i64 (by omega) (by omega)) h
  exact List.append_inj h2 (by omega)
theorem sealL_inj {xs ys : List Int} (h : sealL xs = sealL ys) : xs = ys := by
  have hl := congrArg List.length h
  rw [sealL_len, sealL_len] at hl
  unfold sealL at h
  exact (List.append_inj h (by omega)).1
theorem file_inj {cs ds cs' ds' : List Int} {z et z' et' : Int} (hc : cs.length ≤ 2000) (hc' : cs'.length ≤ 2000) (hd : ds.length ≤ 2000) (hd' : ds'.length ≤ 2000) (hz : inK .i64 z) (hz' : inK .i64 z') (he : inK .i64 et) (he' : inK .i64 et')
    (h : fileL cs ds z et = fileL cs' ds' z' et') : cs = cs' ∧ ds = ds' ∧ z = z' ∧ et = et' := by
  have h := sealL_inj h
  unfold bodyL at h
  simp only [List.append_assoc] at h
  have h0 := (List.append_inj h rfl).2
  obtain ⟨h1, h2⟩ := encI_pre he he' h0
  obtain ⟨h3, h4⟩ := encI_pre hz hz' h2
  obtain ⟨h5, h6⟩ := bytes_pre hc hc' h4
  have h6 : encI ((ds.length : Nat) : Int) ++ (ds ++ []) = encI ((ds'.length : Nat) : Int) ++ (ds' ++ []) := by simpa using h6
  obtain ⟨h7, _⟩ := bytes_pre hd hd' h6
  exact ⟨h5, h7, h3, h1⟩
/-! ### For the law ExePages -/
theorem pagesV_get {mb K i : Nat} (h : i < K) : (pagesV mb K)[i]? = some (some ⟨mb, 0 + (128 * i), none⟩, 128, 128) := by simp [pagesV, h]
theorem ld_page {P : Program} {w : World} {b mb K i : Nat} {t u : TypeId} {r : List Value} (h : Blk w b t ((pagesV mb K).flatMap fS ++ r)) (hi : i < K) (ht : oneT P u = true) : Ld P w ((⟨b, 0, none⟩ : Addr).add i) u (.slice (some ⟨mb, 0 + (128 * i), none⟩) 128 128) := by
  rw [add_zero_off]
  refine h.ld1 ht ?_
  rw [List.getElem?_append_left (by rw [encS.flen, pagesV_len]; omega)]
  show ((pagesV mb K).flatMap (fun x => [Value.slice x.1 x.2.1 x.2.2]))[i]? = _
  rw [flat1, List.getElem?_map, pagesV_get hi]; rfl
theorem page_src {P : Program} {w : World} {mb i : Nat} {M : List Int} {t tx e' : TypeId} (hk : P.underlying tx = some (.slice e')) (h : Blk w mb t (M.flatMap fB)) (hi : 128 * i + 128 ≤ M.length) :
    Src P 1 tx (.slice (some ⟨mb, 0 + (128 * i), none⟩) 128 128) ((M.drop (128 * i)).take 128).length (((M.drop (128 * i)).take 128).flatMap fB) w := by
  have hl : ((M.drop (128 * i)).take 128).length = 128 := by rw [List.length_take, List.length_drop]; omega
  have := (Blk.vw (f := fB) (xs := (M.drop (128 * i)).take 128) (off := 0 + (128 * i)) (c := 128) h (by
    rw [flatB, flatB, List.length_map, hl, Nat.zero_add, List.map_take, List.map_drop])).src encB hk
  rw [hl] at this ⊢
  exact this
theorem take_page (M : List Int) (i : Nat) : M.take (128 * i) ++ (M.drop (128 * i)).take 128 = M.take (128 * (i + 1)) := by
  rw [Nat.mul_succ, List.take_add]
theorem ld_mem {P : Program} {w : World} {b j : Nat} {M : List Int} {t u : TypeId} {r : List Value} (h : Blk w b t (M.flatMap fB ++ r)) (hj : j < M.length) (ht : oneT P u = true) : Ld P w ((⟨b, 0, none⟩ : Addr).add j) u (.int .u8 (M.getD j 0)) := by
  rw [add_zero_off]
  refine h.ld1 ht ?_
  rw [flatB, List.getElem?_append_left (by rw [List.length_map]; exact hj), List.getElem?_map, List.getElem?_eq_getElem hj, List.getD_eq_getElem?_getD, List.getElem?_eq_getElem hj]; rfl
theorem memL_get {cs ds : List Int} {U N j : Nat} (hj : j < N) : (memL cs ds U N).getD j 0 = if j < cs.length then cs.getD j 0 else if U ≤ j ∧ j < U + ds.length then ds.getD (j - U) 0 else 0 := by
  rw [List.getD_eq_getElem?_getD, memL, List.getElem?_map, List.getElem?_range hj]; rfl
theorem memL_code {cs ds : List Int} {U N j : Nat} (hj : j < N) (h : j < cs.length) : (memL cs ds U N).getD j 0 = cs.getD j 0 := by rw [memL_get hj, if_pos h]
theorem memL_data {cs ds : List Int} {U N j : Nat} (hj : j < N) (hc : cs.length ≤ U) (h : U ≤ j) (h2 : j < U + ds.length) : (memL cs ds U N).getD j 0 = ds.getD ((((j : Nat) : Int) - ((U : Nat) : Int)).toNat) 0 := by
  rw [memL_get hj, if_neg (by omega), if_pos ⟨h, h2⟩]; congr 1; omega
theorem memL_zero {cs ds : List Int} {U N j : Nat} (hj : j < N) (h : ¬ j < cs.length) (h2 : ¬ (U ≤ j ∧ j < U + ds.length)) : (memL cs ds U N).getD j 0 = 0 := by rw [memL_get hj, if_neg h, if_neg h2]
theorem memL_u8 {cs ds : List Int} (hc : U8s cs) (hd : U8s ds) (U N : Nat) : U8s (memL cs ds U N) := fun x hx => by
  simp only [memL, List.mem_map] at hx
  obtain ⟨i, _, rfl⟩ := hx
  split
  · exact hc.nth _
  · split
    · exact hd.nth _
    · decide
theorem U8s.take {xs : List Int} (h : U8s xs) (n : Nat) : U8s (xs.take n) := fun x hx => h x (List.mem_of_mem_take hx)
theorem U8s.drop {xs : List Int} (h : U8s xs) (n : Nat) : U8s (xs.drop n) := fun x hx => h x (List.mem_of_mem_drop hx)
end Go.Proofs.YtkfnkcpdabdboaaDoor
