/-
  Plain words for the layer cpu: the formats' table, and which instructions are legal.
-/
import Derived.Test.YtkfnkcpdabdboaaDoorSx
import Derived.Test.YtkfnkcpdabdboaaDoorProg
import Derived.KernelRfl
set_option linter.unusedVariables false
namespace Go.Proofs.YtkfnkcpdabdboaaDoor
open Go Go.RowKit Go.Proofs.Sx

/-- The formats, cell by cell. -/
def tblL : List Value := [str (⟨#[]⟩), bl false, bl false, bl false, bl false, bl false, str (⟨#[115, 101, 116]⟩), bl true, bl false, bl false, bl true, bl false, str (⟨#[104, 105, 103, 104]⟩), bl true, bl false, bl false, bl true, bl false, str (⟨#[112, 108, 117, 115]⟩), bl true, bl true, bl true, bl false, bl true, str (⟨#[97, 100, 100]⟩), bl true, bl true, bl true, bl false, bl false, str (⟨#[115, 117, 98]⟩), bl true, bl true, bl true, bl false, bl false, str (⟨#[109, 117, 108]⟩), bl true, bl true, bl true, bl false, bl false, str (⟨#[100, 105, 118]⟩), bl true, bl true, bl true, bl false, bl false, str (⟨#[114, 101, 109]⟩), bl true, bl true, bl true, bl false, bl false, str (⟨#[97, 110, 100]⟩), bl true, bl true, bl true, bl false, bl false, str (⟨#[111, 114]⟩), bl true, bl true, bl true, bl false, bl false, str (⟨#[120, 111, 114]⟩), bl true, bl true, bl true, bl false, bl false, str (⟨#[108, 101, 115, 115]⟩), bl true, bl true, bl true, bl false, bl false, str (⟨#[115, 97, 109, 101]⟩), bl true, bl true, bl true, bl false, bl false, str (⟨#[108, 111, 97, 100]⟩), bl true, bl true, bl true, bl false, bl true, str (⟨#[115, 116, 111, 114, 101]⟩), bl true, bl true, bl true, bl false, bl true, str (⟨#[108, 111, 97, 100, 98, 121, 116, 101]⟩), bl true, bl true, bl true, bl false, bl true, str (⟨#[115, 116, 111, 114, 101, 98, 121, 116, 101]⟩), bl true, bl true, bl true, bl false, bl true, str (⟨#[106, 117, 109, 112]⟩), bl false, bl false, bl false, bl true, bl false, str (⟨#[122, 101, 114, 111]⟩), bl true, bl false, bl false, bl true, bl false, str (⟨#[99, 97, 108, 108]⟩), bl true, bl false, bl false, bl true, bl false, str (⟨#[98, 97, 99, 107]⟩), bl true, bl false, bl false, bl false, bl false, str (⟨#[115, 121, 115, 116, 101, 109]⟩), bl false, bl false, bl false, bl false, bl false]
/-- The variable of the formats reads so. -/
def Tab (w : World) : Prop := ∀ j v, tblL[j]? = some v → w.cell? ⟨0, j, none⟩ = some v
theorem Tab.lt {w : World} (h : Tab w) : 0 < w.heap.size := by
  have h0 := h 0 (.string ⟨#[]⟩) rfl
  rcases Nat.eq_zero_or_pos w.heap.size with hz | hp
  · simp [World.cell?, Array.getElem?_eq_none (show w.heap.size ≤ 0 by omega)] at h0
  · exact hp
theorem Tab.keep {w w' : World} {X : Nat → Prop} (h : Tab w) (hx : Only X w w') (h0 : ¬ X 0) : Tab w' := fun j v hv => hx.cell (h j v hv) h0
theorem Tab.ld1 {P : Program} {w w' : World} {X : Nat → Prop} (h : Tab w) (hx : Only X w w') (h0 : ¬ X 0) {u : TypeId} {i : Nat} {v : Value} (ht : oneT P u = true) (hv : tblL[i]? = some v) : Ld P w' ⟨0, i, none⟩ u v := ld_cell ht (hx.cell (h i v hv) h0)
theorem Tab.ldn {P : Program} {w w' : World} {X : Nat → Prop} (h : Tab w) (hx : Only X w w') (h0 : ¬ X 0) {u : TypeId} {i m : Nat} {cs : List Value} (ht : aggT P u = some m) (hv : (tblL.drop i).take m = cs) (hl : cs.length = m) : Ld P w' ⟨0, i, none⟩ u (.agg cs.toArray) :=
  ld_agg ht hl fun j v hj => by
    rw [add_off]
    refine hx.cell (h _ v ?_) h0
    subst hv
    have hjm : j < m := by
      have := (List.getElem?_eq_some_iff.1 hj).1
      omega
    rw [List.getElem?_take, if_pos hjm, List.getElem?_drop] at hj
    exact hj

/-- Row k of the formats. -/
def RowAt (P : Program) (w : World) (t : TypeId) (k : Nat) (nm : ByteArray) (fa fb fc fv fs : Bool) : Prop :=
  ∀ w', Only none' w w' → Ld P w' ((⟨0, 0, none⟩ : Addr).add (k * 6)) t (.agg #[.string nm, .bool fa, .bool fb, .bool fc, .bool fv, .bool fs])
theorem RowAt.of {P : Program} {w : World} {t : TypeId} {k : Nat} {nm : ByteArray} {fa fb fc fv fs : Bool} (h : Tab w) (ht : aggT P t = some 6) (hv : (tblL.drop (k * 6)).take 6 = [.string nm, .bool fa, .bool fb, .bool fc, .bool fv, .bool fs]) : RowAt P w t k nm fa fb fc fv fs := by
  intro w' hx
  have := h.ldn hx (fun h => h) ht hv rfl
  rw [add_off, Nat.zero_add]
  exact this
theorem RowAt.keep {P : Program} {w w' : World} {t : TypeId} {k : Nat} {nm : ByteArray} {fa fb fc fv fs : Bool} (h : RowAt P w t k nm fa fb fc fv fs) (hx : Only none' w w') : RowAt P w' t k nm fa fb fc fv fs :=
  fun w2 h2 => h w2 (hx.step h2 fun _ _ h => h)

def regB (n : Int) (u : Bool) : Bool := n == 0 || (u && (decide (n > 0) && decide (n < 16)))
def opA (o : Int) : Bool := (decide (1 ≤ o) && decide (o ≤ 17)) || (decide (19 ≤ o) && decide (o ≤ 21))
def opB (o : Int) : Bool := decide (3 ≤ o) && decide (o ≤ 17)
def opV (o : Int) : Bool := o == 1 || o == 2 || o == 18 || o == 19 || o == 20
def opS (o : Int) : Bool := o == 3 || (decide (14 ≤ o) && decide (o ≤ 17))
def legC (o c : Int) : Bool := cond (opS o) (decide (c ≥ -128) && decide (c ≤ 127)) (regB c (opB o))
def legV (o v : Int) : Bool := v == 0 || (opV o && (decide (v ≥ -32768) && decide (v ≤ 32767)))
def legalB (o a b c v : Int) : Bool := (decide (1 ≤ o) && decide (o ≤ 22)) && (regB a (opA o) && (regB b (opB o) && (legC o c && legV o v)))
/-- The same by the row of the format. -/
def legF (fa fb fc fv fs : Bool) (a b c v : Int) : Bool := regB a fa && (regB b fb && (cond fs (decide (c ≥ -128) && decide (c ≤ 127)) (regB c fc) && (v == 0 || (fv && (decide (v ≥ -32768) && decide (v ≤ 32767))))))
theorem legF_op {o : Int} (h : 1 ≤ o) (h' : o ≤ 22) (a b c v : Int) : legF (opA o) (opB o) (opB o) (opV o) (opS o) a b c v = legalB o a b c v := by
  simp [legF, legalB, legC, legV, h, h']
def rowNm (k : Nat) : ByteArray := match tblL[k * 6]? with | some (.string s) => s | _ => ⟨#[]⟩
theorem row_of {P : Program} {w : World} {t : TypeId} (h : Tab w) (ht : aggT P t = some 6) {k : Nat} (h1 : 1 ≤ k) (h2 : k ≤ 22) : RowAt P w t k (rowNm k) (opA k) (opB k) (opB k) (opV k) (opS k) := by
  refine RowAt.of h ht ?_
  have : k = 1 ∨ k = 2 ∨ k = 3 ∨ k = 4 ∨ k = 5 ∨ k = 6 ∨ k = 7 ∨ k = 8 ∨ k = 9 ∨ k = 10 ∨ k = 11 ∨ k = 12 ∨ k = 13 ∨ k = 14 ∨ k = 15 ∨ k = 16 ∨ k = 17 ∨ k = 18 ∨ k = 19 ∨ k = 20 ∨ k = 21 ∨ k = 22 := by omega
  rcases this with rfl | rfl | rfl | rfl | rfl | rfl | rfl | rfl | rfl | rfl | rfl | rfl | rfl | rfl | rfl | rfl | rfl | rfl | rfl | rfl | rfl | rfl <;> rfl
def insV (o a b c v : Int) : Value := .agg #[.int .i64 o, .int .i64 a, .int .i64 b, .int .i64 c, .int .i64 v]
/-! ### Registers -/
def regsA (R : Nat → Int) : List Value := (List.range 16).map fun i => .int .i32 (R i)
def regsL (R : Nat → Int) (pc : Int) : List Value := regsA R ++ [.int .i64 pc]
def upd (R : Nat → Int) (k : Nat) (v : Int) : Nat → Int := fun i => if i = k then v else R i
theorem regsL_get {R : Nat → Int} {pc : Int} {k : Nat} (h : k < 16) : (regsL R pc)[k]? = some (.int .i32 (R k)) := by
  simp [regsL, regsA, List.getElem?_append, h]
theorem regsL_len (R : Nat → Int) (pc : Int) : (regsL R pc).length = 17 := by simp [regsL, regsA]
/-- Registers by a list. -/
def rgs (l : List Int) : Nat → Int := fun i => l.getD i 0
theorem setL_regs {R : Nat → Int} {pc : Int} {k : Nat} (h : k < 16) (v : Int) : setL (regsL R pc) k [.int .i32 v] = regsL (upd R k v) pc := by
  apply List.ext_getElem?
  intro i
  have hl := regsL_len R pc
  have hl' := regsL_len (upd R k v) pc
  simp only [setL, List.length_singleton, List.append_assoc]
  rcases Nat.lt_trichotomy i k with hi | rfl | hi
  · rw [List.getElem?_append_left (by simp; omega), List.getElem?_take_of_lt hi, regsL_get (by omega), regsL_get (by omega)]
    simp [upd, Nat.ne_of_lt hi]
  · rw [List.getElem?_append_right (by simp; omega), List.length_take, Nat.min_eq_left (by omega)]
    simp [regsL_get h, upd]
  · rw [List.getElem?_append_right (by simp; omega), List.length_take, Nat.min_eq_left (by omega)]
    rw [show i - k = (i - (k + 1)) + 1 from by omega]
    simp only [List.singleton_append, List.getElem?_cons_succ, List.getElem?_drop]
    rw [show k + 1 + (i - (k + 1)) = i from by omega]
    by_cases h16 : i < 16
    · rw [regsL_get h16, regsL_get h16]; simp [upd, Nat.ne_of_gt hi]
    · simp [regsL, regsA, List.getElem?_append, h16]
theorem regs_ble (R : Nat → Int) (pc : Int) {k : Nat} {v : Value} (h : k < 16) : Nat.ble (k + [v].length) (regsL R pc).length = true :=
  Nat.ble_eq_true_of_le (by rw [regsL_len]; simp; omega)
theorem ld_regs {P : Program} {w : World} {b : Nat} {t u : TypeId} {R : Nat → Int} {pc : Int} {k : Nat} (h : Blk w b t (regsL R pc)) (hk : k < 16) (ht : oneT P u = true) : Ld P w ((⟨b, 0, none⟩ : Addr).add k) u (.int .i32 (R k)) := by
  rw [add_zero_off]; exact h.ld1 ht (regsL_get hk)
def RegsOk (R : Nat → Int) : Prop := ∀ i, inK .i32 (R i)
theorem rgs_ok {l : List Int} (h : ∀ x ∈ l, -2147483648 ≤ x ∧ x ≤ 2147483647) : RegsOk (rgs l) := fun i => by
  unfold rgs
  rw [List.getD_eq_getElem?_getD]
  cases hi : l[i]? with
  | none => exact inK_i32 (by decide) (by decide)
  | some x => have := h x (List.mem_of_getElem? hi); exact inK_i32 this.1 this.2
def trapL (k n a0 a1 a2 ad ln : Int) : List Value := [.int .i64 k, .int .i64 n, .int .i64 a0, .int .i64 a1, .int .i64 a2, .int .i64 ad, .int .i64 ln]

def arithS (o b c : Int) : Int :=
  if o = 4 then IntKind.i32.wrap (b + c) else if o = 5 then IntKind.i32.wrap (b - c) else if o = 6 then IntKind.i32.wrap (b * c)
  else if o = 7 then IntKind.i32.wrap (b.tdiv c) else if o = 8 then b.tmod c else if o = 9 then bits .and .i32 b c else if o = 10 then bits .or .i32 b c
  else if o = 11 then bits .xor .i32 b c else if o = 12 then cond (decide (b < c)) 1 0 else cond (b == c) 1 0
/-- How many bytes an operation loads or stores. -/
def placeN (o : Int) : Int := if o = 14 ∨ o = 15 then 4 else if o = 16 ∨ o = 17 then 1 else 0
def placeA (R : Nat → Int) (o b c : Int) : Int := if placeN o = 0 then 0 else R b.toNat + c

def outV (R : Nat → Int) (pc st : Int) (tr : List Value) : Value := .tuple #[.agg (regsL R pc).toArray, .int .i64 st, .agg tr.toArray]
def noTrap : List Value := trapL 0 0 0 0 0 0 0
/-- What Exec returns for a legal instruction. -/
def execV (R : Nat → Int) (pc ld o a b c v : Int) : Value :=
  let ra := R a.toNat
  let rb := R b.toNat
  let p := pc + 4
  let t := pc + 4 + 4 * v
  if o = 1 then outV (upd R a.toNat v) p 0 noTrap
  else if o = 2 then outV (upd R a.toNat (IntKind.i32.wrap (ra + v * 65536))) p 0 noTrap
  else if o = 3 then outV (upd R a.toNat (IntKind.i32.wrap (rb + c))) p 0 noTrap
  else if o = 14 then (if (rb + c).tmod 4 = 0 then outV (upd R a.toNat (IntKind.i32.wrap ld)) p 0 noTrap else outV R pc 0 (trapL 2 3 0 0 0 0 0))
  else if o = 15 then (if (rb + c).tmod 4 = 0 then outV R p ra noTrap else outV R pc 0 (trapL 2 3 0 0 0 0 0))
  else if o = 16 then outV (upd R a.toNat (IntKind.u8.wrap ld)) p 0 noTrap
  else if o = 17 then outV R p (IntKind.u8.wrap ra) noTrap
  else if o = 18 then outV R t 0 noTrap
  else if o = 19 then outV R (if ra = 0 then t else p) 0 noTrap
  else if o = 20 then outV (upd R a.toNat (IntKind.i32.wrap p)) t 0 noTrap
  else if o = 21 then outV R ra 0 noTrap
  else if o = 22 then outV R p 0 (trapL 1 (R 1) (R 2) (R 3) (R 4) (R 5) (R 6))
  else if (o = 7 ∨ o = 8) ∧ R c.toNat = 0 then outV R pc 0 (trapL 2 2 0 0 0 0 0)
  else outV (upd R a.toNat (arithS o rb (R c.toNat))) p 0 noTrap

/-- What Decode reads, by the row of the format. -/
def decF (fv fs : Bool) (x0 x1 x2 x3 : Int) : Option (Int × Int × Int × Int × Int) :=
  let r := cond fv (x0, x1, 0, 0, IntKind.i16.wrap (x2 * 256 + x3)) (cond fs (x0, x1, x2, IntKind.i8.wrap x3, 0) (x0, x1, x2, x3, 0))
  if 1 ≤ x0 ∧ x0 ≤ 22 then if legalB r.1 r.2.1 r.2.2.1 r.2.2.2.1 r.2.2.2.2 then some r else none else none
def insO : Option (Int × Int × Int × Int × Int) → Value
  | some (o, a, b, c, v) => insV o a b c v
  | none => insV 0 0 0 0 0
def errO : Option (Int × Int × Int × Int × Int) → Int
  | some _ => 0
  | none => 4
theorem or_bytes {x y : Int} (h1 : 0 ≤ x) (h2 : x ≤ 255) (h3 : 0 ≤ y) (h4 : y ≤ 255) : bits .or .u16 (x * 256) y = x * 256 + y := by
  obtain ⟨a, rfl⟩ := Int.eq_ofNat_of_zero_le h1
  obtain ⟨b, rfl⟩ := Int.eq_ofNat_of_zero_le h3
  have ha : a < 256 := by omega
  have hb : b < 256 := by omega
  have e1 : ((a : Int) * 256) = ((a * 256 : Nat) : Int) := by omega
  have e2 : (a * 256) ||| b = a * 256 + b := by
    have := Nat.two_pow_add_eq_or_of_lt (i := 8) (b := b) (by omega) a
    rw [Nat.mul_comm a 256]; exact this.symm
  rw [e1]
  show IntKind.u16.wrap (((BitVec.ofInt 16 ((a * 256 : Nat) : Int) ||| BitVec.ofInt 16 (b : Int)).toNat : Nat) : Int) = _
  rw [BitVec.toNat_or, BitVec.ofInt_natCast, BitVec.ofInt_natCast, BitVec.toNat_ofNat, BitVec.toNat_ofNat, Nat.mod_eq_of_lt (by omega), Nat.mod_eq_of_lt (by omega), e2]
  rw [inK.wrap (inK_u16 (by omega) (by omega))]
  omega
def decS (x0 x1 x2 x3 : Int) := decF (opV x0) (opS x0) x0 x1 x2 x3
/-- What Decode reads from some bytes. -/
def decX : List Int → Option (Int × Int × Int × Int × Int)
  | [x0, x1, x2, x3] => decS x0 x1 x2 x3
  | _ => none
theorem decX_legal {xs : List Int} {o a b c v : Int} (h : decX xs = some (o, a, b, c, v)) : legalB o a b c v = true := by
  match xs, h with
  | [x0, x1, x2, x3], h =>
    simp only [decX, decS, decF] at h
    split at h
    · split at h
      · rename_i hl
        simp only [Option.some.injEq] at h
        rw [h] at hl
        exact hl
      · cases h
    · cases h
theorem regB_spec {n : Int} {u : Bool} (h : regB n u = true) : 0 ≤ n ∧ n ≤ 15 := by
  simp only [regB, Bool.or_eq_true, beq_iff_eq, Bool.and_eq_true, decide_eq_true_eq] at h; omega
theorem legal_spec {o a b c v : Int} (h : legalB o a b c v = true) : (1 ≤ o ∧ o ≤ 22) ∧ (0 ≤ a ∧ a ≤ 15) ∧ (0 ≤ b ∧ b ≤ 15) ∧ (-128 ≤ c ∧ c ≤ 127) ∧ (-32768 ≤ v ∧ v ≤ 32767) ∧ (4 ≤ o ∧ o ≤ 13 → 0 ≤ c ∧ c ≤ 15) := by
  simp only [legalB, Bool.and_eq_true, decide_eq_true_eq] at h
  obtain ⟨ho, h1, h2, h3, h4⟩ := h
  have hc : (-128 ≤ c ∧ c ≤ 127) ∧ (4 ≤ o ∧ o ≤ 13 → 0 ≤ c ∧ c ≤ 15) := by
    unfold legC at h3
    by_cases hs : opS o = true
    · rw [hs] at h3
      simp only [cond_true, Bool.and_eq_true, decide_eq_true_eq] at h3
      simp only [opS, Bool.or_eq_true, beq_iff_eq, Bool.and_eq_true, decide_eq_true_eq] at hs
      omega
    · rw [Bool.not_eq_true] at hs
      rw [hs] at h3
      have := regB_spec h3
      omega
  have hv : -32768 ≤ v ∧ v ≤ 32767 := by
    simp only [legV, Bool.or_eq_true, beq_iff_eq, Bool.and_eq_true, decide_eq_true_eq] at h4
    rcases h4 with h4 | h4 <;> omega
  exact ⟨ho, regB_spec h1, regB_spec h2, hc.1, hv, hc.2⟩
def execX (R : Nat → Int) (pc ld : Int) (xs : List Int) : Value := match decX xs with
  | some (o, a, b, c, v) => execV R pc ld o a b c v
  | none => outV R pc 0 (trapL 2 1 0 0 0 0 0)
/-! ### Encodings -/
def encX (o a b c v : Int) : List Int := [IntKind.u8.wrap o, IntKind.u8.wrap a, cond (opV o) (IntKind.u8.wrap (v / 256)) (IntKind.u8.wrap b), cond (opV o) (IntKind.u8.wrap v) (IntKind.u8.wrap c)]
theorem Tab.fv {w : World} (h : Tab w) {k : Nat} (h1 : 1 ≤ k) (h2 : k ≤ 22) : w.cell? (((⟨0, 0, none⟩ : Addr).add (k * 6)).add 4) = some (.bool (opV (k : Nat))) := by
  rw [add_off, add_off]
  refine h _ _ ?_
  have : k = 1 ∨ k = 2 ∨ k = 3 ∨ k = 4 ∨ k = 5 ∨ k = 6 ∨ k = 7 ∨ k = 8 ∨ k = 9 ∨ k = 10 ∨ k = 11 ∨ k = 12 ∨ k = 13 ∨ k = 14 ∨ k = 15 ∨ k = 16 ∨ k = 17 ∨ k = 18 ∨ k = 19 ∨ k = 20 ∨ k = 21 ∨ k = 22 := by omega
  rcases this with rfl | rfl | rfl | rfl | rfl | rfl | rfl | rfl | rfl | rfl | rfl | rfl | rfl | rfl | rfl | rfl | rfl | rfl | rfl | rfl | rfl | rfl <;> rfl
/-! ### The reference -/
def formF (o : Int) : Int :=
  if o = 1 ∨ o = 2 ∨ o = 19 ∨ o = 20 then 1 else if o = 3 ∨ (14 ≤ o ∧ o ≤ 17) then 2 else if 4 ≤ o ∧ o ≤ 13 then 3 else if o = 18 then 4 else if o = 21 then 5 else if o = 22 then 6 else 0
def inB (n l m : Int) : Bool := decide (n ≥ l) && decide (n ≤ m)
def formOk (o : Int) (fa fb fv fs : Bool) : Prop := (1 ≤ o ∧ o ≤ 22) ∧ opA o = fa ∧ opB o = fb ∧ opV o = fv ∧ opS o = fs
theorem op_iff (o : Int) : (opA o = true ↔ (1 ≤ o ∧ o ≤ 17) ∨ (19 ≤ o ∧ o ≤ 21)) ∧ (opB o = true ↔ 3 ≤ o ∧ o ≤ 17) ∧ (opV o = true ↔ o = 1 ∨ o = 2 ∨ o = 18 ∨ o = 19 ∨ o = 20) ∧ (opS o = true ↔ o = 3 ∨ (14 ≤ o ∧ o ≤ 17)) := by
  simp only [opA, opB, opV, opS, Bool.or_eq_true, Bool.and_eq_true, decide_eq_true_eq, beq_iff_eq, or_assoc]
  exact ⟨trivial, trivial, trivial, trivial⟩
theorem form_flags (o : Int) : (formF o = 1 → formOk o true false true false) ∧ (formF o = 2 → formOk o true true false true) ∧ (formF o = 3 → formOk o true true false false) ∧ (formF o = 4 → formOk o false false true false) ∧ (formF o = 5 → formOk o true false false false) ∧ (formF o = 6 → formOk o false false false false) := by
  obtain ⟨hA, hB, hV, hS⟩ := op_iff o
  have hn : ∀ {b : Bool} {p : Prop}, (b = true ↔ p) → ¬ p → b = false := fun {b p} h hp => by cases b with | false => rfl | true => exact absurd (h.1 rfl) hp
  unfold formF formOk
  repeat' split
  all_goals refine ⟨fun h => ?_, fun h => ?_, fun h => ?_, fun h => ?_, fun h => ?_, fun h => ?_⟩
  all_goals first
    | (exfalso; omega)
    | (refine ⟨by omega, ?_, ?_, ?_, ?_⟩ <;> first | exact hA.2 (by omega) | exact hn hA (by omega) | exact hB.2 (by omega) | exact hn hB (by omega) | exact hV.2 (by omega) | exact hn hV (by omega) | exact hS.2 (by omega) | exact hn hS (by omega))
theorem form_cases (o : Int) : formF o = 0 ∨ formF o = 1 ∨ formF o = 2 ∨ formF o = 3 ∨ formF o = 4 ∨ formF o = 5 ∨ formF o = 6 := by
  unfold formF; repeat' split
  all_goals omega
theorem form_zero {o : Int} (h : formF o = 0) : ¬ (1 ≤ o ∧ o ≤ 22) := by
  unfold formF at h; repeat' split at h
  all_goals omega
theorem formOk.legal {o : Int} {fa fb fv fs : Bool} (h : formOk o fa fb fv fs) (a b c v : Int) : legF fa fb fb fv fs a b c v = legalB o a b c v := by
  obtain ⟨ho, rfl, rfl, rfl, rfl⟩ := h
  exact legF_op ho.1 ho.2 a b c v
end Go.Proofs.YtkfnkcpdabdboaaDoor
