/-
  THE FRAME OF A LAW: from a walk ('returned true, nothing that was there has turned') to the row's statement. Of no program.
-/
import Derived.Test.YtfhcpegemapbkaaSx
import Derived.WalkKit
import Derived.ProofKit
import Derived.OpenShut
import Derived.ShutString
import Derived.ChangeOld
import Derived.Carry
import Derived.LaidMore
import Derived.LaidOnce
import Derived.SevenTiedAt
import Derived.SizedLaws
set_option linter.unusedVariables false
set_option linter.unusedSimpArgs false
namespace Go.Proofs.Fr
open Go Go.ChangeShapes Go.WideShapes Go.ChangeAt Go.RowKit Go.Proofs.Sx

section
variable {H : Type} {enc : TypeId × Value → H} {P : Program}
theorem trodAll_below (hl : laidOutB P = true) {W W' : World} (hb : Below W.heap.size W W') : ∀ (ts : List TypeId) (vs : List Value) (ds : List (DataW H)) (ps : List MemPlace),
    (ts.all fun t => P.readableRec t && decide (t < P.types.size)) = true → DataW.TrodAll enc P W 0 (fun _ => true) true ts vs ds ps → DataW.TrodAll enc P W' 0 (fun b => decide (b < W.heap.size)) true ts vs ds ps
  | [], [], [], _, _, h => h
  | [], [], _ :: _, _, _, h => h.elim
  | [], _ :: _, _, _, _, h => h.elim
  | _ :: _, [], _, _, _, h => h.elim
  | _ :: _, _ :: _, [], _, _, h => h.elim
  | t :: ts, v :: vs, d :: ds, ps, ht, h => by
    obtain ⟨p, q, h1, h2, rfl⟩ := h
    simp only [List.all_cons, Bool.and_eq_true, decide_eq_true_eq] at ht
    have lt : ∀ x ∈ p, x.block < W.heap.size := by obtain ⟨m, hm⟩ := h1; exact DataW.trod_lt m _ _ _ hm
    exact ⟨p, q, Below.trod hl ht.1.1 ht.1.2 h1 hb lt, trodAll_below hl hb ts vs ds q ht.2 h2, rfl⟩

theorem frame_lawS {C : Checked} {os : Os} {f : FuncId} {fn : Func} {s : ChangeSpec} {conds : List PathCond} {apart fresh handsOn : Bool} {X : World → Prop}
    (hX : ∀ (w w' : World), w.heap = w'.heap → X w → X w') (own : ownKnob C.prog.godebug = none) (started : os.Started) (noInit : C.prog.inits.idxOf? f = none) (hfn : C.prog.funcs[f]? = some fn)
    (witness : ∃ (w : World) (tape : Tape) (i : Input), w.os = os ∧ (w.forCall tape i).Shaped C.prog ∧ i.vars = [] ∧ Input.okWide C.prog (w.forCall tape i) .any w.heap.size f i ∧
      ((s.pre enc C.prog fn conds apart (w.forCall tape i).memory i.args ∧ X (w.forCall tape i).memory) ∧ sizedMet enc C.prog fn (OpenSpec.ofChange s) apart (w.forCall tape i).memory i.args) ∧ ({} : Assume).holds C.prog (lone (Frame.enter C.prog f i.args .normal) [] (w.forCall tape i)))
    (hl : laidOutB C.prog = true) (hps : (fn.params.toList.all fun t => C.prog.readableRec t && decide (t < C.prog.types.size)) = true) (hb : ∃ t, fn.resultTypes = #[t] ∧ C.prog.underlying t = some .bool)
    (hvars : s.vars = []) (hs : ∀ ds : List (DataW H), ds.length = fn.params.toList.length → s.fn H ds = { results := [.lit (.bool true)], args := ds })
    (walk : ∀ (W : World) (base : Nat) (args : Array Value) (ds : List (DataW H)) (p : List MemPlace), (∀ (j : Nat) t v, fn.params[j]? = some t → args[j]? = some v → Value.okWide C.prog W .any base t v) →
      DataW.TrodAll enc C.prog W 0 (fun _ => true) true fn.params.toList args.toList ds p → conds.all (PathCond.test C.prog ⟨fn.params.toList, ds, s.plain.varTypes C.prog, []⟩) = true → (∀ (j : Nat) t d, fn.params.toList[j]? = some t → ds[j]? = some d → ∀ n ∈ d.weights C.prog t, n ≤ reachBytes) → X W →
      Calls C.prog f args W fun e W' => e = .returned (.bool true) ∧ Only none' W W') :
    ReturnsInHanded {} C os f .any (fun w args => (s.pre enc C.prog fn conds apart w args ∧ X w) ∧ sizedMet enc C.prog fn (OpenSpec.ofChange s) apart w args) (s.post enc C.prog fn apart fresh handsOn false) := by
  refine returnsInHanded_of_change_and (C := C) (X := fun w _ => X w) (fun w w' _ hh h => hX w w' hh h) own started noInit hfn witness ?_
  intro W base args ds gs before hval hW hcnd hwt hL _
  have hW' := hW
  obtain ⟨p, q, hA, hV, rfl, hfz, hnd⟩ := hW
  have hgs : gs = [] ∧ q = [] := by
    rw [hvars] at hV
    cases gs with
    | nil => exact ⟨rfl, hV⟩
    | cons g gs => exact hV.elim
  obtain ⟨rfl, rfl⟩ := hgs
  obtain ⟨tb, hrt, htb⟩ := hb
  have hlen : ∀ (ts : List TypeId) (vs : List Value) (ds : List (DataW H)) (p : List MemPlace), DataW.TrodAll enc C.prog W 0 (fun _ => true) true ts vs ds p → ds.length = ts.length := by
    intro ts
    induction ts with
    | nil => intro vs ds p h; cases vs <;> cases ds <;> first | rfl | exact h.elim
    | cons t ts ih => intro vs ds p h; cases vs <;> cases ds <;> first | exact h.elim | (obtain ⟨_, q, _, h2, _⟩ := h; simp [ih _ _ q h2])
  have hsd := hs ds (hlen _ _ _ _ hA)
  have hwt' : ∀ (j : Nat) t d, fn.params.toList[j]? = some t → ds[j]? = some d → ∀ n ∈ d.weights C.prog t, n ≤ reachBytes := fun j t d ht hd n hn => by
    have hj := List.all_eq_true.1 hwt n (DataW.weights_mem_each (j := j) (t := t) (d := d) (by rw [List.getElem?_append_left (List.getElem?_eq_some_iff.1 ht).1]; exact ht) (by rw [List.append_nil]; exact hd) n hn)
    exact of_decide_eq_true hj
  refine (walk W base args ds p hval hA hcnd hwt' hL).mono fun e W' ⟨he, ho⟩ => ?_
  subst he
  have bel := ho.below
  refine ⟨_, rfl, ds, [], p ++ [], [], p, [], hW', ?_, ?_, ?_, bel.frame _, fun h => by cases h⟩
  · rw [hrt, List.append_nil, hsd]
    exact trodAll_mk1 (shut_bool htb true)
  · rw [List.append_nil, hsd]
    exact trodAll_below hl bel _ _ _ _ hps hA
  · rw [List.append_nil, hsd, hvars]
    rfl

theorem frame_law {C : Checked} {os : Os} {f : FuncId} {fn : Func} {s : ChangeSpec} {conds : List PathCond} {apart fresh handsOn : Bool} {X : World → Prop}
    (hX : ∀ (w w' : World), w.heap = w'.heap → X w → X w') (own : ownKnob C.prog.godebug = none) (started : os.Started) (noInit : C.prog.inits.idxOf? f = none) (hfn : C.prog.funcs[f]? = some fn)
    (witness : ∃ (w : World) (tape : Tape) (i : Input), w.os = os ∧ (w.forCall tape i).Shaped C.prog ∧ i.vars = [] ∧ Input.okWide C.prog (w.forCall tape i) .any w.heap.size f i ∧
      ((s.pre enc C.prog fn conds apart (w.forCall tape i).memory i.args ∧ X (w.forCall tape i).memory) ∧ sizedMet enc C.prog fn (OpenSpec.ofChange s) apart (w.forCall tape i).memory i.args) ∧ ({} : Assume).holds C.prog (lone (Frame.enter C.prog f i.args .normal) [] (w.forCall tape i)))
    (hl : laidOutB C.prog = true) (hps : (fn.params.toList.all fun t => C.prog.readableRec t && decide (t < C.prog.types.size)) = true) (hb : ∃ t, fn.resultTypes = #[t] ∧ C.prog.underlying t = some .bool)
    (hvars : s.vars = []) (hs : ∀ ds : List (DataW H), ds.length = fn.params.toList.length → s.fn H ds = { results := [.lit (.bool true)], args := ds })
    (walk : ∀ (W : World) (base : Nat) (args : Array Value) (ds : List (DataW H)) (p : List MemPlace), (∀ (j : Nat) t v, fn.params[j]? = some t → args[j]? = some v → Value.okWide C.prog W .any base t v) →
      DataW.TrodAll enc C.prog W 0 (fun _ => true) true fn.params.toList args.toList ds p → conds.all (PathCond.test C.prog ⟨fn.params.toList, ds, s.plain.varTypes C.prog, []⟩) = true → X W →
      Calls C.prog f args W fun e W' => e = .returned (.bool true) ∧ Only none' W W') :
    ReturnsInHanded {} C os f .any (fun w args => (s.pre enc C.prog fn conds apart w args ∧ X w) ∧ sizedMet enc C.prog fn (OpenSpec.ofChange s) apart w args) (s.post enc C.prog fn apart fresh handsOn false) :=
  frame_lawS hX own started noInit hfn witness hl hps hb hvars hs fun W base args ds p h1 h2 h3 _ h5 => walk W base args ds p h1 h2 h3 h5

/-! ### What is laid reads as laid -/
def covers (P : Program) (fs : List Field) (n : Nat) : Bool := (List.range n).all fun j => fs.any fun f => decide (f.offset ≤ j) && decide (j < f.offset + P.cellsOf f.type)
/-- Plain data, of which each cell belongs to a part. -/
def plainT (P : Program) : Nat → TypeId → Bool
  | 0, _ => false
  | m + 1, t => match P.underlying t with
    | some .bool => true
    | some (.int _) => true
    | some .string => true
    | some (.struct fs) => covers P fs.toList (P.cellsOf t) && fs.toList.all fun f => plainT P m f.type
    | some (.array n e) => decide (P.cellsOf t ≤ n * P.cellsOf e) && plainT P m e
    | _ => false
theorem chunk_eq {cs cs' : List Value} {o n : Nat} (h : (cs.drop o).take n = (cs'.drop o).take n) {j : Nat} (h1 : o ≤ j) (h2 : j < o + n) : cs[j]? = cs'[j]? := by
  have := congrArg (·[j - o]?) h
  simp only [List.getElem?_take, if_pos (show j - o < n by omega), List.getElem?_drop, show o + (j - o) = j by omega] at this
  exact this
theorem trod_inj {w : World} {base : Nat} {sp : Nat → Bool} {held : Bool} : ∀ (m : Nat) (t : TypeId) (fu fu' : Nat) (cs cs' : List Value) (d : DataW H) (p p' : List MemPlace), plainT P m t = true →
    DataW.trod enc P w base sp held fu t cs = some (d, p) → DataW.trod enc P w base sp held fu' t cs' = some (d, p') → cs = cs'
  | 0, _, _, _, _, _, _, _, _, h, _, _ => by cases h
  | m + 1, t, fu, fu', cs, cs', d, p, p', h, h1, h2 => by
    unfold plainT at h
    split at h
    · rename_i ht
      obtain ⟨b, rfl, e⟩ := DataW.trod_bool ht h1
      obtain ⟨b', rfl, e'⟩ := DataW.trod_bool ht h2
      simp only [Prod.mk.injEq] at e e'
      have := e.1.symm.trans e'.1
      simp at this; rw [this]
    · rename_i k ht
      obtain ⟨b, rfl, e, _⟩ := DataW.trod_int ht h1
      obtain ⟨b', rfl, e', _⟩ := DataW.trod_int ht h2
      simp only [Prod.mk.injEq] at e e'
      have := e.1.symm.trans e'.1
      simp at this; rw [this]
    · rename_i ht
      obtain ⟨b, rfl, e, _⟩ := DataW.trod_string ht h1
      obtain ⟨b', rfl, e', _⟩ := DataW.trod_string ht h2
      simp only [Prod.mk.injEq] at e e'
      have := e.1.symm.trans e'.1
      simp only [DataW.lit.injEq, Lit.string.injEq] at this
      have hb : b = b' := by cases b; cases b'; congr 1; exact Array.toList_inj.1 this
      rw [hb]
    · rename_i fs ht
      simp only [Bool.and_eq_true] at h
      obtain ⟨xs, n, rfl, e, hl, hx, hf⟩ := DataW.trod_struct ht h1
      obtain ⟨xs', n', rfl, e', hl', hx', hf'⟩ := DataW.trod_struct ht h2
      simp only [Prod.mk.injEq] at e e'
      have he := e.1.symm.trans e'.1
      simp only [DataW.agg.injEq] at he
      apply List.ext_getElem?
      intro j
      rcases Nat.lt_or_ge j (P.cellsOf t) with hj | hj
      · have hc := List.all_eq_true.1 h.1 j (List.mem_range.2 hj)
        obtain ⟨f, hfm, hfj⟩ := List.any_eq_true.1 hc
        simp only [Bool.and_eq_true, decide_eq_true_eq] at hfj
        obtain ⟨i, hi⟩ := List.mem_iff_getElem?.1 hfm
        have hi' : fs[i]? = some f := by simpa using hi
        have hil : i < fs.size := (Array.getElem?_eq_some_iff.1 hi').1
        have g1 := hf i f hi'
        have g2 := hf' i f hi'
        rw [List.getElem?_eq_getElem (by omega)] at g1 g2
        have hd : (xs[i]'(by omega)).1 = (xs'[i]'(by omega)).1 := by
          have := congrArg (·[i]?) he
          simp only [List.getElem?_map, List.getElem?_eq_getElem (show i < xs.length by omega), List.getElem?_eq_getElem (show i < xs'.length by omega), Option.map_some, Option.some.injEq] at this
          exact this
        have pl := List.all_eq_true.1 h.2 f hfm
        have g2' : DataW.trod enc P w base sp held n' f.type ((cs'.drop f.offset).take (P.cellsOf f.type)) = some ((xs[i]'(by omega)).1, (xs'[i]'(by omega)).2) := by rw [hd]; exact g2
        exact chunk_eq (trod_inj m f.type n n' _ _ _ _ _ pl g1 g2') hfj.1 hfj.2
      · rw [List.getElem?_eq_none (by omega), List.getElem?_eq_none (by omega)]
    · rename_i n el ht
      simp only [Bool.and_eq_true, decide_eq_true_eq] at h
      obtain ⟨xs, k, rfl, e, hl, hx, hf⟩ := DataW.trod_array ht h1
      obtain ⟨xs', k', rfl, e', hl', hx', hf'⟩ := DataW.trod_array ht h2
      simp only [Prod.mk.injEq] at e e'
      have he := e.1.symm.trans e'.1
      simp only [DataW.agg.injEq] at he
      apply List.ext_getElem?
      intro j
      rcases Nat.lt_or_ge j (P.cellsOf t) with hj | hj
      · have hpos : 0 < P.cellsOf el := by
          rcases Nat.eq_zero_or_pos (P.cellsOf el) with hz | hp
          · rw [hz, Nat.mul_zero] at h; omega
          · exact hp
        have hi : j / P.cellsOf el < n := Nat.div_lt_of_lt_mul (by rw [Nat.mul_comm]; omega)
        have g1 := hf _ hi
        have g2 := hf' _ hi
        rw [List.getElem?_eq_getElem (by omega)] at g1 g2
        have hd : (xs[j / P.cellsOf el]'(by omega)).1 = (xs'[j / P.cellsOf el]'(by omega)).1 := by
          have := congrArg (·[j / P.cellsOf el]?) he
          simp only [List.getElem?_map, List.getElem?_eq_getElem (show j / P.cellsOf el < xs.length by omega), List.getElem?_eq_getElem (show j / P.cellsOf el < xs'.length by omega), Option.map_some, Option.some.injEq] at this
          exact this
        have g2' : DataW.trod enc P w base sp held k' el ((cs'.drop (j / P.cellsOf el * P.cellsOf el)).take (P.cellsOf el)) = some ((xs[j / P.cellsOf el]'(by omega)).1, (xs'[j / P.cellsOf el]'(by omega)).2) := by rw [hd]; exact g2
        refine chunk_eq (trod_inj m el k k' _ _ _ _ _ h.2 g1 g2') (Nat.div_mul_le_self _ _) ?_
        have := Nat.div_add_mod j (P.cellsOf el)
        have := Nat.mod_lt j hpos
        have h3 : P.cellsOf el * (j / P.cellsOf el) = j / P.cellsOf el * P.cellsOf el := Nat.mul_comm _ _
        omega
      · rw [List.getElem?_eq_none (by omega), List.getElem?_eq_none (by omega)]
    · cases h

theorem laid_head {w : World} {name : String} {D : DataW Unit} {rest : List (String × DataW Unit)} {g : Nat} {t : TypeId} {cs : List Value} (h : laidMet P ((name, D) :: rest) w) (hg : P.globalNamed name = some g) (ht : (P.globals[g]?).map (·.type) = some t) (m fu : Nat) {p : List MemPlace} (hp : plainT P m t = true)
    (hd : DataW.trod (fun _ => ()) P w 0 (fun _ => true) false fu t cs = some (D, p)) : ∀ (j : Nat) (v : Value), cs[j]? = some v → w.cell? ⟨g, j, none⟩ = some v := by
  obtain ⟨ps, ⟨g', t', cs', fu', p', q, hg', ht', hvar, hd', _, _⟩, _⟩ := h
  obtain rfl := Option.some.inj (hg.symm.trans hg')
  obtain rfl := Option.some.inj (ht.symm.trans ht')
  intro j v hj
  have e := trod_inj m t fu' fu _ _ D p' p hp hd' hd
  have := World.var?_cell hg hvar j
  rw [this, ← hj, ← e]
  simp
theorem u8_wf {n : Int} (h : (Lit.int .u8 n).wf = true) : 0 ≤ n ∧ n ≤ 255 := by
  have e1 : IntKind.u8.min = 0 := rfl
  have e2 : IntKind.u8.max = 255 := rfl
  simp [Lit.wf, e1, e2] at h; omega
/-- An argument that is a slice of bytes. -/
theorem sl_arg {W : World} {t e : TypeId} (ht : P.underlying t = some (.slice e)) (he : P.underlying e = some (.int .u8)) (hc : P.cellsOf e = 1) {a : Option Addr} {len cap : Nat} {d : DataW H} {p : List MemPlace}
    (h : DataW.Trod enc P W 0 (fun _ => true) true t (.slice a len cap) d p) : ∃ xs, SlI W (.slice a len cap) xs := by
  obtain ⟨fuel, hf⟩ := h
  rcases open_ints ht he hc hf with ⟨hcs, _⟩ | ⟨x, l, c, zs, hcs, _, hl, hm, hz, _, hcell, hwz⟩
  · simp [Value.cells] at hcs
    obtain ⟨rfl, rfl, rfl⟩ := hcs
    exact ⟨[], SlI.nil W⟩
  · simp [Value.cells] at hcs
    obtain ⟨rfl, rfl, rfl⟩ := hcs
    have hz' : zs.length = cap := by simpa using hz
    have hlen : (zs.take len).length = len := by simp; omega
    refine ⟨zs.take len, fun y hy => u8_wf (hwz y (List.mem_of_mem_take hy)), .inr ⟨x, cap, by rw [hlen], fun i hi => ?_⟩⟩
    rw [hlen] at hi
    rw [hcell i (by omega), List.getD_eq_getElem?_getD, List.getD_eq_getElem?_getD, List.getElem?_take, if_pos hi]
/-- The kind of the cell j of plain integers. -/
def kindAt (P : Program) : Nat → TypeId → Nat → Option IntKind
  | 0, _, _ => none
  | m + 1, t, j => match P.underlying t with
    | some (.int k) => if j = 0 then some k else none
    | some (.struct fs) => match fs.toList.find? (fun f => decide (f.offset ≤ j) && decide (j < f.offset + P.cellsOf f.type)) with
      | some f => kindAt P m f.type (j - f.offset)
      | none => none
    | some (.array n e) => if j / P.cellsOf e < n then kindAt P m e (j % P.cellsOf e) else none
    | _ => none
theorem trod_int_at {w : World} {base : Nat} {sp : Nat → Bool} {held : Bool} : ∀ (m : Nat) (t : TypeId) (fu : Nat) (cs : List Value) (x : DataW H × List MemPlace) (j : Nat) (k : IntKind), kindAt P m t j = some k →
    DataW.trod enc P w base sp held fu t cs = some x → ∃ n, cs[j]? = some (.int k n) ∧ (Lit.int k n).wf = true
  | 0, _, _, _, _, _, _, h, _ => by cases h
  | m + 1, t, fu, cs, x, j, k, h, h1 => by
    unfold kindAt at h
    split at h
    · rename_i k' ht
      obtain ⟨b, rfl, e, hw⟩ := DataW.trod_int ht h1
      split at h
      · rename_i hj
        simp only [Option.some.injEq] at h
        subst h; subst hj
        exact ⟨b, rfl, hw⟩
      · cases h
    · rename_i fs ht
      split at h
      · rename_i f hf
        obtain ⟨xs, n, rfl, e, hl, hx, hg⟩ := DataW.trod_struct ht h1
        have hfm := List.mem_of_find?_eq_some hf
        have hfj := List.find?_some hf
        simp only [Bool.and_eq_true, decide_eq_true_eq] at hfj
        obtain ⟨i, hi⟩ := List.mem_iff_getElem?.1 hfm
        have hi' : fs[i]? = some f := by simpa using hi
        have hil : i < fs.size := (Array.getElem?_eq_some_iff.1 hi').1
        have g1 := hg i f hi'
        rw [List.getElem?_eq_getElem (by omega)] at g1
        obtain ⟨z, hz, hw⟩ := trod_int_at m f.type n _ _ _ k h g1
        refine ⟨z, ?_, hw⟩
        rw [List.getElem?_take, if_pos (by omega), List.getElem?_drop, show f.offset + (j - f.offset) = j by omega] at hz
        exact hz
      · cases h
    · rename_i n el ht
      split at h
      · rename_i hj
        obtain ⟨xs, n', rfl, e, hl, hx, hg⟩ := DataW.trod_array ht h1
        have g1 := hg _ hj
        rw [List.getElem?_eq_getElem (by omega)] at g1
        obtain ⟨z, hz, hw⟩ := trod_int_at m el n' _ _ _ k h g1
        have hpos : 0 < P.cellsOf el := by
          rcases Nat.eq_zero_or_pos (P.cellsOf el) with hz0 | hp
          · rw [hz0] at hz; simp at hz
          · exact hp
        refine ⟨z, ?_, hw⟩
        have h2 := Nat.mod_lt j hpos
        have h3 := Nat.div_add_mod j (P.cellsOf el)
        have h4 : P.cellsOf el * (j / P.cellsOf el) = j / P.cellsOf el * P.cellsOf el := Nat.mul_comm _ _
        rw [List.getElem?_take, if_pos h2, List.getElem?_drop, show j / P.cellsOf el * P.cellsOf el + j % P.cellsOf el = j by omega] at hz
        exact hz
      · cases h
    · cases h
/-- The integer in a cell. -/
def intAt (cs : List Value) (j : Nat) : Int := match cs[j]? with | some (.int _ n) => n | _ => 0
theorem wf_inK {k : IntKind} {n : Int} (h : (Lit.int k n).wf = true) : inK k n := by
  simp only [Lit.wf, Bool.and_eq_true, decide_eq_true_eq] at h
  obtain ⟨h1, h2⟩ := h
  cases k <;> exact ⟨h1, h2⟩
end
end Go.Proofs.Fr
