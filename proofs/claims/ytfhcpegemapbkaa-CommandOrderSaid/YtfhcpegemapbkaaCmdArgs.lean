/-
  The layer command: the arguments of the laws: jobs, commands.
-/
import Derived.Test.YtfhcpegemapbkaaReaders
import Derived.Test.YtfhcpegemapbkaaFr
import Derived.SizedLaws
set_option linter.unusedVariables false
set_option linter.unusedSimpArgs false
namespace Go.Proofs.Ytfhcpegemapbkaa
open Go Go.ChangeShapes Go.WideShapes Go.ChangeAt Go.RowKit Go.Proofs.Sx
section
variable {H : Type} {enc : TypeId × Value → H} {P : Program} {W : World}
theorem wAll_mem {e : TypeId} {n : Nat} : ∀ {l : List (DataW H)} {d : DataW H}, d ∈ l → n ∈ d.weights P e → n ∈ DataW.weightsAll P e l
  | [], _, h, _ => absurd h List.not_mem_nil
  | x :: r, d, h, hn => by
    simp only [DataW.weightsAll, List.mem_append]
    rcases List.mem_cons.1 h with rfl | h
    · exact .inl hn
    · exact .inr (wAll_mem h hn)
theorem rows_of {α : Type} {f : α → List Value} {G : α → Prop} {sz : Nat} {a : Addr} (E : Enc f sz) : ∀ n, (∀ i, i < n → ∃ x : α, (∀ k, k < sz → W.cell? (a.add (i * sz + k)) = (f x)[k]?) ∧ G x) →
    ∃ l : List α, l.length = n ∧ (∀ j u, (l.flatMap f)[j]? = some u → W.cell? (a.add j) = some u) ∧ ∀ x ∈ l, G x
  | 0, _ => ⟨[], rfl, fun j u h => by simp at h, fun x hx => absurd hx List.not_mem_nil⟩
  | n + 1, h => by
    obtain ⟨l, hl, hc, hg⟩ := rows_of E n fun i hi => h i (by omega)
    obtain ⟨x, hx, gx⟩ := h n (by omega)
    refine ⟨l ++ [x], by simp [hl], fun j u hj => ?_, fun y hy => ?_⟩
    · rw [List.flatMap_append, show [x].flatMap f = f x by simp] at hj
      have hfl : (l.flatMap f).length = n * sz := by rw [E.flen, hl]
      by_cases hlt : j < n * sz
      · rw [List.getElem?_append_left (by omega)] at hj; exact hc j u hj
      · rw [List.getElem?_append_right (by omega), hfl] at hj
        have hk : j - n * sz < sz := by
          have := (List.getElem?_eq_some_iff.1 hj).1
          rw [E.len] at this; exact this
        have := hx _ hk
        rw [show n * sz + (j - n * sz) = j by omega, hj] at this
        exact this
    · rcases List.mem_append.1 hy with hy | hy
      · exact hg y hy
      · rw [List.mem_singleton.1 hy]; exact gx
theorem view_of {α : Type} {f : α → List Value} {G : α → Prop} {t e : TypeId} {sz N fuel : Nat} {cs : List Value} {x : DataW H × List MemPlace} (ht : P.underlying t = some (.slice e)) (hc : P.cellsOf e = sz) (E : Enc f sz) (hb : decide (1 ≤ P.bytesOf e) = true)
    (el : ∀ n cs y, DataW.trod enc P W 0 (fun _ => true) true n e cs = some y → (∀ k ∈ y.1.weights P e, k ≤ N) → ∃ x : α, cs = f x ∧ G x)
    (h : DataW.trod enc P W 0 (fun _ => true) true fuel t cs = some x) (hw : ∀ k ∈ x.1.weights P t, k ≤ N) :
    ∃ p c, ∃ l : List α, cs = [.slice p l.length c] ∧ Vw f W (.slice p l.length c) l ∧ l.length ≤ N ∧ ∀ x ∈ l, G x := by
  rcases DataW.trod_slice ht h with ⟨rfl, _⟩ | ⟨a, len, cap, elems, rest, n, rfl, rfl, rfl, _, hl, hm, hlen, hel, _, _⟩
  · exact ⟨none, 0, [], rfl, .inl ⟨rfl, rfl⟩, Nat.zero_le _, fun x hx => absurd hx List.not_mem_nil⟩
  · have hlN : len ≤ N := by
      have := hw ((elems.length + rest.length) * P.bytesOf e) (by simp [DataW.weights, ht])
      have h2 : len * 1 ≤ (elems.length + rest.length) * P.bytesOf e := Nat.mul_le_mul (by omega) (of_decide_eq_true hb)
      omega
    obtain ⟨l, h1, h2, h3⟩ := rows_of (W := W) (a := a) (G := G) E len fun i hi => by
      have g := hel i hi
      rw [List.getElem?_eq_getElem (by omega), Option.bind_eq_some_iff] at g
      obtain ⟨cs, hcs, hy⟩ := g
      obtain ⟨_, hcl, hcell⟩ := World.cells?_some hcs
      obtain ⟨x, rfl, hG⟩ := el n _ _ hy fun k hk => hw k (by
        simp only [DataW.weights, ht, List.mem_cons, List.mem_append]
        exact .inr (.inl (wAll_mem (List.mem_map_of_mem (List.getElem_mem _)) hk)))
      rw [hc] at hcell
      exact ⟨x, fun k hk => by rw [← Sx.add_add]; exact hcell k hk, hG⟩
    exact ⟨some a, cap, l, by rw [h1], .inr ⟨a, cap, rfl, h2⟩, by omega, h3⟩
theorem str_of {t : TypeId} {N fuel : Nat} {cs : List Value} {x : DataW H × List MemPlace} (ht : P.underlying t = some .string) (h : DataW.trod enc P W 0 (fun _ => true) true fuel t cs = some x) (hw : ∀ k ∈ x.1.weights P t, k ≤ N) : ∃ s : ByteArray, cs = [.string s] ∧ s.size ≤ N := by
  obtain ⟨s, rfl, rfl, _⟩ := DataW.trod_string ht h
  refine ⟨s, rfl, hw _ ?_⟩
  simp [DataW.weights]
theorem fields_of {t : TypeId} {fs : Array Field} {N fuel : Nat} {cs : List Value} {x : DataW H × List MemPlace} (ht : P.underlying t = some (.struct fs)) (h : DataW.trod enc P W 0 (fun _ => true) true fuel t cs = some x) (hw : ∀ k ∈ x.1.weights P t, k ≤ N) :
    cs.length = P.cellsOf t ∧ ∃ n, ∀ (i : Nat) (f : Field), fs[i]? = some f → ∃ y, DataW.trod enc P W 0 (fun _ => true) true n f.type ((cs.drop f.offset).take (P.cellsOf f.type)) = some y ∧ ∀ k ∈ y.1.weights P f.type, k ≤ N := by
  obtain ⟨xs, n, rfl, rfl, h1, h2, h3⟩ := DataW.trod_struct ht h
  refine ⟨h1, n, fun i f hf => ?_⟩
  have hi : i < xs.length := by have := (Array.getElem?_eq_some_iff.1 hf).1; omega
  refine ⟨xs[i], by rw [h3 i f hf, List.getElem?_eq_getElem hi], fun k hk => hw k ?_⟩
  simp only [DataW.weights, ht]
  exact DataW.weights_mem_each (j := i) (t := f.type) (d := xs[i].1) (by simp [hf]) (by simp [hi]) k hk
end
section
variable {H : Type} {enc : TypeId × Value → H} {W : World} {N : Nat}
theorem und27 : Try.prog.underlying 27 = some (.slice 45) := by kernel_rfl
theorem und43 : Try.prog.underlying 43 = some (.slice 49) := by kernel_rfl
theorem und47 : Try.prog.underlying 47 = some (.slice 9) := by kernel_rfl
theorem und9 : Try.prog.underlying 9 = some .string := by kernel_rfl
theorem und4 : Try.prog.underlying 4 = some .bool := by kernel_rfl
theorem cmd_of {n : Nat} {cs : List Value} {y : DataW H × List MemPlace} (h : DataW.trod enc Try.prog W 0 (fun _ => true) true n 49 cs = some y) (hw : ∀ k ∈ y.1.weights Try.prog 49, k ≤ N) : ∃ x : CV, cs = fC x ∧ (VC W x ∧ smC N x.d) := by
  obtain ⟨fs, hfs, g0, g1, g2, g3⟩ : ∃ fs, Try.prog.underlying 49 = some (.struct fs) ∧ (fs[0]?.map fun f => (f.type, f.offset)) = some (47, 0) ∧ (fs[1]?.map fun f => (f.type, f.offset)) = some (9, 1) ∧ (fs[2]?.map fun f => (f.type, f.offset)) = some (9, 2) ∧ (fs[3]?.map fun f => (f.type, f.offset)) = some (4, 3) :=
    ⟨(match Try.prog.underlying 49 with | some (.struct fs) => fs | _ => #[]), by kernel_rfl, by kernel_rfl, by kernel_rfl, by kernel_rfl, by kernel_rfl⟩
  obtain ⟨hl, m, hx⟩ := fields_of hfs h hw
  rw [show Try.prog.cellsOf 49 = 4 by kernel_rfl] at hl
  match cs, hl with
  | [a, b, c, d], _ =>
    have fld : ∀ {i t o : Nat}, (fs[i]?.map fun f : Field => (f.type, f.offset)) = some (t, o) → ∃ z, DataW.trod enc Try.prog W 0 (fun _ => true) true m t (([a, b, c, d].drop o).take (Try.prog.cellsOf t)) = some z ∧ ∀ k ∈ z.1.weights Try.prog t, k ≤ N := by
      intro i t o hg
      obtain ⟨f, hf, he⟩ := Option.map_eq_some_iff.1 hg
      obtain ⟨rfl, rfl⟩ := Prod.mk.inj he
      exact hx i f hf
    obtain ⟨z0, q0, w0⟩ := fld g0
    obtain ⟨z1, q1, w1⟩ := fld g1
    obtain ⟨z2, q2, w2⟩ := fld g2
    obtain ⟨z3, q3, _⟩ := fld g3
    rw [show Try.prog.cellsOf 47 = 1 by kernel_rfl] at q0
    rw [show Try.prog.cellsOf 9 = 1 by kernel_rfl] at q1 q2
    rw [show Try.prog.cellsOf 4 = 1 by kernel_rfl] at q3
    simp only [List.drop_zero, List.drop_succ_cons, List.take_succ_cons, List.take_zero] at q0 q1 q2 q3
    obtain ⟨p, k, ws, e0, hv, hn, hs⟩ := view_of (f := fT) (G := fun s => s.size ≤ N) und47 (by kernel_rfl) encT (by kernel_rfl) (fun _ _ _ g gw => by obtain ⟨s, e, hs⟩ := str_of und9 g gw; exact ⟨s, e, hs⟩) q0 w0
    obtain ⟨s1, e1, n1⟩ := str_of und9 q1 w1
    obtain ⟨s2, e2, n2⟩ := str_of und9 q2 w2
    obtain ⟨b3, e3, _⟩ := DataW.trod_bool und4 q3
    cases e0; cases e1; cases e2; cases e3
    exact ⟨⟨p, k, ⟨ws, s1, s2, b3⟩⟩, rfl, hv, hs, n1, n2, hn⟩
theorem job_of {n : Nat} {cs : List Value} {y : DataW H × List MemPlace} (h : DataW.trod enc Try.prog W 0 (fun _ => true) true n 45 cs = some y) (hw : ∀ k ∈ y.1.weights Try.prog 45, k ≤ N) : ∃ x : JV, cs = fJ x ∧ (VJ W x ∧ smJ N x.d) := by
  obtain ⟨fs, hfs, g0, g1⟩ : ∃ fs, Try.prog.underlying 45 = some (.struct fs) ∧ (fs[0]?.map fun f => (f.type, f.offset)) = some (43, 0) ∧ (fs[1]?.map fun f => (f.type, f.offset)) = some (4, 1) :=
    ⟨(match Try.prog.underlying 45 with | some (.struct fs) => fs | _ => #[]), by kernel_rfl, by kernel_rfl, by kernel_rfl⟩
  obtain ⟨hl, m, hx⟩ := fields_of hfs h hw
  rw [show Try.prog.cellsOf 45 = 2 by kernel_rfl] at hl
  match cs, hl with
  | [a, b], _ =>
    have fld : ∀ {i t o : Nat}, (fs[i]?.map fun f : Field => (f.type, f.offset)) = some (t, o) → ∃ z, DataW.trod enc Try.prog W 0 (fun _ => true) true m t (([a, b].drop o).take (Try.prog.cellsOf t)) = some z ∧ ∀ k ∈ z.1.weights Try.prog t, k ≤ N := by
      intro i t o hg
      obtain ⟨f, hf, he⟩ := Option.map_eq_some_iff.1 hg
      obtain ⟨rfl, rfl⟩ := Prod.mk.inj he
      exact hx i f hf
    obtain ⟨z0, q0, w0⟩ := fld g0
    obtain ⟨z1, q1, _⟩ := fld g1
    rw [show Try.prog.cellsOf 43 = 1 by kernel_rfl] at q0
    rw [show Try.prog.cellsOf 4 = 1 by kernel_rfl] at q1
    simp only [List.drop_zero, List.drop_succ_cons, List.take_succ_cons, List.take_zero] at q0 q1
    obtain ⟨p, k, ys, e0, hv, hn, hs⟩ := view_of (f := fC) (G := fun x => VC W x ∧ smC N x.d) und43 (by kernel_rfl) encC (by kernel_rfl) (fun _ _ _ g gw => cmd_of g gw) q0 w0
    obtain ⟨b1, e1, _⟩ := DataW.trod_bool und4 q1
    cases e0; cases e1
    refine ⟨⟨p, k, ys, b1⟩, rfl, ⟨hv, fun y hy => (hs y hy).1⟩, ?_, fun c hc => ?_⟩
    · show (ys.map (·.d)).length ≤ N
      rw [List.length_map]; exact hn
    · obtain ⟨y, hy, rfl⟩ := List.mem_map.1 hc
      exact (hs y hy).2
theorem jobs_arg {base : Nat} {v : Value} {d : DataW H} {p : List MemPlace} (hv : Value.okWide Try.prog W .any base 27 v) (h : DataW.Trod enc Try.prog W 0 (fun _ => true) true 27 v d p) (hw : ∀ k ∈ d.weights Try.prog 27, k ≤ reachBytes) :
    ∃ p c, ∃ l : List JV, v = .slice p l.length c ∧ VL W (.slice p l.length c) l ∧ smL 1000000000000000000 (l.map JV.d) := by
  obtain ⟨a, len, cap, rfl⟩ := okWide_slice und27 hv
  obtain ⟨fuel, hf⟩ := h
  obtain ⟨p, c, l, e, h1, h2, h3⟩ := view_of (f := fJ) (G := fun x => VJ W x ∧ smJ reachBytes x.d) und27 (by kernel_rfl) encJ (by kernel_rfl) (fun _ _ _ g gw => job_of g gw) hf hw
  have hr : reachBytes ≤ 1000000000000000000 := by decide
  have hC : ∀ {c : CmdL}, smC reachBytes c → smC 1000000000000000000 c := fun h => ⟨fun u hu => Nat.le_trans (h.1 u hu) hr, Nat.le_trans h.2.1 hr, Nat.le_trans h.2.2.1 hr, Nat.le_trans h.2.2.2 hr⟩
  refine ⟨p, c, l, by simpa [Value.cells] using e, ⟨h1, fun x hx => (h3 x hx).1⟩, by rw [List.length_map]; omega, fun x hx => ?_⟩
  obtain ⟨y, hy, rfl⟩ := List.mem_map.1 hx
  exact ⟨Nat.le_trans (h3 y hy).2.1 hr, fun c hc => hC ((h3 y hy).2.2 c hc)⟩
end
end Go.Proofs.Ytfhcpegemapbkaa
