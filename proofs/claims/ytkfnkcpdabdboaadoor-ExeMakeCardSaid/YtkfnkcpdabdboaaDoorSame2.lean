/- The layer exe: SameStrings, the law ExeMake. -/
import Derived.Test.YtkfnkcpdabdboaaDoorLists
import Derived.Test.YtkfnkcpdabdboaaDoorAwake
set_option linter.unusedVariables false
set_option linter.unusedSimpArgs false
set_option maxRecDepth 10000
namespace Go.Proofs.YtkfnkcpdabdboaaDoor
open Go Go.RowKit Go.Proofs.Sx

theorem ss_nil (w : World) :
    Calls Tryd.prog 19 #[.slice none 0 0, .slice none 0 0] w fun e w' => e = .returned (.bool true) ∧ Only none' w w' := by
  refine c_enter (args := [.slice none 0 0, .slice none 0 0]) (m := 24) (n := 26) Tryd.func19 rfl (by kernel_rfl) (by kernel_rfl) fun fr hA => ?_
  have hO := Ow.nil Tryd.prog none' w
  refine sC (e' := [(0, .slice none 0 0), (1, .slice none 0 0), (4, bl false)]) 1 hA [] c0 ?_
  clear hA fr; intro fr hA
  refine wp_seq ?_
  refine sC (e' := [(0, .slice none 0 0), (1, .slice none 0 0), (4, bl false), (10, bl false)]) 5 hA [] c0 ?_
  clear hA fr; intro fr hA
  refine cF hA ?_
  refine wp_skip ?_
  refine then_normal ?_
  refine wp_seq ?_
  refine sC (e' := [(0, .slice none 0 0), (1, .slice none 0 0), (4, bl false), (5, i64 0)]) 1 hA [] c0 ?_
  clear hA fr; intro fr hA
  refine wp_block ?_
  refine c_loop (fun mm fr W => (mm = 0 ∧ Holds 26 [] fr [(0, .slice none 0 0), (1, .slice none 0 0), (4, bl false), (5, i64 0)] ∧ Ow Tryd.prog none' w W [])) ?_ ?_
  · exact ⟨_, ⟨rfl, hA.sb, hO.to⟩⟩
  · rintro _ fr w1 (⟨rfl, hA, hO⟩)
    ·
      refine wp_seq ?_
      refine sC (e' := [(0, .slice none 0 0), (1, .slice none 0 0), (4, bl false), (5, i64 0), (14, bl false)]) 4 hA [] c0 ?_
      clear hA fr; intro fr hA
      refine cF hA ?_
      refine wp_exit ?_
      refine then_exit ?_
      refine then_exit ?_
      refine inBlock_exit ?_
      refine then_normal ?_
      refine sC (e' := [(4, bl true)]) 1 hA [] c0 ?_
      clear hA fr; intro fr hA
      refine wp_ret ?_
      refine cR (cs := [none]) (us := [bl true]) hA [] trivial ?_
      have hF := hO.only; clear hA hO
      exact ⟨rfl, hF⟩

theorem ss_some (xs : List ByteArray) (p q : Addr) (cp cq : Nat) (w : World) (hp : ∀ j, j < xs.length → w.cell? (p.add j) = some (.string (xs.getD j ⟨#[]⟩))) (hq : ∀ j, j < xs.length → w.cell? (q.add j) = some (.string (xs.getD j ⟨#[]⟩))) (hl : xs.length ≤ 1000000) :
    Calls Tryd.prog 19 #[.slice (some p) xs.length cp, .slice (some q) xs.length cq] w fun e w' => e = .returned (.bool true) ∧ Only none' w w' := by
  refine c_enter (args := [.slice (some p) xs.length cp, .slice (some q) xs.length cq]) (m := 24) (n := 26) Tryd.func19 rfl (by kernel_rfl) (by kernel_rfl) fun fr hA => ?_
  have hO := Ow.nil Tryd.prog none' w
  refine sC (e' := [(0, .slice (some p) xs.length cp), (1, .slice (some q) xs.length cq), (4, bl false)]) 1 hA [] c0 ?_
  clear hA fr; intro fr hA
  refine wp_seq ?_
  refine sC (e' := [(0, .slice (some p) xs.length cp), (1, .slice (some q) xs.length cq), (4, bl false), (10, bl (((xs.length : Nat) : Int) != ((xs.length : Nat) : Int)))]) 5 hA [] c0 ?_
  clear hA fr; intro fr hA
  replace hA := hA.bool (f := fun z_ => [(0, .slice (some p) xs.length cp), (1, .slice (some q) xs.length cq), (4, bl false), (10, .bool z_)]) (by simp : (((xs.length : Nat) : Int) != ((xs.length : Nat) : Int)) = false)
  refine cF hA ?_
  refine wp_skip ?_
  refine then_normal ?_
  refine wp_seq ?_
  refine sC (e' := [(0, .slice (some p) xs.length cp), (1, .slice (some q) xs.length cq), (4, bl false), (5, i64 0)]) 1 hA [] c0 ?_
  clear hA fr; intro fr hA
  refine wp_block ?_
  refine c_loop (fun mm fr W => ∃ (i : Nat), mm = xs.length - i ∧ Holds 26 [] fr [(0, .slice (some p) xs.length cp), (1, .slice (some q) xs.length cq), (4, bl false), (5, i64 ((i : Nat) : Int))] ∧ Ow Tryd.prog none' w W [] ∧ i ≤ xs.length ∧ True) ?_ ?_
  · exact ⟨_, 0, rfl, (hA.sub (e' := [(0, .slice (some p) xs.length cp), (1, .slice (some q) xs.length cq), (4, bl false), (5, i64 0)]) [0, 1, 4, 5] (by kernel_rfl)).cast (by kernel_rfl), hO.to, (by omega), trivial⟩
  · rintro _ fr w1 ⟨i, rfl, hA, hO, hi, -⟩
    refine wp_seq ?_
    refine sC (e' := [(0, .slice (some p) xs.length cp), (1, .slice (some q) xs.length cq), (4, bl false), (5, i64 ((i : Nat) : Int)), (11, i64 ((i : Nat) : Int)), (12, .slice (some p) xs.length cp), (13, i64 ((xs.length : Nat) : Int)), (14, bl (decide (((i : Nat) : Int) < ((xs.length : Nat) : Int))))]) 4 hA [] c0 ?_
    clear hA fr; intro fr hA
    rcases Bool.eq_false_or_eq_true (decide (((i : Nat) : Int) < ((xs.length : Nat) : Int))) with h1 | h1
    ·
      replace hA := hA.bool (f := fun z_ => [(0, .slice (some p) xs.length cp), (1, .slice (some q) xs.length cq), (4, bl false), (5, i64 ((i : Nat) : Int)), (11, i64 ((i : Nat) : Int)), (12, .slice (some p) xs.length cp), (13, i64 ((xs.length : Nat) : Int)), (14, .bool z_)]) h1
      have h1p := of_decide_eq_true h1
      refine cT hA ?_
      refine wp_skip ?_
      refine then_normal ?_
      refine wp_seq ?_
      refine wp_block ?_
      refine wp_seq ?_
      have hS := hO
      refine rP [(0, true), (1, true), (2, true), (3, true), (4, true), (5, true), (6, true), (7, true), (8, true)] hS ?_
      intro w2 ho; replace hO := hO.st ho; clear ho
      refine ckS (l := (rg 0 9)) (r := []) (e' := [(0, .slice (some p) xs.length cp), (1, .slice (some q) xs.length cq), (4, bl false), (5, i64 ((i : Nat) : Int)), (11, i64 ((i : Nat) : Int)), (12, .slice (some p) xs.length cp), (13, i64 ((xs.length : Nat) : Int)), (14, bl true), (17, .slice (some p) xs.length cp), (18, i64 ((i : Nat) : Int)), (19, .pointer (some (p.add i))), (20, str (xs.getD i ⟨#[]⟩)), (21, .slice (some q) xs.length cq), (22, i64 ((i : Nat) : Int)), (23, .pointer (some (q.add i))), (24, str (xs.getD i ⟨#[]⟩)), (25, bl (!((xs.getD i ⟨#[]⟩).toList == (xs.getD i ⟨#[]⟩).toList)))]) hA [str (xs.getD i ⟨#[]⟩), str (xs.getD i ⟨#[]⟩)] (cc (⟨by omega, by omega⟩ : (0 : Int) ≤ ((i : Nat) : Int) ∧ ((i : Nat) : Int) < ((xs.length : Nat) : Int)) (cc (hS.sx (p.add i) 9 (str (xs.getD i ⟨#[]⟩)) fun _ hO => (ld_cell (by kernel_rfl) (hO.only.cell (hp i (by omega)) (fun h => h)))) (cc (⟨by omega, by omega⟩ : (0 : Int) ≤ ((i : Nat) : Int) ∧ ((i : Nat) : Int) < ((xs.length : Nat) : Int)) (cc (hS.sx (q.add i) 9 (str (xs.getD i ⟨#[]⟩)) fun _ hO => (ld_cell (by kernel_rfl) (hO.only.cell (hq i (by omega)) (fun h => h)))) c0)))) ?_
      clear hA fr; intro fr hA
      refine end_plan ?_
      refine then_normal ?_
      replace hA := hA.bool (f := fun z_ => [(0, .slice (some p) xs.length cp), (1, .slice (some q) xs.length cq), (4, bl false), (5, i64 ((i : Nat) : Int)), (11, i64 ((i : Nat) : Int)), (12, .slice (some p) xs.length cp), (13, i64 ((xs.length : Nat) : Int)), (14, bl true), (17, .slice (some p) xs.length cp), (18, i64 ((i : Nat) : Int)), (19, .pointer (some (p.add i))), (20, str (xs.getD i ⟨#[]⟩)), (21, .slice (some q) xs.length cq), (22, i64 ((i : Nat) : Int)), (23, .pointer (some (q.add i))), (24, str (xs.getD i ⟨#[]⟩)), (25, .bool !z_)]) (by simp : ((xs.getD i ⟨#[]⟩).toList == (xs.getD i ⟨#[]⟩).toList) = true)
      refine cF hA ?_
      refine wp_skip ?_
      refine inBlock_normal ?_
      refine then_normal ?_
      refine rC (e' := [(0, .slice (some p) xs.length cp), (1, .slice (some q) xs.length cq), (4, bl false), (5, i64 (((i : Nat) : Int) + 1)), (11, i64 ((i : Nat) : Int)), (12, .slice (some p) xs.length cp), (13, i64 ((xs.length : Nat) : Int)), (14, bl true), (15, i64 ((i : Nat) : Int)), (16, i64 (((i : Nat) : Int) + 1)), (17, .slice (some p) xs.length cp), (18, i64 ((i : Nat) : Int)), (19, .pointer (some (p.add i))), (20, str (xs.getD i ⟨#[]⟩)), (21, .slice (some q) xs.length cq), (22, i64 ((i : Nat) : Int)), (23, .pointer (some (q.add i))), (24, str (xs.getD i ⟨#[]⟩)), (25, bl false)]) 3 hA [bl true] (cc ((inK_i64 (by omega) (by omega)) : inK .i64 (((i : Nat) : Int) + 1)) c0) ?_
      clear hA fr; intro fr hA
      refine then_normal ?_
      exact ⟨_, by omega, i + 1, rfl, (hA.sub (e' := [(0, .slice (some p) xs.length cp), (1, .slice (some q) xs.length cq), (4, bl false), (5, i64 (((i : Nat) : Int) + 1))]) [0, 1, 4, 5] (by kernel_rfl)).cast (by kernel_rfl), hO.to, (by omega), trivial⟩
    ·
      replace hA := hA.bool (f := fun z_ => [(0, .slice (some p) xs.length cp), (1, .slice (some q) xs.length cq), (4, bl false), (5, i64 ((i : Nat) : Int)), (11, i64 ((i : Nat) : Int)), (12, .slice (some p) xs.length cp), (13, i64 ((xs.length : Nat) : Int)), (14, .bool z_)]) h1
      have h1p := of_decide_eq_false h1
      refine cF hA ?_
      refine wp_exit ?_
      refine then_exit ?_
      refine then_exit ?_
      refine inBlock_exit ?_
      refine then_normal ?_
      refine sC (e' := [(4, bl true)]) 1 hA [] c0 ?_
      clear hA fr; intro fr hA
      refine wp_ret ?_
      refine cR (cs := [none]) (us := [bl true]) hA [] trivial ?_
      have hF := hO.only; clear hA hO
      exact ⟨rfl, hF⟩

theorem ss_ns (w : World) (q : Addr) (cq : Nat) :
    Calls Tryd.prog 19 #[.slice none 0 0, .slice (some q) 0 cq] w fun e w' => e = .returned (.bool true) ∧ Only none' w w' := by
  refine c_enter (args := [.slice none 0 0, .slice (some q) 0 cq]) (m := 24) (n := 26) Tryd.func19 rfl (by kernel_rfl) (by kernel_rfl) fun fr hA => ?_
  have hO := Ow.nil Tryd.prog none' w
  refine sC (e' := [(0, .slice none 0 0), (1, .slice (some q) 0 cq), (4, bl false)]) 1 hA [] c0 ?_
  clear hA fr; intro fr hA
  refine wp_seq ?_
  refine sC (e' := [(0, .slice none 0 0), (1, .slice (some q) 0 cq), (4, bl false), (10, bl false)]) 5 hA [] c0 ?_
  clear hA fr; intro fr hA
  refine cF hA ?_
  refine wp_skip ?_
  refine then_normal ?_
  refine wp_seq ?_
  refine sC (e' := [(0, .slice none 0 0), (1, .slice (some q) 0 cq), (4, bl false), (5, i64 0)]) 1 hA [] c0 ?_
  clear hA fr; intro fr hA
  refine wp_block ?_
  refine c_loop (fun mm fr W => (mm = 0 ∧ Holds 26 [] fr [(0, .slice none 0 0), (1, .slice (some q) 0 cq), (4, bl false), (5, i64 0)] ∧ Ow Tryd.prog none' w W [])) ?_ ?_
  · exact ⟨_, ⟨rfl, hA.sb, hO.to⟩⟩
  · rintro _ fr w1 (⟨rfl, hA, hO⟩)
    ·
      refine wp_seq ?_
      refine sC (e' := [(0, .slice none 0 0), (1, .slice (some q) 0 cq), (4, bl false), (5, i64 0), (14, bl false)]) 4 hA [] c0 ?_
      clear hA fr; intro fr hA
      refine cF hA ?_
      refine wp_exit ?_
      refine then_exit ?_
      refine then_exit ?_
      refine inBlock_exit ?_
      refine then_normal ?_
      refine sC (e' := [(4, bl true)]) 1 hA [] c0 ?_
      clear hA fr; intro fr hA
      refine wp_ret ?_
      refine cR (cs := [none]) (us := [bl true]) hA [] trivial ?_
      have hF := hO.only; clear hA hO
      exact ⟨rfl, hF⟩

theorem ss_sn (w : World) (q : Addr) (cq : Nat) :
    Calls Tryd.prog 19 #[.slice (some q) 0 cq, .slice none 0 0] w fun e w' => e = .returned (.bool true) ∧ Only none' w w' := by
  refine c_enter (args := [.slice (some q) 0 cq, .slice none 0 0]) (m := 24) (n := 26) Tryd.func19 rfl (by kernel_rfl) (by kernel_rfl) fun fr hA => ?_
  have hO := Ow.nil Tryd.prog none' w
  refine sC (e' := [(0, .slice (some q) 0 cq), (1, .slice none 0 0), (4, bl false)]) 1 hA [] c0 ?_
  clear hA fr; intro fr hA
  refine wp_seq ?_
  refine sC (e' := [(0, .slice (some q) 0 cq), (1, .slice none 0 0), (4, bl false), (10, bl false)]) 5 hA [] c0 ?_
  clear hA fr; intro fr hA
  refine cF hA ?_
  refine wp_skip ?_
  refine then_normal ?_
  refine wp_seq ?_
  refine sC (e' := [(0, .slice (some q) 0 cq), (1, .slice none 0 0), (4, bl false), (5, i64 0)]) 1 hA [] c0 ?_
  clear hA fr; intro fr hA
  refine wp_block ?_
  refine c_loop (fun mm fr W => (mm = 0 ∧ Holds 26 [] fr [(0, .slice (some q) 0 cq), (1, .slice none 0 0), (4, bl false), (5, i64 0)] ∧ Ow Tryd.prog none' w W [])) ?_ ?_
  · exact ⟨_, ⟨rfl, hA.sb, hO.to⟩⟩
  · rintro _ fr w1 (⟨rfl, hA, hO⟩)
    ·
      refine wp_seq ?_
      refine sC (e' := [(0, .slice (some q) 0 cq), (1, .slice none 0 0), (4, bl false), (5, i64 0), (14, bl false)]) 4 hA [] c0 ?_
      clear hA fr; intro fr hA
      refine cF hA ?_
      refine wp_exit ?_
      refine then_exit ?_
      refine then_exit ?_
      refine inBlock_exit ?_
      refine then_normal ?_
      refine sC (e' := [(4, bl true)]) 1 hA [] c0 ?_
      clear hA fr; intro fr hA
      refine wp_ret ?_
      refine cR (cs := [none]) (us := [bl true]) hA [] trivial ?_
      have hF := hO.only; clear hA hO
      exact ⟨rfl, hF⟩

theorem vw_str {w : World} {v : Value} {xs : List ByteArray} (h : Vw fT w v xs) : (v = .slice none 0 0 ∧ xs = []) ∨ ∃ ad c, v = .slice (some ad) xs.length c ∧ ∀ j, j < xs.length → w.cell? (ad.add j) = some (.string (xs.getD j ⟨#[]⟩)) := by
  rcases h with h | ⟨ad, c, e, h⟩
  · exact .inl h
  · refine .inr ⟨ad, c, e, fun j hj => h j _ ?_⟩
    show (xs.flatMap fun x => [Value.string x])[j]? = _
    rw [flat1, List.getElem?_map, List.getD_eq_getElem?_getD, List.getElem?_eq_getElem hj]; rfl
theorem ss_any (xs : List ByteArray) (a b : Value) (w : World) (ha : Vw fT w a xs) (hb : Vw fT w b xs) (hl : xs.length ≤ 1000000) : Calls Tryd.prog 19 #[a, b] w fun e w' => e = .returned (.bool true) ∧ Only none' w w' := by
  rcases vw_str ha with ⟨rfl, rfl⟩ | ⟨p, cp, rfl, hp⟩ <;> rcases vw_str hb with ⟨rfl, e⟩ | ⟨q, cq, rfl, hq⟩
  · exact ss_nil w
  · rcases hb with ⟨hb, _⟩ | ⟨ad, c, _, _⟩
    · cases hb
    · exact ss_ns w q cq
  · subst e; exact ss_sn w p cp
  · exact ss_some xs p q cp cq w hp hq hl

end Go.Proofs.YtkfnkcpdabdboaaDoor
