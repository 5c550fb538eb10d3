/- The layer command: the builder. -/
import Derived.Test.YtfhcpegemapbkaaPrintlib
set_option linter.unusedVariables false
set_option linter.unusedSimpArgs false
set_option maxRecDepth 10000
namespace Go.Proofs.Ytfhcpegemapbkaa
open Go Go.Shelf Go.RowKit Go.Proofs Go.Proofs.Sx

theorem m_sdata {P : Program} {ops : Array Oper} {Q : Exit → Act → World → Prop} {n : Nat} {ds : List Deferred} {a : Act} {e : Env} {w w' : World} {K : Act → World → Prop} {i : Nat} {ats : Array TypeId} {ty : TypeId} {vs : List Value} {d : Option Nat} {v : Value}
    (hA : Holds n ds a e) (hr : (Builtin.unsafeSliceData_ ats ty vs.toArray).run P w = .ok v w') (hK : ∀ a', Holds n ds a' (putE d v e) → K a' w') (hb : builtAt ops e i = some (.unsafeSliceData, ats, ty, vs, d) := by kernel_rfl) (hd : ltO d n = true := by kernel_rfl) : wpOp P ops Q i K a w := by
  unfold builtAt at hb
  repeat' split at hb
  all_goals try (cases hb; done)
  rename_i o ho _ c hop _ b hcl _ vs' hvs
  simp only [Option.some.injEq, Prod.mk.injEq] at hb
  obtain ⟨rfl, rfl, rfl, rfl, rfl⟩ := hb
  refine wpOp_of hA ho ?_
  have hargs : c.args.map a.eval = vs'.toArray := by
    have := vals_eval hA _ _ hvs
    apply Array.toList_inj.1
    simpa using this
  have hrun : (execOp a.eval o).run P w = .ok (.value v) w' := by
    unfold execOp
    simp only [hop, resolve, hcl, hargs, invoke, builtin, Sem.run_bind, Sem.run_pure, Result.andThen_ok, run_program, hr]
  unfold Oper.wp
  rw [hrun]
  exact hK _ (hA.putE v hd)
theorem m_ustr {P : Program} {ops : Array Oper} {Q : Exit → Act → World → Prop} {n : Nat} {ds : List Deferred} {a : Act} {e : Env} {w w' : World} {K : Act → World → Prop} {i : Nat} {ats : Array TypeId} {ty : TypeId} {vs : List Value} {d : Option Nat} {v : Value}
    (hA : Holds n ds a e) (hr : (Builtin.unsafeString_ ats ty vs.toArray).run P w = .ok v w') (hK : ∀ a', Holds n ds a' (putE d v e) → K a' w') (hb : builtAt ops e i = some (.unsafeString, ats, ty, vs, d) := by kernel_rfl) (hd : ltO d n = true := by kernel_rfl) : wpOp P ops Q i K a w := by
  unfold builtAt at hb
  repeat' split at hb
  all_goals try (cases hb; done)
  rename_i o ho _ c hop _ b hcl _ vs' hvs
  simp only [Option.some.injEq, Prod.mk.injEq] at hb
  obtain ⟨rfl, rfl, rfl, rfl, rfl⟩ := hb
  refine wpOp_of hA ho ?_
  have hargs : c.args.map a.eval = vs'.toArray := by
    have := vals_eval hA _ _ hvs
    apply Array.toList_inj.1
    simpa using this
  have hrun : (execOp a.eval o).run P w = .ok (.value v) w' := by
    unfold execOp
    simp only [hop, resolve, hcl, hargs, invoke, builtin, Sem.run_bind, Sem.run_pure, Result.andThen_ok, run_program, hr]
  unfold Oper.wp
  rw [hrun]
  exact hK _ (hA.putE v hd)

theorem only_freeze (w : World) (g m : Nat) : Only (fun k => k = g) w (w.freeze ⟨g, 0, none⟩ m) := by
 unfold World.freeze
 split
 · exact Only.refl _ _
 exact ⟨rfl, rfl, rfl, by simp, fun k hk hn => by simp [Array.getElem?_modify, Ne.symm hn]⟩
theorem bI_flat (l : List UInt8) : (bI l).flatMap fB = Lib.byteCells l := by rw [flatB]; simp [bI, Lib.byteCells]
theorem bI_u8 (l : List UInt8) : U8s (bI l) := fun x hx => by
  simp only [bI, List.mem_map] at hx
  obtain ⟨b, _, rfl⟩ := hx
  have := b.toNat_lt
  omega
theorem ustr_run {w : World} {g : Nat} {t it ty : TypeId} {l : List UInt8} {r : List Value} (hB : Blk w g 5 ((bI l).flatMap fB ++ r)) (h0 : l ≠ []) (hl : l.length ≤ 1000000) (ht : Try.prog.underlying t = some (.pointer 5)) :
    (Builtin.unsafeString_ #[t, it] ty #[.pointer (some ⟨g, 0, none⟩), .int .i64 l.length]).run Try.prog w = .ok (.string (bA l)) (w.freeze ⟨g, 0, none⟩ l.length) := by
  have hsh : w.shape? g = some (5, ((bI l).flatMap fB ++ r).length) := by
    obtain ⟨fr, hg, _⟩ := hB
    unfold World.shape?; rw [hg]; simp
  have hc : Try.prog.cellsOf 5 = 1 := by kernel_rfl
  have hlen : ((bI l).flatMap fB).length = l.length := by rw [bI_flat, Lib.byteCells_length]
  refine Lib.run_unsafeString_row (P := Try.prog) w t it ty 5 ht hc g _ hsh l h0 (by rw [List.length_append, hlen]; omega) (by omega) fun j x hj => ?_
  rw [add_zero_off]
  refine hB.cell ?_
  rw [List.getElem?_append_left (by rw [hlen]; exact (List.getElem?_eq_some_iff.1 hj).1), bI_flat]
  unfold Lib.byteCells
  rw [List.getElem?_map, hj]; rfl

theorem bstring_nil (b : Nat) (q : Value)  (w : World) (h0 : Ow Try.prog (inT ((b, 76, [q, .slice none 0 0]) :: [])) w w ((b, 76, [q, .slice none 0 0]) :: [])) :
    Calls Try.prog 33 #[pt b] w fun e w' => e = .returned (str (bA [])) ∧ Only (inT ((b, 76, [q, .slice none 0 0]) :: [])) w w' := by
 refine c_enter (args := [pt b]) (m := 13) (n := 14) Try.func33 rfl (by kernel_rfl) (by kernel_rfl) fun fr hA => ?_
 have hO : Ow Try.prog (inT ((b, 76, [q, .slice none 0 0]) :: [])) w w [(b, 76, [q, .slice none 0 0])] := h0
 refine sC (e' := [(0, pt b), (2, str (⟨#[]⟩))]) 1 hA [] c0 ?_
 clear hA fr; intro fr hA
 refine wp_seq ?_
 have hS := hO
 refine rP [(0, true), (1, true), (2, true), (3, true), (5, true), (6, true), (7, true), (8, true), (9, true), (4, false), (10, false), (11, true)] hS ?_
 intro w1 ho; replace hO := hO.st ho; clear ho
 refine ckS (l := [0, 1, 2, 3, 5, 6, 7, 8, 9]) (r := [(4, false), (10, false), (11, true)]) (e' := [(2, str (⟨#[]⟩)), (6, .slice none 0 0), (12, i64 0)]) hA [.slice none 0 0, .slice none 0 0] (cc (hS.s1 0 1 74 (.slice none 0 0)) (cc (hS.s1 0 1 74 (.slice none 0 0)) c0)) ?_
 clear hA fr; intro fr hA
 refine plan_mem (m_sdata (v := .pointer none) (ats := #[74]) (ty := 93) (vs := [.slice none 0 0]) (d := (some 7)) hA (Lib.run_unsafeSliceData_nil _ _ _ _ _) ?_)
 clear hA fr; intro fr hA
 refine ⟨hO, ?_⟩
 replace hA := hA.sb (e' := [(2, str (⟨#[]⟩)), (7, .pointer none), (12, i64 0)])
 refine plan_mem (m_ustr (v := .string .empty) (ats := #[93, 3]) (ty := 9) (vs := [.pointer none, i64 0]) (d := (some 13)) hA (Lib.run_unsafeString_none _ _ _ _ _) ?_)
 clear hA fr; intro fr hA
 refine ⟨hO, ?_⟩
 replace hA := hA.sb (e' := [(2, str (⟨#[]⟩)), (13, str .empty)])
 refine ckS (l := [11]) (r := []) (e' := [(2, str .empty)]) hA [] c0 ?_
 clear hA fr; intro fr hA
 refine end_plan ?_
 refine then_normal ?_
 refine wp_ret ?_
 refine cR (cs := [none]) (us := [str .empty]) hA [] trivial ?_
 exact ⟨rfl, hO.only⟩

theorem bstring_room (b : Nat) (q : Value) (g c : Nat) (r : List Value) (hc : c ≠ 0) (w : World) (h0 : Ow Try.prog (inT ((b, 76, [q, .slice (some ⟨g, 0, none⟩) 0 c]) :: [(g, 5, r)])) w w ((b, 76, [q, .slice (some ⟨g, 0, none⟩) 0 c]) :: [(g, 5, r)])) :
    Calls Try.prog 33 #[pt b] w fun e w' => e = .returned (str (bA [])) ∧ Only (inT ((b, 76, [q, .slice (some ⟨g, 0, none⟩) 0 c]) :: [(g, 5, r)])) w w' := by
 refine c_enter (args := [pt b]) (m := 13) (n := 14) Try.func33 rfl (by kernel_rfl) (by kernel_rfl) fun fr hA => ?_
 have hO : Ow Try.prog (inT ((b, 76, [q, .slice (some ⟨g, 0, none⟩) 0 c]) :: [(g, 5, r)])) w w [(b, 76, [q, .slice (some ⟨g, 0, none⟩) 0 c]), (g, 5, r)] := h0
 refine sC (e' := [(0, pt b), (2, str (⟨#[]⟩))]) 1 hA [] c0 ?_
 clear hA fr; intro fr hA
 refine wp_seq ?_
 have hS : Ow Try.prog (inT ((b, 76, [q, .slice (some ⟨g, 0, none⟩) 0 c]) :: [(g, 5, r)])) w _ [(b, 76, [q, .slice (some ⟨g, 0, none⟩) 0 c])] := hO.sub [0]
 refine rP [(0, true), (1, true), (2, true), (3, true), (5, true), (6, true), (7, true), (8, true), (9, true), (4, false), (10, false), (11, true)] hS ?_
 intro w1 ho; replace hO := hO.st ho; clear ho
 refine ckS (l := [0, 1, 2, 3, 5, 6, 7, 8, 9]) (r := [(4, false), (10, false), (11, true)]) (e' := [(2, str (⟨#[]⟩)), (6, .slice (some ⟨g, 0, none⟩) 0 c), (12, i64 0)]) hA [.slice (some ⟨g, 0, none⟩) 0 c, .slice (some ⟨g, 0, none⟩) 0 c] (cc (hS.s1 0 1 74 (.slice (some ⟨g, 0, none⟩) 0 c)) (cc (hS.s1 0 1 74 (.slice (some ⟨g, 0, none⟩) 0 c)) c0)) ?_
 clear hA fr; intro fr hA
 refine plan_mem (m_sdata (v := pt g) (ats := #[74]) (ty := 93) (vs := [.slice (some ⟨g, 0, none⟩) 0 c]) (d := (some 7)) hA (Lib.run_unsafeSliceData_row _ _ _ _ _ _ (by omega)) ?_)
 clear hA fr; intro fr hA
 refine ⟨(hO.sub [0]), ?_⟩
 replace hA := hA.sb (e' := [(2, str (⟨#[]⟩)), (7, pt g), (12, i64 0)])
 refine plan_mem (m_ustr (v := .string .empty) (ats := #[93, 3]) (ty := 9) (vs := [pt g, i64 0]) (d := (some 13)) hA (Lib.run_unsafeString_none _ _ _ _ _) ?_)
 clear hA fr; intro fr hA
 refine ⟨(hO.sub [0]), ?_⟩
 replace hA := hA.sb (e' := [(2, str (⟨#[]⟩)), (13, str .empty)])
 refine ckS (l := [11]) (r := []) (e' := [(2, str .empty)]) hA [] c0 ?_
 clear hA fr; intro fr hA
 refine end_plan ?_
 refine then_normal ?_
 refine wp_ret ?_
 refine cR (cs := [none]) (us := [str .empty]) hA [] trivial ?_
 exact ⟨rfl, hO.only⟩

theorem bstring_zero (b : Nat) (q : Value) (g : Nat) (r : List Value) (w : World) (h0 : Ow Try.prog (inT ((b, 76, [q, .slice (some ⟨g, 0, none⟩) 0 0]) :: [(g, 5, r)])) w w ((b, 76, [q, .slice (some ⟨g, 0, none⟩) 0 0]) :: [(g, 5, r)])) :
    Calls Try.prog 33 #[pt b] w fun e w' => e = .returned (str (bA [])) ∧ Only (inT ((b, 76, [q, .slice (some ⟨g, 0, none⟩) 0 0]) :: [(g, 5, r)])) w w' := by
 refine c_enter (args := [pt b]) (m := 13) (n := 14) Try.func33 rfl (by kernel_rfl) (by kernel_rfl) fun fr hA => ?_
 have hO : Ow Try.prog (inT ((b, 76, [q, .slice (some ⟨g, 0, none⟩) 0 0]) :: [(g, 5, r)])) w w [(b, 76, [q, .slice (some ⟨g, 0, none⟩) 0 0]), (g, 5, r)] := h0
 refine sC (e' := [(0, pt b), (2, str (⟨#[]⟩))]) 1 hA [] c0 ?_
 clear hA fr; intro fr hA
 refine wp_seq ?_
 have hS : Ow Try.prog (inT ((b, 76, [q, .slice (some ⟨g, 0, none⟩) 0 0]) :: [(g, 5, r)])) w _ [(b, 76, [q, .slice (some ⟨g, 0, none⟩) 0 0])] := hO.sub [0]
 refine rP [(0, true), (1, true), (2, true), (3, true), (5, true), (6, true), (7, true), (8, true), (9, true), (4, false), (10, false), (11, true)] hS ?_
 intro w1 ho; replace hO := hO.st ho; clear ho
 refine ckS (l := [0, 1, 2, 3, 5, 6, 7, 8, 9]) (r := [(4, false), (10, false), (11, true)]) (e' := [(2, str (⟨#[]⟩)), (6, .slice (some ⟨g, 0, none⟩) 0 0), (12, i64 0)]) hA [.slice (some ⟨g, 0, none⟩) 0 0, .slice (some ⟨g, 0, none⟩) 0 0] (cc (hS.s1 0 1 74 (.slice (some ⟨g, 0, none⟩) 0 0)) (cc (hS.s1 0 1 74 (.slice (some ⟨g, 0, none⟩) 0 0)) c0)) ?_
 clear hA fr; intro fr hA
 refine plan_mem (m_sdata (w' := (World.alloc w1 (.view ⟨g, 0, none⟩ 5))) (v := .pointer (some ⟨(w1).heap.size, 0, none⟩)) (ats := #[74]) (ty := 93) (vs := [.slice (some ⟨g, 0, none⟩) 0 0]) (d := (some 7)) hA (Lib.run_unsafeSliceData_zero w1 _ _ 5 (by kernel_rfl) ⟨g, 0, none⟩ 0 (5, r.length) (by obtain ⟨fr_, hg_, _⟩ := hO.b 1; unfold World.shape?; simp only; rw [show oB _ 1 = g from rfl] at hg_; rw [hg_]; rfl)) ?_)
 clear hA fr; intro fr hA
 replace hO := hO.st (only_push (w := w1) (.view ⟨g, 0, none⟩ 5))
 refine ⟨(hO.sub [0]), ?_⟩
 replace hA := hA.sb (e' := [(2, str (⟨#[]⟩)), (7, .pointer (some ⟨(w1).heap.size, 0, none⟩)), (12, i64 0)])
 refine plan_mem (m_ustr (v := .string .empty) (ats := #[93, 3]) (ty := 9) (vs := [.pointer (some ⟨(w1).heap.size, 0, none⟩), i64 0]) (d := (some 13)) hA (Lib.run_unsafeString_none _ _ _ _ _) ?_)
 clear hA fr; intro fr hA
 refine ⟨(hO.sub [0]), ?_⟩
 replace hA := hA.sb (e' := [(2, str (⟨#[]⟩)), (13, str .empty)])
 refine ckS (l := [11]) (r := []) (e' := [(2, str .empty)]) hA [] c0 ?_
 clear hA fr; intro fr hA
 refine end_plan ?_
 refine then_normal ?_
 refine wp_ret ?_
 refine cR (cs := [none]) (us := [str .empty]) hA [] trivial ?_
 exact ⟨rfl, hO.only⟩

theorem bstring_row (b : Nat) (q : Value) (g c : Nat) (r : List Value) (l : List UInt8) (hne : l ≠ []) (hl : l.length ≤ 1000000) (hc : c ≠ 0) (w : World) (h0 : Ow Try.prog (inT ((b, 76, [q, .slice (some ⟨g, 0, none⟩) ((bI l).length) c]) :: [(g, 5, (bI l).flatMap fB ++ r)])) w w ((b, 76, [q, .slice (some ⟨g, 0, none⟩) ((bI l).length) c]) :: [(g, 5, (bI l).flatMap fB ++ r)])) :
    Calls Try.prog 33 #[pt b] w fun e w' => e = .returned (str (bA l)) ∧ Only (inT ((b, 76, [q, .slice (some ⟨g, 0, none⟩) ((bI l).length) c]) :: [(g, 5, (bI l).flatMap fB ++ r)])) w w' := by
 refine c_enter (args := [pt b]) (m := 13) (n := 14) Try.func33 rfl (by kernel_rfl) (by kernel_rfl) fun fr hA => ?_
 have hO : Ow Try.prog (inT ((b, 76, [q, .slice (some ⟨g, 0, none⟩) ((bI l).length) c]) :: [(g, 5, (bI l).flatMap fB ++ r)])) w w [(b, 76, [q, .slice (some ⟨g, 0, none⟩) ((bI l).length) c]), (g, 5, ((bI l).flatMap fB ++ r))] := h0
 refine sC (e' := [(0, pt b), (2, str (⟨#[]⟩))]) 1 hA [] c0 ?_
 clear hA fr; intro fr hA
 refine wp_seq ?_
 have hS : Ow Try.prog (inT ((b, 76, [q, .slice (some ⟨g, 0, none⟩) ((bI l).length) c]) :: [(g, 5, (bI l).flatMap fB ++ r)])) w _ [(b, 76, [q, .slice (some ⟨g, 0, none⟩) ((bI l).length) c])] := hO.sub [0]
 refine rP [(0, true), (1, true), (2, true), (3, true), (5, true), (6, true), (7, true), (8, true), (9, true), (4, false), (10, false), (11, true)] hS ?_
 intro w1 ho; replace hO := hO.st ho; clear ho
 refine ckS (l := [0, 1, 2, 3, 5, 6, 7, 8, 9]) (r := [(4, false), (10, false), (11, true)]) (e' := [(2, str (⟨#[]⟩)), (6, .slice (some ⟨g, 0, none⟩) ((bI l).length) c), (12, i64 (((bI l).length : Nat) : Int))]) hA [.slice (some ⟨g, 0, none⟩) ((bI l).length) c, .slice (some ⟨g, 0, none⟩) ((bI l).length) c] (cc (hS.s1 0 1 74 (.slice (some ⟨g, 0, none⟩) ((bI l).length) c)) (cc (hS.s1 0 1 74 (.slice (some ⟨g, 0, none⟩) ((bI l).length) c)) c0)) ?_
 clear hA fr; intro fr hA
 replace hA := hA.int (f := fun z_ => [(2, str (⟨#[]⟩)), (6, .slice (some ⟨g, 0, none⟩) ((bI l).length) c), (12, .int .i64 z_)]) (by rw [bI_len] : (((bI l).length : Nat) : Int) = ((l.length : Nat) : Int))
 refine plan_mem (m_sdata (v := pt g) (ats := #[74]) (ty := 93) (vs := [.slice (some ⟨g, 0, none⟩) ((bI l).length) c]) (d := (some 7)) hA (Lib.run_unsafeSliceData_row _ _ _ _ _ _ (by omega)) ?_)
 clear hA fr; intro fr hA
 refine ⟨(hO.sub [0]), ?_⟩
 replace hA := hA.sb (e' := [(2, str (⟨#[]⟩)), (7, pt g), (12, i64 ((l.length : Nat) : Int))])
 refine plan_mem (m_ustr (v := .string (bA l)) (ats := #[93, 3]) (ty := 9) (vs := [pt g, i64 ((l.length : Nat) : Int)]) (d := (some 13)) hA (ustr_run (hO.b 1) hne hl (by kernel_rfl)) ?_)
 clear hA fr; intro fr hA
 replace hO := Ow.pan3 (A := [(b, 76, [q, .slice (some ⟨g, 0, none⟩) ((bI l).length) c])]) (T := [(g, 5, ((bI l).flatMap fB ++ r))]) (B := []) hO ((only_freeze w1 g l.length).mono fun i _ h => ⟨_, List.mem_singleton.2 rfl, h.symm⟩)
 refine ⟨hO, ?_⟩
 replace hA := hA.sb (e' := [(2, str (⟨#[]⟩)), (13, str (bA l))])
 refine ckS (l := [11]) (r := []) (e' := [(2, str (bA l))]) hA [] c0 ?_
 clear hA fr; intro fr hA
 refine end_plan ?_
 refine then_normal ?_
 refine wp_ret ?_
 refine cR (cs := [none]) (us := [str (bA l)]) hA [] trivial ?_
 exact ⟨rfl, hO.only⟩

end Go.Proofs.Ytfhcpegemapbkaa
