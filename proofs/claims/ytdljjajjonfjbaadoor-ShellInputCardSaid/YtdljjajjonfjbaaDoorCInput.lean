/- Proved: for every input the law ratoonlaw52.ShellInput returns true, and each argument reads behind the call as before (the tied card). Condition: the listed package variables read, when the call begins, as the program's text lays them, which the card ties. -/
import Derived.Test.YtdljjajjonfjbaaDoorSx
import Derived.WalkKit
import Derived.ProofKit
import Derived.OpenShut
import Derived.ShutString
import Derived.ChangeOld
import Derived.Carry
import Derived.LaidMore
import Derived.LaidOnce
import Derived.SevenTiedAt
import Derived.SizedLaws
import Derived.Test.YtdljjajjonfjbaaDoorSwg
import Derived.ChangeMaps5
import Derived.Test.YtdljjajjonfjbaaDoorCards
import Derived.Test.YtdljjajjonfjbaaDoorTie
set_option linter.unusedVariables false
set_option linter.unusedSimpArgs false
namespace Go.Proofs.Fr
open Go Go.ChangeShapes Go.WideShapes Go.ChangeAt Go.RowKit Go.Proofs.Sx
section
variable {H:Type} {enc:TypeId×Value->H} {P:Program}
theorem trodAll_below (hl:laidOutB P=true) {W W':World} (hb:Below W.heap.size W W') : ∀ (ts:List TypeId) (vs:List Value) (ds:List (DataW H)) (ps:List MemPlace),
    (ts.all fun t=>P.readableRec t && decide (t < P.types.size))=true->DataW.TrodAll enc P W 0 (fun _=>true) true ts vs ds ps->DataW.TrodAll enc P W' 0 (fun b=>decide (b < W.heap.size)) true ts vs ds ps
  | [],[],[],_,_,h=>h
  | [],[],_::_,_,_,h=>h.elim
  | [],_::_,_,_,_,h=>h.elim
  | _::_,[],_,_,_,h=>h.elim
  | _::_,_::_,[],_,_,h=>h.elim
  | t::ts,v::vs,d::ds,ps,ht,h=>by
    obtain ⟨p,q,h1,h2,rfl⟩:=h
    simp only [List.all_cons,Bool.and_eq_true,decide_eq_true_eq] at ht
    have lt : ∀ x∈p,x.block < W.heap.size:=by obtain ⟨m,hm⟩:=h1; exact DataW.trod_lt m _ _ _ hm
    exact ⟨p,q,Below.trod hl ht.1.1 ht.1.2 h1 hb lt,trodAll_below hl hb ts vs ds q ht.2 h2,rfl⟩
theorem frame_lawS {C:Checked} {os:Os} {f:FuncId} {fn:Func} {s:ChangeSpec} {conds:List PathCond} {apart fresh handsOn:Bool} {X:World->Prop}
    (hX : ∀ (w w':World),w.heap=w'.heap->X w->X w') (own:ownKnob C.prog.godebug=none) (started:os.Started) (noInit:C.prog.inits.idxOf? f=none) (hfn:C.prog.funcs[f]? = some fn)
    (witness : ∃ (w:World) (tape:Tape) (i:Input),w.os=os/\(w.forCall tape i).Shaped C.prog/\i.vars=[]/\Input.okWide C.prog (w.forCall tape i) .any w.heap.size f i /\
      ((s.pre enc C.prog fn conds apart (w.forCall tape i).memory i.args/\X (w.forCall tape i).memory)/\sizedMet enc C.prog fn (OpenSpec.ofChange s) apart (w.forCall tape i).memory i.args)/\({}:Assume).holds C.prog (lone (Frame.enter C.prog f i.args .normal) [] (w.forCall tape i)))
    (hl:laidOutB C.prog=true) (hps:(fn.params.toList.all fun t=>C.prog.readableRec t && decide (t < C.prog.types.size))=true) (hb : ∃ t,fn.resultTypes=#[t]/\C.prog.underlying t=some .bool)
    (hvars:s.vars=[]) (hs : ∀ ds:List (DataW H),ds.length=fn.params.toList.length->s.fn H ds = {results:=[.lit (.bool true)],args:=ds})
    (walk : ∀ (W:World) (base:Nat) (args:Array Value) (ds:List (DataW H)) (p:List MemPlace),(∀ (j:Nat) t v,fn.params[j]? = some t->args[j]? = some v->Value.okWide C.prog W .any base t v) ->
      DataW.TrodAll enc C.prog W 0 (fun _=>true) true fn.params.toList args.toList ds p->conds.all (PathCond.test C.prog ⟨fn.params.toList,ds,s.plain.varTypes C.prog,[]⟩)=true->(∀ (j:Nat) t d,fn.params.toList[j]? = some t->ds[j]? = some d->∀ n∈d.weights C.prog t,n<=reachBytes)->X W ->
      Calls C.prog f args W fun e W'=>e = .returned (.bool true)/\Only none' W W') :
    ReturnsInHanded {} C os f .any (fun w args=>(s.pre enc C.prog fn conds apart w args/\X w)/\sizedMet enc C.prog fn (OpenSpec.ofChange s) apart w args) (s.post enc C.prog fn apart fresh handsOn false):=by
  refine returnsInHanded_of_change_and (C:=C) (X:=fun w _=>X w) (fun w w' _ hh h=>hX w w' hh h) own started noInit hfn witness ?_
  intro W base args ds gs before hval hW hcnd hwt hL _
  have hW':=hW
  obtain ⟨p,q,hA,hV,rfl,hfz,hnd⟩:=hW
  have hgs:gs=[]/\q=[]:=by
    rw [hvars] at hV
    cases gs with
    | nil=>exact ⟨rfl,hV⟩
    | cons g gs=>exact hV.elim
  obtain ⟨rfl,rfl⟩:=hgs
  obtain ⟨tb,hrt,htb⟩:=hb
  have hlen : ∀ (ts:List TypeId) (vs:List Value) (ds:List (DataW H)) (p:List MemPlace),DataW.TrodAll enc C.prog W 0 (fun _=>true) true ts vs ds p->ds.length=ts.length:=by
    intro ts
    induction ts with
    | nil=>intro vs ds p h; cases vs <;> cases ds <;> first | rfl | exact h.elim
    | cons t ts ih=>intro vs ds p h; cases vs <;> cases ds <;> first | exact h.elim | (obtain ⟨_,q,_,h2,_⟩:=h; simp [ih _ _ q h2])
  have hsd:=hs ds (hlen _ _ _ _ hA)
  have hwt' : ∀ (j:Nat) t d,fn.params.toList[j]? = some t->ds[j]? = some d->∀ n∈d.weights C.prog t,n<=reachBytes:=fun j t d ht hd n hn=>by
    have hj:=List.all_eq_true.1 hwt n (DataW.weights_mem_each (j:=j) (t:=t) (d:=d) (by rw [List.getElem?_append_left (List.getElem?_eq_some_iff.1 ht).1]; exact ht) (by rw [List.append_nil]; exact hd) n hn)
    exact of_decide_eq_true hj
  refine (walk W base args ds p hval hA hcnd hwt' hL).mono fun e W' ⟨he,ho⟩=>?_
  subst he
  have bel:=ho.below
  refine ⟨_,rfl,ds,[],p++[],[],p,[],hW',?_,?_,?_,bel.frame _,fun h=>by cases h⟩
  · rw [hrt,List.append_nil,hsd]
    exact trodAll_mk1 (shut_bool htb true)
  · rw [List.append_nil,hsd]
    exact trodAll_below hl bel _ _ _ _ hps hA
  · rw [List.append_nil,hsd,hvars]
    rfl
theorem frame_law {C:Checked} {os:Os} {f:FuncId} {fn:Func} {s:ChangeSpec} {conds:List PathCond} {apart fresh handsOn:Bool} {X:World->Prop}
    (hX : ∀ (w w':World),w.heap=w'.heap->X w->X w') (own:ownKnob C.prog.godebug=none) (started:os.Started) (noInit:C.prog.inits.idxOf? f=none) (hfn:C.prog.funcs[f]? = some fn)
    (witness : ∃ (w:World) (tape:Tape) (i:Input),w.os=os/\(w.forCall tape i).Shaped C.prog/\i.vars=[]/\Input.okWide C.prog (w.forCall tape i) .any w.heap.size f i /\
      ((s.pre enc C.prog fn conds apart (w.forCall tape i).memory i.args/\X (w.forCall tape i).memory)/\sizedMet enc C.prog fn (OpenSpec.ofChange s) apart (w.forCall tape i).memory i.args)/\({}:Assume).holds C.prog (lone (Frame.enter C.prog f i.args .normal) [] (w.forCall tape i)))
    (hl:laidOutB C.prog=true) (hps:(fn.params.toList.all fun t=>C.prog.readableRec t && decide (t < C.prog.types.size))=true) (hb : ∃ t,fn.resultTypes=#[t]/\C.prog.underlying t=some .bool)
    (hvars:s.vars=[]) (hs : ∀ ds:List (DataW H),ds.length=fn.params.toList.length->s.fn H ds = {results:=[.lit (.bool true)],args:=ds})
    (walk : ∀ (W:World) (base:Nat) (args:Array Value) (ds:List (DataW H)) (p:List MemPlace),(∀ (j:Nat) t v,fn.params[j]? = some t->args[j]? = some v->Value.okWide C.prog W .any base t v) ->
      DataW.TrodAll enc C.prog W 0 (fun _=>true) true fn.params.toList args.toList ds p->conds.all (PathCond.test C.prog ⟨fn.params.toList,ds,s.plain.varTypes C.prog,[]⟩)=true->X W ->
      Calls C.prog f args W fun e W'=>e = .returned (.bool true)/\Only none' W W') :
    ReturnsInHanded {} C os f .any (fun w args=>(s.pre enc C.prog fn conds apart w args/\X w)/\sizedMet enc C.prog fn (OpenSpec.ofChange s) apart w args) (s.post enc C.prog fn apart fresh handsOn false) :=
  frame_lawS hX own started noInit hfn witness hl hps hb hvars hs fun W base args ds p h1 h2 h3 _ h5=>walk W base args ds p h1 h2 h3 h5
theorem u8_wf {n:Int} (h:(Lit.int .u8 n).wf=true) : 0<=n/\n<=255:=by
  have e1:IntKind.u8.min=0:=rfl
  have e2:IntKind.u8.max=255:=rfl
  simp [Lit.wf,e1,e2] at h; omega
end
end Go.Proofs.Fr
namespace Go.Proofs.Fr
open Go Go.RowKit Go.Proofs.Sx
section
variable {P:Program} {w:World} {name:String} {D:DataW Unit} {rest:List (String×DataW Unit)} {ps:List MemPlace} {g:Nat} {t:TypeId} {cs:List Value}
theorem lv_of {laid:List (String×DataW Unit)} (h:laidMet P laid w) : ∃ ps,DataW.LaidVars P w laid ps:=⟨_,h.choose_spec.1⟩
theorem lv_tail (h : ∃ ps,DataW.LaidVars P w ((name,D)::rest) ps) : ∃ ps,DataW.LaidVars P w rest ps:=by
  obtain ⟨ps,g',t',cs',fu',p',q,_,_,_,_,hr,_⟩:=h
  exact ⟨q,hr⟩
end
end Go.Proofs.Fr
namespace Go.Proofs.Fr
open Go Go.RowKit Go.Proofs.Sx
section
variable {P:Program} {w:World} {name:String} {D:DataW Unit} {rest:List (String×DataW Unit)} {g:Nat} {t:TypeId}
theorem trod_iface {u:TypeId} {H:Type} (enc:TypeId×Value->H) (P:Program) (w:World) (b:Nat) (sp:Nat->Bool) (held:Bool) : ∀ (fu:Nat) (t:TypeId) (cs:List Value) (x:DataW H×List MemPlace) {ms},P.underlying t=some (.interface ms)->DataW.trod enc P w b sp held fu t cs=some x ->
    ∃ v,cs=[v]/\(v = .nilIface\/∃ te pe,v = .iface te pe):=by
  intro fu t cs x ms hu h
  cases fu with
  | zero=>simp [DataW.trod] at h
  | succ fu =>
    unfold DataW.trod at h
    rw [hu] at h
    split at h
    all_goals first
      | (exact ⟨_,rfl,.inl rfl⟩)
      | (exact ⟨_,rfl,.inr ⟨_,_,rfl⟩⟩)
      | (simp_all; done)
theorem lv_iface (h : ∃ ps,DataW.LaidVars P w ((name,D)::rest) ps) (hg:P.globalNamed name=some g) (ht:(P.globals[g]?).map (·.type)=some t) (hu0:(match P.underlying t with | some (.interface _)=>true | _=>false)=true) :
    ∃ v,w.cell? ⟨g,0,none⟩=some v/\(v = .nilIface\/∃ te pe,v = .iface te pe):=by
  obtain ⟨ps,g',t',cs',fu',p',q,hg',ht',hvar,hd',_,_⟩:=h
  obtain rfl:=Option.some.inj (hg.symm.trans hg')
  obtain rfl:=Option.some.inj (ht.symm.trans ht')
  have hu : ∃ ms,P.underlying t=some (.interface ms):=by
    split at hu0
    · exact ⟨_,by assumption⟩
    · cases hu0
  obtain ⟨ms,hu⟩:=hu
  obtain ⟨v,hc,hv⟩:=trod_iface (u:=0) _ _ _ _ _ _ _ _ _ _ hu hd'
  refine ⟨v,?_,hv⟩
  have:=World.var?_cell hg hvar 0
  rw [this,← Array.getElem?_toList,hc]
  rfl
end
end Go.Proofs.Fr
set_option linter.unusedVariables false
namespace Go.Proofs.YtdljjajjonfjbaaDoor
open Go Go.ChangeShapes Go.WideShapes Go.ChangeAt Go.ChangeMaps Go.RowKit Go.Proofs.Sx Go.Proofs.Fr
theorem own_shellInput : ownKnob Tryd.prog.godebug = none := by kernel_rfl
theorem out_shellInput : laidOutB Tryd.prog = true := by kernel_rfl
theorem met_shellInput (os : Os) (args : Array Value) : laidMet Tryd.prog Rows.shellInputRow.laid ((World.doorLaid Tryd.prog 200 os).forCall (fun _ _ => 0) ⟨#[], args, []⟩).memory :=
  laidMet_of_run' 8 (by kernel_rfl) (by kernel_rfl)
theorem err_of {W : World} (h : laidMet Tryd.prog Rows.shellInputRow.laid W) : ErrOk W :=
  ⟨lv_iface (g := 1) (t := 94) (lv_tail (lv_tail (lv_tail (lv_tail (lv_of h))))) (by kernel_rfl) (by kernel_rfl) (by kernel_rfl),
   lv_iface (g := 2) (t := 94) (lv_tail (lv_tail (lv_tail (lv_of h)))) (by kernel_rfl) (by kernel_rfl) (by kernel_rfl)⟩
set_option maxRecDepth 100000 in
theorem shellInput_lifted (os : Os) (started : os.Started) (H : Type) (enc : TypeId × Value → H) :
    ReturnsInHanded {} Tryd.checked os 3 .any (fun w args => (Rows.shellInputSpec.pre enc Tryd.prog Tryd.f3 [] false w args ∧ laidMet Tryd.prog Rows.shellInputRow.laid w) ∧ sizedMet enc Tryd.prog Tryd.f3 (OpenSpec.ofChange Rows.shellInputSpec) false w args)
      (Rows.shellInputSpec.post enc Tryd.prog Tryd.f3 false true false false) := by
  refine frame_law (C := Tryd.checked) (X := fun w => laidMet Tryd.prog Rows.shellInputRow.laid w) (fun _ _ hh h => h.of_heap hh) own_shellInput started (by kernel_rfl) Tryd.func3
    (ChangeSpec.witness_shaped (enc := enc) (C := Tryd.checked) (os := os) (X := fun w _ => laidMet Tryd.prog Rows.shellInputRow.laid w) false (World.doorLaid Tryd.prog 200 os) #[.string ⟨#[]⟩, .int .u8 0] 8 rfl (World.shaped_of_RefB (by kernel_rfl) (by kernel_rfl)) (by kernel_rfl) (by kernel_rfl) (by kernel_rfl) (met_shellInput os _))
    out_shellInput (by kernel_rfl) ⟨4, by kernel_rfl, by kernel_rfl⟩ rfl (fun ds hd => by
      have hd' : ds.length = 2 := hd
      match ds, hd' with
      | [_, _], _ => rfl) ?_
  intro W base args ds p hval0 hA0 _ hL
  have hval : ∀ (j : Nat) t v, Tryd.f3.params[j]? = some t → args[j]? = some v → Value.okWide Tryd.prog W .any base t v := hval0
  have hA : DataW.TrodAll enc Tryd.prog W 0 (fun _ => true) true Tryd.f3.params.toList args.toList ds p := hA0
  have hE := err_of hL
  rw [Tryd.params3] at hA hval
  obtain ⟨v0, vs0, d0, ds0, p0, q0, hargs, rfl, rfl, h0, r0⟩ := trodAll_cons hA
  obtain ⟨v1, vs1, d1, ds1, p1, q1, rfl, rfl, rfl, h1, r1⟩ := trodAll_cons r0
  obtain ⟨rfl, rfl, rfl⟩ := trodAll_nil r1
  obtain rfl : args = #[v0, v1] := by cases args; simp_all
  obtain ⟨s0, rfl, rfl, rfl, hs0⟩ := open_string (show Tryd.prog.underlying 9 = some .string by kernel_rfl) (hval 0 9 _ rfl rfl) h0
  obtain ⟨n1, rfl, rfl, rfl, wn1⟩ := open_int (show Tryd.prog.underlying 5 = some (.int .u8) by kernel_rfl) (hval 1 5 _ rfl rfl) h1
  obtain ⟨m1, rfl⟩ : ∃ m1 : Nat, n1 = (m1 : Int) := ⟨n1.toNat, by have := (u8_wf wn1).1; omega⟩
  exact input_any s0 m1 W hE (by have := (u8_wf wn1).2; omega)
theorem shellInput_holds : Rows.shellInputRow.holds Tryd.pinned (OpenSpec.ofChange Rows.shellInputSpec) :=
  OpenClaim.holds_of_wide 3 Tryd.f3 rfl rfl rfl rfl rfl rfl rfl ⟨rfl, rfl, rfl, rfl, rfl⟩ rfl rfl rfl rfl rfl (by kernel_rfl) Tryd.func3 (by kernel_rfl)
    (of_decide_eq_true (by kernel_rfl)) (by unfold Func.isWrapper; first | (rw [if_pos (by decide +kernel)]; kernel_rfl) | (rw [if_neg (by decide +kernel)]; exact ⟨rfl, rfl⟩))
    (fun os started H enc _ => shellInput_lifted os started H enc)
theorem shellInput_card : Rows.ShellInputCardSaid :=
  Claim7.holds_tied_plain_at .later [] [.data, .data, .data, .sentinel, .sentinel] true (true, "685ffa5596465a3cca749a1146bab161f2cf9b874b16f8778ed180ac6d9d7d94") true
    shellInput_holds (fun _ h => by cases h) (by kernel_rfl) (fun _ h => by cases h) shellInput_row_tie rfl ⟨rfl, rfl⟩ (by kernel_rfl) rfl
    (fun f fn hf hfn => by
      obtain rfl : f = 3 := Option.some.inj ((show Tryd.prog.funcNamed "ratoon/ratoonlaw52.ShellInput" = some 3 by kernel_rfl).symm.trans hf) |>.symm
      obtain rfl : fn = Tryd.f3 := (Option.some.inj (Tryd.func3.symm.trans hfn)).symm
      exact ⟨by kernel_rfl, fun j t ht => by
        rw [Tryd.params3] at ht
        have hm : t ∈ [9, 5] := by simpa using Array.mem_of_getElem? ht
        have hall : ([9, 5].all fun u => !Tryd.prog.wantsStandIn u) = true := by kernel_rfl
        exact (show Tryd.prog.wantsStandIn t = false by simpa using List.all_eq_true.1 hall t hm)⟩)
    (by kernel_rfl)
#print axioms shellInput_card
end Go.Proofs.YtdljjajjonfjbaaDoor
