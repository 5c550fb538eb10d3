import Derived.Test.YtdljjajjonfjbaaGreatDoorSx
import Derived.WalkKit
import Derived.ProofKit
import Derived.OpenShut
import Derived.ShutString
import Derived.ChangeOld
import Derived.Carry
import Derived.LaidMore
import Derived.LaidOnce
import Derived.SevenTiedAt
import Derived.SizedLaws
import Derived.Test.YtdljjajjonfjbaaGreatDoorReaders
import Derived.Test.YtdljjajjonfjbaaGreatDoorShg
import Derived.Test.YtdljjajjonfjbaaGreatDoorCards
import Derived.Test.YtdljjajjonfjbaaGreatDoorTie
import Derived.Test.YtdljjajjonfjbaaGreatDoorShb
import Derived.Test.YtdljjajjonfjbaaGreatDoorStk
import Derived.ChangeMaps5
set_option linter.unusedVariables false
set_option linter.unusedSimpArgs false
open Go.Value renaming slice->F
open Option renaming some->K
open Go.Proofs.Tryz renaming prog->jP
open List renaming length_map->jU,not_mem_nil->jY,append_nil->kC
namespace Go.Proofs.Fr
open Go Go.ChangeShapes Go.WideShapes Go.ChangeAt Go.RowKit Go.Proofs.Sx
section
variable {H:Type} {enc:TypeId×Value->H} {P:Program}
theorem H9 (hl:laidOutB P=true) {W W':World} (hb:Below W.heap.size W W') : ∀ (ts:List TypeId) (vs:List Value) (ds:List (DataW H)) (ps:List MemPlace),
 (ts.all fun t=>P.readableRec t && decide (t < P.types.size))=true->DataW.TrodAll enc P W 0 (fun _=>true) true ts vs ds ps->DataW.TrodAll enc P W' 0 (fun b=>decide (b < W.heap.size)) true ts vs ds ps
 | [],[],[],_,_,h=>h
 | [],[],_::_,_,_,h=>h.elim
 | [],_::_,_,_,_,h=>h.elim
 | _::_,[],_,_,_,h=>h.elim
 | _::_,_::_,[],_,_,h=>h.elim
 | t::ts,v::vs,d::ds,ps,ht,h=>by
  obtain ⟨p,q,h1,h2,rfl⟩:=h
  simp only [List.all_cons,Bool.and_eq_true,decide_eq_true_eq] at ht
  have lt : ∀ x∈p,x.block < W.heap.size:=by obtain ⟨m,hm⟩:=h1; exact DataW.trod_lt m _ _ _ hm
  exact ⟨p,q,Below.trod hl ht.1.1 ht.1.2 h1 hb lt,H9 hl hb ts vs ds q ht.2 h2,rfl⟩
theorem S8 {C:Checked} {os:Os} {f:FuncId} {fn:Func} {s:ChangeSpec} {conds:List PathCond} {apart fresh handsOn:Bool} {X:World->Prop}
 (hX : ∀ (w w':World),w.heap=w'.heap->X w->X w') (own:ownKnob C.prog.godebug=none) (started:os.Started) (noInit:C.prog.inits.idxOf? f=none) (hfn:C.prog.funcs[f]? = K fn)
 (witness : ∃ (w:World) (tape:Tape) (i:Input),w.os=os/\(w.forCall tape i).Shaped C.prog/\i.vars=[]/\Input.okWide C.prog (w.forCall tape i) .any w.heap.size f i /\
  ((s.pre enc C.prog fn conds apart (w.forCall tape i).memory i.args/\X (w.forCall tape i).memory)/\sizedMet enc C.prog fn (OpenSpec.ofChange s) apart (w.forCall tape i).memory i.args)/\({}:Assume).holds C.prog (lone (Frame.enter C.prog f i.args .normal) [] (w.forCall tape i)))
 (hl:laidOutB C.prog=true) (hps:(fn.params.toList.all fun t=>C.prog.readableRec t && decide (t < C.prog.types.size))=true) (hb : ∃ t,fn.resultTypes=#[t]/\C.prog.underlying t=K .bool)
 (hvars:s.vars=[]) (hs : ∀ ds:List (DataW H),ds.length=fn.params.toList.length->s.fn H ds = {results:=[.lit (.bool true)],args:=ds})
 (walk : ∀ (W:World) (base:Nat) (args:Array Value) (ds:List (DataW H)) (p:List MemPlace),(∀ (j:Nat) t v,fn.params[j]? = K t->args[j]? = K v->Value.okWide C.prog W .any base t v) ->
  DataW.TrodAll enc C.prog W 0 (fun _=>true) true fn.params.toList args.toList ds p->conds.all (PathCond.test C.prog ⟨fn.params.toList,ds,s.plain.varTypes C.prog,[]⟩)=true->(∀ (j:Nat) t d,fn.params.toList[j]? = K t->ds[j]? = K d->∀ n∈d.weights C.prog t,n<=reachBytes)->X W ->
  Calls C.prog f args W fun e W'=>e = .returned (.bool true)/\Only Ag W W') :
 ReturnsInHanded {} C os f .any (fun w args=>(s.pre enc C.prog fn conds apart w args/\X w)/\sizedMet enc C.prog fn (OpenSpec.ofChange s) apart w args) (s.post enc C.prog fn apart fresh handsOn false):=by
 refine returnsInHanded_of_change_and (C:=C) (X:=fun w _=>X w) (fun w w' _ hh h=>hX w w' hh h) own started noInit hfn witness ?_
 intro W base args ds gs before hval hW hcnd hwt hL _
 have hW':=hW
 obtain ⟨p,q,V,hV,rfl,hfz,hnd⟩:=hW
 have hgs:gs=[]/\q=[]:=by
  rw [hvars] at hV
  cases gs with
  | nil=>exact ⟨rfl,hV⟩
  | cons g gs=>exact hV.elim
 obtain ⟨rfl,rfl⟩:=hgs
 obtain ⟨tb,hrt,htb⟩:=hb
 have hlen : ∀ (ts:List TypeId) (vs:List Value) (ds:List (DataW H)) (p:List MemPlace),DataW.TrodAll enc C.prog W 0 (fun _=>true) true ts vs ds p->ds.length=ts.length:=by
  intro ts
  induction ts with
  | nil=>intro vs ds p h; cases vs <;> cases ds <;> first | rfl | exact h.elim
  | cons t ts ih=>intro vs ds p h; cases vs <;> cases ds <;> first | exact h.elim | (obtain ⟨_,q,_,h2,_⟩:=h; simp [ih _ _ q h2])
 have hsd:=hs ds (hlen _ _ _ _ V)
 have hwt' : ∀ (j:Nat) t d,fn.params.toList[j]? = K t->ds[j]? = K d->∀ n∈d.weights C.prog t,n<=reachBytes:=fun j t d ht hd n hn=>by
  have hj:=List.all_eq_true.1 hwt n (DataW.weights_mem_each (j:=j) (t:=t) (d:=d) (by rw [List.getElem?_append_left (List.getElem?_eq_some_iff.1 ht).1]; exact ht) (by rw [kC]; exact hd) n hn)
  exact jL hj
 refine (walk W base args ds p hval V hcnd hwt' hL).mono fun e W' ⟨he,ho⟩=>?_
 subst he
 have bel:=ho.below
 refine ⟨_,rfl,ds,[],p++[],[],p,[],hW',?_,?_,?_,bel.frame _,fun h=>by cases h⟩
 · rw [hrt,kC,hsd]
   exact trodAll_mk1 (shut_bool htb true)
 · rw [kC,hsd]
   exact H9 hl bel _ _ _ _ hps V
 · rw [kC,hsd,hvars]
   rfl
theorem u8_wf {n:Int} (h:(Lit.int .u8 n).wf=true) : 0<=n/\n<=255:=by
 have e1:IntKind.u8.min=0:=rfl
 have e2:IntKind.u8.max=255:=rfl
 simp [Lit.wf,e1,e2] at h; omega
end
end Go.Proofs.Fr
set_option maxRecDepth 100000
namespace Go.Proofs.YtdljjajjonfjbaaGreatDoor
open Go Go.ChangeShapes Go.WideShapes Go.ChangeAt Go.RowKit Go.Proofs.Sx
section
variable {H:Type} {enc:TypeId×Value->H} {P:Program} {W:World}
theorem P8 {e:TypeId} {n:Nat} : ∀ {l:List (DataW H)} {d:DataW H},d∈l->n∈d.weights P e->n∈DataW.weightsAll P e l
 | [],_,h,_=>absurd h jY
 | x::r,d,h,hn=>by
  simp only [DataW.weightsAll,List.mem_append]
  rcases List.mem_cons.1 h with rfl | h
  · exact .inl hn
  · exact .inr (P8 h hn)
theorem Up {α:Type} {f : α->List Value} {G : α->Prop} {sz:Nat} {a:Addr} (E:Enc f sz) : ∀ n,(∀ i,i < n->∃ x : α,(∀ k,k < sz->W.cell? (a.add (i*sz+k))=(f x)[k]?)/\G x) ->
 ∃ l:List α,l.length=n/\(∀ j u,(l.flatMap f)[j]? = K u->W.cell? (a.add j)=K u)/\∀ x∈l,G x
 | 0,_=>⟨[],rfl,fun j u h=>by simp at h,fun x hx=>absurd hx jY⟩
 | n+1,h=>by
  obtain ⟨l,hl,hc,hg⟩:=Up E n fun i hi=>h i (by omega)
  obtain ⟨x,hx,gx⟩:=h n (by omega)
  refine ⟨l++[x],by simp [hl],fun j u hj=>?_,fun y hy=>?_⟩
  · rw [List.flatMap_append,show [x].flatMap f=f x by simp] at hj
    have hfl:(l.flatMap f).length=n*sz:=by rw [E.flen,hl]
    by_cases hlt:j < n*sz
    · rw [List.getElem?_append_left (by omega)] at hj; exact hc j u hj
    · rw [List.getElem?_append_right (by omega),hfl] at hj
      have hk:j - n*sz < sz:=by
       have:=(List.getElem?_eq_some_iff.1 hj).1
       rw [E.len] at this; exact this
      have:=hx _ hk
      rw [show n*sz+(j - n*sz)=j by omega,hj] at this
      exact this
  · rcases List.mem_append.1 hy with hy | hy
    · exact hg y hy
    · rw [List.mem_singleton.1 hy]; exact gx
theorem Hw {α:Type} {f : α->List Value} {G : α->Prop} {t e:TypeId} {sz N fuel:Nat} {cs:List Value} {x:DataW H×List MemPlace} (ht:P.underlying t=K (.slice e)) (hc:P.cellsOf e=sz) (E:Enc f sz) (hb:decide (1<=P.bytesOf e)=true)
 (el : ∀ n cs y,DataW.trod enc P W 0 (fun _=>true) true n e cs=K y->(∀ k∈y.1.weights P e,k<=N)->∃ x : α,cs=f x/\G x)
 (h:DataW.trod enc P W 0 (fun _=>true) true fuel t cs=K x) (hw : ∀ k∈x.1.weights P t,k<=N) :
 ∃ p c,∃ l:List α,cs=[F p l.length c]/\Vw f W (F p l.length c) l/\l.length<=N/\∀ x∈l,G x:=by
 rcases DataW.trod_slice ht h with ⟨rfl,_⟩ | ⟨a,len,cap,elems,rest,n,rfl,rfl,rfl,_,hl,hm,hlen,hel,_,_⟩
 · exact ⟨none,0,[],rfl,.inl ⟨rfl,rfl⟩,Nat.zero_le _,fun x hx=>absurd hx jY⟩
 · have hlN:len<=N:=by
    have:=hw ((elems.length+rest.length)*P.bytesOf e) (by simp [DataW.weights,ht])
    have h2:len*1<=(elems.length+rest.length)*P.bytesOf e:=Nat.mul_le_mul (by omega) (jL hb)
    omega
   obtain ⟨l,h1,h2,h3⟩:=Up (W:=W) (a:=a) (G:=G) E len fun i hi=>by
    have g:=hel i hi
    rw [List.getElem?_eq_getElem (by omega),Option.bind_eq_some_iff] at g
    obtain ⟨cs,hcs,hy⟩:=g
    obtain ⟨_,hcl,hcell⟩:=World.cells?_some hcs
    obtain ⟨x,rfl,hG⟩:=el n _ _ hy fun k hk=>hw k (by
     simp only [DataW.weights,ht,List.mem_cons,List.mem_append]
     exact .inr (.inl (P8 (List.mem_map_of_mem (List.getElem_mem _)) hk)))
    rw [hc] at hcell
    exact ⟨x,fun k hk=>by rw [← Sx.add_add]; exact hcell k hk,hG⟩
   exact ⟨K a,cap,l,by rw [h1],.inr ⟨a,cap,rfl,h2⟩,by omega,h3⟩
theorem O7 {t:TypeId} {N fuel:Nat} {cs:List Value} {x:DataW H×List MemPlace} (ht:P.underlying t=K .string) (h:DataW.trod enc P W 0 (fun _=>true) true fuel t cs=K x) (hw : ∀ k∈x.1.weights P t,k<=N) : ∃ s:ByteArray,cs=[.string s]/\s.size<=N:=by
 obtain ⟨s,rfl,rfl,_⟩:=DataW.trod_string ht h
 refine ⟨s,rfl,hw _ ?_⟩
 simp [DataW.weights]
theorem H5 {t:TypeId} {fs:Array Field} {N fuel:Nat} {cs:List Value} {x:DataW H×List MemPlace} (ht:P.underlying t=K (.struct fs)) (h:DataW.trod enc P W 0 (fun _=>true) true fuel t cs=K x) (hw : ∀ k∈x.1.weights P t,k<=N) :
 cs.length=P.cellsOf t/\∃ n,∀ (i:Nat) (f:Field),fs[i]? = K f->∃ y,DataW.trod enc P W 0 (fun _=>true) true n f.type ((cs.drop f.offset).take (P.cellsOf f.type))=K y/\∀ k∈y.1.weights P f.type,k<=N:=by
 obtain ⟨xs,n,rfl,rfl,h1,h2,h3⟩:=DataW.trod_struct ht h
 refine ⟨h1,n,fun i f hf=>?_⟩
 have hi:i < xs.length:=by have:=(Array.getElem?_eq_some_iff.1 hf).1; omega
 refine ⟨xs[i],by rw [h3 i f hf,List.getElem?_eq_getElem hi],fun k hk=>hw k ?_⟩
 simp only [DataW.weights,ht]
 exact DataW.weights_mem_each (j:=i) (t:=f.type) (d:=xs[i].1) (by simp [hf]) (by simp [hi]) k hk
end
section
variable {H:Type} {enc:TypeId×Value->H} {W:World} {N:Nat}
theorem fE:jP.underlying 22=K (.slice 71):=by kernel_rfl
theorem und69:jP.underlying 69=K (.slice 73):=by kernel_rfl
theorem und30:jP.underlying 30=K (.slice 9):=by kernel_rfl
theorem bP:jP.underlying 9=K .string:=by kernel_rfl
theorem und4:jP.underlying 4=K .bool:=by kernel_rfl
theorem jA {n:Nat} {cs:List Value} {y:DataW H×List MemPlace} (h:DataW.trod enc jP W 0 (fun _=>true) true n 73 cs=K y) (hw : ∀ k∈y.1.weights jP 73,k<=N) : ∃ x:CV,cs=fC x/\(VC W x/\smC N x.d):=by
 obtain ⟨fs,hfs,g0,g1,g2,g3⟩ : ∃ fs,jP.underlying 73=K (.struct fs)/\(fs[0]?.map fun f=>(f.type,f.offset))=K (30,0)/\(fs[1]?.map fun f=>(f.type,f.offset))=K (9,1)/\(fs[2]?.map fun f=>(f.type,f.offset))=K (9,2)/\(fs[3]?.map fun f=>(f.type,f.offset))=K (4,3) :=
  ⟨(match jP.underlying 73 with | some (.struct fs)=>fs | _=>#[]),by kernel_rfl,by kernel_rfl,by kernel_rfl,by kernel_rfl,by kernel_rfl⟩
 obtain ⟨hl,m,hx⟩:=H5 hfs h hw
 rw [show jP.cellsOf 73=4 by kernel_rfl] at hl
 match cs,hl with
 | [a,b,c,d],_ =>
  have fld : ∀ {i t o:Nat},(fs[i]?.map fun f:Field=>(f.type,f.offset))=K (t,o)->∃ z,DataW.trod enc jP W 0 (fun _=>true) true m t (([a,b,c,d].drop o).take (jP.cellsOf t))=K z/\∀ k∈z.1.weights jP t,k<=N:=by
   intro i t o hg
   obtain ⟨f,hf,he⟩:=Option.map_eq_some_iff.1 hg
   obtain ⟨rfl,rfl⟩:=Prod.mk.inj he
   exact hx i f hf
  obtain ⟨z0,q0,w0⟩:=fld g0
  obtain ⟨z1,q1,w1⟩:=fld g1
  obtain ⟨z2,q2,w2⟩:=fld g2
  obtain ⟨z3,q3,_⟩:=fld g3
  rw [show jP.cellsOf 30=1 by kernel_rfl] at q0
  rw [show jP.cellsOf 9=1 by kernel_rfl] at q1 q2
  rw [show jP.cellsOf 4=1 by kernel_rfl] at q3
  simp only [List.drop_zero,List.drop_succ_cons,List.take_succ_cons,List.take_zero] at q0 q1 q2 q3
  obtain ⟨p,k,ws,e0,hv,hn,hs⟩:=Hw (f:=fT) (G:=fun s=>s.size<=N) und30 (by kernel_rfl) Fi (by kernel_rfl) (fun _ _ _ g gw=>by obtain ⟨s,e,hs⟩:=O7 bP g gw; exact ⟨s,e,hs⟩) q0 w0
  obtain ⟨s1,e1,n1⟩:=O7 bP q1 w1
  obtain ⟨s2,e2,n2⟩:=O7 bP q2 w2
  obtain ⟨b3,e3,_⟩:=DataW.trod_bool und4 q3
  cases e0; cases e1; cases e2; cases e3
  exact ⟨⟨p,k,⟨ws,s1,s2,b3⟩⟩,rfl,hv,hs,n1,n2,hn⟩
theorem iN {n:Nat} {cs:List Value} {y:DataW H×List MemPlace} (h:DataW.trod enc jP W 0 (fun _=>true) true n 71 cs=K y) (hw : ∀ k∈y.1.weights jP 71,k<=N) : ∃ x:JV,cs=fJ x/\(VJ W x/\smJ N x.d):=by
 obtain ⟨fs,hfs,g0,g1⟩ : ∃ fs,jP.underlying 71=K (.struct fs)/\(fs[0]?.map fun f=>(f.type,f.offset))=K (69,0)/\(fs[1]?.map fun f=>(f.type,f.offset))=K (4,1) :=
  ⟨(match jP.underlying 71 with | some (.struct fs)=>fs | _=>#[]),by kernel_rfl,by kernel_rfl,by kernel_rfl⟩
 obtain ⟨hl,m,hx⟩:=H5 hfs h hw
 rw [show jP.cellsOf 71=2 by kernel_rfl] at hl
 match cs,hl with
 | [a,b],_ =>
  have fld : ∀ {i t o:Nat},(fs[i]?.map fun f:Field=>(f.type,f.offset))=K (t,o)->∃ z,DataW.trod enc jP W 0 (fun _=>true) true m t (([a,b].drop o).take (jP.cellsOf t))=K z/\∀ k∈z.1.weights jP t,k<=N:=by
   intro i t o hg
   obtain ⟨f,hf,he⟩:=Option.map_eq_some_iff.1 hg
   obtain ⟨rfl,rfl⟩:=Prod.mk.inj he
   exact hx i f hf
  obtain ⟨z0,q0,w0⟩:=fld g0
  obtain ⟨z1,q1,_⟩:=fld g1
  rw [show jP.cellsOf 69=1 by kernel_rfl] at q0
  rw [show jP.cellsOf 4=1 by kernel_rfl] at q1
  simp only [List.drop_zero,List.drop_succ_cons,List.take_succ_cons,List.take_zero] at q0 q1
  obtain ⟨p,k,ys,e0,hv,hn,hs⟩:=Hw (f:=fC) (G:=fun x=>VC W x/\smC N x.d) und69 (by kernel_rfl) Bm (by kernel_rfl) (fun _ _ _ g gw=>jA g gw) q0 w0
  obtain ⟨b1,e1,_⟩:=DataW.trod_bool und4 q1
  cases e0; cases e1
  refine ⟨⟨p,k,ys,b1⟩,rfl,⟨hv,fun y hy=>(hs y hy).1⟩,?_,fun c hc=>?_⟩
  · show (ys.map (·.d)).length<=N
    rw [jU]; exact hn
  · obtain ⟨y,hy,rfl⟩:=List.mem_map.1 hc
    exact (hs y hy).2
end
end Go.Proofs.YtdljjajjonfjbaaGreatDoor
namespace Go.Proofs.Fr
open Go Go.RowKit Go.Proofs.Sx
section
variable {P:Program} {w:World} {name:String} {D:DataW Unit} {rest:List (String×DataW Unit)} {ps:List MemPlace} {g:Nat} {t:TypeId} {cs:List Value}
theorem lv_of {laid:List (String×DataW Unit)} (h:laidMet P laid w) : ∃ ps,DataW.LaidVars P w laid ps:=⟨_,h.choose_spec.1⟩
theorem Gn (h : ∃ ps,DataW.LaidVars P w ((name,D)::rest) ps) : ∃ ps,DataW.LaidVars P w rest ps:=by
 obtain ⟨ps,g',t',cs',fu',p',q,_,_,_,_,hr,_⟩:=h
 exact ⟨q,hr⟩
end
section
variable {P:Program} {w:World} {name:String} {D:DataW Unit} {rest:List (String×DataW Unit)} {g:Nat} {t:TypeId}
theorem Sd {u:TypeId} {H:Type} (enc:TypeId×Value->H) (P:Program) (w:World) (b:Nat) (sp:Nat->Bool) (held:Bool) : ∀ (fu:Nat) (t:TypeId) (cs:List Value) (x:DataW H×List MemPlace) {ms},P.underlying t=K (.interface ms)->DataW.trod enc P w b sp held fu t cs=K x ->
 ∃ v,cs=[v]/\(v = .nilIface\/∃ te pe,v = .iface te pe):=by
 intro fu t cs x ms hu h
 cases fu with
 | zero=>simp [DataW.trod] at h
 | succ fu =>
  unfold DataW.trod at h
  rw [hu] at h
  split at h
  all_goals first
   | (exact ⟨_,rfl,.inl rfl⟩)
   | (exact ⟨_,rfl,.inr ⟨_,_,rfl⟩⟩)
   | (simp_all; done)
theorem Re (h : ∃ ps,DataW.LaidVars P w ((name,D)::rest) ps) (hg:P.globalNamed name=some g) (ht:(P.globals[g]?).map (·.type)=some t) (hu0:(match P.underlying t with | some (.interface _)=>true | _=>false)=true) :
 ∃ v,w.cell? ⟨g,0,none⟩=K v/\(v = .nilIface\/∃ te pe,v = .iface te pe):=by
 obtain ⟨ps,g',t',cs',fu',p',q,hg',ht',hvar,hd',_,_⟩:=h
 obtain rfl:=Option.some.inj (hg.symm.trans hg')
 obtain rfl:=Option.some.inj (ht.symm.trans ht')
 have hu : ∃ ms,P.underlying t=K (.interface ms):=by
  split at hu0
  · exact ⟨_,by assumption⟩
  · cases hu0
 obtain ⟨ms,hu⟩:=hu
 obtain ⟨v,hc,hv⟩:=Sd (u:=0) _ _ _ _ _ _ _ _ _ _ hu hd'
 refine ⟨v,?_,hv⟩
 have:=World.var?_cell hg hvar 0
 rw [this,← Array.getElem?_toList,hc]
 rfl
end
end Go.Proofs.Fr
namespace Go.Proofs.YtdljjajjonfjbaaGreatDoor
open Go Go.ChangeShapes Go.WideShapes Go.ChangeAt Go.RowKit Go.Proofs.Sx Go.Proofs.Fr
section
variable {H:Type} {enc:TypeId×Value->H} {W:World}
theorem X8:jP.underlying 41=K (.slice 5):=by kernel_rfl
theorem und5:jP.underlying 5=K (.int .u8):=by kernel_rfl
end
theorem Xe:ownKnob jP.godebug=none:=by kernel_rfl
theorem Xf:laidOutB jP=true:=by kernel_rfl
theorem Z5 {W:World} {A B C D E:DataW Unit} {a b c:String} (h : ∃ ps,DataW.LaidVars jP W [(a,A),(b,B),(c,C),("strconv.ErrRange",D),("strconv.ErrSyntax",E)] ps):ErrOk W :=
 ⟨Re (g:=1) (t:=155) (Gn (Gn (Gn (Gn h)))) (by kernel_rfl) (by kernel_rfl) (by kernel_rfl),
  Re (g:=2) (t:=155) (Gn (Gn (Gn h))) (by kernel_rfl) (by kernel_rfl) (by kernel_rfl)⟩
section
variable {H:Type} {enc:TypeId×Value->H} {W:World} {N:Nat}
theorem bQ:jP.underlying 3=K (.int .i64):=by kernel_rfl
theorem fD:jP.underlying 33=K (.slice 3):=by kernel_rfl
theorem fA:jP.underlying 52=K (.slice 59):=by kernel_rfl
theorem und40:jP.underlying 40=K (.array 3 3):=by kernel_rfl
theorem P3 {P:Program} {t e:TypeId} {q:Option Addr} {k c fuel:Nat} {x:DataW H×List MemPlace} (ht:P.underlying t=K (.slice e)) (h:DataW.trod enc P W 0 (fun _=>true) true fuel t [F q k c]=K x):k<=c:=by
 rcases DataW.trod_slice ht h with ⟨h0,_⟩ | ⟨a',n,k',_,_,_,_,h0,_,_,hk,_⟩
 · cases h0; exact Nat.le_refl _
 · cases h0; exact hk
theorem iR {n:Int} (h:(Lit.int .i64 n).wf=true) : -9223372036854775808<=n/\n<=9223372036854775807:=by
 have e1:IntKind.i64.min = -9223372036854775808:=rfl
 have e2:IntKind.i64.max=9223372036854775807:=rfl
 simp [Lit.wf,e1,e2] at h; omega
theorem Gu {n:Nat} {c:Value} {y:DataW H×List MemPlace} (h:DataW.trod enc jP W 0 (fun _=>true) true n 3 [c]=K y) : ∃ z:Int,c = .int .i64 z:=by
 obtain ⟨z,e,_⟩:=DataW.trod_int bQ h
 cases e; exact ⟨z,rfl⟩
theorem bytes_of {n:Nat} {c:Value} {y:DataW H×List MemPlace} (h:DataW.trod enc jP W 0 (fun _=>true) true n 41 [c]=K y) (hw : ∀ k∈y.1.weights jP 41,k<=N) : ∃ q k,∃ l:List Int,c = F q l.length k/\Vw fB W (F q l.length k) l/\U8s l/\l.length<=N/\l.length<=k:=by
 obtain ⟨q,k,l,e,h1,h2,h3⟩:=Hw (f:=fB) (G:=fun z=>0<=z/\z<=255) X8 (by kernel_rfl) Xt (by kernel_rfl) (fun _ _ _ g gw=>by obtain ⟨z,e,_,hz⟩:=DataW.trod_int und5 g; exact ⟨z,e,u8_wf hz⟩) h hw
 cases e
 exact ⟨q,k,l,rfl,h1,h3,h2,P3 X8 h⟩
theorem eN {n:Nat} {cs:List Value} {y:DataW H×List MemPlace} (h:DataW.trod enc jP W 0 (fun _=>true) true n 59 cs=K y) (hw : ∀ k∈y.1.weights jP 59,k<=N) : ∃ x:PV,cs=fP x/\VP W x:=by
 obtain ⟨fs,hfs,g0,g1,g2⟩ : ∃ fs,jP.underlying 59=K (.struct fs)/\(fs[0]?.map fun f=>(f.type,f.offset))=K (3,0)/\(fs[1]?.map fun f=>(f.type,f.offset))=K (40,1)/\(fs[2]?.map fun f=>(f.type,f.offset))=K (41,4) :=
  ⟨(match jP.underlying 59 with | some (.struct fs)=>fs | _=>#[]),by kernel_rfl,by kernel_rfl,by kernel_rfl,by kernel_rfl⟩
 obtain ⟨hl,m,hx⟩:=H5 hfs h hw
 rw [show jP.cellsOf 59=5 by kernel_rfl] at hl
 match cs,hl with
 | [a,b,c,d,f],_ =>
  have fld : ∀ {i t o:Nat},(fs[i]?.map fun f:Field=>(f.type,f.offset))=K (t,o)->∃ z,DataW.trod enc jP W 0 (fun _=>true) true m t (([a,b,c,d,f].drop o).take (jP.cellsOf t))=K z/\∀ k∈z.1.weights jP t,k<=N:=by
   intro i t o hg
   obtain ⟨f,hf,he⟩:=Option.map_eq_some_iff.1 hg
   obtain ⟨rfl,rfl⟩:=Prod.mk.inj he
   exact hx i f hf
  obtain ⟨z0,q0,_⟩:=fld g0
  obtain ⟨z1,q1,_⟩:=fld g1
  obtain ⟨z2,q2,w2⟩:=fld g2
  rw [show jP.cellsOf 3=1 by kernel_rfl] at q0
  rw [show jP.cellsOf 40=3 by kernel_rfl] at q1
  rw [show jP.cellsOf 41=1 by kernel_rfl] at q2
  simp only [List.drop_zero,List.drop_succ_cons,List.take_succ_cons,List.take_zero] at q0 q1 q2
  obtain ⟨x0,rfl⟩:=Gu q0
  obtain ⟨q,k,l,rfl,hv,hu,_,_⟩:=bytes_of q2 w2
  obtain ⟨xs,n',_,_,_,hxl,hf⟩:=DataW.trod_array und40 q1
  have el : ∀ i,i < 3->∃ z,DataW.trod enc jP W 0 (fun _=>true) true n' 3 (([b,c,d].drop i).take 1)=K z:=fun i hi=>by
   have g:=hf i hi
   rw [show jP.cellsOf 3=1 by kernel_rfl,Nat.mul_one,List.getElem?_eq_getElem (by omega)] at g
   exact ⟨_,g⟩
  obtain ⟨_,g1⟩:=el 0 (by decide)
  obtain ⟨_,g2⟩:=el 1 (by decide)
  obtain ⟨_,g3⟩:=el 2 (by decide)
  simp only [List.drop_zero,List.drop_succ_cons,List.take_succ_cons,List.take_zero] at g1 g2 g3
  obtain ⟨x1,rfl⟩:=Gu g1
  obtain ⟨x2,rfl⟩:=Gu g2
  obtain ⟨x3,rfl⟩:=Gu g3
  exact ⟨⟨q,k,⟨x0,x1,x2,x3,l⟩⟩,rfl,hv,hu⟩
theorem Ye {n:Nat} {cs:List Value} {y:DataW H×List MemPlace} (h:DataW.trod enc jP W 0 (fun _=>true) true n 54 cs=K y) (hw : ∀ k∈y.1.weights jP 54,k<=reachBytes) : ∃ v:SV,cs=v.cells/\v.ok W/\(v.lc.length<=v.cc/\v.lj.length<=v.cj/\v.lp.length<=v.cp)/\smL 1000000000000000000 (v.lj.map JV.d)/\v.lp.length<=1000000000000000000:=by
 obtain ⟨fs,hfs,g0,g1,g2,g3,g4,g5,g6,g7,g8⟩ : ∃ fs,jP.underlying 54=K (.struct fs)/\(fs[0]?.map fun f=>(f.type,f.offset))=K (3,0)/\(fs[1]?.map fun f=>(f.type,f.offset))=K (3,1)/\(fs[2]?.map fun f=>(f.type,f.offset))=K (9,2)/\(fs[3]?.map fun f=>(f.type,f.offset))=K (22,3)/\(fs[4]?.map fun f=>(f.type,f.offset))=K (3,4)/\(fs[5]?.map fun f=>(f.type,f.offset))=K (3,5)/\(fs[6]?.map fun f=>(f.type,f.offset))=K (3,6)/\(fs[7]?.map fun f=>(f.type,f.offset))=K (33,7)/\(fs[8]?.map fun f=>(f.type,f.offset))=K (52,8) :=
  ⟨(match jP.underlying 54 with | some (.struct fs)=>fs | _=>#[]),by kernel_rfl,by kernel_rfl,by kernel_rfl,by kernel_rfl,by kernel_rfl,by kernel_rfl,by kernel_rfl,by kernel_rfl,by kernel_rfl,by kernel_rfl⟩
 obtain ⟨hl,m,hx⟩:=H5 hfs h hw
 rw [show jP.cellsOf 54=9 by kernel_rfl] at hl
 match cs,hl with
 | [a0,a1,a2,a3,a4,a5,a6,a7,a8],_ =>
  have fld : ∀ {i t o:Nat},(fs[i]?.map fun f:Field=>(f.type,f.offset))=K (t,o)->jP.cellsOf t=1->∃ z,DataW.trod enc jP W 0 (fun _=>true) true m t (([a0,a1,a2,a3,a4,a5,a6,a7,a8].drop o).take 1)=K z/\∀ k∈z.1.weights jP t,k<=reachBytes:=by
   intro i t o hg hc
   obtain ⟨f,hf,he⟩:=Option.map_eq_some_iff.1 hg
   obtain ⟨rfl,rfl⟩:=Prod.mk.inj he
   rw [← hc]; exact hx i f hf
  obtain ⟨z0,q0,_⟩:=fld g0 (by kernel_rfl)
  obtain ⟨z1,q1,_⟩:=fld g1 (by kernel_rfl)
  obtain ⟨z2,q2,w2⟩:=fld g2 (by kernel_rfl)
  obtain ⟨z3,q3,w3⟩:=fld g3 (by kernel_rfl)
  obtain ⟨z4,q4,_⟩:=fld g4 (by kernel_rfl)
  obtain ⟨z5,q5,_⟩:=fld g5 (by kernel_rfl)
  obtain ⟨z6,q6,_⟩:=fld g6 (by kernel_rfl)
  obtain ⟨z7,q7,w7⟩:=fld g7 (by kernel_rfl)
  obtain ⟨z8,q8,w8⟩:=fld g8 (by kernel_rfl)
  simp only [List.drop_zero,List.drop_succ_cons,List.take_succ_cons,List.take_zero] at q0 q1 q2 q3 q4 q5 q6 q7 q8
  obtain ⟨x0,rfl⟩:=Gu q0
  obtain ⟨x1,rfl⟩:=Gu q1
  obtain ⟨s,e2,_⟩:=O7 bP q2 w2
  obtain ⟨x4,rfl⟩:=Gu q4
  obtain ⟨x5,rfl⟩:=Gu q5
  obtain ⟨x6,rfl⟩:=Gu q6
  obtain ⟨p3,k3,l3,e3,h31,h32,h33⟩:=Hw (f:=fJ) (G:=fun x=>VJ W x/\smJ reachBytes x.d) fE (by kernel_rfl) Bg (by kernel_rfl) (fun _ _ _ g gw=>iN g gw) q3 w3
  obtain ⟨p7,k7,l7,e7,h71,_,_⟩:=Hw (f:=fN) (G:=fun _=>True) fD (by kernel_rfl) G9 (by kernel_rfl) (fun _ _ _ g gw=>by obtain ⟨z,e,_⟩:=DataW.trod_int bQ g; exact ⟨z,e,trivial⟩) q7 w7
  obtain ⟨p8,k8,l8,e8,h81,h82,h83⟩:=Hw (f:=fP) (G:=fun x=>VP W x) fA (by kernel_rfl) A7 (by kernel_rfl) (fun _ _ _ g gw=>eN g gw) q8 w8
  cases e2; cases e3; cases e7; cases e8
  have hr:reachBytes<=1000000000000000000:=by decide
  have hC : ∀ {c:CmdL},smC reachBytes c->smC 1000000000000000000 c:=fun h=>⟨fun u hu=>Nat.le_trans (h.1 u hu) hr,Nat.le_trans h.2.1 hr,Nat.le_trans h.2.2.1 hr,Nat.le_trans h.2.2.2 hr⟩
  refine ⟨⟨x0,x1,s,p3,k3,l3,x4,x5,x6,p7,k7,l7,p8,k8,l8⟩,rfl,⟨⟨h31,fun x hx=>(h33 x hx).1⟩,h71,⟨h81,h83⟩⟩,⟨P3 fD q7,P3 fE q3,P3 fA q8⟩,⟨by rw [jU]; exact Nat.le_trans h32 hr,fun x hx=>?_⟩,Nat.le_trans h82 hr⟩
  obtain ⟨y,hy,rfl⟩:=List.mem_map.1 hx
  exact ⟨Nat.le_trans (h33 y hy).2.1 hr,fun c hc=>hC ((h33 y hy).2.2 c hc)⟩
theorem Vz {base:Nat} {v:Value} {d:DataW H} {p:List MemPlace} (hv:Value.okWide jP W .any base 54 v) (h:DataW.Trod enc jP W 0 (fun _=>true) true 54 v d p) (hw : ∀ k∈d.weights jP 54,k<=reachBytes) : ∃ u:SV,v = .agg u.cells.toArray/\u.ok W/\(u.lc.length<=u.cc/\u.lj.length<=u.cj/\u.lp.length<=u.cp)/\smL 1000000000000000000 (u.lj.map JV.d)/\u.lp.length<=1000000000000000000:=by
 obtain ⟨fs,hfs⟩ : ∃ fs,jP.underlying 54=some (.struct fs):=⟨(match jP.underlying 54 with | some (.struct fs)=>fs | _=>#[]),by kernel_rfl⟩
 obtain ⟨cs,rfl,_⟩:=okWide_struct hfs hv
 obtain ⟨fuel,hf⟩:=h
 have hf:DataW.trod enc jP W 0 (fun _=>true) true fuel 54 cs.toList=K (d,p):=hf
 obtain ⟨u,e,h1,h2,h3,h4⟩:=Ye hf hw
 exact ⟨u,by rw [← e],h1,h2,h3,h4⟩
theorem dT {v:Value} {d:DataW H} {p:List MemPlace} {base:Nat} (hv:Value.okWide jP W .any base 3 v) (h:DataW.Trod enc jP W 0 (fun _=>true) true 3 v d p) : ∃ z:Int,v = .int .i64 z/\-9223372036854775808<=z/\z<=9223372036854775807:=by
 obtain ⟨z,rfl⟩:=okWide_int bQ hv
 obtain ⟨fuel,hf⟩:=h
 obtain ⟨z',e,_,hz⟩:=DataW.trod_int bQ hf
 have e:z=z':=by simpa [Value.cells] using e
 subst e
 exact ⟨z,rfl,iR hz⟩
theorem Tu {base:Nat} {v:Value} {d:DataW H} {p:List MemPlace} (hv:Value.okWide jP W .any base 41 v) (h:DataW.Trod enc jP W 0 (fun _=>true) true 41 v d p) (hw : ∀ k∈d.weights jP 41,k<=reachBytes) : ∃ q c,∃ l:List Int,v = F q l.length c/\Vw fB W (F q l.length c) l/\U8s l/\l.length<=c:=by
 obtain ⟨a,len,cap,rfl⟩:=okWide_slice X8 hv
 obtain ⟨fuel,hf⟩:=h
 have hf:DataW.trod enc jP W 0 (fun _=>true) true fuel 41 [F a len cap]=K (d,p):=hf
 obtain ⟨q,k,l,e,h1,h2,_,h4⟩:=bytes_of hf hw
 exact ⟨q,k,l,e,h1,h2,h4⟩
end
open Go Go.ChangeShapes Go.WideShapes Go.ChangeAt Go.ChangeMaps Go.RowKit Go.Proofs.Sx Go.Proofs.Fr
theorem Nz (os:Os) (args:Array Value):laidMet jP Rows.shellStepRow.laid ((World.doorLaid jP 200 os).forCall (fun _ _=>0) ⟨#[],args,[]⟩).memory :=
 laidMet_of_run' 8 (by kernel_rfl) (by kernel_rfl)
set_option maxRecDepth 100000 in
theorem shellStep_lifted (os:Os) (started:os.Started) (H:Type) (enc:TypeId×Value->H) :
 ReturnsInHanded {} Tryz.checked os 6 .any (fun w args=>(Rows.shellStepSpec.pre enc jP Tryz.f6 [] false w args/\laidMet jP Rows.shellStepRow.laid w)/\sizedMet enc jP Tryz.f6 (OpenSpec.ofChange Rows.shellStepSpec) false w args)
  (Rows.shellStepSpec.post enc jP Tryz.f6 false true false false):=by
 refine S8 (C:=Tryz.checked) (X:=fun w=>laidMet jP Rows.shellStepRow.laid w) (fun _ _ hh h=>h.of_heap hh) Xe started (by kernel_rfl) Tryz.func6
  (ChangeSpec.witness_shaped (enc:=enc) (C:=Tryz.checked) (os:=os) (X:=fun w _=>laidMet jP Rows.shellStepRow.laid w) false (World.doorLaid jP 200 os) #[.agg #[.int .i64 0,.int .i64 0,.string ⟨#[]⟩,F none 0 0,.int .i64 0,.int .i64 0,.int .i64 0,F none 0 0,F none 0 0],.int .i64 0,F none 0 0] 8 rfl (World.shaped_of_RefB (by kernel_rfl) (by kernel_rfl)) (by kernel_rfl) (by kernel_rfl) (by kernel_rfl) (Nz os _))
  Xf (by kernel_rfl) ⟨4,by kernel_rfl,by kernel_rfl⟩ rfl (fun ds hd=>by
   have hd':ds.length=3:=hd
   match ds,hd' with
   | [_,_,_],_=>rfl) ?_
 intro W base args ds p hval0 hA0 _ hwt0 hL
 have hval : ∀ (j:Nat) t v,Tryz.f6.params[j]? = K t->args[j]? = K v->Value.okWide jP W .any base t v:=hval0
 have V:DataW.TrodAll enc jP W 0 (fun _=>true) true Tryz.f6.params.toList args.toList ds p:=hA0
 have hwt : ∀ (j:Nat) t d,Tryz.f6.params.toList[j]? = K t->ds[j]? = K d->∀ n∈d.weights jP t,n<=reachBytes:=hwt0
 have hE:=Z5 (lv_of hL)
 rw [Tryz.params6] at V hval hwt
 obtain ⟨v0,vs0,d0,ds0,p0,q0,hargs,rfl,rfl,h0,r0⟩:=trodAll_cons V
 obtain ⟨v1,vs1,d1,ds1,p1,q1,rfl,rfl,rfl,h1,r1⟩:=trodAll_cons r0
 obtain ⟨v2,vs2,d2,ds2,p2,q2,rfl,rfl,rfl,h2,r2⟩:=trodAll_cons r1
 obtain ⟨rfl,rfl,rfl⟩:=trodAll_nil r2
 obtain rfl:args=#[v0,v1,v2]:=by cases args; simp_all
 obtain ⟨u0,rfl,ho0,hc0,hj0,hp0⟩:=Vz (hval 0 54 _ rfl rfl) h0 (hwt 0 54 _ rfl rfl)
 obtain ⟨z1,rfl,hn1,hx1⟩:=dT (hval 1 3 _ rfl rfl) h1
 obtain ⟨a2,c2,l2,rfl,hv2,hu2,hc2⟩:=Tu (hval 2 41 _ rfl rfl) h2 (hwt 2 41 _ rfl rfl)
 exact Yc u0 z1 a2 c2 l2 W hE ho0 hc0 hj0 hp0 hn1 hx1 hv2 hu2 hc2
theorem shellStep_holds:Rows.shellStepRow.holds Tryz.pinned (OpenSpec.ofChange Rows.shellStepSpec) :=
 OpenClaim.holds_of_wide 6 Tryz.f6 rfl rfl rfl rfl rfl rfl rfl ⟨rfl,rfl,rfl,rfl,rfl⟩ rfl rfl rfl rfl rfl (by kernel_rfl) Tryz.func6 (by kernel_rfl)
  (jL (by kernel_rfl)) (by unfold Func.isWrapper; first | (rw [if_pos (by decide +kernel)]; kernel_rfl) | (rw [if_neg (by decide +kernel)]; exact ⟨rfl,rfl⟩))
  (fun os started H enc _=>shellStep_lifted os started H enc)
theorem shellStep_card:Rows.ShellStepCardSaid :=
 Claim7.holds_tied_plain_at .later [] [.data,.data,.data,.sentinel,.sentinel] true (true,"4734b94de298b7b64cc2fd277eff1d3660d84aa407701e3cb9226c78e0ecb46d") true
  shellStep_holds (fun _ h=>by cases h) (by kernel_rfl) (fun _ h=>by cases h) shellStep_row_tie rfl ⟨rfl,rfl⟩ (by kernel_rfl) rfl
  (fun f fn hf hfn=>by
   obtain rfl:f=6:=Option.some.inj ((show jP.funcNamed "ratoon/ratoonlaw52.ShellStep" = K 6 by kernel_rfl).symm.trans hf) |>.symm
   obtain rfl:fn=Tryz.f6:=(Option.some.inj (Tryz.func6.symm.trans hfn)).symm
   exact ⟨by kernel_rfl,fun j t ht=>by
    rw [Tryz.params6] at ht
    have hm:t∈[54,3,41]:=by simpa using Array.mem_of_getElem? ht
    have hall:([54,3,41].all fun u=>!jP.wantsStandIn u)=true:=by kernel_rfl
    exact (show jP.wantsStandIn t=false by simpa using List.all_eq_true.1 hall t hm)⟩)
  (by kernel_rfl)
#print axioms shellStep_card
end Go.Proofs.YtdljjajjonfjbaaGreatDoor
