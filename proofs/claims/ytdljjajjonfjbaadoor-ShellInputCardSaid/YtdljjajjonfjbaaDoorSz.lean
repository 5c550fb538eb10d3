import Derived.Test.YtdljjajjonfjbaaDoorSy
import Derived.Recover
set_option linter.unusedVariables false
set_option linter.unusedSimpArgs false
namespace Go.Proofs.Sx
open Go Go.RowKit
section
variable {P:Program} {ops:Array Oper} {Q:Exit->Act->World->Prop} {n:Nat} {ds:List Deferred} {a:Act} {e:Env} {w:World} {K:Act->World->Prop} {i:Nat}
theorem mP {f:FuncId} {args:List Value} {d:Option Nat} {fn:Func} (hA:Holds n ds a e) (hf:P.funcs[f]? = some fn)
    (h:Calls P f args.toArray w fun en w'=>(∃ v,en = .returned v/\∀ a',Holds n ds a' (putE d v e)->K a' w')\/∃ ch,en = .panicked ch/\Q (.panic ch) a w') (hc:callAt ops e i=some (f,args,d):=by kernel_rfl) (hd:ltO d n=true:=by kernel_rfl) (hn:(fn.name == "runtime.NumGoroutine")=false:=by kernel_rfl) (hbd:fn.body.isNone=false:=by kernel_rfl):wpOp P ops Q i K a w :=
  m_callP hA hc hd hf hn hbd h
end
section
variable {P:Program} {X:Nat->Prop} {w₀ w w':World}
theorem Ow.pass2 {A T B T' T2:OwL} (h:Ow P X w₀ w (A++(T++B))) (h':Ow P (inT T) w w' (T'++T2)):Ow P X w₀ w' ((A++(T'++B))++T2):=by
  have h1:=(h.m.pass h'.m).o (P:=P)
  refine (h1.m.perm ?_).o
  simp only [List.append_assoc]
  refine List.Perm.append_left A (List.Perm.append_left T' ?_)
  exact List.perm_append_comm
theorem Ow.swap {A T1 T2 B:OwL} (h:Ow P X w₀ w (A++(T1++(T2++B)))):Ow P X w₀ w (A++(T2++(T1++B))):=by
  refine (h.m.perm (List.Perm.append_left A ?_)).o
  rw [← List.append_assoc,← List.append_assoc]
  exact List.Perm.append_right B List.perm_append_comm
theorem Ow.drop {A T B:OwL} (h:Ow P X w₀ w (A++(T++B))):Ow P X w₀ w (A++B):=(h.m.less (List.Sublist.append_left (List.sublist_append_right T B) A)).o
theorem Ow.ofBlk {b:Nat} {t:TypeId} {l:List Value} (h:Blk w b t l):Ow P (inT [(b,t,l)]) w w [(b,t,l)] :=
  (⟨Only.refl _ _,fun x hx=>by rw [List.mem_singleton] at hx; subst hx; exact h,List.pairwise_singleton _ _,fun x hx=> .inr ⟨x,hx,rfl⟩⟩:OwM _ _ _ _).o
theorem Vw.keep {α:Type} {f : α->List Value} {v:Value} {l:List α} (h:Vw f w v l) (k:Only none' w w'):Vw f w' v l:=by
  rcases h with h | ⟨ad,c,rfl,hc⟩
  · exact .inl h
  · exact .inr ⟨ad,c,rfl,fun j u hj=>k.cell (hc j u hj) fun h=>h⟩
theorem Vw.pos {α:Type} {f : α->List Value} {p:Option Addr} {m c:Nat} {l:List α} (h:Vw f w (.slice p m c) l) (hm : 0 < m) : ∃ ad,p=some ad:=by
  rcases h with ⟨h,_⟩ | ⟨ad,c,h,_⟩
  · cases h; cases hm
  · cases h; exact ⟨ad,rfl⟩
theorem flat_at {α:Type} {f : α->List Value} {sz:Nat} (E:Enc f sz) : ∀ (l:List α) (i:Nat) (x : α) (k:Nat) (v:Value),l[i]? = some x->(f x)[k]? = some v->(l.flatMap f)[i*sz+k]? = some v
  | [],i,x,k,v,h,_=>by simp at h
  | y::l,0,x,k,v,h,hk=>by
    simp only [List.getElem?_cons_zero,Option.some.injEq] at h
    subst h
    rw [List.flatMap_cons,Nat.zero_mul,Nat.zero_add,List.getElem?_append_left (List.getElem?_eq_some_iff.1 hk).1]; exact hk
  | y::l,i+1,x,k,v,h,hk=>by
    simp only [List.getElem?_cons_succ] at h
    have:=flat_at E l i x k v h hk
    rw [List.flatMap_cons,List.getElem?_append_right (by rw [E.len,Nat.succ_mul]; omega),E.len,show (i+1)*sz+k - sz=i*sz+k by rw [Nat.succ_mul]; omega]
    exact this
theorem Vw.cell {α:Type} {f : α->List Value} {sz:Nat} (E:Enc f sz) {ad:Addr} {m c:Nat} {l:List α} (h:Vw f w (.slice (some ad) m c) l) {i:Nat} {x : α} (hx:l[i]? = some x) {k:Nat} {v:Value} (hk:(f x)[k]? = some v):w.cell? (ad.add (i*sz+k))=some v:=by
  rcases h with ⟨h,_⟩ | ⟨ad',c',h,hc⟩
  · cases h
  · cases h; exact hc _ _ (flat_at E l i x k v hx hk)
theorem add_add (ad:Addr) (i j:Nat):(ad.add i).add j=ad.add (i+j):=by
  unfold Addr.add
  repeat' split
  all_goals simp_all [Nat.add_assoc]
theorem Vw.ld1 {α:Type} {f : α->List Value} {sz:Nat} (E:Enc f sz) {ad:Addr} {m c:Nat} {l:List α} (h:Vw f w (.slice (some ad) m c) l) {i:Nat} {x : α} (hx:l[i]? = some x) {k:Nat} {v:Value} {t:TypeId} (hk:(f x)[k]? = some v) (ht:oneT P t=true:=by kernel_rfl):Ld P w ((ad.add (i*sz)).add k) t v:=by
  rw [add_add]; exact ld_cell ht (h.cell E hx hk)
theorem Vw.ld0 {α:Type} {f : α->List Value} {sz:Nat} (E:Enc f sz) {ad:Addr} {m c:Nat} {l:List α} (h:Vw f w (.slice (some ad) m c) l) {i:Nat} {x : α} (hx:l[i]? = some x) {v:Value} {t:TypeId} (hk:(f x)[0]? = some v) (ht:oneT P t=true:=by kernel_rfl):Ld P w (ad.add (i*sz)) t v:=ld_cell ht (h.cell E hx hk)
theorem Vw.ldn {α:Type} {f : α->List Value} {sz:Nat} (E:Enc f sz) {ad:Addr} {m c:Nat} {l:List α} (h:Vw f w (.slice (some ad) m c) l) {i:Nat} {x : α} (hx:l[i]? = some x) {t:TypeId} (ht:aggT P t=some sz:=by kernel_rfl):Ld P w (ad.add (i*sz)) t (.agg (f x).toArray) :=
  ld_agg ht (E.len x) fun j v hj=>by rw [add_add]; exact h.cell E hx hj
theorem getD_at {α:Type} (l:List α) (d : α) {i:Nat} (h:i < l.length):l[i]? = some (l.getD i d):=by
  rw [List.getD_eq_getElem?_getD,List.getElem?_eq_getElem h]; rfl
end
section
variable {P:Program} {ops:Array Oper} {Q:Exit->Act->World->Prop} {n:Nat} {ds:List Deferred} {a:Act} {e:Env} {w:World} {K:Act->World->Prop} {i:Nat}
def deferAt (ops:Array Oper) (e:Env) (i:Nat):Option (FuncId×Array Value) :=
  match opAt ops e i with
  | some o=>match o.op with
    | .defer c=>match c.callee with
      | .value x=>match c.args.toList with
        | []=>match o.dst with
          | none=>match val e x with
            | some (.func (.func f) fst cap)=>match fst.toList with
              | []=>some (f,cap)
              | _=>none
            | _=>none
          | some _=>none
        | _=>none
      | _=>none
    | _=>none
  | none=>none
theorem mD {f:FuncId} {cap:Array Value} (hA:Holds n ds a e) (hK : ∀ a',Holds n ({target:= .fn (.func f) cap,args:=#[]}::ds) a' e->K a' w) (he:deferAt ops e i=some (f,cap):=by kernel_rfl):wpOp P ops Q i K a w:=by
  unfold deferAt at he
  repeat' split at he
  all_goals try (cases he; done)
  rename_i o ho _ c hop _ x hcl _ hargs _ hdst _ f' fst cap' hx _ hfst
  simp only [Option.some.injEq,Prod.mk.injEq] at he
  obtain ⟨rfl,rfl⟩:=he
  have e1:c.args=#[]:=Array.toList_inj.1 hargs
  have e2:fst=#[]:=Array.toList_inj.1 hfst
  refine wpOp_of hA ho ?_
  have hrun:(execOp a.eval o).run P w = .ok (.defer {target:= .fn (.func f') cap',args:=#[]}) w:=by
    unfold execOp
    simp only [hop,resolve,hcl,hA.eval hx,Deferred.ofValue,e1,e2,Sem.run_bind,Sem.run_pure,Result.andThen_ok]
    simp
  unfold Oper.wp
  rw [hrun]
  show K ({a with defers:=_::a.defers}.put o.dst undef) w
  rw [hdst]
  exact hK _ ⟨hA.size,by show _::a.defers=_; rw [hA.dfr],hA.slot⟩
theorem res_run {fn:Func} (hA:Holds n ds a e) (vs:List Value) {cs:List (Option (Addr×TypeId))} {us:List Value} (hc:resC P w cs us) (hr:resE e fn.results.toList vs=some (cs,us)):(results fn a.tmps).run P w = .ok (pack us) w:=by
  have h:=c_ret (P:=P) (fn:=fn) (R:=fun en _=>en = .returned (pack us)) (a:={a with defers:=[]}) (n:=n) (e:=e) (w:=w) ⟨hA.size,rfl,hA.slot⟩ vs hr hc rfl
  obtain ⟨_,v,h1,h2⟩:=h
  cases h2
  exact h1
theorem c_enterD {f:FuncId} {fn:Func} {c:Code} {args:List Value} {R:Ending->World->Prop} (hf:P.funcs[f]? = some fn) (hb:fn.body=some c) {m n:Nat} (hm:fn.ntmps=args.length+m) (hn:args.length+m=n)
    (h : ∀ a,Holds n [] a (start args 0)->c.wp P (bodyPostD P fn R) a w):Calls P f args.toArray w R:=by
  refine calls_of_wp_defers hf hb ?_
  subst hn
  have:=h _ (Holds.begin args m)
  have he:fn.ntmps - args.toArray.size=m:=by simp [hm]
  rw [he]
  exact this
theorem inv_run {f:FuncId} {fc:Func} {cap:Array Value} (hf:P.funcs[f]? = some fc) (hn:(fc.name == "runtime.NumGoroutine")=false) (hbd:fc.body.isNone=false):(invoke (.fn (.func f) cap) #[]).run P w = .ok (.enter f cap) w:=by
  simp only [invoke,callFunc,Sem.run_bind,Sem.run_pure,Result.andThen_ok,run_program,hf,hn,hbd,Bool.false_eq_true,if_false]
  simp
theorem ret_deferred {fn fc:Func} {f:FuncId} {cap:Array Value} {R:Ending->World->Prop} {u:FrameMode} {v:Value} {S:World->Prop} (hA:Holds n [{target:= .fn (.func f) cap,args:=#[]}] a e) (hu:u≠ .run) (hf:P.funcs[f]? = some fc)
    (hcl:CallsD P f cap u w fun en u' w'=>en = .returned v/\settle u' = .returning/\S w') (hS : ∀ w',S w'->∃ vs cs us,resC P w' cs us/\resE e fn.results.toList vs=some (cs,us)/\R (.returned (pack us)) w')
    (hn:(fc.name == "runtime.NumGoroutine")=false:=by kernel_rfl) (hbd:fc.body.isNone=false:=by kernel_rfl):Leaves P fn a.tmps R a.defers u w:=by
  rw [hA.dfr]
  refine leaves_cons hu (inv_run hf hn hbd) (hcl.mono fun en u' w' hh=>?_)
  obtain ⟨rfl,hs,hw⟩:=hh
  show Leaves P fn a.tmps R [] (settle u') w'
  rw [hs]
  obtain ⟨vs,cs,us,h1,h2,h3⟩:=hS w' hw
  exact ⟨pack us,res_run hA vs h1 h2,h3⟩
end
section
variable {P:Program} {Q:Exit->Act->List Frame->World->Prop} {n:Nat} {ds:List Deferred} {a:Act} {e:Env} {w:World}
theorem recoverD_yes {c₀:Frame} {cs:List Frame} {v:Value} {older:List PanicEntry} (hu:c₀.mode = .panicking ({v,recovered:=false}::older)):recoverD (c₀::cs)=some (v,{c₀ with mode:= .panicking ({v,recovered:=true}::older)}::cs):=by
  unfold recoverD
  simp only [hu]
theorem recoverD_no {c₀:Frame} {cs:List Frame} (hu:c₀.mode = .returning):recoverD (c₀::cs)=none:=by
  unfold recoverD
  simp only [hu]
theorem rec_region {id d d2:Nat} {o1 o2:Oper} {y:Code} {c:Call} {cs cs':List Frame} {v:Value} (hA:Holds n ds a e) (h1:o1.op = .call c) (h1c:c.callee = .builtin .recover) (h1a:c.args=#[]) (h1d:o1.dst=some d) (h1g:o1.guard=none) (h2:o2.op = .assign (.tmp d)) (h2d:o2.dst=some d2) (h2g:o2.guard=none)
    (hdn:d < n) (hd2:d2 < n) (hr:(match recoverD cs with | some (v,cs')=>(v,cs') | none=>(Value.nilIface,cs))=(v,cs')) (hK : ∀ a',Holds n ds a' ((d2,v)::(d,v)::e)->y.wp P (fun e a' w'=>Q e a' cs' w') a' w) :
    (Code.region id #[o1,o2] false).wpS P (Exit.thenS (y.wpS P Q) Q) a cs w:=by
  refine wpS_region ?_
  have hw1 : ∀ l,Region.wanted o1 l=true:=fun l=>by unfold Region.wanted; rw [h1g]
  have hw2 : ∀ l,Region.wanted o2 l=true:=fun l=>by unfold Region.wanted; rw [h2g]
  have r1 : ∀ a w,(execOp (Act.eval a) o1).run P w = .ok .recover w:=fun a w=>by
    unfold execOp
    simp [h1,resolve,h1c,invoke,builtin,h1a]
  have key:wpOpsS P #[o1,o2] (Exit.thenS (y.wpS P Q) Q) [1] (a.put (some d) v) cs' w:=by
    have r2:(execOp (Act.eval (a.put (some d) v)) o2).run P w = .ok (.value v) w:=by
      unfold execOp
      have:=(hA.put v hdn).slot d v (by simp [get])
      simp only [h2]
      show Result.ok (Next.value ((a.put (some d) v).tmps.getD d undef)) w=_
      rw [this]
    have hi2:(#[o1,o2]:Array Oper)[1]? = some o2:=rfl
    simp only [wpOpsS,hi2,hw2,if_true,r2,Oper.upon]
    rw [h2d]
    exact wpS_of_wp (hK _ ((hA.put v hdn).put v hd2))
  have hi1:(#[o1,o2]:Array Oper)[0]? = some o1:=rfl
  show wpOpsS P #[o1,o2] _ [0,1] a cs w
  rw [wpOpsS]
  simp only [hi1,hw1,if_true,r1]
  cases hcs:recoverD cs with
  | none=>rw [hcs] at hr; cases hr; simp only [h1d]; exact key
  | some q=>obtain ⟨q1,q2⟩:=q; rw [hcs] at hr; cases hr; simp only [h1d]; exact key
end
end Go.Proofs.Sx
namespace Go.Proofs.Sx
open Go Go.RowKit
section
variable {P:Program} {w:World}
theorem Vw.ldT {ad:Addr} {m c:Nat} {l:List ByteArray} (h:Vw fT w (.slice (some ad) m c) l) {i:Nat} {x:ByteArray} (hx:l[i]? = some x) {t:TypeId} (ht:oneT P t=true:=by kernel_rfl):Ld P w (ad.add i) t (.string x):=by
  have:=h.cell encT (k:=0) hx (v:= .string x) rfl
  rw [Nat.mul_one,Nat.add_zero] at this
  exact ld_cell ht this
theorem all_no {α:Type} {p : α->Bool} {l:List α} {i:Nat} {x : α} (hx:l[i]? = some x) (h:p x=false):l.all p=false:=by
  rw [List.all_eq_false]
  exact ⟨x,List.mem_of_getElem? hx,by simp [h]⟩
theorem all_step {α:Type} {p : α->Bool} {l:List α} {i:Nat} {x : α} (ho:(l.take i).all p=true) (hx:l[i]? = some x) (h:p x=true):(l.take (i+1)).all p=true:=by
  rw [List.take_add_one,hx,List.all_append,ho]
  simp [h]
theorem apd {α:Type}:(∀ a b c:List α,(a++b)++c=a++(b++c))/\(∀ (a : α) (b c:List α),(a::b)++c=a::(b++c))/\(∀ b:List α,[]++b=b)/\∀ b:List α,b++[]=b :=
  ⟨List.append_assoc,fun _ _ _=>rfl,fun _=>rfl,List.append_nil⟩
theorem all_end {α:Type} {p : α->Bool} {l:List α} {i:Nat} (ho:(l.take i).all p=true) (hi : ¬ i < l.length):l.all p=true:=by
  rwa [List.take_of_length_le (by omega)] at ho
end
end Go.Proofs.Sx
