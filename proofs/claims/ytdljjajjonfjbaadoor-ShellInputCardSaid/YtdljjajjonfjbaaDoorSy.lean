import Derived.Test.YtdljjajjonfjbaaDoorSx
import Derived.Deep.AppendSrc
import Derived.Deep.OwnRows
import Derived.Deep.Upon
set_option linter.unusedVariables false
set_option linter.unusedSimpArgs false
namespace Go.Proofs.Sx
open Go Go.RowKit
theorem oAt : ∀ (L:OwL) (i:Nat),i < L.length->L[i]? = some (oB L i,oT L i,oC L i)
  | [],_,h=>absurd h (Nat.not_lt_zero _)
  | (_,_,_)::_,0,_=>rfl
  | _::r,i+1,h=>by simpa [oB,oT,oC] using oAt r i (Nat.lt_of_succ_lt_succ h)
structure OwM (X:Nat->Prop) (w₀ w:World) (L:OwL):Prop where
  only:Only X w₀ w
  blk : ∀ x∈L,Blk w x.1 x.2.1 x.2.2
  ne:L.Pairwise (fun x y=>x.1≠y.1)
  new : ∀ x∈L,w₀.heap.size<=x.1\/X x.1
section
variable {P:Program} {X:Nat->Prop} {w₀ w w':World} {L:OwL}
theorem Ow.m (h:Ow P X w₀ w L):OwM X w₀ w L:=by
  have at' : ∀ x∈L,∃ i,i < L.length/\x=(oB L i,oT L i,oC L i):=fun x hx=>by
    obtain ⟨i,hi,rfl⟩:=List.getElem_of_mem hx
    refine ⟨i,hi,?_⟩
    have:=oAt L i hi
    rw [List.getElem?_eq_getElem hi] at this
    exact Option.some.inj this
  refine ⟨h.only,fun x hx=>?_,?_,fun x hx=>?_⟩
  · obtain ⟨i,hi,rfl⟩:=at' x hx; exact h.blk i hi
  · rw [List.pairwise_iff_getElem]
    intro i j hi hj hij
    have e1:=oAt L i hi
    have e2:=oAt L j hj
    rw [List.getElem?_eq_getElem hi] at e1
    rw [List.getElem?_eq_getElem hj] at e2
    rw [Option.some.inj e1,Option.some.inj e2]
    exact h.ne i j hi hj (Nat.ne_of_lt hij)
  · obtain ⟨i,hi,rfl⟩:=at' x hx; exact h.new i hi
theorem OwM.o (h:OwM X w₀ w L):Ow P X w₀ w L:=by
  have mem : ∀ i,i < L.length->(oB L i,oT L i,oC L i)∈L:=fun i hi=>List.mem_of_getElem? (oAt L i hi)
  refine ⟨h.only,fun i hi=>h.blk _ (mem i hi),fun i j hi hj hij=>?_,fun i hi=>h.new _ (mem i hi)⟩
  have hne:=List.pairwise_iff_getElem.1 h.ne
  have e1:=oAt L i hi
  have e2:=oAt L j hj
  rw [List.getElem?_eq_getElem hi] at e1
  rw [List.getElem?_eq_getElem hj] at e2
  rcases Nat.lt_or_gt_of_ne hij with hlt | hlt
  · have:=hne i j hi hj hlt
    rw [Option.some.inj e1,Option.some.inj e2] at this; exact this
  · have:=hne j i hj hi hlt
    rw [Option.some.inj e1,Option.some.inj e2] at this; exact this.symm
theorem OwM.perm (h:OwM X w₀ w L) {L':OwL} (p:L.Perm L'):OwM X w₀ w L' :=
  ⟨h.only,fun x hx=>h.blk x (p.mem_iff.2 hx),(p.pairwise_iff (fun h=>h.symm)).1 h.ne,fun x hx=>h.new x (p.mem_iff.2 hx)⟩
theorem OwM.less (h:OwM X w₀ w L) {L':OwL} (s:L'.Sublist L):OwM X w₀ w L' :=
  ⟨h.only,fun x hx=>h.blk x (s.subset hx),h.ne.sublist s,fun x hx=>h.new x (s.subset hx)⟩
theorem OwM.join {T:OwL} (h:OwM X w₀ w L) (h':OwM none' w w' T):OwM X w₀ w' (L++T):=by
  refine ⟨h.only.step h'.only (fun _ _ hx=>hx.elim),fun x hx=>?_,?_,fun x hx=>?_⟩
  · rcases List.mem_append.1 hx with hx | hx
    · exact (h.blk x hx).keep h'.only fun hx=>hx
    · exact h'.blk x hx
  · refine List.pairwise_append.2 ⟨h.ne,h'.ne,fun x hx y hy=>?_⟩
    rcases h'.new y hy with hn | hn
    · exact (h.blk x hx).ne hn
    · exact hn.elim
  · rcases List.mem_append.1 hx with hx | hx
    · exact h.new x hx
    · rcases h'.new x hx with hn | hn
      · exact .inl (Nat.le_trans h.only.size hn)
      · exact hn.elim
def inT (T:OwL):Nat->Prop:=fun b=>∃ x∈T,x.1=b
theorem OwM.self {A T B:OwL} (h:OwM X w₀ w (A++(T++B))):OwM (inT T) w w T:=by
  have h2:=h.less (L':=T) ((List.sublist_append_left T B).trans (List.sublist_append_right A _))
  exact ⟨Only.refl _ _,h2.blk,h2.ne,fun x hx=> .inr ⟨x,hx,rfl⟩⟩
theorem OwM.pass {A T B T':OwL} (h:OwM X w₀ w (A++(T++B))) (h':OwM (inT T) w w' T'):OwM X w₀ w' (A++(T'++B)):=by
  obtain ⟨nA,nTB,nAx⟩:=List.pairwise_append.1 h.ne
  obtain ⟨nT,nB,nTx⟩:=List.pairwise_append.1 nTB
  have mA : ∀ x∈A,x∈A++(T++B):=fun x hx=>List.mem_append_left _ hx
  have mT : ∀ x∈T,x∈A++(T++B):=fun x hx=>List.mem_append_right _ (List.mem_append_left _ hx)
  have mB : ∀ x∈B,x∈A++(T++B):=fun x hx=>List.mem_append_right _ (List.mem_append_right _ hx)
  have kA : ∀ x∈A,¬ inT T x.1:=fun x hx ⟨y,hy,e⟩=>nAx x hx y (List.mem_append_left _ hy) e.symm
  have kB : ∀ x∈B,¬ inT T x.1:=fun x hx ⟨y,hy,e⟩=>nTx y hy x hx e
  have far : ∀ x∈A++(T++B),¬ inT T x.1->∀ y∈T',x.1≠y.1:=fun x hx hn y hy=>by
    rcases h'.new y hy with hy' | hy'
    · exact (h.blk x hx).ne hy'
    · exact fun e=>hn (e ▸ hy')
  refine ⟨h.only.step h'.only fun i hi hx=>?_,fun x hx=>?_,?_,fun x hx=>?_⟩
  · obtain ⟨y,hy,rfl⟩:=hx
    rcases h.new y (mT y hy) with hn | hn
    · exact absurd hi (Nat.not_lt.2 hn)
    · exact hn
  · rcases List.mem_append.1 hx with hx | hx
    · exact (h.blk x (mA x hx)).keep h'.only (kA x hx)
    rcases List.mem_append.1 hx with hx | hx
    · exact h'.blk x hx
    · exact (h.blk x (mB x hx)).keep h'.only (kB x hx)
  · refine List.pairwise_append.2 ⟨nA,List.pairwise_append.2 ⟨h'.ne,nB,fun x hx y hy=>(far y (mB y hy) (kB y hy) x hx).symm⟩,fun x hx y hy=>?_⟩
    rcases List.mem_append.1 hy with hy | hy
    · exact far x (mA x hx) (kA x hx) y hy
    · exact nAx x hx y (List.mem_append_right _ hy)
  · rcases List.mem_append.1 hx with hx | hx
    · exact h.new x (mA x hx)
    rcases List.mem_append.1 hx with hx | hx
    · rcases h'.new x hx with hn | ⟨y,hy,e⟩
      · exact .inl (Nat.le_trans h.only.size hn)
      · exact e ▸ h.new y (mT y hy)
    · exact h.new x (mB x hx)
end
structure Enc {α:Type} (f : α->List Value) (sz:Nat):Prop where
  len : ∀ a,(f a).length=sz
  one : ∀ a,∀ v∈f a,v.oneCell'=true
section
variable {α:Type} {f : α->List Value} {sz:Nat}
theorem Enc.flen (E:Enc f sz) : ∀ l:List α,(l.flatMap f).length=l.length*sz
  | []=>by simp
  | a::l=>by rw [List.flatMap_cons,List.length_append,E.len,E.flen l,List.length_cons,Nat.succ_mul,Nat.add_comm]
theorem Enc.fone (E:Enc f sz) (l:List α) : ∀ v∈l.flatMap f,v.oneCell'=true:=fun v hv=>by
  obtain ⟨a,_,ha⟩:=List.mem_flatMap.1 hv; exact E.one a v ha
end
def fB (x:Int):List Value:=[.int .u8 x]
theorem encB:Enc fB 1:=⟨fun _=>rfl,fun _ v hv=>by simp only [fB,List.mem_singleton] at hv; subst hv; rfl⟩
theorem flatB (l:List Int):l.flatMap fB=l.map (.int .u8 ·):=by
  induction l with
  | nil=>rfl
  | cons x l ih=>rw [List.flatMap_cons,ih]; rfl
def fT (x:ByteArray):List Value:=[.string x]
theorem encT:Enc fT 1:=⟨fun _=>rfl,fun _ v hv=>by simp only [fT,List.mem_singleton] at hv; subst hv; rfl⟩
def Vw {α:Type} (f : α->List Value) (w:World) (v:Value) (l:List α):Prop :=
  (v = .slice none 0 0/\l=[])\/∃ ad c,v = .slice (some ad) l.length c/\∀ j u,(l.flatMap f)[j]? = some u->w.cell? (ad.add j)=some u
theorem SlI.vw {w:World} {v:Value} {xs:List Int} (h:SlI w v xs):Vw fB w v xs:=by
  rcases h.2 with ⟨rfl,rfl⟩ | ⟨ad,cap,rfl,hc⟩
  · exact .inl ⟨rfl,rfl⟩
  · refine .inr ⟨ad,cap,rfl,fun j u hj=>?_⟩
    rw [flatB,List.getElem?_map] at hj
    obtain ⟨x,hx,rfl⟩:=Option.map_eq_some_iff.1 hj
    have hlt:=(List.getElem?_eq_some_iff.1 hx).1
    have:=hc j hlt
    rwa [List.getD_eq_getElem?_getD,hx] at this
theorem Vw.src {α:Type} {f : α->List Value} {sz:Nat} {P:Program} {w:World} {v:Value} {l:List α} {tx e':TypeId} (E:Enc f sz) (h:Vw f w v l) (hk:P.underlying tx=some (.slice e')):Src P sz tx v l.length (l.flatMap f) w:=by
  rcases h with ⟨rfl,rfl⟩ | ⟨ad,cap,rfl,hc⟩
  · exact Src.ofNil w hk 0
  · exact Src.ofSlice w hk ad _ cap _ (E.flen l) hc (E.fone l)
def One {α:Type} (f : α->List Value) (e:TypeId) (sz:Nat) (p:Option Addr) (c:Nat) (l:List α) (T:OwL):Prop :=
  (p=none/\c=0/\l=[]/\T=[])\/∃ b r,p=some ⟨b,0,none⟩/\l.length<=c/\c<=maxLen/\(l.flatMap f++r).length=c*sz/\T=[(b,e,l.flatMap f++r)]
section
variable {α:Type} {f : α->List Value} {e:TypeId} {sz:Nat} {p:Option Addr} {c:Nat} {l:List α} {T:OwL} {P:Program} {X:Nat->Prop} {w₀ w w':World}
theorem One.nil (f : α->List Value) (e:TypeId) (sz:Nat):One f e sz none 0 [] []:= .inl ⟨rfl,rfl,rfl,rfl⟩
theorem One.vw (h:One f e sz p c l T) {A B:OwL} (hO:OwM X w₀ w (A++(T++B))):Vw f w (.slice p l.length c) l:=by
  rcases h with ⟨rfl,rfl,rfl,rfl⟩ | ⟨b,r,rfl,_,_,_,rfl⟩
  · exact .inl ⟨rfl,rfl⟩
  · refine .inr ⟨_,c,rfl,fun j u hj=>?_⟩
    rw [add_zero_off]
    refine (hO.blk (b,e,l.flatMap f++r) (by simp)).cell ?_
    rw [List.getElem?_append_left (List.getElem?_eq_some_iff.1 hj).1]; exact hj
theorem app_run {t tx ty:TypeId} {i:TypeInfo} {z:Value} {bytes:Nat} (ht:P.underlying t=some (.slice e)) (hi:P.info? e=some i) (hz:i.zero=some z) (hsize:i.size=sz) (hby:i.bytes=bytes) (E:Enc f sz)
    {A B:OwL} (hO:OwM X w₀ w (A++(T++B))) (h1:One f e sz p c l T) {x:Value} {l':List α} (hs:Src P sz tx x l'.length (l'.flatMap f) w)
    (h63:l.length+l'.length<=maxLen) (hb:(l.length+l'.length)*bytes<=140737488355328) (hzs:z.cells.size=sz) :
    ∃ p' c' T' w',(Builtin.append_ #[t,tx] ty #[.slice p l.length c,x]).run P w = .ok (.slice p' (l++l').length c') w'/\OwM X w₀ w' (A++(T'++B))/\One f e sz p' c' (l++l') T':=by
  have hsm:((l.length+l'.length:Nat):Int)<=9223372036854775807:=by simp only [maxLen] at h63; omega
  rw [List.length_append]
  by_cases h0:l'=[]
  · subst h0
    have hle:l.length<=c:=by
      rcases h1 with ⟨_,rfl,rfl,_⟩ | ⟨_,_,_,h,_⟩
      · exact Nat.le_refl _
      · exact h
    subst hsize
    refine ⟨p,c,T,w,run_append_nothing w t tx ty e i ht hi p l.length c hle x hs,hO,by rw [List.append_nil]; exact h1⟩
  have grow : ∀ cap,cap < l.length+l'.length->(Builtin.firstCells i.size l.length (.slice p l.length cap)).run P w.drew = .ok (l.flatMap f).toArray w.drew->∃ p' c' T' w',(Builtin.append_ #[t,tx] ty #[.slice p l.length cap,x]).run P w = .ok (.slice p' (l.length+l'.length) c') w'/\OwM X w₀ w' (A++(T'++B))/\One f e sz p' c' (l++l') T':=by
    intro cap hc hf
    subst hsize; subst hby
    have hr:=run_append_grow_src (P:=P) w t tx ty e i z ht hi hz p l.length cap _ hf x _ _ hs hc hsm (growslice_fits hc hb)
    have hge:=grownCap_ge w (l.length+l'.length) cap e
    have hlast:OwM (inT T) w (w.drew.alloc (.cells ((l.flatMap f++l'.flatMap f).toArray++Builtin.zeroCells z.cells (grownCap w (l.length+l'.length) cap e - (l.length+l'.length))) e))
        [(w.heap.size,e,(l++l').flatMap f++(Builtin.zeroCells z.cells (grownCap w (l.length+l'.length) cap e - (l.length+l'.length))).toList)]:=by
      refine ⟨⟨rfl,rfl,rfl,by simp,fun k hk _=>by first | exact heap_alloc_old w.drew _ hk | exact heap_alloc_old w.drew _ k hk⟩,fun y hy=>?_,List.pairwise_singleton _ _,fun y hy=>?_⟩
      · rw [List.mem_singleton] at hy; subst hy
        have:=heap_alloc_new w.drew (.cells ((l.flatMap f++l'.flatMap f).toArray++Builtin.zeroCells z.cells (grownCap w (l.length+l'.length) cap e - (l.length+l'.length))) e)
        refine .of0 ?_
        rw [List.flatMap_append]
        refine this.trans ?_
        congr 2
        apply Array.toList_inj.1
        simp
      · rw [List.mem_singleton] at hy; subst hy; exact .inl (Nat.le_refl _)
    refine ⟨_,_,_,_,hr,hO.pass hlast,.inr ⟨w.heap.size,_,rfl,by rw [List.length_append]; exact hge,grownCap_le_maxLen w _ cap e h63,?_,rfl⟩⟩
    have e3:(Builtin.zeroCells z.cells (grownCap w (l.length+l'.length) cap e - (l.length+l'.length))).toList.length=(grownCap w (l.length+l'.length) cap e - (l.length+l'.length))*i.size:=by rw [Array.length_toList,size_zeroCells,hzs]
    rw [List.length_append,E.flen,e3,List.length_append,← Nat.add_mul]
    congr 1; omega
  rcases h1 with ⟨rfl,rfl,rfl,rfl⟩ | ⟨b,r,rfl,hle,hcm,hlen,rfl⟩
  · refine grow 0 (by cases l' with | nil=>exact absurd rfl h0 | cons=>simp) ?_
    exact run_firstCells_none w.drew i.size 0 0 0
  · have hB:Blk w b e (l.flatMap f++r):=hO.blk (b,e,l.flatMap f++r) (by simp)
    by_cases hroom:l.length+l'.length<=c
    · have hfit:l.length*sz+(l'.flatMap f).length<=(l.flatMap f++r).length:=by rw [hlen,E.flen,← Nat.add_mul]; exact Nat.mul_le_mul_right _ hroom
      obtain ⟨hst,hB'⟩:=hB.store (P:=P) (vs:=l'.flatMap f) (off:=l.length*sz) hfit hs.one
      have hcells:setL (l.flatMap f++r) (l.length*sz) (l'.flatMap f)=(l++l').flatMap f++(l.flatMap f++r).drop (l.length*sz+(l'.flatMap f).length):=by
        unfold setL
        rw [← E.flen l,List.take_left,List.flatMap_append]
      rw [hcells] at hst hB'
      have hrun:(Builtin.append_ #[t,tx] ty #[.slice (some ⟨b,0,none⟩) l.length c,x]).run P w = .ok (.slice (some ⟨b,0,none⟩) (l.length+l'.length) c) (w.setRow b ((l++l').flatMap f++(l.flatMap f++r).drop (l.length*sz+(l'.flatMap f).length)).toArray):=by
        subst hsize
        rcases hs.kind with ⟨e',hk⟩ | hk <;> simp [Builtin.append_,run_underlying ht,run_underlying hk,sizeOf,typeInfo,hi,hs.len,hroom,hs.cells,Addr.add_lit,hst]
      refine ⟨_,_,[(b,e,(l++l').flatMap f++(l.flatMap f++r).drop (l.length*sz+(l'.flatMap f).length))],_,hrun,hO.pass ⟨?_,fun y hy=>?_,List.pairwise_singleton _ _,fun y hy=>?_⟩,.inr ⟨b,_,rfl,by rw [List.length_append]; exact hroom,hcm,?_,rfl⟩⟩
      · exact ⟨rfl,rfl,rfl,by simp,fun k _ hn=>setRow_other w b k _ fun e'=>hn ⟨_,List.mem_singleton.2 rfl,e'.symm⟩⟩
      · rw [List.mem_singleton] at hy; subst hy
        exact hB'
      · rw [List.mem_singleton] at hy; subst hy
        exact .inr ⟨_,List.mem_singleton.2 rfl,rfl⟩
      · rw [List.length_append,List.length_drop,E.flen,List.length_append,hlen,Nat.add_mul,E.flen]
        rw [hlen,E.flen] at hfit
        omega
    · refine grow c (by omega) ?_
      have:=run_firstCells_some (P:=P) w.drew i.size l.length ⟨b,0,none⟩ l.length c (l.flatMap f) (by rw [hsize]; exact E.flen l) (fun j u hj=>by
        rw [add_zero_off]
        have:w.cell? ⟨b,j,none⟩=some u:=hB.cell (by rw [List.getElem?_append_left (List.getElem?_eq_some_iff.1 hj).1]; exact hj)
        simpa using this)
      exact this
end
def builtAt (ops:Array Oper) (e:Env) (i:Nat):Option (Builtin×Array TypeId×TypeId×List Value×Option Nat) :=
  match opAt ops e i with
  | some o=>match o.op with
    | .call c=>match c.callee with
      | .builtin b=>match vals e c.args.toList with
        | some vs=>some (b,c.argTypes,o.type,vs,o.dst)
        | none=>none
      | _=>none
    | _=>none
  | none=>none
def makeAt (ops:Array Oper) (e:Env) (i:Nat):Option (TypeId×Value×Value×Option Nat) :=
  match opAt ops e i with
  | some o=>match o.op with
    | .makeSlice t l c=>match val e l with
      | some lv=>match val e c with
        | some cv=>some (t,lv,cv,o.dst)
        | none=>none
      | none=>none
    | _=>none
  | none=>none
section
variable {P:Program} {ops:Array Oper} {Q:Exit->Act->World->Prop} {n:Nat} {ds:List Deferred} {a:Act} {e:Env} {w w':World} {K:Act->World->Prop} {i:Nat}
theorem vals_eval (hA:Holds n ds a e) : ∀ (l:List Operand) (us:List Value),vals e l=some us->l.map a.eval=us:=by
  intro l
  induction l with
  | nil=>intro us h; simp only [vals,Option.some.injEq] at h; simp [h]
  | cons y r ih =>
    intro us h
    simp only [vals] at h
    repeat' split at h
    all_goals try (cases h; done)
    rename_i v hv _ vs' hr
    cases h
    simp [hA.eval hv,ih _ hr]
theorem m_append (hA:Holds n ds a e) {ats:Array TypeId} {ty:TypeId} {vs:List Value} {d:Option Nat} (hb:builtAt ops e i=some (.append,ats,ty,vs,d)) (hd:ltO d n=true)
    {v:Value} (hr:(Builtin.append_ ats ty vs.toArray).run P w = .ok v w') (hK : ∀ a',Holds n ds a' (putE d v e)->K a' w'):wpOp P ops Q i K a w:=by
  unfold builtAt at hb
  repeat' split at hb
  all_goals try (cases hb; done)
  rename_i o ho _ c hop _ b hcl _ vs' hvs
  simp only [Option.some.injEq,Prod.mk.injEq] at hb
  obtain ⟨rfl,rfl,rfl,rfl,rfl⟩:=hb
  refine wpOp_of hA ho ?_
  have hargs:c.args.map a.eval=vs'.toArray:=by
    have:=vals_eval hA _ _ hvs
    apply Array.toList_inj.1
    simpa using this
  have hrun:(execOp a.eval o).run P w = .ok (.value v) w':=by
    unfold execOp
    simp only [hop,resolve,hcl,hargs,invoke,builtin,Sem.run_bind,Sem.run_pure,Result.andThen_ok,run_program,hr]
  unfold Oper.wp
  rw [hrun]
  exact hK _ (hA.putE v hd)
theorem m_copy (hA:Holds n ds a e) {ats:Array TypeId} {ty:TypeId} {vs:List Value} {d:Option Nat} (hb:builtAt ops e i=some (.copy,ats,ty,vs,d)) (hd:ltO d n=true)
    {v:Value} (hr:(Builtin.copy_ ats ty vs.toArray).run P w = .ok v w') (hK : ∀ a',Holds n ds a' (putE d v e)->K a' w'):wpOp P ops Q i K a w:=by
  unfold builtAt at hb
  repeat' split at hb
  all_goals try (cases hb; done)
  rename_i o ho _ c hop _ b hcl _ vs' hvs
  simp only [Option.some.injEq,Prod.mk.injEq] at hb
  obtain ⟨rfl,rfl,rfl,rfl,rfl⟩:=hb
  refine wpOp_of hA ho ?_
  have hargs:c.args.map a.eval=vs'.toArray:=by
    have:=vals_eval hA _ _ hvs
    apply Array.toList_inj.1
    simpa using this
  have hrun:(execOp a.eval o).run P w = .ok (.value v) w':=by
    unfold execOp
    simp only [hop,resolve,hcl,hargs,invoke,builtin,Sem.run_bind,Sem.run_pure,Result.andThen_ok,run_program,hr]
  unfold Oper.wp
  rw [hrun]
  exact hK _ (hA.putE v hd)
def elT (P:Program) (e:TypeId) (sz bytes:Nat):Bool :=
  match P.info? e with
  | some i=>match i.zero with
    | some z=>Nat.beq i.size sz && (Nat.beq i.bytes bytes && Nat.beq z.cells.size sz)
    | none=>false
  | none=>false
theorem elT_spec {el:TypeId} {sz bytes:Nat} (h:elT P el sz bytes=true) : ∃ i z,P.info? el=some i/\i.zero=some z/\i.size=sz/\i.bytes=bytes/\z.cells.size=sz:=by
  unfold elT at h
  split at h
  · rename_i i hi
    split at h
    · rename_i z hz
      simp only [Bool.and_eq_true] at h
      exact ⟨i,z,hi,hz,Nat.eq_of_beq_eq_true h.1,Nat.eq_of_beq_eq_true h.2.1,Nat.eq_of_beq_eq_true h.2.2⟩
    · cases h
  · cases h
theorem mA {α:Type} {f : α->List Value} {el:TypeId} {sz bytes:Nat} {p:Option Addr} {c:Nat} {l l':List α} {T:OwL} {X:Nat->Prop} {w₀:World} (A B:OwL) {t tx ty:TypeId} {x:Value} {d:Nat}
    (E:Enc f sz) (hA:Holds n ds a e) (hO:Ow P X w₀ w (A++(T++B))) (h1:One f el sz p c l T) (hs:Src P sz tx x l'.length (l'.flatMap f) w) (hb:(l.length+l'.length)*bytes<=140737488355328) (h63:l.length+l'.length<=maxLen)
    (hK : ∀ a' w' p' c' T',Holds n ds a' ((d,.slice p' (l++l').length c')::e)->Ow P X w₀ w' (A++(T'++B))->One f el sz p' c' (l++l') T'->K a' w')
    (he:builtAt ops e i=some (.append,#[t,tx],ty,[.slice p l.length c,x],some d):=by kernel_rfl) (hd:Nat.blt d n=true:=by kernel_rfl) (ht:P.underlying t=some (.slice el):=by kernel_rfl) (hi:elT P el sz bytes=true:=by kernel_rfl):wpOp P ops Q i K a w:=by
  obtain ⟨inf,z,q1,q2,q3,q4,q5⟩:=elT_spec hi
  obtain ⟨p',c',T',w',hr,hO',h1'⟩:=app_run ht q1 q2 q3 q4 E hO.m h1 hs h63 hb q5 (ty:=ty)
  exact m_append hA he hd hr fun a' hA'=>hK a' w' p' c' T' hA' hO'.o h1'
theorem mY {α:Type} {f : α->List Value} {el:TypeId} {L:OwL} {X:Nat->Prop} {w₀:World} (j:Nat) {t tx ty:TypeId} {x:Value} {xs:List α} {off dl dc m:Nat} {d:Option Nat} {l':List Value}
    (E:Enc f 1) (hA:Holds n ds a e) (hO:Ow P X w₀ w L) (hx:Vw f w x xs) (hm:m=min xs.length dl) (hfit:off+m<=(oC L j).length) (hl:setL (oC L j) off ((xs.take m).flatMap f)=l')
    (hK : ∀ a' w',Holds n ds a' (putE d (.int .i64 (m:Int)) e)->Ow P X w₀ w' (oS L j l')->K a' w') (h63:m<=9223372036854775807)
    (he:builtAt ops e i=some (.copy,#[t,tx],ty,[.slice (some ⟨oB L j,off,none⟩) dl dc,x],d):=by kernel_rfl) (hd:ltO d n=true:=by kernel_rfl) (ht:P.underlying t=some (.slice el):=by kernel_rfl)
    (hi:(P.info? el).map (·.size)=some 1:=by kernel_rfl) (hj:Nat.blt j L.length=true:=by kernel_rfl):wpOp P ops Q i K a w:=by
  have hjl:j < L.length:=by simpa [Nat.blt_eq] using hj
  have hB:=hO.blk j hjl
  have gi:goInt m = .int .i64 (m:Int):=rfl
  rcases hx with ⟨rfl,rfl⟩ | ⟨ad,cap,rfl,hc⟩
  · have hm0:m=0:=by simpa using hm
    subst hm0
    have hr:=run_copy_nil (P:=P) w t tx ty el ⟨oB L j,off,none⟩ dl dc ht (by cases hq:P.info? el with | none=>simp [hq] at hi | some i=>rfl)
    refine m_copy hA he hd hr fun a' hA'=>?_
    have hl':l'=oC L j:=by rw [← hl]; simp [setL]
    refine hK a' w (gi ▸ hA') (hO.turn j ⟨rfl,rfl,rfl,Nat.le_refl _,fun _ _ _=>rfl⟩ (hl' ▸ hB) hjl)
  · have hcs:((xs.take m).flatMap f).length=m:=by rw [E.flen,List.length_take,hm,Nat.mul_one]; omega
    have hsrc : ∀ k v,((xs.take m).flatMap f)[k]? = some v->w.cell? (ad.add k)=some v:=fun k v hk=>by
      refine hc k v ?_
      have e:xs.flatMap f=(xs.take m).flatMap f++(xs.drop m).flatMap f:=by rw [← List.flatMap_append,List.take_append_drop]
      rw [e,List.getElem?_append_left (List.getElem?_eq_some_iff.1 hk).1]; exact hk
    obtain ⟨hst,hB'⟩:=hB.store (P:=P) (vs:=(xs.take m).flatMap f) (off:=off) (by rw [hcs]; exact hfit) (E.fone _)
    have hld:=run_loadCells_list (P:=P) w ad ((xs.take m).flatMap f) hsrc
    have hr:(Builtin.copy_ #[t,tx] ty #[.slice (some ⟨oB L j,off,none⟩) dl dc,.slice (some ad) xs.length cap]).run P w = .ok (goInt m) (w.setRow (oB L j) (setL (oC L j) off ((xs.take m).flatMap f)).toArray):=by
      have hn:Nat.min xs.length dl=m:=hm.symm
      cases hq:P.info? el with
      | none=>simp [hq] at hi
      | some inf =>
        have hi1:inf.size=1:=by simpa [hq] using hi
        rw [hcs] at hld
        simp [Builtin.copy_,run_underlying ht,Builtin.lenOf,Builtin.firstCells,sizeOf,typeInfo,hq,hi1,hn,hld,hst]
    rw [gi] at hr
    refine m_copy hA he hd hr fun a' hA'=>hK a' _ hA' ?_
    exact hl ▸ hO.turn j (only_setRow w _ _) hB' hjl
end
theorem One.open {α:Type} {f : α->List Value} {e:TypeId} {sz:Nat} {p:Option Addr} {c:Nat} {l:List α} {T:OwL} (h:One f e sz p c l T) (hl : 0 < l.length) :
    ∃ b r,p=some ⟨b,0,none⟩/\T=[(b,e,l.flatMap f++r)]/\l.length<=c/\(l.flatMap f++r).length=c*sz:=by
  rcases h with ⟨_,_,rfl,_⟩ | ⟨b,r,rfl,h1,_,h2,rfl⟩
  · cases hl
  · exact ⟨b,r,rfl,rfl,h1,h2⟩
theorem One.ofBlk {α:Type} {f : α->List Value} {e:TypeId} {sz c:Nat} {b:Nat} {l:List α} {cs r:List Value} (hc:cs=l.flatMap f++r) (hl:l.length<=c) (hm:c<=maxLen) (hs:cs.length=c*sz):One f e sz (some ⟨b,0,none⟩) c l [(b,e,cs)]:=by
  subst hc; exact .inr ⟨b,r,rfl,hl,hm,hs,rfl⟩
section
variable {P:Program} {X:Nat->Prop} {w₀ w w':World}
theorem Ow.subP {A A' B:OwL} (h:Ow P X w₀ w (A++B)) (s:A'.Sublist A):Ow P X w₀ w (A'++B):=(h.m.less (s.append (List.Sublist.refl B))).o
theorem Ow.self {A T B:OwL} (h:Ow P X w₀ w (A++(T++B))):Ow P (inT T) w w T:=h.m.self.o
theorem Ow.pass {A T B T':OwL} (h:Ow P X w₀ w (A++(T++B))) (h':Ow P (inT T) w w' T'):Ow P X w₀ w' (A++(T'++B)):=(h.m.pass h'.m).o
theorem Ow.join {L T:OwL} (h:Ow P X w₀ w L) (h':Ow P none' w w' T):Ow P X w₀ w' (L++T):=(h.m.join h'.m).o
theorem Ow.move {A B C:OwL} {x:Nat×TypeId×List Value} (h:Ow P X w₀ w (A++(x::(B++C)))):Ow P X w₀ w (A++(B++([x]++C))) :=
  (h.m.perm (List.Perm.append_left A (List.perm_middle (a:=x) (l₁:=B) (l₂:=C)).symm)).o
theorem Blk.vw {α:Type} {f : α->List Value} {b:Nat} {t:TypeId} {l:List Value} {xs:List α} {off c:Nat} (h:Blk w b t l) (hl:(l.drop off).take (xs.flatMap f).length=xs.flatMap f):Vw f w (.slice (some ⟨b,off,none⟩) xs.length c) xs:=by
  refine .inr ⟨_,c,rfl,fun j u hj=>?_⟩
  rw [add_off]
  refine h.cell ?_
  rw [← hl,List.getElem?_take] at hj
  split at hj
  · rwa [List.getElem?_drop] at hj
  · cases hj
def sI (s:ByteArray):List Int:=s.data.toList.map fun b=>(b.toNat:Int)
theorem sI_len (s:ByteArray):(sI s).length=s.size:=by unfold sI; rw [List.length_map,Array.length_toList]; rfl
theorem sI_flat (s:ByteArray):(sI s).flatMap fB=byteCells s:=by rw [flatB]; simp only [sI,byteCells,List.map_map]; rfl
theorem sI_u8 (s:ByteArray):U8s (sI s):=fun x hx=>by
  simp only [sI,List.mem_map] at hx
  obtain ⟨b,_,rfl⟩:=hx
  have:=b.toNat_lt
  omega
theorem Src.str {tx:TypeId} (hk:P.underlying tx=some .string) (s:ByteArray):Src P 1 tx (.string s) (sI s).length ((sI s).flatMap fB) w:=by
  rw [sI_len,sI_flat]; exact Src.ofString w hk s
theorem U8s.app {xs ys:List Int} (h:U8s xs) (h':U8s ys):U8s (xs++ys):=fun x hx=>(List.mem_append.1 hx).elim (h x) (h' x)
def SlK (X:Nat->Prop) (w:World) (v:Value) (xs:List Int):Prop:=∀ w',Only X w w'->SlI w' v xs
theorem SlI.k {v:Value} {xs:List Int} (h:SlI w v xs):SlK none' w v xs:=fun w' k=>h.keep k
theorem SlI.far {v:Value} {xs:List Int} (h:SlI w₀ v xs) (k:Only X w₀ w) (hX : ∀ b,X b->w₀.heap.size<=b) {T:OwL} (hT : ∀ x∈T,w₀.heap.size<=x.1\/X x.1):SlK (inT T) w v xs:=fun w' k'=>by
  refine ⟨h.1,?_⟩
  rcases h.2 with e | ⟨ad,cap,rfl,hc⟩
  · exact .inl e
  · refine .inr ⟨ad,cap,rfl,fun i hi=>?_⟩
    have h1:=hc i hi
    have hlt:=World.block_lt_of_cell? w₀ _ h1
    have h2:=k.cell h1 fun hx=>absurd (hX _ hx) (by omega)
    refine k'.cell h2 ?_
    rintro ⟨x,hx,e⟩
    rcases hT x hx with h | h
    · omega
    · have:=hX _ h; omega
theorem Ow.far {A T B:OwL} (h:Ow P X w₀ w (A++(T++B))) : ∀ x∈T,w₀.heap.size<=x.1\/X x.1:=fun x hx=>h.m.new x (List.mem_append_right _ (List.mem_append_left _ hx))
end
def convAt (ops:Array Oper) (e:Env) (i:Nat):Option (TypeId×TypeId×Value×Option Nat) :=
  match opAt ops e i with
  | some o=>match o.op with
    | .convert src dst x=>match val e x with
      | some v=>some (src,dst,v,o.dst)
      | none=>none
    | _=>none
  | none=>none
theorem oS_self : ∀ (L:OwL) (i:Nat),oS L i (oC L i)=L
  | [],_=>rfl
  | (_,_,_)::_,0=>rfl
  | x::r,i+1=>congrArg (x::·) (oS_self r i)
theorem mV {P:Program} {ops:Array Oper} {Q:Exit->Act->World->Prop} {n:Nat} {ds:List Deferred} {a:Act} {e:Env} {w:World} {K:Act->World->Prop} {i:Nat} {L:OwL} {X:Nat->Prop} {w₀:World} (j:Nat) {t el:TypeId} {off m c d:Nat}
    (hA:Holds n ds a e) (hO:Ow P X w₀ w L) (hK : ∀ a' w',Holds n ds a' ((d,.slice (some ⟨oB L j,off,none⟩) m c)::e)->Ow P X w₀ w' L->K a' w')
    (he:convAt ops e i=some (t,t,.slice (some ⟨oB L j,off,none⟩) m c,some d):=by kernel_rfl) (hd:Nat.blt d n=true:=by kernel_rfl) (ht:P.underlying t=some (.slice el):=by kernel_rfl) (hel:P.underlying el=some (.int .u8):=by kernel_rfl) (hj:Nat.blt j L.length=true:=by kernel_rfl):wpOp P ops Q i K a w:=by
  have hjl:j < L.length:=by simpa [Nat.blt_eq] using hj
  obtain ⟨fr,hg,hf⟩:=hO.blk j hjl
  unfold convAt at he
  repeat' split at he
  all_goals try (cases he; done)
  rename_i o ho _ src dst x hop _ v hv
  simp only [Option.some.injEq,Prod.mk.injEq] at he
  obtain ⟨rfl,rfl,rfl,hdst⟩:=he
  refine wpOp_of hA ho ?_
  have hsh:w.shape? (oB L j)=some (oT L j,(oC L j).length):=by
    unfold World.shape?
    rw [hg]; simp
  have hc:(convert dst dst (.slice (some ⟨oB L j,off,none⟩) m c)).run P w = .ok (.slice (some ⟨oB L j,off,none⟩) m c) (w.freeze ⟨oB L j,(oC L j).length,none⟩ 1):=by
    simp [convert,run_underlying ht,run_underlying hel,markStringish,hsh]
  have hrun:(execOp a.eval o).run P w = .ok (.value (.slice (some ⟨oB L j,off,none⟩) m c)) (w.freeze ⟨oB L j,(oC L j).length,none⟩ 1):=by
    unfold execOp
    simp only [hop,hA.eval hv,Sem.run_bind,Sem.run_pure,Result.andThen_ok,run_program,hc]
  unfold Oper.wp
  rw [hrun]
  have hlt:oB L j < w.heap.size:=(Array.getElem?_eq_some_iff.1 hg).1
  have hvv:w.heap[oB L j] = .cells (oC L j).toArray (oT L j) fr:=(Array.getElem?_eq_some_iff.1 hg).2
  have hB:Blk (w.freeze ⟨oB L j,(oC L j).length,none⟩ 1) (oB L j) (oT L j) (oC L j):=by
    refine ⟨if fr.1 == fr.2 then ((oC L j).length,(oC L j).length+1) else (min fr.1 (oC L j).length,max fr.2 ((oC L j).length+1)),?_,?_⟩
    · unfold World.freeze
      rw [if_neg (by decide)]
      simp only
      rw [Array.getElem?_eq_getElem (by simpa using hlt),Array.getElem_modify]
      simp [hvv]
    · right
      split
      · exact Nat.le_refl _
      · rename_i h
        have:fr.1≠fr.2:=by simpa using h
        simp only; omega
  have hOn:Only (fun k=>k=oB L j) w (w.freeze ⟨oB L j,(oC L j).length,none⟩ 1):=by
    unfold World.freeze
    rw [if_neg (by decide)]
    exact ⟨rfl,rfl,rfl,by simp,fun k hk hn=>by simp [Array.getElem?_modify,Ne.symm hn]⟩
  refine hK _ _ ?_ ?_
  · rw [hdst]; exact hA.put _ (by simpa [Nat.blt_eq] using hd)
  · have:=hO.turn j hOn hB hjl
    rwa [oS_self] at this
end Go.Proofs.Sx
