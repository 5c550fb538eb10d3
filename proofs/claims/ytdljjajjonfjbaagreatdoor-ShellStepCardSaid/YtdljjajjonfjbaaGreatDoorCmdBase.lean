import Derived.Test.YtdljjajjonfjbaaGreatDoorSx
import Derived.Deep.AppendSrc
import Derived.Deep.OwnRows
import Derived.Deep.Upon
import Derived.Recover
set_option linter.unusedVariables false
set_option linter.unusedSimpArgs false
open List renaming length_append->jR,length_cons->jS,length_nil->jT,append_assoc->jV,mem_singleton->jZ,append_nil->kC
open ByteArray renaming size_extract->kH
namespace Go.Proofs.Sx
open Go Go.RowKit
theorem oAt : ∀ (L:OwL) (i:Nat),i < L.length->L[i]? = some (oB L i,oT L i,oC L i)
 | [],_,h=>absurd h (Nat.not_lt_zero _)
 | (_,_,_)::_,0,_=>rfl
 | _::r,i+1,h=>by simpa [oB,oT,oC] using oAt r i (Nat.lt_of_succ_lt_succ h)
structure OwM (X:Nat->Prop) (w₀ w:World) (L:OwL):Prop where
 only:Only X w₀ w
 blk : ∀ x∈L,Blk w x.1 x.2.1 x.2.2
 ne:L.Pairwise (fun x y=>x.1≠y.1)
 new : ∀ x∈L,w₀.heap.size<=x.1\/X x.1
section
variable {P:Program} {X:Nat->Prop} {w₀ w w':World} {L:OwL}
theorem Ow.m (h:Ow P X w₀ w L):OwM X w₀ w L:=by
 have at' : ∀ x∈L,∃ i,i < L.length/\x=(oB L i,oT L i,oC L i):=fun x hx=>by
  obtain ⟨i,hi,rfl⟩:=List.getElem_of_mem hx
  refine ⟨i,hi,?_⟩
  have:=oAt L i hi
  rw [List.getElem?_eq_getElem hi] at this
  exact Option.some.inj this
 refine ⟨h.only,fun x hx=>?_,?_,fun x hx=>?_⟩
 · obtain ⟨i,hi,rfl⟩:=at' x hx; exact h.blk i hi
 · rw [List.pairwise_iff_getElem]
   intro i j hi hj hij
   have e1:=oAt L i hi
   have e2:=oAt L j hj
   rw [List.getElem?_eq_getElem hi] at e1
   rw [List.getElem?_eq_getElem hj] at e2
   rw [Option.some.inj e1,Option.some.inj e2]
   exact h.ne i j hi hj (Nat.ne_of_lt hij)
 · obtain ⟨i,hi,rfl⟩:=at' x hx; exact h.new i hi
theorem OwM.o (h:OwM X w₀ w L):Ow P X w₀ w L:=by
 have mem : ∀ i,i < L.length->(oB L i,oT L i,oC L i)∈L:=fun i hi=>List.mem_of_getElem? (oAt L i hi)
 refine ⟨h.only,fun i hi=>h.blk _ (mem i hi),fun i j hi hj hij=>?_,fun i hi=>h.new _ (mem i hi)⟩
 have hne:=List.pairwise_iff_getElem.1 h.ne
 have e1:=oAt L i hi
 have e2:=oAt L j hj
 rw [List.getElem?_eq_getElem hi] at e1
 rw [List.getElem?_eq_getElem hj] at e2
 rcases Nat.lt_or_gt_of_ne hij with hlt | hlt
 · have:=hne i j hi hj hlt
   rw [Option.some.inj e1,Option.some.inj e2] at this; exact this
 · have:=hne j i hj hi hlt
   rw [Option.some.inj e1,Option.some.inj e2] at this; exact this.symm
theorem OwM.perm (h:OwM X w₀ w L) {L':OwL} (p:L.Perm L'):OwM X w₀ w L' :=
 ⟨h.only,fun x hx=>h.blk x (p.mem_iff.2 hx),(p.pairwise_iff (fun h=>h.symm)).1 h.ne,fun x hx=>h.new x (p.mem_iff.2 hx)⟩
theorem OwM.less (h:OwM X w₀ w L) {L':OwL} (s:L'.Sublist L):OwM X w₀ w L' :=
 ⟨h.only,fun x hx=>h.blk x (s.subset hx),h.ne.sublist s,fun x hx=>h.new x (s.subset hx)⟩
theorem OwM.join {T:OwL} (h:OwM X w₀ w L) (h':OwM Ag w w' T):OwM X w₀ w' (L++T):=by
 refine ⟨h.only.step h'.only (fun _ _ hx=>hx.elim),fun x hx=>?_,?_,fun x hx=>?_⟩
 · rcases List.mem_append.1 hx with hx | hx
   · exact (h.blk x hx).keep h'.only fun hx=>hx
   · exact h'.blk x hx
 · refine List.pairwise_append.2 ⟨h.ne,h'.ne,fun x hx y hy=>?_⟩
   rcases h'.new y hy with hn | hn
   · exact (h.blk x hx).ne hn
   · exact hn.elim
 · rcases List.mem_append.1 hx with hx | hx
   · exact h.new x hx
   · rcases h'.new x hx with hn | hn
     · exact .inl (Nat.le_trans h.only.size hn)
     · exact hn.elim
def inT (T:OwL):Nat->Prop:=fun b=>∃ x∈T,x.1=b
theorem OwM.self {A T B:OwL} (h:OwM X w₀ w (A++(T++B))):OwM (inT T) w w T:=by
 have h2:=h.less (L':=T) ((List.sublist_append_left T B).trans (List.sublist_append_right A _))
 exact ⟨Only.refl _ _,h2.blk,h2.ne,fun x hx=> .inr ⟨x,hx,rfl⟩⟩
theorem OwM.pass {A T B T':OwL} (h:OwM X w₀ w (A++(T++B))) (h':OwM (inT T) w w' T'):OwM X w₀ w' (A++(T'++B)):=by
 obtain ⟨nA,nTB,nAx⟩:=List.pairwise_append.1 h.ne
 obtain ⟨nT,nB,nTx⟩:=List.pairwise_append.1 nTB
 have mA : ∀ x∈A,x∈A++(T++B):=fun x hx=>List.mem_append_left _ hx
 have mT : ∀ x∈T,x∈A++(T++B):=fun x hx=>List.mem_append_right _ (List.mem_append_left _ hx)
 have mB : ∀ x∈B,x∈A++(T++B):=fun x hx=>List.mem_append_right _ (List.mem_append_right _ hx)
 have kA : ∀ x∈A,¬ inT T x.1:=fun x hx ⟨y,hy,e⟩=>nAx x hx y (List.mem_append_left _ hy) e.symm
 have kB : ∀ x∈B,¬ inT T x.1:=fun x hx ⟨y,hy,e⟩=>nTx y hy x hx e
 have far : ∀ x∈A++(T++B),¬ inT T x.1->∀ y∈T',x.1≠y.1:=fun x hx hn y hy=>by
  rcases h'.new y hy with hy' | hy'
  · exact (h.blk x hx).ne hy'
  · exact fun e=>hn (e ▸ hy')
 refine ⟨h.only.step h'.only fun i hi hx=>?_,fun x hx=>?_,?_,fun x hx=>?_⟩
 · obtain ⟨y,hy,rfl⟩:=hx
   rcases h.new y (mT y hy) with hn | hn
   · exact absurd hi (Nat.not_lt.2 hn)
   · exact hn
 · rcases List.mem_append.1 hx with hx | hx
   · exact (h.blk x (mA x hx)).keep h'.only (kA x hx)
   rcases List.mem_append.1 hx with hx | hx
   · exact h'.blk x hx
   · exact (h.blk x (mB x hx)).keep h'.only (kB x hx)
 · refine List.pairwise_append.2 ⟨nA,List.pairwise_append.2 ⟨h'.ne,nB,fun x hx y hy=>(far y (mB y hy) (kB y hy) x hx).symm⟩,fun x hx y hy=>?_⟩
   rcases List.mem_append.1 hy with hy | hy
   · exact far x (mA x hx) (kA x hx) y hy
   · exact nAx x hx y (List.mem_append_right _ hy)
 · rcases List.mem_append.1 hx with hx | hx
   · exact h.new x (mA x hx)
   rcases List.mem_append.1 hx with hx | hx
   · rcases h'.new x hx with hn | ⟨y,hy,e⟩
     · exact .inl (Nat.le_trans h.only.size hn)
     · exact e ▸ h.new y (mT y hy)
   · exact h.new x (mB x hx)
end
structure Enc {α:Type} (f : α->List Value) (sz:Nat):Prop where
 len : ∀ a,(f a).length=sz
 one : ∀ a,∀ v∈f a,v.oneCell'=true
section
variable {α:Type} {f : α->List Value} {sz:Nat}
theorem Enc.flen (E:Enc f sz) : ∀ l:List α,(l.flatMap f).length=l.length*sz
 | []=>by simp
 | a::l=>by rw [List.flatMap_cons,jR,E.len,E.flen l,jS,Nat.succ_mul,Nat.add_comm]
theorem Enc.fone (E:Enc f sz) (l:List α) : ∀ v∈l.flatMap f,v.oneCell'=true:=fun v hv=>by
 obtain ⟨a,_,ha⟩:=List.mem_flatMap.1 hv; exact E.one a v ha
end
def fB (x:Int):List Value:=[.int .u8 x]
theorem Xt:Enc fB 1:=⟨fun _=>rfl,fun _ v hv=>by simp only [fB,jZ] at hv; subst hv; rfl⟩
theorem gB (l:List Int):l.flatMap fB=l.map (.int .u8 ·):=by
 induction l with
 | nil=>rfl
 | cons x l ih=>rw [List.flatMap_cons,ih]; rfl
def fT (x:ByteArray):List Value:=[.string x]
theorem Fi:Enc fT 1:=⟨fun _=>rfl,fun _ v hv=>by simp only [fT,jZ] at hv; subst hv; rfl⟩
def Vw {α:Type} (f : α->List Value) (w:World) (v:Value) (l:List α):Prop :=
 (v = .slice none 0 0/\l=[])\/∃ ad c,v = .slice (some ad) l.length c/\∀ j u,(l.flatMap f)[j]? = some u->w.cell? (ad.add j)=some u
theorem SlI.vw {w:World} {v:Value} {xs:List Int} (h:SlI w v xs):Vw fB w v xs:=by
 rcases h.2 with ⟨rfl,rfl⟩ | ⟨ad,cap,rfl,hc⟩
 · exact .inl ⟨rfl,rfl⟩
 · refine .inr ⟨ad,cap,rfl,fun j u hj=>?_⟩
   rw [gB,List.getElem?_map] at hj
   obtain ⟨x,hx,rfl⟩:=Option.map_eq_some_iff.1 hj
   have hlt:=(List.getElem?_eq_some_iff.1 hx).1
   have:=hc j hlt
   rwa [List.getD_eq_getElem?_getD,hx] at this
theorem Vw.src {α:Type} {f : α->List Value} {sz:Nat} {P:Program} {w:World} {v:Value} {l:List α} {tx e':TypeId} (E:Enc f sz) (h:Vw f w v l) (hk:P.underlying tx=some (.slice e')):Src P sz tx v l.length (l.flatMap f) w:=by
 rcases h with ⟨rfl,rfl⟩ | ⟨ad,cap,rfl,hc⟩
 · exact Src.ofNil w hk 0
 · exact Src.ofSlice w hk ad _ cap _ (E.flen l) hc (E.fone l)
def One {α:Type} (f : α->List Value) (e:TypeId) (sz:Nat) (p:Option Addr) (c:Nat) (l:List α) (T:OwL):Prop :=
 (p=none/\c=0/\l=[]/\T=[])\/∃ b r,p=some ⟨b,0,none⟩/\l.length<=c/\c<=maxLen/\(l.flatMap f++r).length=c*sz/\T=[(b,e,l.flatMap f++r)]
section
variable {α:Type} {f : α->List Value} {e:TypeId} {sz:Nat} {p:Option Addr} {c:Nat} {l:List α} {T:OwL} {P:Program} {X:Nat->Prop} {w₀ w w':World}
theorem One.nil (f : α->List Value) (e:TypeId) (sz:Nat):One f e sz none 0 [] []:= .inl ⟨rfl,rfl,rfl,rfl⟩
theorem One.vw (h:One f e sz p c l T) {A B:OwL} (O:OwM X w₀ w (A++(T++B))):Vw f w (.slice p l.length c) l:=by
 rcases h with ⟨rfl,rfl,rfl,rfl⟩ | ⟨b,r,rfl,_,_,_,rfl⟩
 · exact .inl ⟨rfl,rfl⟩
 · refine .inr ⟨_,c,rfl,fun j u hj=>?_⟩
   rw [E3]
   refine (O.blk (b,e,l.flatMap f++r) (by simp)).cell ?_
   rw [List.getElem?_append_left (List.getElem?_eq_some_iff.1 hj).1]; exact hj
theorem eS {t tx ty:TypeId} {i:TypeInfo} {z:Value} {bytes:Nat} (ht:P.underlying t=some (.slice e)) (hi:P.info? e=some i) (hz:i.zero=some z) (hsize:i.size=sz) (hby:i.bytes=bytes) (E:Enc f sz)
 {A B:OwL} (O:OwM X w₀ w (A++(T++B))) (h1:One f e sz p c l T) {x:Value} {l':List α} (hs:Src P sz tx x l'.length (l'.flatMap f) w)
 (h63:l.length+l'.length<=maxLen) (hb:(l.length+l'.length)*bytes<=140737488355328) (hzs:z.cells.size=sz) :
 ∃ p' c' T' w',(Builtin.append_ #[t,tx] ty #[.slice p l.length c,x]).run P w = .ok (.slice p' (l++l').length c') w'/\OwM X w₀ w' (A++(T'++B))/\One f e sz p' c' (l++l') T':=by
 have hsm:((l.length+l'.length:Nat):Int)<=9223372036854775807:=by simp only [maxLen] at h63; omega
 rw [jR]
 by_cases h0:l'=[]
 · subst h0
   have hle:l.length<=c:=by
    rcases h1 with ⟨_,rfl,rfl,_⟩ | ⟨_,_,_,h,_⟩
    · exact Nat.le_refl _
    · exact h
   subst hsize
   refine ⟨p,c,T,w,run_append_nothing w t tx ty e i ht hi p l.length c hle x hs,O,by rw [kC]; exact h1⟩
 have grow : ∀ cap,cap < l.length+l'.length->(Builtin.firstCells i.size l.length (.slice p l.length cap)).run P w.drew = .ok (l.flatMap f).toArray w.drew->∃ p' c' T' w',(Builtin.append_ #[t,tx] ty #[.slice p l.length cap,x]).run P w = .ok (.slice p' (l.length+l'.length) c') w'/\OwM X w₀ w' (A++(T'++B))/\One f e sz p' c' (l++l') T':=by
  intro cap hc hf
  subst hsize; subst hby
  have hr:=run_append_grow_src (P:=P) w t tx ty e i z ht hi hz p l.length cap _ hf x _ _ hs hc hsm (growslice_fits hc hb)
  have hge:=grownCap_ge w (l.length+l'.length) cap e
  have hlast:OwM (inT T) w (w.drew.alloc (.cells ((l.flatMap f++l'.flatMap f).toArray++Builtin.zeroCells z.cells (grownCap w (l.length+l'.length) cap e - (l.length+l'.length))) e))
   [(w.heap.size,e,(l++l').flatMap f++(Builtin.zeroCells z.cells (grownCap w (l.length+l'.length) cap e - (l.length+l'.length))).toList)]:=by
   refine ⟨⟨rfl,rfl,rfl,by simp,fun k hk _=>by first | exact heap_alloc_old w.drew _ hk | exact heap_alloc_old w.drew _ k hk⟩,fun y hy=>?_,List.pairwise_singleton _ _,fun y hy=>?_⟩
   · rw [jZ] at hy; subst hy
     have:=heap_alloc_new w.drew (.cells ((l.flatMap f++l'.flatMap f).toArray++Builtin.zeroCells z.cells (grownCap w (l.length+l'.length) cap e - (l.length+l'.length))) e)
     refine .of0 ?_
     rw [List.flatMap_append]
     refine this.trans ?_
     congr 2
     apply Array.toList_inj.1
     simp
   · rw [jZ] at hy; subst hy; exact .inl (Nat.le_refl _)
  refine ⟨_,_,_,_,hr,O.pass hlast,.inr ⟨w.heap.size,_,rfl,by rw [jR]; exact hge,grownCap_le_maxLen w _ cap e h63,?_,rfl⟩⟩
  have e3:(Builtin.zeroCells z.cells (grownCap w (l.length+l'.length) cap e - (l.length+l'.length))).toList.length=(grownCap w (l.length+l'.length) cap e - (l.length+l'.length))*i.size:=by rw [Array.length_toList,size_zeroCells,hzs]
  rw [jR,E.flen,e3,jR,← Nat.add_mul]
  congr 1; omega
 rcases h1 with ⟨rfl,rfl,rfl,rfl⟩ | ⟨b,r,rfl,hle,hcm,hlen,rfl⟩
 · refine grow 0 (by cases l' with | nil=>exact absurd rfl h0 | cons=>simp) ?_
   exact run_firstCells_none w.drew i.size 0 0 0
 · have hB:Blk w b e (l.flatMap f++r):=O.blk (b,e,l.flatMap f++r) (by simp)
   by_cases hroom:l.length+l'.length<=c
   · have hfit:l.length*sz+(l'.flatMap f).length<=(l.flatMap f++r).length:=by rw [hlen,E.flen,← Nat.add_mul]; exact Nat.mul_le_mul_right _ hroom
     obtain ⟨hst,hB'⟩:=hB.store (P:=P) (vs:=l'.flatMap f) (off:=l.length*sz) hfit hs.one
     have hcells:D5 (l.flatMap f++r) (l.length*sz) (l'.flatMap f)=(l++l').flatMap f++(l.flatMap f++r).drop (l.length*sz+(l'.flatMap f).length):=by
      unfold D5
      rw [← E.flen l,List.take_left,List.flatMap_append]
     rw [hcells] at hst hB'
     have hrun:(Builtin.append_ #[t,tx] ty #[.slice (some ⟨b,0,none⟩) l.length c,x]).run P w = .ok (.slice (some ⟨b,0,none⟩) (l.length+l'.length) c) (w.setRow b ((l++l').flatMap f++(l.flatMap f++r).drop (l.length*sz+(l'.flatMap f).length)).toArray):=by
      subst hsize
      rcases hs.kind with ⟨e',hk⟩ | hk <;> simp [Builtin.append_,run_underlying ht,run_underlying hk,sizeOf,typeInfo,hi,hs.len,hroom,hs.cells,Addr.add_lit,hst]
     refine ⟨_,_,[(b,e,(l++l').flatMap f++(l.flatMap f++r).drop (l.length*sz+(l'.flatMap f).length))],_,hrun,O.pass ⟨?_,fun y hy=>?_,List.pairwise_singleton _ _,fun y hy=>?_⟩,.inr ⟨b,_,rfl,by rw [jR]; exact hroom,hcm,?_,rfl⟩⟩
     · exact ⟨rfl,rfl,rfl,by simp,fun k _ hn=>setRow_other w b k _ fun e'=>hn ⟨_,jZ.2 rfl,e'.symm⟩⟩
     · rw [jZ] at hy; subst hy
       exact hB'
     · rw [jZ] at hy; subst hy
       exact .inr ⟨_,jZ.2 rfl,rfl⟩
     · rw [jR,List.length_drop,E.flen,jR,hlen,Nat.add_mul,E.flen]
       rw [hlen,E.flen] at hfit
       omega
   · refine grow c (by omega) ?_
     have:=run_firstCells_some (P:=P) w.drew i.size l.length ⟨b,0,none⟩ l.length c (l.flatMap f) (by rw [hsize]; exact E.flen l) (fun j u hj=>by
      rw [E3]
      have:w.cell? ⟨b,j,none⟩=some u:=hB.cell (by rw [List.getElem?_append_left (List.getElem?_eq_some_iff.1 hj).1]; exact hj)
      simpa using this)
     exact this
end
def E2 (ops:Array Oper) (e:Env) (i:Nat):Option (Builtin×Array TypeId×TypeId×List Value×Option Nat) :=
 match M5 ops e i with
 | some o=>match o.op with
  | .call c=>match c.callee with
   | .builtin b=>match L0 e c.args.toList with
    | some vs=>some (b,c.argTypes,o.type,vs,o.dst)
    | none=>none
   | _=>none
  | _=>none
 | none=>none
def Ze (ops:Array Oper) (e:Env) (i:Nat):Option (TypeId×Value×Value×Option Nat) :=
 match M5 ops e i with
 | some o=>match o.op with
  | .makeSlice t l c=>match val e l with
   | some lv=>match val e c with
    | some cv=>some (t,lv,cv,o.dst)
    | none=>none
   | none=>none
  | _=>none
 | none=>none
section
variable {P:Program} {ops:Array Oper} {Q:Exit->Act->World->Prop} {n:Nat} {ds:List Deferred} {a:Act} {e:Env} {w w':World} {K:Act->World->Prop} {i:Nat}
theorem Ks (V:Holds n ds a e) : ∀ (l:List Operand) (us:List Value),L0 e l=some us->l.map a.eval=us:=by
 intro l
 induction l with
 | nil=>intro us h; simp only [L0,Option.some.injEq] at h; simp [h]
 | cons y r ih =>
  intro us h
  simp only [L0] at h
  repeat' split at h
  all_goals try (cases h; done)
  rename_i v hv _ vs' hr
  cases h
  simp [V.eval hv,ih _ hr]
theorem Zh (V:Holds n ds a e) {ats:Array TypeId} {ty:TypeId} {vs:List Value} {d:Option Nat} (hb:E2 ops e i=some (.append,ats,ty,vs,d)) (hd:ltO d n=true)
 {v:Value} (hr:(Builtin.append_ ats ty vs.toArray).run P w = .ok v w') (hK : ∀ a',Holds n ds a' (putE d v e)->K a' w'):wpOp P ops Q i K a w:=by
 unfold E2 at hb
 repeat' split at hb
 all_goals try (cases hb; done)
 rename_i o ho _ c hop _ b hcl _ vs' hvs
 simp only [Option.some.injEq,Prod.mk.injEq] at hb
 obtain ⟨rfl,rfl,rfl,rfl,rfl⟩:=hb
 refine Dm V ho ?_
 have hargs:c.args.map a.eval=vs'.toArray:=by
  have:=Ks V _ _ hvs
  apply Array.toList_inj.1
  simpa using this
 have hrun:(execOp a.eval o).run P w = .ok (.value v) w':=by
  unfold execOp
  simp only [hop,resolve,hcl,hargs,invoke,builtin,Sem.run_bind,Sem.run_pure,Result.andThen_ok,run_program,hr]
 unfold Oper.wp
 rw [hrun]
 exact hK _ (V.putE v hd)
theorem Zf (V:Holds n ds a e) {ats:Array TypeId} {ty:TypeId} {vs:List Value} {d:Option Nat} (hb:E2 ops e i=some (.copy,ats,ty,vs,d)) (hd:ltO d n=true)
 {v:Value} (hr:(Builtin.copy_ ats ty vs.toArray).run P w = .ok v w') (hK : ∀ a',Holds n ds a' (putE d v e)->K a' w'):wpOp P ops Q i K a w:=by
 unfold E2 at hb
 repeat' split at hb
 all_goals try (cases hb; done)
 rename_i o ho _ c hop _ b hcl _ vs' hvs
 simp only [Option.some.injEq,Prod.mk.injEq] at hb
 obtain ⟨rfl,rfl,rfl,rfl,rfl⟩:=hb
 refine Dm V ho ?_
 have hargs:c.args.map a.eval=vs'.toArray:=by
  have:=Ks V _ _ hvs
  apply Array.toList_inj.1
  simpa using this
 have hrun:(execOp a.eval o).run P w = .ok (.value v) w':=by
  unfold execOp
  simp only [hop,resolve,hcl,hargs,invoke,builtin,Sem.run_bind,Sem.run_pure,Result.andThen_ok,run_program,hr]
 unfold Oper.wp
 rw [hrun]
 exact hK _ (V.putE v hd)
def elT (P:Program) (e:TypeId) (sz bytes:Nat):Bool :=
 match P.info? e with
 | some i=>match i.zero with
  | some z=>Nat.beq i.size sz && (Nat.beq i.bytes bytes && Nat.beq z.cells.size sz)
  | none=>false
 | none=>false
theorem aC {el:TypeId} {sz bytes:Nat} (h:elT P el sz bytes=true) : ∃ i z,P.info? el=some i/\i.zero=some z/\i.size=sz/\i.bytes=bytes/\z.cells.size=sz:=by
 unfold elT at h
 split at h
 · rename_i i hi
   split at h
   · rename_i z hz
     simp only [Bool.and_eq_true] at h
     exact ⟨i,z,hi,hz,Nat.eq_of_beq_eq_true h.1,Nat.eq_of_beq_eq_true h.2.1,Nat.eq_of_beq_eq_true h.2.2⟩
   · cases h
 · cases h
theorem mA {α:Type} {f : α->List Value} {el:TypeId} {sz bytes:Nat} {p:Option Addr} {c:Nat} {l l':List α} {T:OwL} {X:Nat->Prop} {w₀:World} (A B:OwL) {t tx ty:TypeId} {x:Value} {d:Nat}
 (E:Enc f sz) (V:Holds n ds a e) (O:Ow P X w₀ w (A++(T++B))) (h1:One f el sz p c l T) (hs:Src P sz tx x l'.length (l'.flatMap f) w) (hb:(l.length+l'.length)*bytes<=140737488355328) (h63:l.length+l'.length<=maxLen)
 (hK : ∀ a' w' p' c' T',Holds n ds a' ((d,.slice p' (l++l').length c')::e)->Ow P X w₀ w' (A++(T'++B))->One f el sz p' c' (l++l') T'->K a' w')
 (he:E2 ops e i=some (.append,#[t,tx],ty,[.slice p l.length c,x],some d):=by kernel_rfl) (hd:Nat.blt d n=true:=by kernel_rfl) (ht:P.underlying t=some (.slice el):=by kernel_rfl) (hi:elT P el sz bytes=true:=by kernel_rfl):wpOp P ops Q i K a w:=by
 obtain ⟨inf,z,q1,q2,q3,q4,q5⟩:=aC hi
 obtain ⟨p',c',T',w',hr,hO',h1'⟩:=eS ht q1 q2 q3 q4 E O.m h1 hs h63 hb q5 (ty:=ty)
 exact Zh V he hd hr fun a' hA'=>hK a' w' p' c' T' hA' hO'.o h1'
theorem mY {α:Type} {f : α->List Value} {el:TypeId} {L:OwL} {X:Nat->Prop} {w₀:World} (j:Nat) {t tx ty:TypeId} {x:Value} {xs:List α} {off dl dc m:Nat} {d:Option Nat} {l':List Value}
 (E:Enc f 1) (V:Holds n ds a e) (O:Ow P X w₀ w L) (hx:Vw f w x xs) (hm:m=min xs.length dl) (hfit:off+m<=(oC L j).length) (hl:D5 (oC L j) off ((xs.take m).flatMap f)=l')
 (hK : ∀ a' w',Holds n ds a' (putE d (.int .i64 (m:Int)) e)->Ow P X w₀ w' (oS L j l')->K a' w') (h63:m<=9223372036854775807)
 (he:E2 ops e i=some (.copy,#[t,tx],ty,[.slice (some ⟨oB L j,off,none⟩) dl dc,x],d):=by kernel_rfl) (hd:ltO d n=true:=by kernel_rfl) (ht:P.underlying t=some (.slice el):=by kernel_rfl)
 (hi:(P.info? el).map (·.size)=some 1:=by kernel_rfl) (hj:Nat.blt j L.length=true:=by kernel_rfl):wpOp P ops Q i K a w:=by
 have hjl:j < L.length:=by simpa [Nat.blt_eq] using hj
 have hB:=O.blk j hjl
 have gi:goInt m = .int .i64 (m:Int):=rfl
 rcases hx with ⟨rfl,rfl⟩ | ⟨ad,cap,rfl,hc⟩
 · have hm0:m=0:=by simpa using hm
   subst hm0
   have hr:=run_copy_nil (P:=P) w t tx ty el ⟨oB L j,off,none⟩ dl dc ht (by cases hq:P.info? el with | none=>simp [hq] at hi | some i=>rfl)
   refine Zf V he hd hr fun a' hA'=>?_
   have hl':l'=oC L j:=by rw [← hl]; simp [D5]
   refine hK a' w (gi ▸ hA') (O.turn j ⟨rfl,rfl,rfl,Nat.le_refl _,fun _ _ _=>rfl⟩ (hl' ▸ hB) hjl)
 · have hcs:((xs.take m).flatMap f).length=m:=by rw [E.flen,List.length_take,hm,Nat.mul_one]; omega
   have hsrc : ∀ k v,((xs.take m).flatMap f)[k]? = some v->w.cell? (ad.add k)=some v:=fun k v hk=>by
    refine hc k v ?_
    have e:xs.flatMap f=(xs.take m).flatMap f++(xs.drop m).flatMap f:=by rw [← List.flatMap_append,List.take_append_drop]
    rw [e,List.getElem?_append_left (List.getElem?_eq_some_iff.1 hk).1]; exact hk
   obtain ⟨hst,hB'⟩:=hB.store (P:=P) (vs:=(xs.take m).flatMap f) (off:=off) (by rw [hcs]; exact hfit) (E.fone _)
   have hld:=run_loadCells_list (P:=P) w ad ((xs.take m).flatMap f) hsrc
   have hr:(Builtin.copy_ #[t,tx] ty #[.slice (some ⟨oB L j,off,none⟩) dl dc,.slice (some ad) xs.length cap]).run P w = .ok (goInt m) (w.setRow (oB L j) (D5 (oC L j) off ((xs.take m).flatMap f)).toArray):=by
    have hn:Nat.min xs.length dl=m:=hm.symm
    cases hq:P.info? el with
    | none=>simp [hq] at hi
    | some inf =>
     have hi1:inf.size=1:=by simpa [hq] using hi
     rw [hcs] at hld
     simp [Builtin.copy_,run_underlying ht,Builtin.lenOf,Builtin.firstCells,sizeOf,typeInfo,hq,hi1,hn,hld,hst]
   rw [gi] at hr
   refine Zf V he hd hr fun a' hA'=>hK a' _ hA' ?_
   exact hl ▸ O.turn j (Hk w _ _) hB' hjl
end
theorem One.open {α:Type} {f : α->List Value} {e:TypeId} {sz:Nat} {p:Option Addr} {c:Nat} {l:List α} {T:OwL} (h:One f e sz p c l T) (hl : 0 < l.length) :
 ∃ b r,p=some ⟨b,0,none⟩/\T=[(b,e,l.flatMap f++r)]/\l.length<=c/\(l.flatMap f++r).length=c*sz:=by
 rcases h with ⟨_,_,rfl,_⟩ | ⟨b,r,rfl,h1,_,h2,rfl⟩
 · cases hl
 · exact ⟨b,r,rfl,rfl,h1,h2⟩
theorem One.ofBlk {α:Type} {f : α->List Value} {e:TypeId} {sz c:Nat} {b:Nat} {l:List α} {cs r:List Value} (hc:cs=l.flatMap f++r) (hl:l.length<=c) (hm:c<=maxLen) (hs:cs.length=c*sz):One f e sz (some ⟨b,0,none⟩) c l [(b,e,cs)]:=by
 subst hc; exact .inr ⟨b,r,rfl,hl,hm,hs,rfl⟩
section
variable {P:Program} {X:Nat->Prop} {w₀ w w':World}
theorem Ow.subP {A A' B:OwL} (h:Ow P X w₀ w (A++B)) (s:A'.Sublist A):Ow P X w₀ w (A'++B):=(h.m.less (s.append (List.Sublist.refl B))).o
theorem Ow.self {A T B:OwL} (h:Ow P X w₀ w (A++(T++B))):Ow P (inT T) w w T:=h.m.self.o
theorem Ow.pass {A T B T':OwL} (h:Ow P X w₀ w (A++(T++B))) (h':Ow P (inT T) w w' T'):Ow P X w₀ w' (A++(T'++B)):=(h.m.pass h'.m).o
theorem Ow.join {L T:OwL} (h:Ow P X w₀ w L) (h':Ow P Ag w w' T):Ow P X w₀ w' (L++T):=(h.m.join h'.m).o
theorem Ow.move {A B C:OwL} {x:Nat×TypeId×List Value} (h:Ow P X w₀ w (A++(x::(B++C)))):Ow P X w₀ w (A++(B++([x]++C))) :=
 (h.m.perm (List.Perm.append_left A (List.perm_middle (a:=x) (l₁:=B) (l₂:=C)).symm)).o
theorem Blk.vw {α:Type} {f : α->List Value} {b:Nat} {t:TypeId} {l:List Value} {xs:List α} {off c:Nat} (h:Blk w b t l) (hl:(l.drop off).take (xs.flatMap f).length=xs.flatMap f):Vw f w (.slice (some ⟨b,off,none⟩) xs.length c) xs:=by
 refine .inr ⟨_,c,rfl,fun j u hj=>?_⟩
 rw [Er]
 refine h.cell ?_
 rw [← hl,List.getElem?_take] at hj
 split at hj
 · rwa [List.getElem?_drop] at hj
 · cases hj
def sI (s:ByteArray):List Int:=s.data.toList.map fun b=>(b.toNat:Int)
theorem Mw (s:ByteArray):(sI s).length=s.size:=by unfold sI; rw [List.length_map,Array.length_toList]; rfl
theorem Uk (s:ByteArray):(sI s).flatMap fB=byteCells s:=by rw [gB]; simp only [sI,byteCells,List.map_map]; rfl
theorem Yj (s:ByteArray):U8s (sI s):=fun x hx=>by
 simp only [sI,List.mem_map] at hx
 obtain ⟨b,_,rfl⟩:=hx
 have:=b.toNat_lt
 omega
theorem Src.str {tx:TypeId} (hk:P.underlying tx=some .string) (s:ByteArray):Src P 1 tx (.string s) (sI s).length ((sI s).flatMap fB) w:=by
 rw [Mw,Uk]; exact Src.ofString w hk s
theorem U8s.app {xs ys:List Int} (h:U8s xs) (h':U8s ys):U8s (xs++ys):=fun x hx=>(List.mem_append.1 hx).elim (h x) (h' x)
def SlK (X:Nat->Prop) (w:World) (v:Value) (xs:List Int):Prop:=∀ w',Only X w w'->SlI w' v xs
theorem SlI.k {v:Value} {xs:List Int} (h:SlI w v xs):SlK Ag w v xs:=fun w' k=>h.keep k
theorem SlI.far {v:Value} {xs:List Int} (h:SlI w₀ v xs) (k:Only X w₀ w) (hX : ∀ b,X b->w₀.heap.size<=b) {T:OwL} (hT : ∀ x∈T,w₀.heap.size<=x.1\/X x.1):SlK (inT T) w v xs:=fun w' k'=>by
 refine ⟨h.1,?_⟩
 rcases h.2 with e | ⟨ad,cap,rfl,hc⟩
 · exact .inl e
 · refine .inr ⟨ad,cap,rfl,fun i hi=>?_⟩
   have h1:=hc i hi
   have hlt:=World.block_lt_of_cell? w₀ _ h1
   have h2:=k.cell h1 fun hx=>absurd (hX _ hx) (by omega)
   refine k'.cell h2 ?_
   rintro ⟨x,hx,e⟩
   rcases hT x hx with h | h
   · omega
   · have:=hX _ h; omega
theorem Ow.far {A T B:OwL} (h:Ow P X w₀ w (A++(T++B))) : ∀ x∈T,w₀.heap.size<=x.1\/X x.1:=fun x hx=>h.m.new x (List.mem_append_right _ (List.mem_append_left _ hx))
end
def P2 (ops:Array Oper) (e:Env) (i:Nat):Option (TypeId×TypeId×Value×Option Nat) :=
 match M5 ops e i with
 | some o=>match o.op with
  | .convert src dst x=>match val e x with
   | some v=>some (src,dst,v,o.dst)
   | none=>none
  | _=>none
 | none=>none
theorem Uw : ∀ (L:OwL) (i:Nat),oS L i (oC L i)=L
 | [],_=>rfl
 | (_,_,_)::_,0=>rfl
 | x::r,i+1=>congrArg (x::·) (Uw r i)
theorem mV {P:Program} {ops:Array Oper} {Q:Exit->Act->World->Prop} {n:Nat} {ds:List Deferred} {a:Act} {e:Env} {w:World} {K:Act->World->Prop} {i:Nat} {L:OwL} {X:Nat->Prop} {w₀:World} (j:Nat) {t el:TypeId} {off m c d:Nat}
 (V:Holds n ds a e) (O:Ow P X w₀ w L) (hK : ∀ a' w',Holds n ds a' ((d,.slice (some ⟨oB L j,off,none⟩) m c)::e)->Ow P X w₀ w' L->K a' w')
 (he:P2 ops e i=some (t,t,.slice (some ⟨oB L j,off,none⟩) m c,some d):=by kernel_rfl) (hd:Nat.blt d n=true:=by kernel_rfl) (ht:P.underlying t=some (.slice el):=by kernel_rfl) (hel:P.underlying el=some (.int .u8):=by kernel_rfl) (hj:Nat.blt j L.length=true:=by kernel_rfl):wpOp P ops Q i K a w:=by
 have hjl:j < L.length:=by simpa [Nat.blt_eq] using hj
 obtain ⟨J,hg,hf⟩:=O.blk j hjl
 unfold P2 at he
 repeat' split at he
 all_goals try (cases he; done)
 rename_i o ho _ src dst x hop _ v hv
 simp only [Option.some.injEq,Prod.mk.injEq] at he
 obtain ⟨rfl,rfl,rfl,hdst⟩:=he
 refine Dm V ho ?_
 have hsh:w.shape? (oB L j)=some (oT L j,(oC L j).length):=by
  unfold World.shape?
  rw [hg]; simp
 have hc:(convert dst dst (.slice (some ⟨oB L j,off,none⟩) m c)).run P w = .ok (.slice (some ⟨oB L j,off,none⟩) m c) (w.freeze ⟨oB L j,(oC L j).length,none⟩ 1):=by
  simp [convert,run_underlying ht,run_underlying hel,markStringish,hsh]
 have hrun:(execOp a.eval o).run P w = .ok (.value (.slice (some ⟨oB L j,off,none⟩) m c)) (w.freeze ⟨oB L j,(oC L j).length,none⟩ 1):=by
  unfold execOp
  simp only [hop,V.eval hv,Sem.run_bind,Sem.run_pure,Result.andThen_ok,run_program,hc]
 unfold Oper.wp
 rw [hrun]
 have hlt:oB L j < w.heap.size:=(Array.getElem?_eq_some_iff.1 hg).1
 have hvv:w.heap[oB L j] = .cells (oC L j).toArray (oT L j) J:=(Array.getElem?_eq_some_iff.1 hg).2
 have hB:Blk (w.freeze ⟨oB L j,(oC L j).length,none⟩ 1) (oB L j) (oT L j) (oC L j):=by
  refine ⟨if J.1 == J.2 then ((oC L j).length,(oC L j).length+1) else (min J.1 (oC L j).length,max J.2 ((oC L j).length+1)),?_,?_⟩
  · unfold World.freeze
    rw [if_neg (by decide)]
    simp only
    rw [Array.getElem?_eq_getElem (by simpa using hlt),Array.getElem_modify]
    simp [hvv]
  · right
    split
    · exact Nat.le_refl _
    · rename_i h
      have:J.1≠J.2:=by simpa using h
      simp only; omega
 have hOn:Only (fun k=>k=oB L j) w (w.freeze ⟨oB L j,(oC L j).length,none⟩ 1):=by
  unfold World.freeze
  rw [if_neg (by decide)]
  exact ⟨rfl,rfl,rfl,by simp,fun k hk hn=>by simp [Array.getElem?_modify,Ne.symm hn]⟩
 refine hK _ _ ?_ ?_
 · rw [hdst]; exact V.put _ (by simpa [Nat.blt_eq] using hd)
 · have:=O.turn j hOn hB hjl
   rwa [Uw] at this
section
variable {P:Program} {ops:Array Oper} {Q:Exit->Act->World->Prop} {n:Nat} {ds:List Deferred} {a:Act} {e:Env} {w:World} {K:Act->World->Prop} {i:Nat}
theorem mP {f:FuncId} {args:List Value} {d:Option Nat} {fn:Func} (V:Holds n ds a e) (hf:P.funcs[f]? = some fn)
 (h:Calls P f args.toArray w fun en w'=>(∃ v,en = .returned v/\∀ a',Holds n ds a' (putE d v e)->K a' w')\/∃ ch,en = .panicked ch/\Q (.panic ch) a w') (hc:Ht ops e i=some (f,args,d):=by kernel_rfl) (hd:ltO d n=true:=by kernel_rfl) (hn:(fn.name == "runtime.NumGoroutine")=false:=by kernel_rfl) (hbd:fn.body.isNone=false:=by kernel_rfl):wpOp P ops Q i K a w :=
 cV V hc hd hf hn hbd h
end
section
variable {P:Program} {X:Nat->Prop} {w₀ w w':World}
theorem Ow.pass2 {A T B T' T2:OwL} (h:Ow P X w₀ w (A++(T++B))) (h':Ow P (inT T) w w' (T'++T2)):Ow P X w₀ w' ((A++(T'++B))++T2):=by
 have h1:=(h.m.pass h'.m).o (P:=P)
 refine (h1.m.perm ?_).o
 simp only [jV]
 refine List.Perm.append_left A (List.Perm.append_left T' ?_)
 exact List.perm_append_comm
theorem Ow.swap {A T1 T2 B:OwL} (h:Ow P X w₀ w (A++(T1++(T2++B)))):Ow P X w₀ w (A++(T2++(T1++B))):=by
 refine (h.m.perm (List.Perm.append_left A ?_)).o
 rw [← jV,← jV]
 exact List.Perm.append_right B List.perm_append_comm
theorem Ow.drop {A T B:OwL} (h:Ow P X w₀ w (A++(T++B))):Ow P X w₀ w (A++B):=(h.m.less (List.Sublist.append_left (List.sublist_append_right T B) A)).o
theorem Ow.ofBlk {b:Nat} {t:TypeId} {l:List Value} (h:Blk w b t l):Ow P (inT [(b,t,l)]) w w [(b,t,l)] :=
 (⟨Only.refl _ _,fun x hx=>by rw [jZ] at hx; subst hx; exact h,List.pairwise_singleton _ _,fun x hx=> .inr ⟨x,hx,rfl⟩⟩:OwM _ _ _ _).o
theorem Vw.keep {α:Type} {f : α->List Value} {v:Value} {l:List α} (h:Vw f w v l) (k:Only Ag w w'):Vw f w' v l:=by
 rcases h with h | ⟨ad,c,rfl,hc⟩
 · exact .inl h
 · exact .inr ⟨ad,c,rfl,fun j u hj=>k.cell (hc j u hj) fun h=>h⟩
theorem Vw.pos {α:Type} {f : α->List Value} {p:Option Addr} {m c:Nat} {l:List α} (h:Vw f w (.slice p m c) l) (hm : 0 < m) : ∃ ad,p=some ad:=by
 rcases h with ⟨h,_⟩ | ⟨ad,c,h,_⟩
 · cases h; cases hm
 · cases h; exact ⟨ad,rfl⟩
theorem Px {α:Type} {f : α->List Value} {sz:Nat} (E:Enc f sz) : ∀ (l:List α) (i:Nat) (x : α) (k:Nat) (v:Value),l[i]? = some x->(f x)[k]? = some v->(l.flatMap f)[i*sz+k]? = some v
 | [],i,x,k,v,h,_=>by simp at h
 | y::l,0,x,k,v,h,hk=>by
  simp only [List.getElem?_cons_zero,Option.some.injEq] at h
  subst h
  rw [List.flatMap_cons,Nat.zero_mul,Nat.zero_add,List.getElem?_append_left (List.getElem?_eq_some_iff.1 hk).1]; exact hk
 | y::l,i+1,x,k,v,h,hk=>by
  simp only [List.getElem?_cons_succ] at h
  have:=Px E l i x k v h hk
  rw [List.flatMap_cons,List.getElem?_append_right (by rw [E.len,Nat.succ_mul]; omega),E.len,show (i+1)*sz+k - sz=i*sz+k by rw [Nat.succ_mul]; omega]
  exact this
theorem Vw.cell {α:Type} {f : α->List Value} {sz:Nat} (E:Enc f sz) {ad:Addr} {m c:Nat} {l:List α} (h:Vw f w (.slice (some ad) m c) l) {i:Nat} {x : α} (hx:l[i]? = some x) {k:Nat} {v:Value} (hk:(f x)[k]? = some v):w.cell? (ad.add (i*sz+k))=some v:=by
 rcases h with ⟨h,_⟩ | ⟨ad',c',h,hc⟩
 · cases h
 · cases h; exact hc _ _ (Px E l i x k v hx hk)
theorem add_add (ad:Addr) (i j:Nat):(ad.add i).add j=ad.add (i+j):=by
 unfold Addr.add
 repeat' split
 all_goals simp_all [Nat.add_assoc]
theorem Vw.ld1 {α:Type} {f : α->List Value} {sz:Nat} (E:Enc f sz) {ad:Addr} {m c:Nat} {l:List α} (h:Vw f w (.slice (some ad) m c) l) {i:Nat} {x : α} (hx:l[i]? = some x) {k:Nat} {v:Value} {t:TypeId} (hk:(f x)[k]? = some v) (ht:K6 P t=true:=by kernel_rfl):Ld P w ((ad.add (i*sz)).add k) t v:=by
 rw [add_add]; exact E1 ht (h.cell E hx hk)
theorem Vw.ld0 {α:Type} {f : α->List Value} {sz:Nat} (E:Enc f sz) {ad:Addr} {m c:Nat} {l:List α} (h:Vw f w (.slice (some ad) m c) l) {i:Nat} {x : α} (hx:l[i]? = some x) {v:Value} {t:TypeId} (hk:(f x)[0]? = some v) (ht:K6 P t=true:=by kernel_rfl):Ld P w (ad.add (i*sz)) t v:=E1 ht (h.cell E hx hk)
theorem Vw.ldn {α:Type} {f : α->List Value} {sz:Nat} (E:Enc f sz) {ad:Addr} {m c:Nat} {l:List α} (h:Vw f w (.slice (some ad) m c) l) {i:Nat} {x : α} (hx:l[i]? = some x) {t:TypeId} (ht:Tv P t=some sz:=by kernel_rfl):Ld P w (ad.add (i*sz)) t (.agg (f x).toArray) :=
 S4 ht (E.len x) fun j v hj=>by rw [add_add]; exact h.cell E hx hj
theorem Av {α:Type} (l:List α) (d : α) {i:Nat} (h:i < l.length):l[i]? = some (l.getD i d):=by
 rw [List.getD_eq_getElem?_getD,List.getElem?_eq_getElem h]; rfl
end
section
variable {P:Program} {ops:Array Oper} {Q:Exit->Act->World->Prop} {n:Nat} {ds:List Deferred} {a:Act} {e:Env} {w:World} {K:Act->World->Prop} {i:Nat}
def Vm (ops:Array Oper) (e:Env) (i:Nat):Option (FuncId×Array Value) :=
 match M5 ops e i with
 | some o=>match o.op with
  | .defer c=>match c.callee with
   | .value x=>match c.args.toList with
    | []=>match o.dst with
     | none=>match val e x with
      | some (.func (.func f) fst cap)=>match fst.toList with
       | []=>some (f,cap)
       | _=>none
      | _=>none
     | some _=>none
    | _=>none
   | _=>none
  | _=>none
 | none=>none
theorem mD {f:FuncId} {cap:Array Value} (V:Holds n ds a e) (hK : ∀ a',Holds n ({target:= .fn (.func f) cap,args:=#[]}::ds) a' e->K a' w) (he:Vm ops e i=some (f,cap):=by kernel_rfl):wpOp P ops Q i K a w:=by
 unfold Vm at he
 repeat' split at he
 all_goals try (cases he; done)
 rename_i o ho _ c hop _ x hcl _ hargs _ hdst _ f' fst cap' hx _ hfst
 simp only [Option.some.injEq,Prod.mk.injEq] at he
 obtain ⟨rfl,rfl⟩:=he
 have e1:c.args=#[]:=Array.toList_inj.1 hargs
 have e2:fst=#[]:=Array.toList_inj.1 hfst
 refine Dm V ho ?_
 have hrun:(execOp a.eval o).run P w = .ok (.defer {target:= .fn (.func f') cap',args:=#[]}) w:=by
  unfold execOp
  simp only [hop,resolve,hcl,V.eval hx,Deferred.ofValue,e1,e2,Sem.run_bind,Sem.run_pure,Result.andThen_ok]
  simp
 unfold Oper.wp
 rw [hrun]
 show K ({a with defers:=_::a.defers}.put o.dst undef) w
 rw [hdst]
 exact hK _ ⟨V.size,by show _::a.defers=_; rw [V.dfr],V.slot⟩
theorem Pg {fn:Func} (V:Holds n ds a e) (vs:List Value) {cs:List (Option (Addr×TypeId))} {us:List Value} (hc:Qr P w cs us) (hr:L2 e fn.results.toList vs=some (cs,us)):(results fn a.tmps).run P w = .ok (Pn us) w:=by
 have h:=bB (P:=P) (fn:=fn) (R:=fun en _=>en = .returned (Pn us)) (a:={a with defers:=[]}) (n:=n) (e:=e) (w:=w) ⟨V.size,rfl,V.slot⟩ vs hr hc rfl
 obtain ⟨_,v,h1,h2⟩:=h
 cases h2
 exact h1
theorem bD {f:FuncId} {fn:Func} {c:Code} {args:List Value} {R:Ending->World->Prop} (hf:P.funcs[f]? = some fn) (hb:fn.body=some c) {m n:Nat} (hm:fn.ntmps=args.length+m) (hn:args.length+m=n)
 (h : ∀ a,Holds n [] a (Mp args 0)->c.wp P (bodyPostD P fn R) a w):Calls P f args.toArray w R:=by
 refine calls_of_wp_defers hf hb ?_
 subst hn
 have:=h _ (Holds.begin args m)
 have he:fn.ntmps - args.toArray.size=m:=by simp [hm]
 rw [he]
 exact this
theorem dR {f:FuncId} {fc:Func} {cap:Array Value} (hf:P.funcs[f]? = some fc) (hn:(fc.name == "runtime.NumGoroutine")=false) (hbd:fc.body.isNone=false):(invoke (.fn (.func f) cap) #[]).run P w = .ok (.enter f cap) w:=by
 simp only [invoke,callFunc,Sem.run_bind,Sem.run_pure,Result.andThen_ok,run_program,hf,hn,hbd,Bool.false_eq_true,if_false]
 simp
theorem J7 {fn fc:Func} {f:FuncId} {cap:Array Value} {R:Ending->World->Prop} {u:FrameMode} {v:Value} {S:World->Prop} (V:Holds n [{target:= .fn (.func f) cap,args:=#[]}] a e) (hu:u≠ .run) (hf:P.funcs[f]? = some fc)
 (hcl:CallsD P f cap u w fun en u' w'=>en = .returned v/\settle u' = .returning/\S w') (hS : ∀ w',S w'->∃ vs cs us,Qr P w' cs us/\L2 e fn.results.toList vs=some (cs,us)/\R (.returned (Pn us)) w')
 (hn:(fc.name == "runtime.NumGoroutine")=false:=by kernel_rfl) (hbd:fc.body.isNone=false:=by kernel_rfl):Leaves P fn a.tmps R a.defers u w:=by
 rw [V.dfr]
 refine leaves_cons hu (dR hf hn hbd) (hcl.mono fun en u' w' hh=>?_)
 obtain ⟨rfl,hs,hw⟩:=hh
 show Leaves P fn a.tmps R [] (settle u') w'
 rw [hs]
 obtain ⟨vs,cs,us,h1,h2,h3⟩:=hS w' hw
 exact ⟨Pn us,Pg V vs h1 h2,h3⟩
end
section
variable {P:Program} {Q:Exit->Act->List Frame->World->Prop} {n:Nat} {ds:List Deferred} {a:Act} {e:Env} {w:World}
theorem Pi {c₀:Frame} {cs:List Frame} {v:Value} {older:List PanicEntry} (hu:c₀.mode = .panicking ({v,recovered:=false}::older)):recoverD (c₀::cs)=some (v,{c₀ with mode:= .panicking ({v,recovered:=true}::older)}::cs):=by
 unfold recoverD
 simp only [hu]
theorem Qt {c₀:Frame} {cs:List Frame} (hu:c₀.mode = .returning):recoverD (c₀::cs)=none:=by
 unfold recoverD
 simp only [hu]
theorem M1 {id d d2:Nat} {o1 o2:Oper} {y:Code} {c:Call} {cs cs':List Frame} {v:Value} (V:Holds n ds a e) (h1:o1.op = .call c) (h1c:c.callee = .builtin .recover) (h1a:c.args=#[]) (h1d:o1.dst=some d) (h1g:o1.guard=none) (h2:o2.op = .assign (.tmp d)) (h2d:o2.dst=some d2) (h2g:o2.guard=none)
 (hdn:d < n) (hd2:d2 < n) (hr:(match recoverD cs with | some (v,cs')=>(v,cs') | none=>(Value.nilIface,cs))=(v,cs')) (hK : ∀ a',Holds n ds a' ((d2,v)::(d,v)::e)->y.wp P (fun e a' w'=>Q e a' cs' w') a' w) :
 (Code.region id #[o1,o2] false).wpS P (Exit.thenS (y.wpS P Q) Q) a cs w:=by
 refine wpS_region ?_
 have hw1 : ∀ l,Region.wanted o1 l=true:=fun l=>by unfold Region.wanted; rw [h1g]
 have hw2 : ∀ l,Region.wanted o2 l=true:=fun l=>by unfold Region.wanted; rw [h2g]
 have r1 : ∀ a w,(execOp (Act.eval a) o1).run P w = .ok .recover w:=fun a w=>by
  unfold execOp
  simp [h1,resolve,h1c,invoke,builtin,h1a]
 have key:wpOpsS P #[o1,o2] (Exit.thenS (y.wpS P Q) Q) [1] (a.put (some d) v) cs' w:=by
  have r2:(execOp (Act.eval (a.put (some d) v)) o2).run P w = .ok (.value v) w:=by
   unfold execOp
   have:=(V.put v hdn).slot d v (by simp [get])
   simp only [h2]
   show Result.ok (Next.value ((a.put (some d) v).tmps.getD d undef)) w=_
   rw [this]
  have hi2:(#[o1,o2]:Array Oper)[1]? = some o2:=rfl
  simp only [wpOpsS,hi2,hw2,if_true,r2,Oper.upon]
  rw [h2d]
  exact wpS_of_wp (hK _ ((V.put v hdn).put v hd2))
 have hi1:(#[o1,o2]:Array Oper)[0]? = some o1:=rfl
 show wpOpsS P #[o1,o2] _ [0,1] a cs w
 rw [wpOpsS]
 simp only [hi1,hw1,if_true,r1]
 cases hcs:recoverD cs with
 | none=>rw [hcs] at hr; cases hr; simp only [h1d]; exact key
 | some q=>obtain ⟨q1,q2⟩:=q; rw [hcs] at hr; cases hr; simp only [h1d]; exact key
end
section
variable {P:Program} {w:World}
theorem Vw.ldT {ad:Addr} {m c:Nat} {l:List ByteArray} (h:Vw fT w (.slice (some ad) m c) l) {i:Nat} {x:ByteArray} (hx:l[i]? = some x) {t:TypeId} (ht:K6 P t=true:=by kernel_rfl):Ld P w (ad.add i) t (.string x):=by
 have:=h.cell Fi (k:=0) hx (v:= .string x) rfl
 rw [Nat.mul_one,Nat.add_zero] at this
 exact E1 ht this
theorem C7 {α:Type} {p : α->Bool} {l:List α} {i:Nat} {x : α} (hx:l[i]? = some x) (h:p x=false):l.all p=false:=by
 rw [List.all_eq_false]
 exact ⟨x,List.mem_of_getElem? hx,by simp [h]⟩
theorem Ck {α:Type} {p : α->Bool} {l:List α} {i:Nat} {x : α} (ho:(l.take i).all p=true) (hx:l[i]? = some x) (h:p x=true):(l.take (i+1)).all p=true:=by
 rw [List.take_add_one,hx,List.all_append,ho]
 simp [h]
theorem apd {α:Type}:(∀ a b c:List α,(a++b)++c=a++(b++c))/\(∀ (a : α) (b c:List α),(a::b)++c=a::(b++c))/\(∀ b:List α,[]++b=b)/\∀ b:List α,b++[]=b :=
 ⟨jV,fun _ _ _=>rfl,fun _=>rfl,kC⟩
theorem Bc {α:Type} {p : α->Bool} {l:List α} {i:Nat} (ho:(l.take i).all p=true) (hi : ¬ i < l.length):l.all p=true:=by
 rwa [List.take_of_length_le (by omega)] at ho
end
end Go.Proofs.Sx
namespace Go.Proofs.YtdljjajjonfjbaaGreatDoor
open Go Go.RowKit Go.Proofs.Sx
structure CmdL where
 words:List ByteArray
 inp:ByteArray
 out:ByteArray
 app:Bool
structure JobL where
 cmds:List CmdL
 bg:Bool
theorem Kw (s:ByteArray) (i:Nat) : 0<=sb s i/\sb s i<=255:=by
 unfold sb
 have:=(s.data.toList.getD i 0).toNat_lt
 omega
def A2 (c:Int):Bool:=decide ((97<=c/\c<=122)\/(48<=c/\c<=57)\/c=46\/c=45\/c=95\/c=47)
def C6 (c:Int):Bool:=decide (c=32\/c=9)
def Kz (p:Int->Bool) (s:ByteArray):Nat->Nat->Nat
 | 0,_=>0
 | k+1,n=>if n < s.size/\p (sb s n)=true then Kz p s k (n+1)+1 else 0
def wl (s:ByteArray) (n:Nat):Nat:=Kz A2 s (s.size - n) n
def bw (s:ByteArray) (n:Nat):Nat:=Kz C6 s (s.size - n) n
def sk (s:ByteArray) (n:Nat):Nat:=n+bw s n
section
variable {p:Int->Bool} {s:ByteArray} {n:Nat}
theorem Qn (h:n < s.size) (hp:p (sb s n)=true):Kz p s (s.size - n) n=Kz p s (s.size - (n+1)) (n+1)+1:=by
 rw [show s.size - n=(s.size - (n+1))+1 by omega]
 simp only [Kz]
 rw [if_pos ⟨h,hp⟩]
theorem Qm (h : ¬ (n < s.size/\p (sb s n)=true)):Kz p s (s.size - n) n=0:=by
 cases hk:s.size - n with
 | zero=>rfl
 | succ k=>simp only [Kz]; rw [if_neg h]
theorem Sk (p:Int->Bool) (s:ByteArray) : ∀ k n,Kz p s k n<=k
 | 0,_=>Nat.le_refl 0
 | k+1,n=>by simp only [Kz]; split; {have:=Sk p s k (n+1); omega}; {omega}
theorem Yk (p:Int->Bool) (s:ByteArray) : ∀ k n i,i < Kz p s k n->n+i < s.size/\p (sb s (n+i))=true
 | 0,n,i,h=>absurd h (Nat.not_lt_zero _)
 | k+1,n,i,h=>by
  simp only [Kz] at h
  split at h
  · rename_i hc
    cases i with
    | zero=>exact hc
    | succ i=>have:=Yk p s k (n+1) i (by omega); rw [show n+(i+1)=n+1+i by omega]; exact this
  · exact absurd h (Nat.not_lt_zero _)
theorem L4 (h:n < s.size) (hp:A2 (sb s n)=true):wl s n=wl s (n+1)+1:=Qn h hp
theorem Dn (h : ¬ (n < s.size/\A2 (sb s n)=true)):wl s n=0:=Qm h
theorem eZ (s:ByteArray) (n:Nat):wl s n<=s.size - n:=Sk _ _ _ _
theorem X7 : 0 < wl s n↔n < s.size/\A2 (sb s n)=true:=by
 constructor
 · intro h; have:=Yk A2 s _ n 0 h; simpa using this
 · intro h; rw [L4 h.1 h.2]; omega
theorem L5 (h:n < s.size) (hp:C6 (sb s n)=true):sk s n=sk s (n+1):=by
 unfold sk bw; rw [Qn h hp]; omega
theorem Pa (h : ¬ (n < s.size/\C6 (sb s n)=true)):sk s n=n:=by unfold sk bw; rw [Qm h]; rfl
theorem Mr (h:n<=s.size):sk s n<=s.size:=by
 unfold sk bw; have:=Sk C6 s (s.size - n) n; omega
theorem U5 (s:ByteArray) (n:Nat):n<=sk s n:=Nat.le_add_right _ _
end
def kd (s:ByteArray) (n:Nat):Nat :=
 if n < s.size then
  if A2 (sb s n)=true then 1
  else if sb s n=60 then 2
  else if sb s n=62 then (if n+1 < s.size/\sb s (n+1)=62 then 4 else 3)
  else if sb s n=59 then 5 else if sb s n=38 then 6 else if sb s n=124 then 7 else 8
 else 0
def tlK (w:Nat):Nat->Nat
 | 0=>0
 | 1=>w
 | 4=>2
 | 8=>0
 | _=>1
def tl (s:ByteArray) (n:Nat):Nat:=tlK (wl s n) (kd s n)
def tk (s:ByteArray) (n:Nat):ByteArray:=s.extract n (n+tl s n)
def nx (s:ByteArray) (n:Nat):Nat:=sk s (n+tl s n)
section
variable {s:ByteArray} {n:Nat}
theorem Bo (s:ByteArray) (n:Nat) :
 (kd s n=0/\¬ n < s.size)\/(kd s n=1/\n < s.size/\A2 (sb s n)=true) \/
 (n < s.size/\A2 (sb s n)=false/\((kd s n=2/\sb s n=60)\/(kd s n=3/\sb s n=62/\¬ (n+1 < s.size/\sb s (n+1)=62))\/(kd s n=4/\sb s n=62/\n+1 < s.size/\sb s (n+1)=62) \/
  (kd s n=5/\sb s n=59)\/(kd s n=6/\sb s n=38)\/(kd s n=7/\sb s n=124)\/(kd s n=8/\sb s n≠60/\sb s n≠62/\sb s n≠59/\sb s n≠38/\sb s n≠124))):=by
 unfold kd
 by_cases h:n < s.size
 · rw [if_pos h]
   by_cases hp:A2 (sb s n)=true
   · rw [if_pos hp]; exact .inr (.inl ⟨rfl,h,hp⟩)
   · rw [if_neg hp]
     refine .inr (.inr ⟨h,by simpa using hp,?_⟩)
     by_cases h1:sb s n=60
     · rw [if_pos h1]; exact .inl ⟨rfl,h1⟩
     rw [if_neg h1]
     by_cases h2:sb s n=62
     · rw [if_pos h2]
       by_cases h3:n+1 < s.size/\sb s (n+1)=62
       · rw [if_pos h3]; exact .inr (.inr (.inl ⟨rfl,h2,h3.1,h3.2⟩))
       · rw [if_neg h3]; exact .inr (.inl ⟨rfl,h2,h3⟩)
     rw [if_neg h2]
     by_cases h3:sb s n=59
     · rw [if_pos h3]; simp [h3]
     rw [if_neg h3]
     by_cases h4:sb s n=38
     · rw [if_pos h4]; simp [h4]
     rw [if_neg h4]
     by_cases h5:sb s n=124
     · rw [if_pos h5]; simp [h5]
     rw [if_neg h5]; simp [h1,h2,h3,h4,h5]
 · rw [if_neg h]; exact .inl ⟨rfl,h⟩
theorem N6 {k:Nat} (h:kd s n=k):tl s n=tlK (wl s n) k:=by unfold tl; rw [h]
theorem N7 (s:ByteArray) (n:Nat):tl s n<=s.size - n:=by
 have hw:=eZ s n
 rcases Bo s n with ⟨h,_⟩ | ⟨h,_⟩ | ⟨hn,_,h⟩
 · rw [N6 h]; exact Nat.zero_le _
 · rw [N6 h]; exact hw
 · rcases h with ⟨h,_⟩ | ⟨h,_⟩ | ⟨h,_,h2,_⟩ | ⟨h,_⟩ | ⟨h,_⟩ | ⟨h,_⟩ | ⟨h,_⟩ <;> rw [N6 h] <;> simp only [tlK] <;> omega
theorem Dx (s:ByteArray) (n:Nat):(kd s n=0/\tl s n=0)\/(kd s n=8/\tl s n=0)\/(kd s n=1/\tl s n=wl s n/\1<=wl s n)\/(kd s n=4/\tl s n=2)\/((kd s n=2\/kd s n=3\/kd s n=5\/kd s n=6\/kd s n=7)/\tl s n=1):=by
 rcases Bo s n with ⟨h,_⟩ | ⟨h,h1,h2⟩ | ⟨hn,_,h⟩
 · exact .inl ⟨h,N6 h⟩
 · exact .inr (.inr (.inl ⟨h,N6 h,X7.2 ⟨h1,h2⟩⟩))
 · rcases h with ⟨h,_⟩ | ⟨h,_⟩ | ⟨h,_,h2,_⟩ | ⟨h,_⟩ | ⟨h,_⟩ | ⟨h,_⟩ | ⟨h,_⟩ <;> have ht:=N6 h <;> simp only [tlK] at ht <;> omega
theorem Jd (h:n<=s.size):nx s n<=s.size:=by
 unfold nx; have:=N7 s n; exact Mr (by omega)
theorem Ux (h:kd s n≠0/\kd s n≠8):n < nx s n:=by
 unfold nx
 have h1:=U5 s (n+tl s n)
 have h2:=Dx s n
 omega
theorem F4 (s:ByteArray) (n m:Nat):(s.extract n m).data.toList=(s.data.toList.drop n).take (m - n):=by
 simp only [ByteArray.data_extract,Array.toList_extract,List.extract_eq_take_drop]
theorem Ek (s:ByteArray) (n:Nat):(tk s n).size=tl s n:=by
 unfold tk
 have h:=N7 s n
 rw [kH]; omega
theorem Mu {a b i:Nat} (h:i < b - a):sb (s.extract a b) i=sb s (a+i):=by
 unfold sb
 rw [F4,List.getD_eq_getElem?_getD,List.getD_eq_getElem?_getD,List.getElem?_take,if_pos h,List.getElem?_drop]
theorem Lk {i:Nat} (h:i < tl s n):sb (tk s n) i=sb s (n+i):=Mu (by omega)
theorem Bt (s:ByteArray):s.data.toList.length=s.size:=by rw [Array.length_toList]; rfl
theorem Aw (s:ByteArray):(s.toList == (⟨#[]⟩:ByteArray).toList)=decide (s.size=0):=by
 rw [Cd,Cd,← Bt s]
 cases s.data.toList with
 | nil=>rfl
 | cons x r=>simp
theorem Qi (s:ByteArray) (i:Nat) (x:UInt8) (h:i < s.size):sb s i=(x.toNat:Int)↔s.data.toList[i]? = some x:=by
 unfold sb
 rw [← Bt] at h
 rw [List.getD_eq_getElem?_getD,List.getElem?_eq_getElem h]
 simp only [Option.getD_some,Option.some.injEq]
 constructor
 · intro e; exact UInt8.toNat_inj.1 (by omega)
 · intro e; rw [e]
theorem Ug (s:ByteArray) (x:UInt8):(s.toList == (⟨#[x]⟩:ByteArray).toList)=decide (s.size=1/\sb s 0=(x.toNat:Int)):=by
 rw [Cd,Cd]
 have hs:=Bt s
 have hb:=Qi s 0 x
 show (s.data.toList == [x])=_
 match hl:s.data.toList with
 | []=>rw [hl] at hs; simp only [jT] at hs; rw [← hs]; simp
 | [y] =>
  rw [hl] at hs hb
  simp only [jS,jT] at hs
  have:=hb (by omega)
  simp only [List.getElem?_cons_zero,Option.some.injEq] at this
  simp only [← hs,this,true_and]
  rw [Bool.eq_iff_iff]; simp
 | y::z::r=>rw [hl] at hs; simp only [jS] at hs; rw [Bool.eq_iff_iff]; simp; omega
theorem O6 (s:ByteArray) (x y:UInt8):(s.toList == (⟨#[x,y]⟩:ByteArray).toList)=decide (s.size=2/\sb s 0=(x.toNat:Int)/\sb s 1=(y.toNat:Int)):=by
 rw [Cd,Cd]
 have hs:=Bt s
 have hb:=Qi s 0 x
 have hc:=Qi s 1 y
 show (s.data.toList == [x,y])=_
 match hl:s.data.toList with
 | []=>rw [hl] at hs; simp only [jT] at hs; rw [← hs]; simp
 | [y']=>rw [hl] at hs; simp only [jS,jT] at hs; rw [← hs]; simp
 | [x',y'] =>
  rw [hl] at hs hb hc
  simp only [jS,jT] at hs
  have h1:=hb (by omega)
  have h2:=hc (by omega)
  simp only [List.getElem?_cons_zero,List.getElem?_cons_succ,Option.some.injEq] at h1 h2
  simp only [← hs,h1,h2,true_and]
  rw [Bool.eq_iff_iff]; simp
 | x'::y'::z::r=>rw [hl] at hs; simp only [jS] at hs; rw [Bool.eq_iff_iff]; simp; omega
theorem Q5 {c:Int} (h:A2 c=true):c≠60/\c≠62/\c≠59/\c≠38/\c≠124/\c≠32/\c≠9:=by
 unfold A2 at h
 have:=jL h
 omega
theorem Ue (s:ByteArray) (n:Nat):((tk s n).toList == (⟨#[]⟩:ByteArray).toList)=decide (kd s n=0\/kd s n=8):=by
 rw [Aw,Ek]
 have:=Dx s n
 exact decide_eq_decide.2 (by omega)
theorem Mi (x:UInt8) (k:Nat) (hx:(x.toNat=60/\k=2)\/(x.toNat=62/\k=3)\/(x.toNat=59/\k=5)\/(x.toNat=38/\k=6)\/(x.toNat=124/\k=7)) (s:ByteArray) (n:Nat):((tk s n).toList == (⟨#[x]⟩:ByteArray).toList)=decide (kd s n=k):=by
 rw [Ug,Ek]
 refine decide_eq_decide.2 ?_
 have h1:=Dx s n
 have h2:=Bo s n
 constructor
 · rintro ⟨e1,e2⟩
   rw [Lk (by omega),Nat.add_zero] at e2
   rcases h2 with ⟨h,_⟩ | ⟨h,_,hp⟩ | ⟨_,_,h⟩
   · omega
   · have:=Q5 hp; omega
   · omega
 · intro e
   have ht:tl s n=1:=by omega
   refine ⟨ht,?_⟩
   rw [Lk (by omega),Nat.add_zero]
   rcases h2 with ⟨h,_⟩ | ⟨h,_,hp⟩ | ⟨_,_,h⟩
   · omega
   · omega
   · omega
theorem Mj (s:ByteArray) (n:Nat):((tk s n).toList == (⟨#[60]⟩:ByteArray).toList)=decide (kd s n=2):=Mi 60 2 (by decide) s n
theorem Ud (s:ByteArray) (n:Nat):((tk s n).toList == (⟨#[59]⟩:ByteArray).toList)=decide (kd s n=5):=Mi 59 5 (by decide) s n
theorem O4 (s:ByteArray) (n:Nat):((tk s n).toList == (⟨#[38]⟩:ByteArray).toList)=decide (kd s n=6):=Mi 38 6 (by decide) s n
theorem gK (s:ByteArray) (n:Nat):((tk s n).toList == (⟨#[124]⟩:ByteArray).toList)=decide (kd s n=7):=Mi 124 7 (by decide) s n
theorem Mm (s:ByteArray) (n:Nat):((tk s n).toList == (⟨#[62,62]⟩:ByteArray).toList)=decide (kd s n=4):=by
 rw [O6,Ek]
 refine decide_eq_decide.2 ?_
 have h1:=Dx s n
 have h2:=Bo s n
 show (_/\_=(62:Int)/\_=(62:Int))↔_
 constructor
 · rintro ⟨e1,e2,e3⟩
   rw [Lk (by omega),Nat.add_zero] at e2
   rcases h2 with ⟨h,_⟩ | ⟨h,_,hp⟩ | ⟨_,_,h⟩
   · omega
   · have:=Q5 hp; omega
   · omega
 · intro e
   have ht:tl s n=2:=by omega
   rw [Lk (by omega),Lk (by omega),Nat.add_zero]
   refine ⟨ht,?_⟩
   rcases h2 with ⟨h,_⟩ | ⟨h,_,hp⟩ | ⟨_,_,h⟩
   · omega
   · omega
   · omega
end
abbrev PR (α:Type):=Except (Nat×Int) (α×Nat)
def Bs (s:ByteArray) (n:Nat):PR ByteArray :=
 if kd s n≠1 then .error (n,3) else if 60 < tl s n then .error (n,6) else .ok (tk s n,nx s n)
def A9 (s:ByteArray) (c:CmdL) (n:Nat):PR CmdL :=
 if (kd s n=2/\c.inp.size≠0)\/(kd s n≠2/\c.out.size≠0) then .error (n,3)
 else match Bs s (nx s n) with
  | .error e=> .error e
  | .ok (w,m)=> .ok (if kd s n=2 then ⟨c.words,w,c.out,c.app⟩ else ⟨c.words,c.inp,w,decide (kd s n=4)⟩,m)
def D7 (soft:Bool) (s:ByteArray):Nat->CmdL->Nat->PR CmdL
 | 0,c,n=> .ok (c,n)
 | k+1,c,n =>
  if kd s n=1 then
   if c.words.length=4 then .error (n,6)
   else match Bs s n with
    | .error e=> .error e
    | .ok (w,m)=>D7 soft s k ⟨c.words++[w],c.inp,c.out,c.app⟩ m
  else if (kd s n=2\/kd s n=3\/kd s n=4)/\¬ (soft=true/\((kd s n=2/\c.inp.size≠0)\/(kd s n≠2/\c.out.size≠0))) then
   match A9 s c n with
    | .error e=> .error e
    | .ok (c',m)=>D7 soft s k c' m
  else if c.words.length=0 then .error (n,3) else .ok (c,n)
def H8:CmdL:=⟨[],⟨#[]⟩,⟨#[]⟩,false⟩
def D6 (soft:Bool) (s:ByteArray) (n:Nat):PR CmdL:=D7 soft s (s.size+1) H8 n
def Ce (k:Nat):Bool:=decide (1<=k/\k<=4)
def Fx (soft:Bool) (s:ByteArray):Nat->List CmdL->Nat->PR (List CmdL)
 | 0,l,n=> .ok (l,n)
 | k+1,l,n =>
  if kd s n=7 then
   if l.length=4/\Ce (kd s (nx s n))=true then .error (nx s n,6)
   else match D6 soft s (nx s n) with
    | .error e=> .error e
    | .ok (c,m)=>Fx soft s k (l++[c]) m
  else .ok (l,n)
def Dd (soft:Bool) (s:ByteArray) (n:Nat):PR (List CmdL) :=
 match D6 soft s n with
 | .error e=> .error e
 | .ok (c,m)=>Fx soft s (s.size+1) [c] m
def Db (soft:Bool) (s:ByteArray):Nat->List JobL->Nat->Except (Nat×Int) (List JobL)
 | 0,l,_=> .ok l
 | k+1,l,n =>
  if n < s.size then
   if l.length=8/\Ce (kd s n)=true then .error (n,6)
   else match Dd soft s n with
    | .error e=> .error e
    | .ok (cs,m) =>
     if kd s m=0 then .ok (l++[⟨cs,decide (kd s m=6)⟩])
     else if kd s m=5\/kd s m=6 then Db soft s k (l++[⟨cs,decide (kd s m=6)⟩]) (nx s m)
     else .error (m,3)
  else .ok l
def Cc (soft:Bool) (s:ByteArray):Except (Nat×Int) (List JobL):=Db soft s (s.size+1) [] (sk s 0)
def okW (s:ByteArray):Nat->Bool
 | 0=>true
 | k+1=>okW s k && A2 (sb s k)
theorem Y7 {s:ByteArray} {i:Nat} (h:A2 (sb s i)=false) : ∀ m,i < m->okW s m=false
 | 0,hm=>by omega
 | m+1,hm=>by
  simp only [okW]
  by_cases e:i=m
  · subst e; rw [h,Bool.and_false]
  · rw [Y7 h m (by omega)]; rfl
def Az (s:ByteArray):Bool:=okW s s.size && decide (1<=s.size/\s.size<=60)
theorem Zt {s:ByteArray} {i:Nat} (h:A2 (sb s i)=false) (hi:i < s.size):Az s=false:=by unfold Az; rw [Y7 h _ hi]; rfl
theorem Gs {s:ByteArray} (h:okW s s.size=true):Az s=decide (1<=s.size/\s.size<=60):=by unfold Az; rw [h,Bool.true_and]
end Go.Proofs.YtdljjajjonfjbaaGreatDoor
