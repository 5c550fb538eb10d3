import Derived.Test.YtdljjajjonfjbaaGreatDoorSx
import Derived.Deep.AppendSrc
import Derived.Deep.OwnRows
import Derived.Deep.Upon
import Derived.Recover
import Derived.Test.YtdljjajjonfjbaaGreatDoorProg
import Derived.Shelf.LaysM
import Derived.Shelf.Small.Strs
import Derived.Shelf.Strings.Prefix
set_option linter.unusedVariables false
set_option linter.unusedSimpArgs false
open Go.Proofs.Tryz renaming prog->sA
open List renaming length_append->sD,length_cons->sE,length_nil->sF,append_assoc->sH,mem_singleton->sM,append_nil->sN
open ByteArray renaming size_extract->sT
namespace Go.Proofs.Sx
open Go Go.RowKit
theorem oAt : ∀ (L:OwL) (i:Nat),i < L.length->L[i]? = some (oB L i,oT L i,oC L i)
 | [],_,h=>absurd h (Nat.not_lt_zero _)
 | (_,_,_)::_,0,_=>rfl
 | _::r,i+1,h=>by simpa [oB,oT,oC] using oAt r i (Nat.lt_of_succ_lt_succ h)
structure OwM (X:Nat->Prop) (w₀ w:World) (L:OwL):Prop where
 only:Only X w₀ w
 blk : ∀ x∈L,Blk w x.1 x.2.1 x.2.2
 ne:L.Pairwise (fun x y=>x.1≠y.1)
 new : ∀ x∈L,w₀.heap.size<=x.1\/X x.1
section
variable {P:Program} {X:Nat->Prop} {w₀ w w':World} {L:OwL}
theorem Ow.m (h:Ow P X w₀ w L):OwM X w₀ w L:=by
 have at' : ∀ x∈L,∃ i,i < L.length/\x=(oB L i,oT L i,oC L i):=fun x hx=>by
  obtain ⟨i,hi,rfl⟩:=List.getElem_of_mem hx
  refine ⟨i,hi,?_⟩
  have:=oAt L i hi
  rw [List.getElem?_eq_getElem hi] at this
  exact Option.some.inj this
 refine ⟨h.only,fun x hx=>?_,?_,fun x hx=>?_⟩
 · obtain ⟨i,hi,rfl⟩:=at' x hx; exact h.blk i hi
 · rw [List.pairwise_iff_getElem]
   intro i j hi hj hij
   have e1:=oAt L i hi
   have e2:=oAt L j hj
   rw [List.getElem?_eq_getElem hi] at e1
   rw [List.getElem?_eq_getElem hj] at e2
   rw [Option.some.inj e1,Option.some.inj e2]
   exact h.ne i j hi hj (Nat.ne_of_lt hij)
 · obtain ⟨i,hi,rfl⟩:=at' x hx; exact h.new i hi
theorem OwM.o (h:OwM X w₀ w L):Ow P X w₀ w L:=by
 have mem : ∀ i,i < L.length->(oB L i,oT L i,oC L i)∈L:=fun i hi=>List.mem_of_getElem? (oAt L i hi)
 refine ⟨h.only,fun i hi=>h.blk _ (mem i hi),fun i j hi hj hij=>?_,fun i hi=>h.new _ (mem i hi)⟩
 have hne:=List.pairwise_iff_getElem.1 h.ne
 have e1:=oAt L i hi
 have e2:=oAt L j hj
 rw [List.getElem?_eq_getElem hi] at e1
 rw [List.getElem?_eq_getElem hj] at e2
 rcases Nat.lt_or_gt_of_ne hij with hlt | hlt
 · have:=hne i j hi hj hlt
   rw [Option.some.inj e1,Option.some.inj e2] at this; exact this
 · have:=hne j i hj hi hlt
   rw [Option.some.inj e1,Option.some.inj e2] at this; exact this.symm
theorem OwM.perm (h:OwM X w₀ w L) {L':OwL} (p:L.Perm L'):OwM X w₀ w L' :=
 ⟨h.only,fun x hx=>h.blk x (p.mem_iff.2 hx),(p.pairwise_iff (fun h=>h.symm)).1 h.ne,fun x hx=>h.new x (p.mem_iff.2 hx)⟩
theorem OwM.less (h:OwM X w₀ w L) {L':OwL} (s:L'.Sublist L):OwM X w₀ w L' :=
 ⟨h.only,fun x hx=>h.blk x (s.subset hx),h.ne.sublist s,fun x hx=>h.new x (s.subset hx)⟩
theorem OwM.join {T:OwL} (h:OwM X w₀ w L) (h':OwM Ai w w' T):OwM X w₀ w' (L++T):=by
 refine ⟨h.only.step h'.only (fun _ _ hx=>hx.elim),fun x hx=>?_,?_,fun x hx=>?_⟩
 · rcases List.mem_append.1 hx with hx | hx
   · exact (h.blk x hx).keep h'.only fun hx=>hx
   · exact h'.blk x hx
 · refine List.pairwise_append.2 ⟨h.ne,h'.ne,fun x hx y hy=>?_⟩
   rcases h'.new y hy with hn | hn
   · exact (h.blk x hx).ne hn
   · exact hn.elim
 · rcases List.mem_append.1 hx with hx | hx
   · exact h.new x hx
   · rcases h'.new x hx with hn | hn
     · exact .inl (Nat.le_trans h.only.size hn)
     · exact hn.elim
def inT (T:OwL):Nat->Prop:=fun b=>∃ x∈T,x.1=b
theorem OwM.self {A T B:OwL} (h:OwM X w₀ w (A++(T++B))):OwM (inT T) w w T:=by
 have h2:=h.less (L':=T) ((List.sublist_append_left T B).trans (List.sublist_append_right A _))
 exact ⟨Only.refl _ _,h2.blk,h2.ne,fun x hx=> .inr ⟨x,hx,rfl⟩⟩
theorem OwM.pass {A T B T':OwL} (h:OwM X w₀ w (A++(T++B))) (h':OwM (inT T) w w' T'):OwM X w₀ w' (A++(T'++B)):=by
 obtain ⟨nA,nTB,nAx⟩:=List.pairwise_append.1 h.ne
 obtain ⟨nT,nB,nTx⟩:=List.pairwise_append.1 nTB
 have mA : ∀ x∈A,x∈A++(T++B):=fun x hx=>List.mem_append_left _ hx
 have mT : ∀ x∈T,x∈A++(T++B):=fun x hx=>List.mem_append_right _ (List.mem_append_left _ hx)
 have mB : ∀ x∈B,x∈A++(T++B):=fun x hx=>List.mem_append_right _ (List.mem_append_right _ hx)
 have kA : ∀ x∈A,¬ inT T x.1:=fun x hx ⟨y,hy,e⟩=>nAx x hx y (List.mem_append_left _ hy) e.symm
 have kB : ∀ x∈B,¬ inT T x.1:=fun x hx ⟨y,hy,e⟩=>nTx y hy x hx e
 have far : ∀ x∈A++(T++B),¬ inT T x.1->∀ y∈T',x.1≠y.1:=fun x hx hn y hy=>by
  rcases h'.new y hy with hy' | hy'
  · exact (h.blk x hx).ne hy'
  · exact fun e=>hn (e ▸ hy')
 refine ⟨h.only.step h'.only fun i hi hx=>?_,fun x hx=>?_,?_,fun x hx=>?_⟩
 · obtain ⟨y,hy,rfl⟩:=hx
   rcases h.new y (mT y hy) with hn | hn
   · exact absurd hi (Nat.not_lt.2 hn)
   · exact hn
 · rcases List.mem_append.1 hx with hx | hx
   · exact (h.blk x (mA x hx)).keep h'.only (kA x hx)
   rcases List.mem_append.1 hx with hx | hx
   · exact h'.blk x hx
   · exact (h.blk x (mB x hx)).keep h'.only (kB x hx)
 · refine List.pairwise_append.2 ⟨nA,List.pairwise_append.2 ⟨h'.ne,nB,fun x hx y hy=>(far y (mB y hy) (kB y hy) x hx).symm⟩,fun x hx y hy=>?_⟩
   rcases List.mem_append.1 hy with hy | hy
   · exact far x (mA x hx) (kA x hx) y hy
   · exact nAx x hx y (List.mem_append_right _ hy)
 · rcases List.mem_append.1 hx with hx | hx
   · exact h.new x (mA x hx)
   rcases List.mem_append.1 hx with hx | hx
   · rcases h'.new x hx with hn | ⟨y,hy,e⟩
     · exact .inl (Nat.le_trans h.only.size hn)
     · exact e ▸ h.new y (mT y hy)
   · exact h.new x (mB x hx)
end
structure Enc {α:Type} (f : α->List Value) (sz:Nat):Prop where
 len : ∀ a,(f a).length=sz
 one : ∀ a,∀ v∈f a,v.oneCell'=true
section
variable {α:Type} {f : α->List Value} {sz:Nat}
theorem Enc.flen (E:Enc f sz) : ∀ l:List α,(l.flatMap f).length=l.length*sz
 | []=>by simp
 | a::l=>by rw [List.flatMap_cons,sD,E.len,E.flen l,sE,Nat.succ_mul,Nat.add_comm]
theorem Enc.fone (E:Enc f sz) (l:List α) : ∀ v∈l.flatMap f,v.oneCell'=true:=fun v hv=>by
 obtain ⟨a,_,ha⟩:=List.mem_flatMap.1 hv; exact E.one a v ha
end
def fB (x:Int):List Value:=[.int .u8 x]
theorem U1:Enc fB 1:=⟨fun _=>rfl,fun _ v hv=>by simp only [fB,sM] at hv; subst hv; rfl⟩
theorem oV (l:List Int):l.flatMap fB=l.map (.int .u8 ·):=by
 induction l with
 | nil=>rfl
 | cons x l ih=>rw [List.flatMap_cons,ih]; rfl
def fT (x:ByteArray):List Value:=[.string x]
theorem Jn:Enc fT 1:=⟨fun _=>rfl,fun _ v hv=>by simp only [fT,sM] at hv; subst hv; rfl⟩
def Vw {α:Type} (f : α->List Value) (w:World) (v:Value) (l:List α):Prop :=
 (v = .slice none 0 0/\l=[])\/∃ ad c,v = .slice (some ad) l.length c/\∀ j u,(l.flatMap f)[j]? = some u->w.cell? (ad.add j)=some u
theorem SlI.vw {w:World} {v:Value} {xs:List Int} (h:SlI w v xs):Vw fB w v xs:=by
 rcases h.2 with ⟨rfl,rfl⟩ | ⟨ad,cap,rfl,hc⟩
 · exact .inl ⟨rfl,rfl⟩
 · refine .inr ⟨ad,cap,rfl,fun j u hj=>?_⟩
   rw [oV,List.getElem?_map] at hj
   obtain ⟨x,hx,rfl⟩:=Option.map_eq_some_iff.1 hj
   have hlt:=(List.getElem?_eq_some_iff.1 hx).1
   have:=hc j hlt
   rwa [List.getD_eq_getElem?_getD,hx] at this
theorem Vw.src {α:Type} {f : α->List Value} {sz:Nat} {P:Program} {w:World} {v:Value} {l:List α} {tx e':TypeId} (E:Enc f sz) (h:Vw f w v l) (hk:P.underlying tx=some (.slice e')):Src P sz tx v l.length (l.flatMap f) w:=by
 rcases h with ⟨rfl,rfl⟩ | ⟨ad,cap,rfl,hc⟩
 · exact Src.ofNil w hk 0
 · exact Src.ofSlice w hk ad _ cap _ (E.flen l) hc (E.fone l)
def One {α:Type} (f : α->List Value) (e:TypeId) (sz:Nat) (p:Option Addr) (c:Nat) (l:List α) (T:OwL):Prop :=
 (p=none/\c=0/\l=[]/\T=[])\/∃ b r,p=some ⟨b,0,none⟩/\l.length<=c/\c<=maxLen/\(l.flatMap f++r).length=c*sz/\T=[(b,e,l.flatMap f++r)]
section
variable {α:Type} {f : α->List Value} {e:TypeId} {sz:Nat} {p:Option Addr} {c:Nat} {l:List α} {T:OwL} {P:Program} {X:Nat->Prop} {w₀ w w':World}
theorem One.nil (f : α->List Value) (e:TypeId) (sz:Nat):One f e sz none 0 [] []:= .inl ⟨rfl,rfl,rfl,rfl⟩
theorem One.vw (h:One f e sz p c l T) {A B:OwL} (O:OwM X w₀ w (A++(T++B))):Vw f w (.slice p l.length c) l:=by
 rcases h with ⟨rfl,rfl,rfl,rfl⟩ | ⟨b,r,rfl,_,_,_,rfl⟩
 · exact .inl ⟨rfl,rfl⟩
 · refine .inr ⟨_,c,rfl,fun j u hj=>?_⟩
   rw [B4]
   refine (O.blk (b,e,l.flatMap f++r) (by simp)).cell ?_
   rw [List.getElem?_append_left (List.getElem?_eq_some_iff.1 hj).1]; exact hj
theorem Z9 {t tx ty:TypeId} {i:TypeInfo} {z:Value} {bytes:Nat} (ht:P.underlying t=some (.slice e)) (hi:P.info? e=some i) (hz:i.zero=some z) (hsize:i.size=sz) (hby:i.bytes=bytes) (E:Enc f sz)
 {A B:OwL} (O:OwM X w₀ w (A++(T++B))) (h1:One f e sz p c l T) {x:Value} {l':List α} (hs:Src P sz tx x l'.length (l'.flatMap f) w)
 (h63:l.length+l'.length<=maxLen) (hb:(l.length+l'.length)*bytes<=140737488355328) (hzs:z.cells.size=sz) :
 ∃ p' c' T' w',(Builtin.append_ #[t,tx] ty #[.slice p l.length c,x]).run P w = .ok (.slice p' (l++l').length c') w'/\OwM X w₀ w' (A++(T'++B))/\One f e sz p' c' (l++l') T':=by
 have hsm:((l.length+l'.length:Nat):Int)<=9223372036854775807:=by simp only [maxLen] at h63; omega
 rw [sD]
 by_cases h0:l'=[]
 · subst h0
   have hle:l.length<=c:=by
    rcases h1 with ⟨_,rfl,rfl,_⟩ | ⟨_,_,_,h,_⟩
    · exact Nat.le_refl _
    · exact h
   subst hsize
   refine ⟨p,c,T,w,run_append_nothing w t tx ty e i ht hi p l.length c hle x hs,O,by rw [sN]; exact h1⟩
 have grow : ∀ cap,cap < l.length+l'.length->(Builtin.firstCells i.size l.length (.slice p l.length cap)).run P w.drew = .ok (l.flatMap f).toArray w.drew->∃ p' c' T' w',(Builtin.append_ #[t,tx] ty #[.slice p l.length cap,x]).run P w = .ok (.slice p' (l.length+l'.length) c') w'/\OwM X w₀ w' (A++(T'++B))/\One f e sz p' c' (l++l') T':=by
  intro cap hc hf
  subst hsize; subst hby
  have hr:=run_append_grow_src (P:=P) w t tx ty e i z ht hi hz p l.length cap _ hf x _ _ hs hc hsm (growslice_fits hc hb)
  have hge:=grownCap_ge w (l.length+l'.length) cap e
  have hlast:OwM (inT T) w (w.drew.alloc (.cells ((l.flatMap f++l'.flatMap f).toArray++Builtin.zeroCells z.cells (grownCap w (l.length+l'.length) cap e - (l.length+l'.length))) e))
   [(w.heap.size,e,(l++l').flatMap f++(Builtin.zeroCells z.cells (grownCap w (l.length+l'.length) cap e - (l.length+l'.length))).toList)]:=by
   refine ⟨⟨rfl,rfl,rfl,by simp,fun k hk _=>by first | exact heap_alloc_old w.drew _ hk | exact heap_alloc_old w.drew _ k hk⟩,fun y hy=>?_,List.pairwise_singleton _ _,fun y hy=>?_⟩
   · rw [sM] at hy; subst hy
     have:=heap_alloc_new w.drew (.cells ((l.flatMap f++l'.flatMap f).toArray++Builtin.zeroCells z.cells (grownCap w (l.length+l'.length) cap e - (l.length+l'.length))) e)
     refine .of0 ?_
     rw [List.flatMap_append]
     refine this.trans ?_
     congr 2
     apply Array.toList_inj.1
     simp
   · rw [sM] at hy; subst hy; exact .inl (Nat.le_refl _)
  refine ⟨_,_,_,_,hr,O.pass hlast,.inr ⟨w.heap.size,_,rfl,by rw [sD]; exact hge,grownCap_le_maxLen w _ cap e h63,?_,rfl⟩⟩
  have e3:(Builtin.zeroCells z.cells (grownCap w (l.length+l'.length) cap e - (l.length+l'.length))).toList.length=(grownCap w (l.length+l'.length) cap e - (l.length+l'.length))*i.size:=by rw [Array.length_toList,size_zeroCells,hzs]
  rw [sD,E.flen,e3,sD,← Nat.add_mul]
  congr 1; omega
 rcases h1 with ⟨rfl,rfl,rfl,rfl⟩ | ⟨b,r,rfl,hle,hcm,hlen,rfl⟩
 · refine grow 0 (by cases l' with | nil=>exact absurd rfl h0 | cons=>simp) ?_
   exact run_firstCells_none w.drew i.size 0 0 0
 · have hB:Blk w b e (l.flatMap f++r):=O.blk (b,e,l.flatMap f++r) (by simp)
   by_cases hroom:l.length+l'.length<=c
   · have hfit:l.length*sz+(l'.flatMap f).length<=(l.flatMap f++r).length:=by rw [hlen,E.flen,← Nat.add_mul]; exact Nat.mul_le_mul_right _ hroom
     obtain ⟨hst,hB'⟩:=hB.store (P:=P) (vs:=l'.flatMap f) (off:=l.length*sz) hfit hs.one
     have hcells:Do (l.flatMap f++r) (l.length*sz) (l'.flatMap f)=(l++l').flatMap f++(l.flatMap f++r).drop (l.length*sz+(l'.flatMap f).length):=by
      unfold Do
      rw [← E.flen l,List.take_left,List.flatMap_append]
     rw [hcells] at hst hB'
     have hrun:(Builtin.append_ #[t,tx] ty #[.slice (some ⟨b,0,none⟩) l.length c,x]).run P w = .ok (.slice (some ⟨b,0,none⟩) (l.length+l'.length) c) (w.setRow b ((l++l').flatMap f++(l.flatMap f++r).drop (l.length*sz+(l'.flatMap f).length)).toArray):=by
      subst hsize
      rcases hs.kind with ⟨e',hk⟩ | hk <;> simp [Builtin.append_,run_underlying ht,run_underlying hk,sizeOf,typeInfo,hi,hs.len,hroom,hs.cells,Addr.add_lit,hst]
     refine ⟨_,_,[(b,e,(l++l').flatMap f++(l.flatMap f++r).drop (l.length*sz+(l'.flatMap f).length))],_,hrun,O.pass ⟨?_,fun y hy=>?_,List.pairwise_singleton _ _,fun y hy=>?_⟩,.inr ⟨b,_,rfl,by rw [sD]; exact hroom,hcm,?_,rfl⟩⟩
     · exact ⟨rfl,rfl,rfl,by simp,fun k _ hn=>setRow_other w b k _ fun e'=>hn ⟨_,sM.2 rfl,e'.symm⟩⟩
     · rw [sM] at hy; subst hy
       exact hB'
     · rw [sM] at hy; subst hy
       exact .inr ⟨_,sM.2 rfl,rfl⟩
     · rw [sD,List.length_drop,E.flen,sD,hlen,Nat.add_mul,E.flen]
       rw [hlen,E.flen] at hfit
       omega
   · refine grow c (by omega) ?_
     have:=run_firstCells_some (P:=P) w.drew i.size l.length ⟨b,0,none⟩ l.length c (l.flatMap f) (by rw [hsize]; exact E.flen l) (fun j u hj=>by
      rw [B4]
      have:w.cell? ⟨b,j,none⟩=some u:=hB.cell (by rw [List.getElem?_append_left (List.getElem?_eq_some_iff.1 hj).1]; exact hj)
      simpa using this)
     exact this
end
def E5 (ops:Array Oper) (e:Env) (i:Nat):Option (Builtin×Array TypeId×TypeId×List Value×Option Nat) :=
 match N4 ops e i with
 | some o=>match o.op with
  | .call c=>match c.callee with
   | .builtin b=>match Mw e c.args.toList with
    | some vs=>some (b,c.argTypes,o.type,vs,o.dst)
    | none=>none
   | _=>none
  | _=>none
 | none=>none
def fG (ops:Array Oper) (e:Env) (i:Nat):Option (TypeId×Value×Value×Option Nat) :=
 match N4 ops e i with
 | some o=>match o.op with
  | .makeSlice t l c=>match val e l with
   | some lv=>match val e c with
    | some cv=>some (t,lv,cv,o.dst)
    | none=>none
   | none=>none
  | _=>none
 | none=>none
section
variable {P:Program} {ops:Array Oper} {Q:Exit->Act->World->Prop} {n:Nat} {ds:List Deferred} {a:Act} {e:Env} {w w':World} {K:Act->World->Prop} {i:Nat}
theorem Lg (V:Holds n ds a e) : ∀ (l:List Operand) (us:List Value),Mw e l=some us->l.map a.eval=us:=by
 intro l
 induction l with
 | nil=>intro us h; simp only [Mw,Option.some.injEq] at h; simp [h]
 | cons y r ih =>
  intro us h
  simp only [Mw] at h
  repeat' split at h
  all_goals try (cases h; done)
  rename_i v hv _ vs' hr
  cases h
  simp [V.eval hv,ih _ hr]
theorem Ty (V:Holds n ds a e) {ats:Array TypeId} {ty:TypeId} {vs:List Value} {d:Option Nat} (hb:E5 ops e i=some (.append,ats,ty,vs,d)) (hd:ltO d n=true)
 {v:Value} (hr:(Builtin.append_ ats ty vs.toArray).run P w = .ok v w') (hK : ∀ a',Holds n ds a' (putE d v e)->K a' w'):wpOp P ops Q i K a w:=by
 unfold E5 at hb
 repeat' split at hb
 all_goals try (cases hb; done)
 rename_i o ho _ c hop _ b hcl _ vs' hvs
 simp only [Option.some.injEq,Prod.mk.injEq] at hb
 obtain ⟨rfl,rfl,rfl,rfl,rfl⟩:=hb
 refine D2 V ho ?_
 have hargs:c.args.map a.eval=vs'.toArray:=by
  have:=Lg V _ _ hvs
  apply Array.toList_inj.1
  simpa using this
 have hrun:(execOp a.eval o).run P w = .ok (.value v) w':=by
  unfold execOp
  simp only [hop,resolve,hcl,hargs,invoke,builtin,Sem.run_bind,Sem.run_pure,Result.andThen_ok,run_program,hr]
 unfold Oper.wp
 rw [hrun]
 exact hK _ (V.putE v hd)
theorem fH (V:Holds n ds a e) {ats:Array TypeId} {ty:TypeId} {vs:List Value} {d:Option Nat} (hb:E5 ops e i=some (.copy,ats,ty,vs,d)) (hd:ltO d n=true)
 {v:Value} (hr:(Builtin.copy_ ats ty vs.toArray).run P w = .ok v w') (hK : ∀ a',Holds n ds a' (putE d v e)->K a' w'):wpOp P ops Q i K a w:=by
 unfold E5 at hb
 repeat' split at hb
 all_goals try (cases hb; done)
 rename_i o ho _ c hop _ b hcl _ vs' hvs
 simp only [Option.some.injEq,Prod.mk.injEq] at hb
 obtain ⟨rfl,rfl,rfl,rfl,rfl⟩:=hb
 refine D2 V ho ?_
 have hargs:c.args.map a.eval=vs'.toArray:=by
  have:=Lg V _ _ hvs
  apply Array.toList_inj.1
  simpa using this
 have hrun:(execOp a.eval o).run P w = .ok (.value v) w':=by
  unfold execOp
  simp only [hop,resolve,hcl,hargs,invoke,builtin,Sem.run_bind,Sem.run_pure,Result.andThen_ok,run_program,hr]
 unfold Oper.wp
 rw [hrun]
 exact hK _ (V.putE v hd)
def elT (P:Program) (e:TypeId) (sz bytes:Nat):Bool :=
 match P.info? e with
 | some i=>match i.zero with
  | some z=>Nat.beq i.size sz && (Nat.beq i.bytes bytes && Nat.beq z.cells.size sz)
  | none=>false
 | none=>false
theorem U2 {el:TypeId} {sz bytes:Nat} (h:elT P el sz bytes=true) : ∃ i z,P.info? el=some i/\i.zero=some z/\i.size=sz/\i.bytes=bytes/\z.cells.size=sz:=by
 unfold elT at h
 split at h
 · rename_i i hi
   split at h
   · rename_i z hz
     simp only [Bool.and_eq_true] at h
     exact ⟨i,z,hi,hz,Nat.eq_of_beq_eq_true h.1,Nat.eq_of_beq_eq_true h.2.1,Nat.eq_of_beq_eq_true h.2.2⟩
   · cases h
 · cases h
theorem mA {α:Type} {f : α->List Value} {el:TypeId} {sz bytes:Nat} {p:Option Addr} {c:Nat} {l l':List α} {T:OwL} {X:Nat->Prop} {w₀:World} (A B:OwL) {t tx ty:TypeId} {x:Value} {d:Nat}
 (E:Enc f sz) (V:Holds n ds a e) (O:Ow P X w₀ w (A++(T++B))) (h1:One f el sz p c l T) (hs:Src P sz tx x l'.length (l'.flatMap f) w) (hb:(l.length+l'.length)*bytes<=140737488355328) (h63:l.length+l'.length<=maxLen)
 (hK : ∀ a' w' p' c' T',Holds n ds a' ((d,.slice p' (l++l').length c')::e)->Ow P X w₀ w' (A++(T'++B))->One f el sz p' c' (l++l') T'->K a' w')
 (he:E5 ops e i=some (.append,#[t,tx],ty,[.slice p l.length c,x],some d):=by kernel_rfl) (hd:Nat.blt d n=true:=by kernel_rfl) (ht:P.underlying t=some (.slice el):=by kernel_rfl) (hi:elT P el sz bytes=true:=by kernel_rfl):wpOp P ops Q i K a w:=by
 obtain ⟨inf,z,q1,q2,q3,q4,q5⟩:=U2 hi
 obtain ⟨p',c',T',w',hr,hO',h1'⟩:=Z9 ht q1 q2 q3 q4 E O.m h1 hs h63 hb q5 (ty:=ty)
 exact Ty V he hd hr fun a' hA'=>hK a' w' p' c' T' hA' hO'.o h1'
theorem mY {α:Type} {f : α->List Value} {el:TypeId} {L:OwL} {X:Nat->Prop} {w₀:World} (j:Nat) {t tx ty:TypeId} {x:Value} {xs:List α} {off dl dc m:Nat} {d:Option Nat} {l':List Value}
 (E:Enc f 1) (V:Holds n ds a e) (O:Ow P X w₀ w L) (hx:Vw f w x xs) (hm:m=min xs.length dl) (hfit:off+m<=(oC L j).length) (hl:Do (oC L j) off ((xs.take m).flatMap f)=l')
 (hK : ∀ a' w',Holds n ds a' (putE d (.int .i64 (m:Int)) e)->Ow P X w₀ w' (oS L j l')->K a' w') (h63:m<=9223372036854775807)
 (he:E5 ops e i=some (.copy,#[t,tx],ty,[.slice (some ⟨oB L j,off,none⟩) dl dc,x],d):=by kernel_rfl) (hd:ltO d n=true:=by kernel_rfl) (ht:P.underlying t=some (.slice el):=by kernel_rfl)
 (hi:(P.info? el).map (·.size)=some 1:=by kernel_rfl) (hj:Nat.blt j L.length=true:=by kernel_rfl):wpOp P ops Q i K a w:=by
 have hjl:j < L.length:=by simpa [Nat.blt_eq] using hj
 have hB:=O.blk j hjl
 have gi:goInt m = .int .i64 (m:Int):=rfl
 rcases hx with ⟨rfl,rfl⟩ | ⟨ad,cap,rfl,hc⟩
 · have hm0:m=0:=by simpa using hm
   subst hm0
   have hr:=run_copy_nil (P:=P) w t tx ty el ⟨oB L j,off,none⟩ dl dc ht (by cases hq:P.info? el with | none=>simp [hq] at hi | some i=>rfl)
   refine fH V he hd hr fun a' hA'=>?_
   have hl':l'=oC L j:=by rw [← hl]; simp [Do]
   refine hK a' w (gi ▸ hA') (O.turn j ⟨rfl,rfl,rfl,Nat.le_refl _,fun _ _ _=>rfl⟩ (hl' ▸ hB) hjl)
 · have hcs:((xs.take m).flatMap f).length=m:=by rw [E.flen,List.length_take,hm,Nat.mul_one]; omega
   have hsrc : ∀ k v,((xs.take m).flatMap f)[k]? = some v->w.cell? (ad.add k)=some v:=fun k v hk=>by
    refine hc k v ?_
    have e:xs.flatMap f=(xs.take m).flatMap f++(xs.drop m).flatMap f:=by rw [← List.flatMap_append,List.take_append_drop]
    rw [e,List.getElem?_append_left (List.getElem?_eq_some_iff.1 hk).1]; exact hk
   obtain ⟨hst,hB'⟩:=hB.store (P:=P) (vs:=(xs.take m).flatMap f) (off:=off) (by rw [hcs]; exact hfit) (E.fone _)
   have hld:=run_loadCells_list (P:=P) w ad ((xs.take m).flatMap f) hsrc
   have hr:(Builtin.copy_ #[t,tx] ty #[.slice (some ⟨oB L j,off,none⟩) dl dc,.slice (some ad) xs.length cap]).run P w = .ok (goInt m) (w.setRow (oB L j) (Do (oC L j) off ((xs.take m).flatMap f)).toArray):=by
    have hn:Nat.min xs.length dl=m:=hm.symm
    cases hq:P.info? el with
    | none=>simp [hq] at hi
    | some inf =>
     have hi1:inf.size=1:=by simpa [hq] using hi
     rw [hcs] at hld
     simp [Builtin.copy_,run_underlying ht,Builtin.lenOf,Builtin.firstCells,sizeOf,typeInfo,hq,hi1,hn,hld,hst]
   rw [gi] at hr
   refine fH V he hd hr fun a' hA'=>hK a' _ hA' ?_
   exact hl ▸ O.turn j (Hy w _ _) hB' hjl
end
theorem One.open {α:Type} {f : α->List Value} {e:TypeId} {sz:Nat} {p:Option Addr} {c:Nat} {l:List α} {T:OwL} (h:One f e sz p c l T) (hl : 0 < l.length) :
 ∃ b r,p=some ⟨b,0,none⟩/\T=[(b,e,l.flatMap f++r)]/\l.length<=c/\(l.flatMap f++r).length=c*sz:=by
 rcases h with ⟨_,_,rfl,_⟩ | ⟨b,r,rfl,h1,_,h2,rfl⟩
 · cases hl
 · exact ⟨b,r,rfl,rfl,h1,h2⟩
theorem One.ofBlk {α:Type} {f : α->List Value} {e:TypeId} {sz c:Nat} {b:Nat} {l:List α} {cs r:List Value} (hc:cs=l.flatMap f++r) (hl:l.length<=c) (hm:c<=maxLen) (hs:cs.length=c*sz):One f e sz (some ⟨b,0,none⟩) c l [(b,e,cs)]:=by
 subst hc; exact .inr ⟨b,r,rfl,hl,hm,hs,rfl⟩
section
variable {P:Program} {X:Nat->Prop} {w₀ w w':World}
theorem Ow.subP {A A' B:OwL} (h:Ow P X w₀ w (A++B)) (s:A'.Sublist A):Ow P X w₀ w (A'++B):=(h.m.less (s.append (List.Sublist.refl B))).o
theorem Ow.self {A T B:OwL} (h:Ow P X w₀ w (A++(T++B))):Ow P (inT T) w w T:=h.m.self.o
theorem Ow.pass {A T B T':OwL} (h:Ow P X w₀ w (A++(T++B))) (h':Ow P (inT T) w w' T'):Ow P X w₀ w' (A++(T'++B)):=(h.m.pass h'.m).o
theorem Ow.join {L T:OwL} (h:Ow P X w₀ w L) (h':Ow P Ai w w' T):Ow P X w₀ w' (L++T):=(h.m.join h'.m).o
theorem Ow.move {A B C:OwL} {x:Nat×TypeId×List Value} (h:Ow P X w₀ w (A++(x::(B++C)))):Ow P X w₀ w (A++(B++([x]++C))) :=
 (h.m.perm (List.Perm.append_left A (List.perm_middle (a:=x) (l₁:=B) (l₂:=C)).symm)).o
theorem Blk.vw {α:Type} {f : α->List Value} {b:Nat} {t:TypeId} {l:List Value} {xs:List α} {off c:Nat} (h:Blk w b t l) (hl:(l.drop off).take (xs.flatMap f).length=xs.flatMap f):Vw f w (.slice (some ⟨b,off,none⟩) xs.length c) xs:=by
 refine .inr ⟨_,c,rfl,fun j u hj=>?_⟩
 rw [D4]
 refine h.cell ?_
 rw [← hl,List.getElem?_take] at hj
 split at hj
 · rwa [List.getElem?_drop] at hj
 · cases hj
def sI (s:ByteArray):List Int:=s.data.toList.map fun b=>(b.toNat:Int)
theorem Fc (s:ByteArray):(sI s).length=s.size:=by unfold sI; rw [List.length_map,Array.length_toList]; rfl
theorem Yt (s:ByteArray):(sI s).flatMap fB=byteCells s:=by rw [oV]; simp only [sI,byteCells,List.map_map]; rfl
theorem Ys (s:ByteArray):U8s (sI s):=fun x hx=>by
 simp only [sI,List.mem_map] at hx
 obtain ⟨b,_,rfl⟩:=hx
 have:=b.toNat_lt
 omega
theorem Src.str {tx:TypeId} (hk:P.underlying tx=some .string) (s:ByteArray):Src P 1 tx (.string s) (sI s).length ((sI s).flatMap fB) w:=by
 rw [Fc,Yt]; exact Src.ofString w hk s
theorem U8s.app {xs ys:List Int} (h:U8s xs) (h':U8s ys):U8s (xs++ys):=fun x hx=>(List.mem_append.1 hx).elim (h x) (h' x)
def SlK (X:Nat->Prop) (w:World) (v:Value) (xs:List Int):Prop:=∀ w',Only X w w'->SlI w' v xs
theorem SlI.k {v:Value} {xs:List Int} (h:SlI w v xs):SlK Ai w v xs:=fun w' k=>h.keep k
theorem SlI.far {v:Value} {xs:List Int} (h:SlI w₀ v xs) (k:Only X w₀ w) (hX : ∀ b,X b->w₀.heap.size<=b) {T:OwL} (hT : ∀ x∈T,w₀.heap.size<=x.1\/X x.1):SlK (inT T) w v xs:=fun w' k'=>by
 refine ⟨h.1,?_⟩
 rcases h.2 with e | ⟨ad,cap,rfl,hc⟩
 · exact .inl e
 · refine .inr ⟨ad,cap,rfl,fun i hi=>?_⟩
   have h1:=hc i hi
   have hlt:=World.block_lt_of_cell? w₀ _ h1
   have h2:=k.cell h1 fun hx=>absurd (hX _ hx) (by omega)
   refine k'.cell h2 ?_
   rintro ⟨x,hx,e⟩
   rcases hT x hx with h | h
   · omega
   · have:=hX _ h; omega
theorem Ow.far {A T B:OwL} (h:Ow P X w₀ w (A++(T++B))) : ∀ x∈T,w₀.heap.size<=x.1\/X x.1:=fun x hx=>h.m.new x (List.mem_append_right _ (List.mem_append_left _ hx))
end
def Rx (ops:Array Oper) (e:Env) (i:Nat):Option (TypeId×TypeId×Value×Option Nat) :=
 match N4 ops e i with
 | some o=>match o.op with
  | .convert src dst x=>match val e x with
   | some v=>some (src,dst,v,o.dst)
   | none=>none
  | _=>none
 | none=>none
theorem Y7 : ∀ (L:OwL) (i:Nat),oS L i (oC L i)=L
 | [],_=>rfl
 | (_,_,_)::_,0=>rfl
 | x::r,i+1=>congrArg (x::·) (Y7 r i)
theorem mV {P:Program} {ops:Array Oper} {Q:Exit->Act->World->Prop} {n:Nat} {ds:List Deferred} {a:Act} {e:Env} {w:World} {K:Act->World->Prop} {i:Nat} {L:OwL} {X:Nat->Prop} {w₀:World} (j:Nat) {t el:TypeId} {off m c d:Nat}
 (V:Holds n ds a e) (O:Ow P X w₀ w L) (hK : ∀ a' w',Holds n ds a' ((d,.slice (some ⟨oB L j,off,none⟩) m c)::e)->Ow P X w₀ w' L->K a' w')
 (he:Rx ops e i=some (t,t,.slice (some ⟨oB L j,off,none⟩) m c,some d):=by kernel_rfl) (hd:Nat.blt d n=true:=by kernel_rfl) (ht:P.underlying t=some (.slice el):=by kernel_rfl) (hel:P.underlying el=some (.int .u8):=by kernel_rfl) (hj:Nat.blt j L.length=true:=by kernel_rfl):wpOp P ops Q i K a w:=by
 have hjl:j < L.length:=by simpa [Nat.blt_eq] using hj
 obtain ⟨J,hg,hf⟩:=O.blk j hjl
 unfold Rx at he
 repeat' split at he
 all_goals try (cases he; done)
 rename_i o ho _ src dst x hop _ v hv
 simp only [Option.some.injEq,Prod.mk.injEq] at he
 obtain ⟨rfl,rfl,rfl,hdst⟩:=he
 refine D2 V ho ?_
 have hsh:w.shape? (oB L j)=some (oT L j,(oC L j).length):=by
  unfold World.shape?
  rw [hg]; simp
 have hc:(convert dst dst (.slice (some ⟨oB L j,off,none⟩) m c)).run P w = .ok (.slice (some ⟨oB L j,off,none⟩) m c) (w.freeze ⟨oB L j,(oC L j).length,none⟩ 1):=by
  simp [convert,run_underlying ht,run_underlying hel,markStringish,hsh]
 have hrun:(execOp a.eval o).run P w = .ok (.value (.slice (some ⟨oB L j,off,none⟩) m c)) (w.freeze ⟨oB L j,(oC L j).length,none⟩ 1):=by
  unfold execOp
  simp only [hop,V.eval hv,Sem.run_bind,Sem.run_pure,Result.andThen_ok,run_program,hc]
 unfold Oper.wp
 rw [hrun]
 have hlt:oB L j < w.heap.size:=(Array.getElem?_eq_some_iff.1 hg).1
 have hvv:w.heap[oB L j] = .cells (oC L j).toArray (oT L j) J:=(Array.getElem?_eq_some_iff.1 hg).2
 have hB:Blk (w.freeze ⟨oB L j,(oC L j).length,none⟩ 1) (oB L j) (oT L j) (oC L j):=by
  refine ⟨if J.1 == J.2 then ((oC L j).length,(oC L j).length+1) else (min J.1 (oC L j).length,max J.2 ((oC L j).length+1)),?_,?_⟩
  · unfold World.freeze
    rw [if_neg (by decide)]
    simp only
    rw [Array.getElem?_eq_getElem (by simpa using hlt),Array.getElem_modify]
    simp [hvv]
  · right
    split
    · exact Nat.le_refl _
    · rename_i h
      have:J.1≠J.2:=by simpa using h
      simp only; omega
 have hOn:Only (fun k=>k=oB L j) w (w.freeze ⟨oB L j,(oC L j).length,none⟩ 1):=by
  unfold World.freeze
  rw [if_neg (by decide)]
  exact ⟨rfl,rfl,rfl,by simp,fun k hk hn=>by simp [Array.getElem?_modify,Ne.symm hn]⟩
 refine hK _ _ ?_ ?_
 · rw [hdst]; exact V.put _ (by simpa [Nat.blt_eq] using hd)
 · have:=O.turn j hOn hB hjl
   rwa [Y7] at this
section
variable {P:Program} {ops:Array Oper} {Q:Exit->Act->World->Prop} {n:Nat} {ds:List Deferred} {a:Act} {e:Env} {w:World} {K:Act->World->Prop} {i:Nat}
theorem mP {f:FuncId} {args:List Value} {d:Option Nat} {fn:Func} (V:Holds n ds a e) (hf:P.funcs[f]? = some fn)
 (h:Calls P f args.toArray w fun en w'=>(∃ v,en = .returned v/\∀ a',Holds n ds a' (putE d v e)->K a' w')\/∃ ch,en = .panicked ch/\Q (.panic ch) a w') (hc:H8 ops e i=some (f,args,d):=by kernel_rfl) (hd:ltO d n=true:=by kernel_rfl) (hn:(fn.name == "runtime.NumGoroutine")=false:=by kernel_rfl) (hbd:fn.body.isNone=false:=by kernel_rfl):wpOp P ops Q i K a w :=
 lA V hc hd hf hn hbd h
end
section
variable {P:Program} {X:Nat->Prop} {w₀ w w':World}
theorem Ow.pass2 {A T B T' T2:OwL} (h:Ow P X w₀ w (A++(T++B))) (h':Ow P (inT T) w w' (T'++T2)):Ow P X w₀ w' ((A++(T'++B))++T2):=by
 have h1:=(h.m.pass h'.m).o (P:=P)
 refine (h1.m.perm ?_).o
 simp only [sH]
 refine List.Perm.append_left A (List.Perm.append_left T' ?_)
 exact List.perm_append_comm
theorem Ow.swap {A T1 T2 B:OwL} (h:Ow P X w₀ w (A++(T1++(T2++B)))):Ow P X w₀ w (A++(T2++(T1++B))):=by
 refine (h.m.perm (List.Perm.append_left A ?_)).o
 rw [← sH,← sH]
 exact List.Perm.append_right B List.perm_append_comm
theorem Ow.drop {A T B:OwL} (h:Ow P X w₀ w (A++(T++B))):Ow P X w₀ w (A++B):=(h.m.less (List.Sublist.append_left (List.sublist_append_right T B) A)).o
theorem Ow.ofBlk {b:Nat} {t:TypeId} {l:List Value} (h:Blk w b t l):Ow P (inT [(b,t,l)]) w w [(b,t,l)] :=
 (⟨Only.refl _ _,fun x hx=>by rw [sM] at hx; subst hx; exact h,List.pairwise_singleton _ _,fun x hx=> .inr ⟨x,hx,rfl⟩⟩:OwM _ _ _ _).o
theorem Vw.keep {α:Type} {f : α->List Value} {v:Value} {l:List α} (h:Vw f w v l) (k:Only Ai w w'):Vw f w' v l:=by
 rcases h with h | ⟨ad,c,rfl,hc⟩
 · exact .inl h
 · exact .inr ⟨ad,c,rfl,fun j u hj=>k.cell (hc j u hj) fun h=>h⟩
theorem Vw.pos {α:Type} {f : α->List Value} {p:Option Addr} {m c:Nat} {l:List α} (h:Vw f w (.slice p m c) l) (hm : 0 < m) : ∃ ad,p=some ad:=by
 rcases h with ⟨h,_⟩ | ⟨ad,c,h,_⟩
 · cases h; cases hm
 · cases h; exact ⟨ad,rfl⟩
theorem Zw {α:Type} {f : α->List Value} {sz:Nat} (E:Enc f sz) : ∀ (l:List α) (i:Nat) (x : α) (k:Nat) (v:Value),l[i]? = some x->(f x)[k]? = some v->(l.flatMap f)[i*sz+k]? = some v
 | [],i,x,k,v,h,_=>by simp at h
 | y::l,0,x,k,v,h,hk=>by
  simp only [List.getElem?_cons_zero,Option.some.injEq] at h
  subst h
  rw [List.flatMap_cons,Nat.zero_mul,Nat.zero_add,List.getElem?_append_left (List.getElem?_eq_some_iff.1 hk).1]; exact hk
 | y::l,i+1,x,k,v,h,hk=>by
  simp only [List.getElem?_cons_succ] at h
  have:=Zw E l i x k v h hk
  rw [List.flatMap_cons,List.getElem?_append_right (by rw [E.len,Nat.succ_mul]; omega),E.len,show (i+1)*sz+k - sz=i*sz+k by rw [Nat.succ_mul]; omega]
  exact this
theorem Vw.cell {α:Type} {f : α->List Value} {sz:Nat} (E:Enc f sz) {ad:Addr} {m c:Nat} {l:List α} (h:Vw f w (.slice (some ad) m c) l) {i:Nat} {x : α} (hx:l[i]? = some x) {k:Nat} {v:Value} (hk:(f x)[k]? = some v):w.cell? (ad.add (i*sz+k))=some v:=by
 rcases h with ⟨h,_⟩ | ⟨ad',c',h,hc⟩
 · cases h
 · cases h; exact hc _ _ (Zw E l i x k v hx hk)
theorem add_add (ad:Addr) (i j:Nat):(ad.add i).add j=ad.add (i+j):=by
 unfold Addr.add
 repeat' split
 all_goals simp_all [Nat.add_assoc]
theorem Vw.ld1 {α:Type} {f : α->List Value} {sz:Nat} (E:Enc f sz) {ad:Addr} {m c:Nat} {l:List α} (h:Vw f w (.slice (some ad) m c) l) {i:Nat} {x : α} (hx:l[i]? = some x) {k:Nat} {v:Value} {t:TypeId} (hk:(f x)[k]? = some v) (ht:Lr P t=true:=by kernel_rfl):Ld P w ((ad.add (i*sz)).add k) t v:=by
 rw [add_add]; exact Cz ht (h.cell E hx hk)
theorem Vw.ld0 {α:Type} {f : α->List Value} {sz:Nat} (E:Enc f sz) {ad:Addr} {m c:Nat} {l:List α} (h:Vw f w (.slice (some ad) m c) l) {i:Nat} {x : α} (hx:l[i]? = some x) {v:Value} {t:TypeId} (hk:(f x)[0]? = some v) (ht:Lr P t=true:=by kernel_rfl):Ld P w (ad.add (i*sz)) t v:=Cz ht (h.cell E hx hk)
theorem Vw.ldn {α:Type} {f : α->List Value} {sz:Nat} (E:Enc f sz) {ad:Addr} {m c:Nat} {l:List α} (h:Vw f w (.slice (some ad) m c) l) {i:Nat} {x : α} (hx:l[i]? = some x) {t:TypeId} (ht:cQ P t=some sz:=by kernel_rfl):Ld P w (ad.add (i*sz)) t (.agg (f x).toArray) :=
 fZ ht (E.len x) fun j v hj=>by rw [add_add]; exact h.cell E hx hj
theorem Bg {α:Type} (l:List α) (d : α) {i:Nat} (h:i < l.length):l[i]? = some (l.getD i d):=by
 rw [List.getD_eq_getElem?_getD,List.getElem?_eq_getElem h]; rfl
end
section
variable {P:Program} {ops:Array Oper} {Q:Exit->Act->World->Prop} {n:Nat} {ds:List Deferred} {a:Act} {e:Env} {w:World} {K:Act->World->Prop} {i:Nat}
def Z3 (ops:Array Oper) (e:Env) (i:Nat):Option (FuncId×Array Value) :=
 match N4 ops e i with
 | some o=>match o.op with
  | .defer c=>match c.callee with
   | .value x=>match c.args.toList with
    | []=>match o.dst with
     | none=>match val e x with
      | some (.func (.func f) fst cap)=>match fst.toList with
       | []=>some (f,cap)
       | _=>none
      | _=>none
     | some _=>none
    | _=>none
   | _=>none
  | _=>none
 | none=>none
theorem mD {f:FuncId} {cap:Array Value} (V:Holds n ds a e) (hK : ∀ a',Holds n ({target:= .fn (.func f) cap,args:=#[]}::ds) a' e->K a' w) (he:Z3 ops e i=some (f,cap):=by kernel_rfl):wpOp P ops Q i K a w:=by
 unfold Z3 at he
 repeat' split at he
 all_goals try (cases he; done)
 rename_i o ho _ c hop _ x hcl _ hargs _ hdst _ f' fst cap' hx _ hfst
 simp only [Option.some.injEq,Prod.mk.injEq] at he
 obtain ⟨rfl,rfl⟩:=he
 have e1:c.args=#[]:=Array.toList_inj.1 hargs
 have e2:fst=#[]:=Array.toList_inj.1 hfst
 refine D2 V ho ?_
 have hrun:(execOp a.eval o).run P w = .ok (.defer {target:= .fn (.func f') cap',args:=#[]}) w:=by
  unfold execOp
  simp only [hop,resolve,hcl,V.eval hx,Deferred.ofValue,e1,e2,Sem.run_bind,Sem.run_pure,Result.andThen_ok]
  simp
 unfold Oper.wp
 rw [hrun]
 show K ({a with defers:=_::a.defers}.put o.dst undef) w
 rw [hdst]
 exact hK _ ⟨V.size,by show _::a.defers=_; rw [V.dfr],V.slot⟩
theorem Q6 {fn:Func} (V:Holds n ds a e) (vs:List Value) {cs:List (Option (Addr×TypeId))} {us:List Value} (hc:Sn P w cs us) (hr:M0 e fn.results.toList vs=some (cs,us)):(results fn a.tmps).run P w = .ok (Rj us) w:=by
 have h:=iU (P:=P) (fn:=fn) (R:=fun en _=>en = .returned (Rj us)) (a:={a with defers:=[]}) (n:=n) (e:=e) (w:=w) ⟨V.size,rfl,V.slot⟩ vs hr hc rfl
 obtain ⟨_,v,h1,h2⟩:=h
 cases h2
 exact h1
theorem iV {f:FuncId} {fn:Func} {c:Code} {args:List Value} {R:Ending->World->Prop} (hf:P.funcs[f]? = some fn) (hb:fn.body=some c) {m n:Nat} (hm:fn.ntmps=args.length+m) (hn:args.length+m=n)
 (h : ∀ a,Holds n [] a (Nq args 0)->c.wp P (bodyPostD P fn R) a w):Calls P f args.toArray w R:=by
 refine calls_of_wp_defers hf hb ?_
 subst hn
 have:=h _ (Holds.begin args m)
 have he:fn.ntmps - args.toArray.size=m:=by simp [hm]
 rw [he]
 exact this
theorem lU {f:FuncId} {fc:Func} {cap:Array Value} (hf:P.funcs[f]? = some fc) (hn:(fc.name == "runtime.NumGoroutine")=false) (hbd:fc.body.isNone=false):(invoke (.fn (.func f) cap) #[]).run P w = .ok (.enter f cap) w:=by
 simp only [invoke,callFunc,Sem.run_bind,Sem.run_pure,Result.andThen_ok,run_program,hf,hn,hbd,Bool.false_eq_true,if_false]
 simp
theorem Ku {fn fc:Func} {f:FuncId} {cap:Array Value} {R:Ending->World->Prop} {u:FrameMode} {v:Value} {S:World->Prop} (V:Holds n [{target:= .fn (.func f) cap,args:=#[]}] a e) (hu:u≠ .run) (hf:P.funcs[f]? = some fc)
 (hcl:CallsD P f cap u w fun en u' w'=>en = .returned v/\settle u' = .returning/\S w') (hS : ∀ w',S w'->∃ vs cs us,Sn P w' cs us/\M0 e fn.results.toList vs=some (cs,us)/\R (.returned (Rj us)) w')
 (hn:(fc.name == "runtime.NumGoroutine")=false:=by kernel_rfl) (hbd:fc.body.isNone=false:=by kernel_rfl):Leaves P fn a.tmps R a.defers u w:=by
 rw [V.dfr]
 refine leaves_cons hu (lU hf hn hbd) (hcl.mono fun en u' w' hh=>?_)
 obtain ⟨rfl,hs,hw⟩:=hh
 show Leaves P fn a.tmps R [] (settle u') w'
 rw [hs]
 obtain ⟨vs,cs,us,h1,h2,h3⟩:=hS w' hw
 exact ⟨Rj us,Q6 V vs h1 h2,h3⟩
end
section
variable {P:Program} {Q:Exit->Act->List Frame->World->Prop} {n:Nat} {ds:List Deferred} {a:Act} {e:Env} {w:World}
theorem Q8 {c₀:Frame} {cs:List Frame} {v:Value} {older:List PanicEntry} (hu:c₀.mode = .panicking ({v,recovered:=false}::older)):recoverD (c₀::cs)=some (v,{c₀ with mode:= .panicking ({v,recovered:=true}::older)}::cs):=by
 unfold recoverD
 simp only [hu]
theorem Sp {c₀:Frame} {cs:List Frame} (hu:c₀.mode = .returning):recoverD (c₀::cs)=none:=by
 unfold recoverD
 simp only [hu]
theorem Nu {id d d2:Nat} {o1 o2:Oper} {y:Code} {c:Call} {cs cs':List Frame} {v:Value} (V:Holds n ds a e) (h1:o1.op = .call c) (h1c:c.callee = .builtin .recover) (h1a:c.args=#[]) (h1d:o1.dst=some d) (h1g:o1.guard=none) (h2:o2.op = .assign (.tmp d)) (h2d:o2.dst=some d2) (h2g:o2.guard=none)
 (hdn:d < n) (hd2:d2 < n) (hr:(match recoverD cs with | some (v,cs')=>(v,cs') | none=>(Value.nilIface,cs))=(v,cs')) (hK : ∀ a',Holds n ds a' ((d2,v)::(d,v)::e)->y.wp P (fun e a' w'=>Q e a' cs' w') a' w) :
 (Code.region id #[o1,o2] false).wpS P (Exit.thenS (y.wpS P Q) Q) a cs w:=by
 refine wpS_region ?_
 have hw1 : ∀ l,Region.wanted o1 l=true:=fun l=>by unfold Region.wanted; rw [h1g]
 have hw2 : ∀ l,Region.wanted o2 l=true:=fun l=>by unfold Region.wanted; rw [h2g]
 have r1 : ∀ a w,(execOp (Act.eval a) o1).run P w = .ok .recover w:=fun a w=>by
  unfold execOp
  simp [h1,resolve,h1c,invoke,builtin,h1a]
 have key:wpOpsS P #[o1,o2] (Exit.thenS (y.wpS P Q) Q) [1] (a.put (some d) v) cs' w:=by
  have r2:(execOp (Act.eval (a.put (some d) v)) o2).run P w = .ok (.value v) w:=by
   unfold execOp
   have:=(V.put v hdn).slot d v (by simp [get])
   simp only [h2]
   show Result.ok (Next.value ((a.put (some d) v).tmps.getD d undef)) w=_
   rw [this]
  have hi2:(#[o1,o2]:Array Oper)[1]? = some o2:=rfl
  simp only [wpOpsS,hi2,hw2,if_true,r2,Oper.upon]
  rw [h2d]
  exact wpS_of_wp (hK _ ((V.put v hdn).put v hd2))
 have hi1:(#[o1,o2]:Array Oper)[0]? = some o1:=rfl
 show wpOpsS P #[o1,o2] _ [0,1] a cs w
 rw [wpOpsS]
 simp only [hi1,hw1,if_true,r1]
 cases hcs:recoverD cs with
 | none=>rw [hcs] at hr; cases hr; simp only [h1d]; exact key
 | some q=>obtain ⟨q1,q2⟩:=q; rw [hcs] at hr; cases hr; simp only [h1d]; exact key
end
section
variable {P:Program} {w:World}
theorem Vw.ldT {ad:Addr} {m c:Nat} {l:List ByteArray} (h:Vw fT w (.slice (some ad) m c) l) {i:Nat} {x:ByteArray} (hx:l[i]? = some x) {t:TypeId} (ht:Lr P t=true:=by kernel_rfl):Ld P w (ad.add i) t (.string x):=by
 have:=h.cell Jn (k:=0) hx (v:= .string x) rfl
 rw [Nat.mul_one,Nat.add_zero] at this
 exact Cz ht this
theorem Kj {α:Type} {p : α->Bool} {l:List α} {i:Nat} {x : α} (hx:l[i]? = some x) (h:p x=false):l.all p=false:=by
 rw [List.all_eq_false]
 exact ⟨x,List.mem_of_getElem? hx,by simp [h]⟩
theorem Db {α:Type} {p : α->Bool} {l:List α} {i:Nat} {x : α} (ho:(l.take i).all p=true) (hx:l[i]? = some x) (h:p x=true):(l.take (i+1)).all p=true:=by
 rw [List.take_add_one,hx,List.all_append,ho]
 simp [h]
theorem apd {α:Type}:(∀ a b c:List α,(a++b)++c=a++(b++c))/\(∀ (a : α) (b c:List α),(a::b)++c=a::(b++c))/\(∀ b:List α,[]++b=b)/\∀ b:List α,b++[]=b :=
 ⟨sH,fun _ _ _=>rfl,fun _=>rfl,sN⟩
theorem A7 {α:Type} {p : α->Bool} {l:List α} {i:Nat} (ho:(l.take i).all p=true) (hi : ¬ i < l.length):l.all p=true:=by
 rwa [List.take_of_length_le (by omega)] at ho
end
end Go.Proofs.Sx
namespace Go.Proofs.YtdljjajjonfjbaaGreatDoor
open Go Go.RowKit Go.Proofs.Sx
structure CmdL where
 words:List ByteArray
 inp:ByteArray
 out:ByteArray
 app:Bool
structure JobL where
 cmds:List CmdL
 bg:Bool
theorem Ns (s:ByteArray) (i:Nat) : 0<=sb s i/\sb s i<=255:=by
 unfold sb
 have:=(s.data.toList.getD i 0).toNat_lt
 omega
def Bd (c:Int):Bool:=decide ((97<=c/\c<=122)\/(48<=c/\c<=57)\/c=46\/c=45\/c=95\/c=47)
def Dk (c:Int):Bool:=decide (c=32\/c=9)
def Lj (p:Int->Bool) (s:ByteArray):Nat->Nat->Nat
 | 0,_=>0
 | k+1,n=>if n < s.size/\p (sb s n)=true then Lj p s k (n+1)+1 else 0
def wl (s:ByteArray) (n:Nat):Nat:=Lj Bd s (s.size - n) n
def bw (s:ByteArray) (n:Nat):Nat:=Lj Dk s (s.size - n) n
def sk (s:ByteArray) (n:Nat):Nat:=n+bw s n
section
variable {p:Int->Bool} {s:ByteArray} {n:Nat}
theorem Sj (h:n < s.size) (hp:p (sb s n)=true):Lj p s (s.size - n) n=Lj p s (s.size - (n+1)) (n+1)+1:=by
 rw [show s.size - n=(s.size - (n+1))+1 by omega]
 simp only [Lj]
 rw [if_pos ⟨h,hp⟩]
theorem Si (h : ¬ (n < s.size/\p (sb s n)=true)):Lj p s (s.size - n) n=0:=by
 cases hk:s.size - n with
 | zero=>rfl
 | succ k=>simp only [Lj]; rw [if_neg h]
theorem Vz (p:Int->Bool) (s:ByteArray) : ∀ k n,Lj p s k n<=k
 | 0,_=>Nat.le_refl 0
 | k+1,n=>by simp only [Lj]; split; {have:=Vz p s k (n+1); omega}; {omega}
theorem dN (p:Int->Bool) (s:ByteArray) : ∀ k n i,i < Lj p s k n->n+i < s.size/\p (sb s (n+i))=true
 | 0,n,i,h=>absurd h (Nat.not_lt_zero _)
 | k+1,n,i,h=>by
  simp only [Lj] at h
  split at h
  · rename_i hc
    cases i with
    | zero=>exact hc
    | succ i=>have:=dN p s k (n+1) i (by omega); rw [show n+(i+1)=n+1+i by omega]; exact this
  · exact absurd h (Nat.not_lt_zero _)
theorem M3 (h:n < s.size) (hp:Bd (sb s n)=true):wl s n=wl s (n+1)+1:=Sj h hp
theorem E2 (h : ¬ (n < s.size/\Bd (sb s n)=true)):wl s n=0:=Si h
theorem oE (s:ByteArray) (n:Nat):wl s n<=s.size - n:=Vz _ _ _ _
theorem Jx : 0 < wl s n↔n < s.size/\Bd (sb s n)=true:=by
 constructor
 · intro h; have:=dN Bd s _ n 0 h; simpa using this
 · intro h; rw [M3 h.1 h.2]; omega
theorem M6 (h:n < s.size) (hp:Dk (sb s n)=true):sk s n=sk s (n+1):=by
 unfold sk bw; rw [Sj h hp]; omega
theorem Jb (h : ¬ (n < s.size/\Dk (sb s n)=true)):sk s n=n:=by unfold sk bw; rw [Si h]; rfl
theorem dG (h:n<=s.size):sk s n<=s.size:=by
 unfold sk bw; have:=Vz Dk s (s.size - n) n; omega
theorem oP (s:ByteArray) (n:Nat):n<=sk s n:=Nat.le_add_right _ _
end
def kd (s:ByteArray) (n:Nat):Nat :=
 if n < s.size then
  if Bd (sb s n)=true then 1
  else if sb s n=60 then 2
  else if sb s n=62 then (if n+1 < s.size/\sb s (n+1)=62 then 4 else 3)
  else if sb s n=59 then 5 else if sb s n=38 then 6 else if sb s n=124 then 7 else 8
 else 0
def tlK (w:Nat):Nat->Nat
 | 0=>0
 | 1=>w
 | 4=>2
 | 8=>0
 | _=>1
def tl (s:ByteArray) (n:Nat):Nat:=tlK (wl s n) (kd s n)
def tk (s:ByteArray) (n:Nat):ByteArray:=s.extract n (n+tl s n)
def nx (s:ByteArray) (n:Nat):Nat:=sk s (n+tl s n)
section
variable {s:ByteArray} {n:Nat}
theorem Dq (s:ByteArray) (n:Nat) :
 (kd s n=0/\¬ n < s.size)\/(kd s n=1/\n < s.size/\Bd (sb s n)=true) \/
 (n < s.size/\Bd (sb s n)=false/\((kd s n=2/\sb s n=60)\/(kd s n=3/\sb s n=62/\¬ (n+1 < s.size/\sb s (n+1)=62))\/(kd s n=4/\sb s n=62/\n+1 < s.size/\sb s (n+1)=62) \/
  (kd s n=5/\sb s n=59)\/(kd s n=6/\sb s n=38)\/(kd s n=7/\sb s n=124)\/(kd s n=8/\sb s n≠60/\sb s n≠62/\sb s n≠59/\sb s n≠38/\sb s n≠124))):=by
 unfold kd
 by_cases h:n < s.size
 · rw [if_pos h]
   by_cases hp:Bd (sb s n)=true
   · rw [if_pos hp]; exact .inr (.inl ⟨rfl,h,hp⟩)
   · rw [if_neg hp]
     refine .inr (.inr ⟨h,by simpa using hp,?_⟩)
     by_cases h1:sb s n=60
     · rw [if_pos h1]; exact .inl ⟨rfl,h1⟩
     rw [if_neg h1]
     by_cases h2:sb s n=62
     · rw [if_pos h2]
       by_cases h3:n+1 < s.size/\sb s (n+1)=62
       · rw [if_pos h3]; exact .inr (.inr (.inl ⟨rfl,h2,h3.1,h3.2⟩))
       · rw [if_neg h3]; exact .inr (.inl ⟨rfl,h2,h3⟩)
     rw [if_neg h2]
     by_cases h3:sb s n=59
     · rw [if_pos h3]; simp [h3]
     rw [if_neg h3]
     by_cases h4:sb s n=38
     · rw [if_pos h4]; simp [h4]
     rw [if_neg h4]
     by_cases h5:sb s n=124
     · rw [if_pos h5]; simp [h5]
     rw [if_neg h5]; simp [h1,h2,h3,h4,h5]
 · rw [if_neg h]; exact .inl ⟨rfl,h⟩
theorem Ps {k:Nat} (h:kd s n=k):tl s n=tlK (wl s n) k:=by unfold tl; rw [h]
theorem Sc (s:ByteArray) (n:Nat):tl s n<=s.size - n:=by
 have hw:=oE s n
 rcases Dq s n with ⟨h,_⟩ | ⟨h,_⟩ | ⟨hn,_,h⟩
 · rw [Ps h]; exact Nat.zero_le _
 · rw [Ps h]; exact hw
 · rcases h with ⟨h,_⟩ | ⟨h,_⟩ | ⟨h,_,h2,_⟩ | ⟨h,_⟩ | ⟨h,_⟩ | ⟨h,_⟩ | ⟨h,_⟩ <;> rw [Ps h] <;> simp only [tlK] <;> omega
theorem Dv (s:ByteArray) (n:Nat):(kd s n=0/\tl s n=0)\/(kd s n=8/\tl s n=0)\/(kd s n=1/\tl s n=wl s n/\1<=wl s n)\/(kd s n=4/\tl s n=2)\/((kd s n=2\/kd s n=3\/kd s n=5\/kd s n=6\/kd s n=7)/\tl s n=1):=by
 rcases Dq s n with ⟨h,_⟩ | ⟨h,h1,h2⟩ | ⟨hn,_,h⟩
 · exact .inl ⟨h,Ps h⟩
 · exact .inr (.inr (.inl ⟨h,Ps h,Jx.2 ⟨h1,h2⟩⟩))
 · rcases h with ⟨h,_⟩ | ⟨h,_⟩ | ⟨h,_,h2,_⟩ | ⟨h,_⟩ | ⟨h,_⟩ | ⟨h,_⟩ | ⟨h,_⟩ <;> have ht:=Ps h <;> simp only [tlK] at ht <;> omega
theorem Hn (h:n<=s.size):nx s n<=s.size:=by
 unfold nx; have:=Sc s n; exact dG (by omega)
theorem P7 (h:kd s n≠0/\kd s n≠8):n < nx s n:=by
 unfold nx
 have h1:=oP s (n+tl s n)
 have h2:=Dv s n
 omega
theorem C2 (s:ByteArray) (n m:Nat):(s.extract n m).data.toList=(s.data.toList.drop n).take (m - n):=by
 simp only [ByteArray.data_extract,Array.toList_extract,List.extract_eq_take_drop]
theorem Ef (s:ByteArray) (n:Nat):(tk s n).size=tl s n:=by
 unfold tk
 have h:=Sc s n
 rw [sT]; omega
theorem Q3 {a b i:Nat} (h:i < b - a):sb (s.extract a b) i=sb s (a+i):=by
 unfold sb
 rw [C2,List.getD_eq_getElem?_getD,List.getD_eq_getElem?_getD,List.getElem?_take,if_pos h,List.getElem?_drop]
theorem Mc {i:Nat} (h:i < tl s n):sb (tk s n) i=sb s (n+i):=Q3 (by omega)
theorem Ar (s:ByteArray):s.data.toList.length=s.size:=by rw [Array.length_toList]; rfl
theorem As (s:ByteArray):(s.toList == (⟨#[]⟩:ByteArray).toList)=decide (s.size=0):=by
 rw [B3,B3,← Ar s]
 cases s.data.toList with
 | nil=>rfl
 | cons x r=>simp
theorem Sg (s:ByteArray) (i:Nat) (x:UInt8) (h:i < s.size):sb s i=(x.toNat:Int)↔s.data.toList[i]? = some x:=by
 unfold sb
 rw [← Ar] at h
 rw [List.getD_eq_getElem?_getD,List.getElem?_eq_getElem h]
 simp only [Option.getD_some,Option.some.injEq]
 constructor
 · intro e; exact UInt8.toNat_inj.1 (by omega)
 · intro e; rw [e]
theorem kE (s:ByteArray) (x:UInt8):(s.toList == (⟨#[x]⟩:ByteArray).toList)=decide (s.size=1/\sb s 0=(x.toNat:Int)):=by
 rw [B3,B3]
 have hs:=Ar s
 have hb:=Sg s 0 x
 show (s.data.toList == [x])=_
 match hl:s.data.toList with
 | []=>rw [hl] at hs; simp only [sF] at hs; rw [← hs]; simp
 | [y] =>
  rw [hl] at hs hb
  simp only [sE,sF] at hs
  have:=hb (by omega)
  simp only [List.getElem?_cons_zero,Option.some.injEq] at this
  simp only [← hs,this,true_and]
  rw [Bool.eq_iff_iff]; simp
 | y::z::r=>rw [hl] at hs; simp only [sE] at hs; rw [Bool.eq_iff_iff]; simp; omega
theorem Yq (s:ByteArray) (x y:UInt8):(s.toList == (⟨#[x,y]⟩:ByteArray).toList)=decide (s.size=2/\sb s 0=(x.toNat:Int)/\sb s 1=(y.toNat:Int)):=by
 rw [B3,B3]
 have hs:=Ar s
 have hb:=Sg s 0 x
 have hc:=Sg s 1 y
 show (s.data.toList == [x,y])=_
 match hl:s.data.toList with
 | []=>rw [hl] at hs; simp only [sF] at hs; rw [← hs]; simp
 | [y']=>rw [hl] at hs; simp only [sE,sF] at hs; rw [← hs]; simp
 | [x',y'] =>
  rw [hl] at hs hb hc
  simp only [sE,sF] at hs
  have h1:=hb (by omega)
  have h2:=hc (by omega)
  simp only [List.getElem?_cons_zero,List.getElem?_cons_succ,Option.some.injEq] at h1 h2
  simp only [← hs,h1,h2,true_and]
  rw [Bool.eq_iff_iff]; simp
 | x'::y'::z::r=>rw [hl] at hs; simp only [sE] at hs; rw [Bool.eq_iff_iff]; simp; omega
theorem N6 {c:Int} (h:Bd c=true):c≠60/\c≠62/\c≠59/\c≠38/\c≠124/\c≠32/\c≠9:=by
 unfold Bd at h
 have:=rV h
 omega
theorem Ym (s:ByteArray) (n:Nat):((tk s n).toList == (⟨#[]⟩:ByteArray).toList)=decide (kd s n=0\/kd s n=8):=by
 rw [As,Ef]
 have:=Dv s n
 exact decide_eq_decide.2 (by omega)
theorem Qx (x:UInt8) (k:Nat) (hx:(x.toNat=60/\k=2)\/(x.toNat=62/\k=3)\/(x.toNat=59/\k=5)\/(x.toNat=38/\k=6)\/(x.toNat=124/\k=7)) (s:ByteArray) (n:Nat):((tk s n).toList == (⟨#[x]⟩:ByteArray).toList)=decide (kd s n=k):=by
 rw [kE,Ef]
 refine decide_eq_decide.2 ?_
 have h1:=Dv s n
 have h2:=Dq s n
 constructor
 · rintro ⟨e1,e2⟩
   rw [Mc (by omega),Nat.add_zero] at e2
   rcases h2 with ⟨h,_⟩ | ⟨h,_,hp⟩ | ⟨_,_,h⟩
   · omega
   · have:=N6 hp; omega
   · omega
 · intro e
   have ht:tl s n=1:=by omega
   refine ⟨ht,?_⟩
   rw [Mc (by omega),Nat.add_zero]
   rcases h2 with ⟨h,_⟩ | ⟨h,_,hp⟩ | ⟨_,_,h⟩
   · omega
   · omega
   · omega
theorem Nm (s:ByteArray) (n:Nat):((tk s n).toList == (⟨#[60]⟩:ByteArray).toList)=decide (kd s n=2):=Qx 60 2 (by decide) s n
theorem Yk (s:ByteArray) (n:Nat):((tk s n).toList == (⟨#[59]⟩:ByteArray).toList)=decide (kd s n=5):=Qx 59 5 (by decide) s n
theorem Qz (s:ByteArray) (n:Nat):((tk s n).toList == (⟨#[38]⟩:ByteArray).toList)=decide (kd s n=6):=Qx 38 6 (by decide) s n
theorem pH (s:ByteArray) (n:Nat):((tk s n).toList == (⟨#[124]⟩:ByteArray).toList)=decide (kd s n=7):=Qx 124 7 (by decide) s n
theorem Qy (s:ByteArray) (n:Nat):((tk s n).toList == (⟨#[62,62]⟩:ByteArray).toList)=decide (kd s n=4):=by
 rw [Yq,Ef]
 refine decide_eq_decide.2 ?_
 have h1:=Dv s n
 have h2:=Dq s n
 show (_/\_=(62:Int)/\_=(62:Int))↔_
 constructor
 · rintro ⟨e1,e2,e3⟩
   rw [Mc (by omega),Nat.add_zero] at e2
   rcases h2 with ⟨h,_⟩ | ⟨h,_,hp⟩ | ⟨_,_,h⟩
   · omega
   · have:=N6 hp; omega
   · omega
 · intro e
   have ht:tl s n=2:=by omega
   rw [Mc (by omega),Mc (by omega),Nat.add_zero]
   refine ⟨ht,?_⟩
   rcases h2 with ⟨h,_⟩ | ⟨h,_,hp⟩ | ⟨_,_,h⟩
   · omega
   · omega
   · omega
end
abbrev PR (α:Type):=Except (Nat×Int) (α×Nat)
def Cw (s:ByteArray) (n:Nat):PR ByteArray :=
 if kd s n≠1 then .error (n,3) else if 60 < tl s n then .error (n,6) else .ok (tk s n,nx s n)
def Bo (s:ByteArray) (c:CmdL) (n:Nat):PR CmdL :=
 if (kd s n=2/\c.inp.size≠0)\/(kd s n≠2/\c.out.size≠0) then .error (n,3)
 else match Cw s (nx s n) with
  | .error e=> .error e
  | .ok (w,m)=> .ok (if kd s n=2 then ⟨c.words,w,c.out,c.app⟩ else ⟨c.words,c.inp,w,decide (kd s n=4)⟩,m)
def Ed (soft:Bool) (s:ByteArray):Nat->CmdL->Nat->PR CmdL
 | 0,c,n=> .ok (c,n)
 | k+1,c,n =>
  if kd s n=1 then
   if c.words.length=4 then .error (n,6)
   else match Cw s n with
    | .error e=> .error e
    | .ok (w,m)=>Ed soft s k ⟨c.words++[w],c.inp,c.out,c.app⟩ m
  else if (kd s n=2\/kd s n=3\/kd s n=4)/\¬ (soft=true/\((kd s n=2/\c.inp.size≠0)\/(kd s n≠2/\c.out.size≠0))) then
   match Bo s c n with
    | .error e=> .error e
    | .ok (c',m)=>Ed soft s k c' m
  else if c.words.length=0 then .error (n,3) else .ok (c,n)
def Fh:CmdL:=⟨[],⟨#[]⟩,⟨#[]⟩,false⟩
def H7 (soft:Bool) (s:ByteArray) (n:Nat):PR CmdL:=Ed soft s (s.size+1) Fh n
def Da (k:Nat):Bool:=decide (1<=k/\k<=4)
def Gm (soft:Bool) (s:ByteArray):Nat->List CmdL->Nat->PR (List CmdL)
 | 0,l,n=> .ok (l,n)
 | k+1,l,n =>
  if kd s n=7 then
   if l.length=4/\Da (kd s (nx s n))=true then .error (nx s n,6)
   else match H7 soft s (nx s n) with
    | .error e=> .error e
    | .ok (c,m)=>Gm soft s k (l++[c]) m
  else .ok (l,n)
def G8 (soft:Bool) (s:ByteArray) (n:Nat):PR (List CmdL) :=
 match H7 soft s n with
 | .error e=> .error e
 | .ok (c,m)=>Gm soft s (s.size+1) [c] m
def Dz (soft:Bool) (s:ByteArray):Nat->List JobL->Nat->Except (Nat×Int) (List JobL)
 | 0,l,_=> .ok l
 | k+1,l,n =>
  if n < s.size then
   if l.length=8/\Da (kd s n)=true then .error (n,6)
   else match G8 soft s n with
    | .error e=> .error e
    | .ok (cs,m) =>
     if kd s m=0 then .ok (l++[⟨cs,decide (kd s m=6)⟩])
     else if kd s m=5\/kd s m=6 then Dz soft s k (l++[⟨cs,decide (kd s m=6)⟩]) (nx s m)
     else .error (m,3)
  else .ok l
def Dy (soft:Bool) (s:ByteArray):Except (Nat×Int) (List JobL):=Dz soft s (s.size+1) [] (sk s 0)
def okW (s:ByteArray):Nat->Bool
 | 0=>true
 | k+1=>okW s k && Bd (sb s k)
theorem eQ {s:ByteArray} {i:Nat} (h:Bd (sb s i)=false) : ∀ m,i < m->okW s m=false
 | 0,hm=>by omega
 | m+1,hm=>by
  simp only [okW]
  by_cases e:i=m
  · subst e; rw [h,Bool.and_false]
  · rw [eQ h m (by omega)]; rfl
def A3 (s:ByteArray):Bool:=okW s s.size && decide (1<=s.size/\s.size<=60)
theorem L0 {s:ByteArray} {i:Nat} (h:Bd (sb s i)=false) (hi:i < s.size):A3 s=false:=by unfold A3; rw [eQ h _ hi]; rfl
theorem Hb {s:ByteArray} (h:okW s s.size=true):A3 s=decide (1<=s.size/\s.size<=60):=by unfold A3; rw [h,Bool.true_and]
set_option maxRecDepth 10000
open Go Go.Shelf Go.RowKit Go.Proofs Go.Proofs.Sx
def K0:Go.Shelf.Ren:=⟨fun | 137=>91 | 217=>110 | 266=>118 | n=>n,fun | 9=>9 | 5=>5 | 3=>3 | n=>n,fun n=>n⟩
theorem Pg:Lays.n137 sA K0 where
 mixed:=by kernel_rfl
 f137:=Tryz.func91.trans (congrArg some (by kernel_rfl))
 f217:=Tryz.func110.trans (congrArg some (by kernel_rfl))
 f266:=Tryz.func118.trans (congrArg some (by kernel_rfl))
 t3:=Tryz.underlying3
 a3:=Tryz.isAgg3
 z3:=Tryz.sizeOf3
 v3:=Tryz.zeroValue3
 t5:=Tryz.underlying5
 a5:=Tryz.isAgg5
 z5:=Tryz.sizeOf5
 v5:=Tryz.zeroValue5
 t9:=Tryz.underlying9
 a9:=Tryz.isAgg9
 z9:=Tryz.sizeOf9
 v9:=Tryz.zeroValue9
def K1:Go.Shelf.Ren:=⟨fun | 99=>136 | 206=>141 | n=>n,fun | 9=>9 | 4=>4 | 3=>3 | n=>n,fun n=>n⟩
theorem Ph:Lays.n99 sA K1 where
 mixed:=by kernel_rfl
 f99:=Tryz.func136.trans (congrArg some (by kernel_rfl))
 f206:=Tryz.func141.trans (congrArg some (by kernel_rfl))
 t3:=Tryz.underlying3
 a3:=Tryz.isAgg3
 z3:=Tryz.sizeOf3
 v3:=Tryz.zeroValue3
 t4:=Tryz.underlying4
 a4:=Tryz.isAgg4
 z4:=Tryz.sizeOf4
 v4:=Tryz.zeroValue4
 t9:=Tryz.underlying9
 a9:=Tryz.isAgg9
 z9:=Tryz.sizeOf9
 v9:=Tryz.zeroValue9
theorem Cu (s:ByteArray) (c:Int) (w:World):Calls sA 91 #[.string s,.int .u8 c] w fun e w'=>e = .returned (.int .i64 (Lib.indexByte s.data.toList c.toNat.toUInt8))/\Only Ai w w' :=
 (Any.strings_IndexByte Pg s c w).mono fun e w' ⟨he,hw⟩=>⟨he,by subst hw; exact Only.refl _ _⟩
theorem Jv (s p:ByteArray) (w:World):Calls sA 136 #[.string s,.string p] w fun e w'=>e = .returned (.bool (Lib.hasPrefix s.data.toList p.data.toList))/\Only Ai w w' :=
 (Any.strings_HasPrefix Ph s p w).mono fun e w' ⟨he,hw⟩=>⟨he,by subst hw; exact Only.refl _ _⟩
end Go.Proofs.YtdljjajjonfjbaaGreatDoor
namespace Go.Proofs.Sx
open Go Go.RowKit
theorem gO (e:Env) : ∀ l t v,t∈l->get e t=some v->get (Cj e l) t=some v
 | k::r,t,v,hm,h=>by
  by_cases hk:k=t
  · subst hk; simp only [Cj,h,get]; rw [Nat.beq_refl]; rfl
  · have hr:=gO e r t v ((List.mem_cons.1 hm).resolve_left fun x=>hk x.symm) h
    simp only [Cj]
    cases get e k with
    | none=>exact hr
    | some u=>simp only [get]; rw [Gu hk]; exact hr
theorem Tv : ∀ (e:Env) t v,get e t=some v->t∈H2 e
 | (k,u)::r,t,v,h=>by
  by_cases hk:k=t
  · subst hk; exact List.mem_cons_self ..
  · simp only [get] at h; rw [Gu hk] at h; exact List.mem_cons_of_mem _ (Tv r t v h)
def full (e:Env):Env:=Cj e (H2 e)
theorem Holds.unf {n:Nat} {ds:List Deferred} {a:Act} {e:Env} (h:Holds n ds a (full e)):Holds n ds a e :=
 ⟨h.size,h.dfr,fun t v ht=>h.slot t v (gO e _ t v (Tv e t v ht) ht)⟩
section
variable {P:Program} {ops:Array Oper} {Q:Exit->Act->World->Prop} {n:Nat} {ds:List Deferred} {a:Act} {e:Env} {w:World} {K:Act->World->Prop} {i id:Nat} {y:Code} {S:World->Prop} {Cs:List Prop} {L:List Nat} {Lp:List (Nat×Bool)}
theorem Kb (m:Nat) (e1:Env) (V:Holds n ds a e) (vs:List Value) (hC:Ej Cs) (hK : ∀ a',Holds n ds a' (e1++e)->wpOps P ops Q (L.drop m) a' w)
 (hl:Nat.beq (Bx ops (L.take m)).length (L.take m).length=true:=by kernel_rfl) (hev:D9 P (Ld P w) n ops (H2 (e1++e)) (Bx ops (L.take m)) e vs=some (full (e1++e),Cs):=by kernel_rfl):wpOps P ops Q L a w:=by
 have h:=Vg (P:=P) (Q:=Q) (r:=L.drop m) V vs _ hl hev hC fun a' h=>hK a' h.unf
 rwa [List.take_append_drop] at h
theorem Ka (m:Nat) (e1:Env) (V:Holds n ds a e) (hK : ∀ a',Holds n ds a' (e1++e)->wpOps P ops Q (L.drop m) a' w)
 (hl:Nat.beq (Bx ops (L.take m)).length (L.take m).length=true:=by kernel_rfl) (hev:D9 P (Ld P w) n ops (H2 (e1++e)) (Bx ops (L.take m)) e []=some (full (e1++e),[]):=by kernel_rfl):wpOps P ops Q L a w:=Kb m e1 V [] c0 hK hl hev
theorem Ke (m:Nat) (e1:Env) (V:Holds n ds a e) (vs:List Value) (hC:Ej Cs) (hK : ∀ a',Holds n ds a' (e1++e)->Ds P ops Q S (Lp.drop m) a' w)
 (hq:Nv ((Lp.take m).map (·.1))=Lp.take m:=by kernel_rfl) (hl:Nat.beq (Bx ops ((Lp.take m).map (·.1))).length ((Lp.take m).map (·.1)).length=true:=by kernel_rfl) (hev:D9 P (LdS P S) n ops (H2 (e1++e)) (Bx ops ((Lp.take m).map (·.1))) e vs=some (full (e1++e),Cs):=by kernel_rfl):Ds P ops Q S Lp a w:=by
 have h:=rK (P:=P) (Q:=Q) (S:=S) (w:=w) (r:=Lp.drop m) V vs _ hl hev hC fun a' h=>hK a' h.unf
 rwa [hq,List.take_append_drop] at h
theorem Kd (m:Nat) (e1:Env) (V:Holds n ds a e) (hK : ∀ a',Holds n ds a' (e1++e)->Ds P ops Q S (Lp.drop m) a' w)
 (hq:Nv ((Lp.take m).map (·.1))=Lp.take m:=by kernel_rfl) (hl:Nat.beq (Bx ops ((Lp.take m).map (·.1))).length ((Lp.take m).map (·.1)).length=true:=by kernel_rfl) (hev:D9 P (LdS P S) n ops (H2 (e1++e)) (Bx ops ((Lp.take m).map (·.1))) e []=some (full (e1++e),[]):=by kernel_rfl):Ds P ops Q S Lp a w:=Ke m e1 V [] c0 hK hq hl hev
theorem Kt (l:List Nat) {r:PT} (e1:Env) (V:Holds n ds a e) (vs:List Value) (hC:Ej Cs) (hK : ∀ a',Holds n ds a' (e1++e)->Df P ops Q S r a' w)
 (hl:Nat.beq (Bx ops l).length l.length=true:=by kernel_rfl) (hev:D9 P (LdS P S) n ops (H2 (e1++e)) (Bx ops l) e vs=some (full (e1++e),Cs):=by kernel_rfl):Df P ops Q S (V2 l r) a w :=
 Kk (K:=fun a'=>Holds n ds a' (full (e1++e))) (fun a' h=>hK a' h.unf) l a (Nat.eq_of_beq_eq_true hl) (D8 (S:=S) (L:=LdS P S) (fun ad t v h w' hw=>h w' hw) _ _ _ _ _ _ V hev hC)
theorem Qc (e1:Env) (V:Holds n ds a e) (vs:List Value) (hC:Ej Cs) (hK : ∀ a',Holds n ds a' (e1++e)->K a' w) (hl:Nat.beq (Bx ops [i]).length 1=true:=by kernel_rfl) (hev:D9 P (Ld P w) n ops (H2 (e1++e)) (Bx ops [i]) e vs=some (full (e1++e),Cs):=by kernel_rfl) :
 wpOp P ops Q i K a w:=kX V vs _ hl hev hC fun a' h=>hK a' h.unf
theorem Rc (e1:Env) (V:Holds n ds a e) (vs:List Value) (hC:Ej Cs) (hK : ∀ a',Holds n ds a' (e1++e)->Q .normal a' w)
 (hl:Nat.beq (Bx ops (List.range ops.size)).length (List.range ops.size).length=true:=by kernel_rfl) (hev:D9 P (Ld P w) n ops (H2 (e1++e)) (Bx ops (List.range ops.size)) e vs=some (full (e1++e),Cs):=by kernel_rfl) :
 (Code.region id ops false).wp P Q a w:=by
 refine wp_region ?_
 have:=Vg (P:=P) (Q:=Q) (r:=[]) V vs _ hl hev hC fun a' h=>hK a' h.unf
 simpa using this
theorem Sb (e1:Env) (V:Holds n ds a e) (vs:List Value) (hC:Ej Cs) (hK : ∀ a',Holds n ds a' (e1++e)->y.wp P Q a' w)
 (hl:Nat.beq (Bx ops (List.range ops.size)).length (List.range ops.size).length=true:=by kernel_rfl) (hev:D9 P (Ld P w) n ops (H2 (e1++e)) (Bx ops (List.range ops.size)) e vs=some (full (e1++e),Cs):=by kernel_rfl) :
 (Code.seq (.region id ops false) y).wp P Q a w:=wp_seq (Rc e1 V vs hC hK hl hev)
theorem Sa (e1:Env) (V:Holds n ds a e) (hK : ∀ a',Holds n ds a' (e1++e)->y.wp P Q a' w)
 (hl:Nat.beq (Bx ops (List.range ops.size)).length (List.range ops.size).length=true:=by kernel_rfl) (hev:D9 P (Ld P w) n ops (H2 (e1++e)) (Bx ops (List.range ops.size)) e []=some (full (e1++e),[]):=by kernel_rfl) :
 (Code.seq (.region id ops false) y).wp P Q a w:=Sb e1 V [] c0 hK hl hev
theorem Holds.ss {e':Env} (h:Holds n ds a e) (he:Cj e (H2 e')=e':=by kernel_rfl):Holds n ds a e':=h.sub _ he
theorem Ow.tt {P:Program} {X:Nat->Prop} {w₀ w:World} {L L':OwL} (h:Ow P X w₀ w L) (e:L=L':=by first | rfl | simp only [List.append_assoc,List.cons_append,List.nil_append,List.append_nil]):Ow P X w₀ w L':=e ▸ h
section
variable {X:Nat->Prop} {w₀:World} {M:OwL} {r:List Nat}
theorem Ms (off:Nat) (vc:List Value) (j:Nat) (V:Holds n ds a e) (O:Ow P X w₀ w M) (hK : ∀ w',Ow P X w₀ w' (oS M j (Do (oC M j) off vc))->wpOps P ops Q r a w')
 (hs:Gg P ops e i=some (⟨oB M j,off,none⟩,vc,vc.length):=by kernel_rfl) (hone:vc.all (·.oneCell')=true:=by kernel_rfl) (hlen:Nat.ble (off+vc.length) (oC M j).length=true:=by kernel_rfl) (hj:Nat.blt j M.length=true:=by kernel_rfl) :
 wpOps P ops Q (i::r) a w:=Ag (mS j V O hK hs hone hlen hj)
theorem Mn (l:List Value) (t:TypeId) (d:Nat) (V:Holds n ds a e) (O:Ow P X w₀ w M) (hK : ∀ a' w' b,Holds n ds a' ((d,pt b)::e)->Ow P X w₀ w' ((b,t,l)::M)->wpOps P ops Q r a' w')
 (hn : ∀ b,Th P ops e i b=some (.cells l.toArray t (0,0),pt b,some d):=by intro b; kernel_rfl) (hd:Nat.blt d n=true:=by kernel_rfl):wpOps P ops Q (i::r) a w:=Ag (mN V O hK hn hd)
theorem Mv (l:List Value) (t:TypeId) (k d:Nat) (V:Holds n ds a e) (O:Ow P X w₀ w M) (hK : ∀ a' w' b,Holds n ds a' ((d,.slice (some ⟨b,0,none⟩) k k)::e)->Ow P X w₀ w' ((b,t,l)::M)->wpOps P ops Q r a' w')
 (hn : ∀ b,Th P ops e i b=some (.cells l.toArray t (0,0),.slice (some ⟨b,0,none⟩) k k,some d):=by intro b; kernel_rfl) (hd:Nat.blt d n=true:=by kernel_rfl):wpOps P ops Q (i::r) a w:=Ag (mN (v:=fun b=> .slice (some ⟨b,0,none⟩) k k) V O hK hn hd)
theorem Mk (d:Nat) {f:FuncId} {args:List Value} {v:Value} {fn:Func} (V:Holds n ds a e) (O:Ow P X w₀ w M) (hf:P.funcs[f]? = some fn) (h:Calls P f args.toArray w fun en w'=>en = .returned v/\Only Ai w w')
 (hK : ∀ a' w',Holds n ds a' ((d,v)::e)->Ow P X w₀ w' M->wpOps P ops Q r a' w') (hc:H8 ops e i=some (f,args,some d):=by kernel_rfl) (hd:ltO (some d) n=true:=by kernel_rfl) (hn:(fn.name == "runtime.NumGoroutine")=false:=by kernel_rfl) (hbd:fn.body.isNone=false:=by kernel_rfl):wpOps P ops Q (i::r) a w :=
 Ag (mK (d:=some d) V O hf h hK hc hd hn hbd)
end
theorem Ow.pk {P:Program} {X:Nat->Prop} {w₀ w:World} {L:OwL} (h:Ow P X w₀ w L) (l:List Nat) (hn:Tf l=true:=by kernel_rfl) (hl:l.all (fun i=>Nat.blt i L.length)=true:=by kernel_rfl):Ow P X w₀ w (Mf L l):=h.sub l rfl hn hl
theorem Px (P:Program) (w:World) : ∀ us:List Value,Sn P w (us.map fun _=>none) us
 | []=>trivial
 | _::r=>Px P w r
theorem cv {fn:Func} {R:Ending->World->Prop} (us:List Value) (V:Holds n [] a e) (hR:R (.returned (Rj us)) w) (hr:M0 e fn.results.toList []=some (us.map (fun _=>none),us):=by kernel_rfl):bodyPost P fn R .ret a w:=iU V [] hr (Px P w us) hR
theorem sr (k:Nat) (h:wpOps P ops (Exit.then (y.wp P Q) Q) (rg 0 k) a w) (hl:List.range ops.size=rg 0 k:=by kernel_rfl):(Code.seq (.region id ops false) y).wp P Q a w:=sR h hl
theorem rr (k:Nat) (h:wpOps P ops Q (rg 0 k) a w) (hl:List.range ops.size=rg 0 k:=by kernel_rfl):(Code.region id ops false).wp P Q a w:=rR h hl
end
end Go.Proofs.Sx
