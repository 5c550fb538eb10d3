import Derived.Test.YtdljjajjonfjbaaDoorShMake
import Derived.Test.YtdljjajjonfjbaaDoorShu
import Derived.Test.YtdljjajjonfjbaaDoorShWp
set_option linter.unusedVariables false
set_option linter.unusedSimpArgs false
namespace Go.Proofs.Sx
open Go Go.RowKit
def OneO {α:Type} (f : α->List Value) (e:TypeId) (sz:Nat) (p:Option Addr) (c:Nat) (l:List α) (T:OwL):Prop :=
  (p=none/\c=0/\l=[]/\T=[])\/∃ b pre r z,p=some ⟨b,pre.length,none⟩/\l.length<=c/\c<=maxLen/\(l.flatMap f++r).length=c*sz/\T=[(b,e,pre++((l.flatMap f++r)++z))]
section
variable {α:Type} {f : α->List Value} {e:TypeId} {sz:Nat} {p:Option Addr} {c:Nat} {l:List α} {T:OwL} {P:Program} {X:Nat->Prop} {w₀ w w':World}
theorem One.off (h:One f e sz p c l T):OneO f e sz p c l T:=by
  rcases h with ⟨rfl,rfl,rfl,rfl⟩ | ⟨b,r,rfl,h1,h2,h3,rfl⟩
  · exact .inl ⟨rfl,rfl,rfl,rfl⟩
  · exact .inr ⟨b,[],r,[],rfl,h1,h2,h3,by simp⟩
theorem OneO.le (h:OneO f e sz p c l T):l.length<=c:=by
  rcases h with ⟨_,rfl,rfl,_⟩ | ⟨_,_,_,_,_,h,_⟩
  · exact Nat.le_refl _
  · exact h
theorem OneO.vw (h:OneO f e sz p c l T) {A B:OwL} (hO:OwM X w₀ w (A++(T++B))):Vw f w (.slice p l.length c) l:=by
  rcases h with ⟨rfl,rfl,rfl,rfl⟩ | ⟨b,pre,r,z,rfl,_,_,_,rfl⟩
  · exact .inl ⟨rfl,rfl⟩
  · refine .inr ⟨_,c,rfl,fun j u hj=>?_⟩
    rw [add_off]
    have hB:=hO.blk (b,e,pre++((l.flatMap f++r)++z)) (by simp)
    refine hB.cell ?_
    have hl:=(List.getElem?_eq_some_iff.1 hj).1
    rw [List.getElem?_append_right (by omega),Nat.add_sub_cancel_left,List.append_assoc,List.getElem?_append_left hl]
    exact hj
theorem OneO.tl {x : α} {ad:Addr} (E:Enc f sz) (h:OneO f e sz (some ad) c (x::l) T) (hc : 1 < c):OneO f e sz (some (ad.add sz)) (c - 1) l T:=by
  rcases h with ⟨h,_⟩ | ⟨b,pre,r,z,h,h1,h2,h3,rfl⟩
  · cases h
  · cases h
    rw [List.length_cons] at h1
    refine .inr ⟨b,pre++f x,r,z,?_,by omega,by omega,?_,?_⟩
    · rw [add_off,List.length_append,E.len]
    · rw [List.flatMap_cons,List.append_assoc,List.length_append,E.len] at h3
      have:(c - 1)*sz=c*sz - sz:=by rw [Nat.mul_comm,Nat.mul_sub_one,Nat.mul_comm]
      omega
    · rw [List.flatMap_cons]; simp
theorem OneO.tl1 {x : α} {ad:Addr} (h:OneO f e sz (some ad) c (x::l) T) (hl:l.length=0):OneO f e sz (some ad) 0 l T:=by
  obtain rfl:=List.length_eq_zero_iff.1 hl
  rcases h with ⟨h,_⟩ | ⟨b,pre,r,z,h,h1,h2,h3,rfl⟩
  · cases h
  · cases h
    exact .inr ⟨b,pre,[],f x++(r++z),rfl,Nat.le_refl _,by omega,by simp,by simp⟩
theorem app_runO {t tx ty:TypeId} {i:TypeInfo} {z:Value} {bytes:Nat} (ht:P.underlying t=some (.slice e)) (hi:P.info? e=some i) (hz:i.zero=some z) (hsize:i.size=sz) (hby:i.bytes=bytes) (E:Enc f sz)
    {A B:OwL} (hO:OwM X w₀ w (A++(T++B))) (h1:OneO f e sz p c l T) {x:Value} {l':List α} (hs:Src P sz tx x l'.length (l'.flatMap f) w)
    (h63:l.length+l'.length<=maxLen) (hb:(l.length+l'.length)*bytes<=140737488355328) (hzs:z.cells.size=sz) :
    ∃ p' c' T' w',(Builtin.append_ #[t,tx] ty #[.slice p l.length c,x]).run P w = .ok (.slice p' (l++l').length c') w'/\OwM X w₀ w' (A++(T'++B))/\OneO f e sz p' c' (l++l') T':=by
  rcases h1 with ⟨rfl,rfl,rfl,rfl⟩ | ⟨b,pre,r,q,rfl,hle,hcm,hlen,rfl⟩
  · obtain ⟨p',c',T',w',q1,q2,q3⟩:=app_run (P:=P) ht hi hz hsize hby E hO (.inl ⟨rfl,rfl,rfl,rfl⟩) hs h63 hb hzs (ty:=ty)
    exact ⟨p',c',T',w',q1,q2,q3.off⟩
  have hsm:((l.length+l'.length:Nat):Int)<=9223372036854775807:=by simp only [maxLen] at h63; omega
  rw [List.length_append]
  by_cases h0:l'=[]
  · subst h0
    subst hsize
    refine ⟨some ⟨b,pre.length,none⟩,c,_,w,run_append_nothing w t tx ty e i ht hi _ l.length c hle x hs,hO,by rw [List.append_nil]; exact .inr ⟨b,pre,r,q,rfl,hle,hcm,hlen,rfl⟩⟩
  have hB:Blk w b e (pre++((l.flatMap f++r)++q)):=hO.blk (b,e,pre++((l.flatMap f++r)++q)) (by simp)
  by_cases hroom:l.length+l'.length<=c
  · have hfit0:l.length*sz+(l'.flatMap f).length<=(l.flatMap f++r).length:=by rw [hlen,E.flen,← Nat.add_mul]; exact Nat.mul_le_mul_right _ hroom
    have hfit:(pre.length+l.length*sz)+(l'.flatMap f).length<=(pre++((l.flatMap f++r)++q)).length:=by rw [List.length_append,List.length_append («as»:=l.flatMap f++r)]; omega
    obtain ⟨hst,hB'⟩:=hB.store (P:=P) (vs:=l'.flatMap f) (off:=pre.length+l.length*sz) hfit hs.one
    have hcells:setL (pre++((l.flatMap f++r)++q)) (pre.length+l.length*sz) (l'.flatMap f)=pre++(((l++l').flatMap f++(l.flatMap f++r).drop (l.length*sz+(l'.flatMap f).length))++q):=by
      rw [setL_add (by rw [List.length_append]; omega),setL_app hfit0]
      unfold setL
      rw [← E.flen l,List.take_left,List.flatMap_append]
    rw [hcells] at hst hB'
    have hrun:(Builtin.append_ #[t,tx] ty #[.slice (some ⟨b,pre.length,none⟩) l.length c,x]).run P w = .ok (.slice (some ⟨b,pre.length,none⟩) (l.length+l'.length) c) (w.setRow b (pre++(((l++l').flatMap f++(l.flatMap f++r).drop (l.length*sz+(l'.flatMap f).length))++q)).toArray):=by
      subst hsize
      rcases hs.kind with ⟨e',hk⟩ | hk <;> simp [Builtin.append_,run_underlying ht,run_underlying hk,sizeOf,typeInfo,hi,hs.len,hroom,hs.cells,add_off,hst]
    refine ⟨_,_,[(b,e,pre++(((l++l').flatMap f++(l.flatMap f++r).drop (l.length*sz+(l'.flatMap f).length))++q))],_,hrun,hO.pass ⟨?_,fun y hy=>?_,List.pairwise_singleton _ _,fun y hy=>?_⟩,.inr ⟨b,pre,_,q,rfl,by rw [List.length_append]; exact hroom,hcm,?_,rfl⟩⟩
    · exact ⟨rfl,rfl,rfl,by simp,fun k _ hn=>setRow_other w b k _ fun e'=>hn ⟨_,List.mem_singleton.2 rfl,e'.symm⟩⟩
    · rw [List.mem_singleton] at hy; subst hy
      exact hB'
    · rw [List.mem_singleton] at hy; subst hy
      exact .inr ⟨_,List.mem_singleton.2 rfl,rfl⟩
    · rw [List.length_append,List.length_drop,E.flen,List.length_append,hlen,Nat.add_mul,E.flen]
      rw [hlen,E.flen] at hfit0
      omega
  · have hf:(Builtin.firstCells i.size l.length (.slice (some ⟨b,pre.length,none⟩) l.length c)).run P w.drew = .ok (l.flatMap f).toArray w.drew :=
      run_firstCells_some (P:=P) w.drew i.size l.length ⟨b,pre.length,none⟩ l.length c (l.flatMap f) (by rw [hsize]; exact E.flen l) (fun j u hj=>by
        rw [add_off]
        have hl:=(List.getElem?_eq_some_iff.1 hj).1
        have:w.cell? ⟨b,pre.length+j,none⟩=some u:=hB.cell (by
          rw [List.getElem?_append_right (by omega),Nat.add_sub_cancel_left,List.append_assoc,List.getElem?_append_left hl]; exact hj)
        simpa using this)
    subst hsize; subst hby
    have hr:=run_append_grow_src (P:=P) w t tx ty e i z ht hi hz (some ⟨b,pre.length,none⟩) l.length c _ hf x _ _ hs (by omega) hsm (growslice_fits (by omega) hb)
    have hge:=grownCap_ge w (l.length+l'.length) c e
    have hlast:OwM (inT [(b,e,pre++((l.flatMap f++r)++q))]) w (w.drew.alloc (.cells ((l.flatMap f++l'.flatMap f).toArray++Builtin.zeroCells z.cells (grownCap w (l.length+l'.length) c e - (l.length+l'.length))) e))
        [(w.heap.size,e,(l++l').flatMap f++(Builtin.zeroCells z.cells (grownCap w (l.length+l'.length) c e - (l.length+l'.length))).toList)]:=by
      refine ⟨⟨rfl,rfl,rfl,by simp,fun k hk _=>by first | exact heap_alloc_old w.drew _ hk | exact heap_alloc_old w.drew _ k hk⟩,fun y hy=>?_,List.pairwise_singleton _ _,fun y hy=>?_⟩
      · rw [List.mem_singleton] at hy; subst hy
        have:=heap_alloc_new w.drew (.cells ((l.flatMap f++l'.flatMap f).toArray++Builtin.zeroCells z.cells (grownCap w (l.length+l'.length) c e - (l.length+l'.length))) e)
        refine .of0 ?_
        rw [List.flatMap_append]
        refine this.trans ?_
        congr 2
        apply Array.toList_inj.1
        simp
      · rw [List.mem_singleton] at hy; subst hy; exact .inl (Nat.le_refl _)
    refine ⟨_,_,_,_,hr,hO.pass hlast,One.off (.inr ⟨w.heap.size,_,rfl,by rw [List.length_append]; exact hge,grownCap_le_maxLen w _ c e h63,?_,rfl⟩)⟩
    have e3:(Builtin.zeroCells z.cells (grownCap w (l.length+l'.length) c e - (l.length+l'.length))).toList.length=(grownCap w (l.length+l'.length) c e - (l.length+l'.length))*i.size:=by rw [Array.length_toList,size_zeroCells,hzs]
    rw [List.length_append,E.flen,e3,List.length_append,← Nat.add_mul]
    congr 1; omega
end
section
variable {P:Program} {ops:Array Oper} {Q:Exit->Act->World->Prop} {n:Nat} {ds:List Deferred} {a:Act} {e:Env} {w w':World} {K:Act->World->Prop} {i:Nat}
theorem mAO {α:Type} {f : α->List Value} {el:TypeId} {sz bytes:Nat} {p:Option Addr} {c:Nat} {l l':List α} {T:OwL} {X:Nat->Prop} {w₀:World} (A B:OwL) {t tx ty:TypeId} {x:Value} {d:Nat}
    (E:Enc f sz) (hA:Holds n ds a e) (hO:Ow P X w₀ w (A++(T++B))) (h1:OneO f el sz p c l T) (hs:Src P sz tx x l'.length (l'.flatMap f) w) (hb:(l.length+l'.length)*bytes<=140737488355328) (h63:l.length+l'.length<=maxLen)
    (hK : ∀ a' w' p' c' T',Holds n ds a' ((d,.slice p' (l++l').length c')::e)->Ow P X w₀ w' (A++(T'++B))->OneO f el sz p' c' (l++l') T'->K a' w')
    (he:builtAt ops e i=some (.append,#[t,tx],ty,[.slice p l.length c,x],some d):=by kernel_rfl) (hd:Nat.blt d n=true:=by kernel_rfl) (ht:P.underlying t=some (.slice el):=by kernel_rfl) (hi:elT P el sz bytes=true:=by kernel_rfl):wpOp P ops Q i K a w:=by
  obtain ⟨inf,z,q1,q2,q3,q4,q5⟩:=elT_spec hi
  obtain ⟨p',c',T',w',hr,hO',h1'⟩:=app_runO ht q1 q2 q3 q4 E hO.m h1 hs h63 hb q5 (ty:=ty)
  exact m_append hA he hd hr fun a' hA'=>hK a' w' p' c' T' hA' hO'.o h1'
end
end Go.Proofs.Sx
namespace Go.Proofs.YtdljjajjonfjbaaDoor
open Go Go.RowKit Go.Proofs.Sx
def fl8 (f:F8):List Value:=[.string f.f0,.string f.f1,.string f.f2,.string f.f3,.string f.f4,.string f.f5,.string f.f6,.string f.f7]
def fR (x:RunL):List Value:= .string x.path::fl8 x.fl
theorem encR:Enc fR 9:=⟨fun _=>rfl,fun x v hv=>by
  simp only [fR,fl8,List.mem_cons,List.not_mem_nil,or_false] at hv
  rcases hv with rfl | rfl | rfl | rfl | rfl | rfl | rfl | rfl | rfl <;> rfl⟩
structure WV where
  sv:SV
  x:PV
  fl:F8
  ip:Option Addr
  ic:Nat
  il:List ByteArray
  fp:Option Addr
  fc:Nat
  ff:List Int
  pipes:Int
  tasks:Int
  ap:Option Addr
  ac:Nat
  al:List Int
  rp:Option Addr
  rc:Nat
  rl:List RunL
  wp:Option Addr
  wk:Nat
  wl:List Int
  told:Int
  exit:Int
  leak:Bool
  ok:Bool
def WV.d (a:WV):WL:=⟨a.sv.d,a.x.d,a.fl,a.il,a.ff,a.pipes,a.tasks,a.al,a.rl,a.wl,a.told,a.exit,a.leak,a.ok⟩
def wc (a:WV):List Value:=[.int .i64 a.sv.mo,.int .i64 a.sv.po,.string a.sv.inp,.slice a.sv.pj a.sv.lj.length a.sv.cj,.int .i64 a.sv.rd,.int .i64 a.sv.wr,.int .i64 a.sv.pv,.slice a.sv.pc a.sv.lc.length a.sv.cc,.slice a.sv.pp a.sv.lp.length a.sv.cp,
  .int .i64 a.x.d.call,.int .i64 a.x.d.a0,.int .i64 a.x.d.a1,.int .i64 a.x.d.a2,.slice a.x.p a.x.d.data.length a.x.c,
  .string a.fl.f0,.string a.fl.f1,.string a.fl.f2,.string a.fl.f3,.string a.fl.f4,.string a.fl.f5,.string a.fl.f6,.string a.fl.f7,
  .slice a.ip a.il.length a.ic,.slice a.fp a.ff.length a.fc,.int .i64 a.pipes,.int .i64 a.tasks,.slice a.ap a.al.length a.ac,.slice a.rp a.rl.length a.rc,.slice a.wp a.wl.length a.wk,.int .i64 a.told,.int .i64 a.exit,.bool a.leak,.bool a.ok]
theorem fl8_get {f:F8} {i:Nat} (hi:i < 8):(fl8 f)[i]? = some (.string (f.at i)):=by
  rcases lt8 hi with rfl | rfl | rfl | rfl | rfl | rfl | rfl | rfl <;> rfl
theorem fl8_set {f:F8} {i:Nat} {v:ByteArray} (hi:i < 8):setL (fl8 f) i [.string v]=fl8 (f.set i v):=by
  rcases lt8 hi with rfl | rfl | rfl | rfl | rfl | rfl | rfl | rfl <;> rfl
theorem wc_get {a:WV} {i:Nat} (hi:i < 8):(wc a)[14+i]? = some (.string (a.fl.at i)):=by
  rcases lt8 hi with rfl | rfl | rfl | rfl | rfl | rfl | rfl | rfl <;> rfl
theorem wc_set {a:WV} {i:Nat} {v:ByteArray} (hi:i < 8):setL (wc a) (14+i) [.string v]=wc {a with fl:=a.fl.set i v}:=by
  rcases lt8 hi with rfl | rfl | rfl | rfl | rfl | rfl | rfl | rfl <;> rfl
theorem fl8_ld {P:Program} {w:World} {b t u:Nat} {f:F8} {i:Nat} (h:Blk w b t (fl8 f)) (hi:i < 8) (hu:oneT P u=true:=by kernel_rfl):Ld P w ((⟨b,0,none⟩:Addr).add i) u (.string (f.at i)):=by
  rw [add_zero_off]
  exact h.ld1 hu (fl8_get hi)
theorem wc_ld {P:Program} {w:World} {b t u:Nat} {a:WV} {i:Nat} (h:Blk w b t (wc a)) (hi:i < 8) (hu:oneT P u=true:=by kernel_rfl):Ld P w ((⟨b,14,none⟩:Addr).add i) u (.string (a.fl.at i)):=by
  rw [add_off]
  exact h.ld1 hu (wc_get hi)
section
variable {x:CallL} {f:F8}
theorem ff_8y (h:x.call=8) (hi:inB x.a0=true) (hz : ¬ (f.at x.a0.toNat).size=0):fileF x f=(0,true,f.set x.a0.toNat ⟨#[]⟩,0):=by unfold fileF; rw [if_pos h,if_pos ⟨hi,hz⟩]
theorem ff_8n (h:x.call=8) (hn:inB x.a0=false\/(f.at x.a0.toNat).size=0):fileF x f=(-8,true,f,0):=by
  unfold fileF
  rw [if_pos h,if_neg (by rintro ⟨q,q2⟩; rcases hn with e | e; {rw [e] at q; cases q}; {exact q2 e})]
theorem ff_12y (h:x.call=12) (hi:inB x.a0=true) (hi1:inB x.a1=true) (hz : ¬ (f.at x.a0.toNat).size=0):fileF x f=(0,true,f.set x.a1.toNat (f.at x.a0.toNat),0):=by unfold fileF; rw [if_neg (by omega),if_pos h,if_pos ⟨hi,hi1,hz⟩]
theorem ff_12n (h:x.call=12) (hn:inB x.a0=false\/inB x.a1=false\/(f.at x.a0.toNat).size=0):fileF x f=(-8,true,f,0):=by
  unfold fileF
  rw [if_neg (by omega),if_pos h,if_neg (by rintro ⟨q,q1,q2⟩; rcases hn with e | e | e; {rw [e] at q; cases q}; {rw [e] at q1; cases q1}; {exact q2 e})]
theorem ff_7n (h:x.call=7) (hn:freeF f < 0):fileF x f=(-6,true,f,0):=by unfold fileF; rw [if_neg (by omega),if_neg (by omega),if_pos h,if_pos hn]
theorem ff_7y (h:x.call=7) (hn : ¬ freeF f < 0):fileF x f=(freeF f,true,f.set (freeF f).toNat (nameF x),0):=by unfold fileF; rw [if_neg (by omega),if_neg (by omega),if_pos h,if_neg hn]
theorem ff_10 (h:x.call=10):fileF x f=((x.data.length:Int),true,f,1):=by unfold fileF; rw [if_neg (by omega),if_neg (by omega),if_neg (by omega),if_pos h]
theorem ff_0 (h1 : ¬ x.call=8) (h2 : ¬ x.call=12) (h3 : ¬ x.call=7) (h4 : ¬ x.call=10):fileF x f=(0,false,f,0):=by unfold fileF; rw [if_neg h1,if_neg h2,if_neg h3,if_neg h4]
theorem inB_r {n:Int} (h:inB n=true) : 0<=n/\n < 8:=of_decide_eq_true h
end
theorem vp_cases {w:World} {p:Option Addr} {c:Nat} {d:CallL} (h:VP w ⟨p,c,d⟩):(p=none/\c=0/\d.data=[])\/∃ ad,p=some ad:=by
  cases p with
  | some ad=>exact .inr ⟨ad,rfl⟩
  | none =>
    rcases h.1 with ⟨h,hd⟩ | ⟨ad,c',h,_⟩
    · have hd:d.data=[]:=hd
      have h:Value.slice none d.data.length c=Value.slice none 0 0:=h
      rw [hd] at h
      cases h
      exact .inl ⟨rfl,rfl,hd⟩
    · cases h
end Go.Proofs.YtdljjajjonfjbaaDoor
