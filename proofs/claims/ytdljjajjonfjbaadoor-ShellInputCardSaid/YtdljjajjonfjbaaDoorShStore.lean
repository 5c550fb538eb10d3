import Derived.Test.YtdljjajjonfjbaaDoorSz
set_option linter.unusedVariables false
set_option linter.unusedSimpArgs false
namespace Go.Proofs.Sx
open Go Go.RowKit
theorem setL_add {l:List Value} {i:Nat} {vs x:List Value} (h:i+vs.length<=l.length):setL (x++l) (x.length+i) vs=x++setL l i vs:=by
  unfold setL
  rw [List.take_length_add_append,Nat.add_assoc,List.drop_length_add_append,List.append_assoc,List.append_assoc,List.append_assoc]
theorem setL_app {l r:List Value} {i:Nat} {vs:List Value} (h:i+vs.length<=l.length):setL (l++r) i vs=setL l i vs++r:=by
  unfold setL
  rw [List.take_append_of_le_length (by omega),List.drop_append_of_le_length h,List.append_assoc,List.append_assoc,List.append_assoc]
theorem setL_el {α:Type} {f : α->List Value} {sz:Nat} (E:Enc f sz) {k:Nat} {vc:List Value} {y : α} : ∀ (l:List α) (i:Nat) (x : α),l[i]? = some x->f y=setL (f x) k vc->k+vc.length<=sz->setL (l.flatMap f) (i*sz+k) vc=(l.set i y).flatMap f
  | [],i,x,h,_,_=>by simp at h
  | u::l,0,x,h,hy,hk=>by
    simp only [List.getElem?_cons_zero,Option.some.injEq] at h
    subst h
    rw [List.set_cons_zero,List.flatMap_cons,List.flatMap_cons,Nat.zero_mul,Nat.zero_add,setL_app (by rw [E.len]; exact hk),hy]
  | u::l,i+1,x,h,hy,hk=>by
    rw [List.getElem?_cons_succ] at h
    have ih:=setL_el E l i x h hy hk
    have hi:=(List.getElem?_eq_some_iff.1 h).1
    have hm:(i+1)*sz<=l.length*sz:=Nat.mul_le_mul_right _ hi
    have e1:(i+1)*sz=i*sz+sz:=Nat.succ_mul i sz
    rw [List.set_cons_succ,List.flatMap_cons,List.flatMap_cons,show (i+1)*sz+k=(f u).length+(i*sz+k) by rw [E.len]; omega,setL_add (by rw [E.flen]; omega),ih]
theorem One.cutL {α:Type} {f : α->List Value} {e:TypeId} {sz:Nat} {p:Option Addr} {c:Nat} {l:List α} {T:OwL} (h:One f e sz p c l T) (i:Nat):One f e sz p c (l.take i) T:=by
  rcases h with ⟨rfl,rfl,rfl,rfl⟩ | ⟨b,r,rfl,h1,h2,h3,rfl⟩
  · exact .inl ⟨rfl,rfl,by simp,rfl⟩
  · refine .inr ⟨b,(l.drop i).flatMap f++r,rfl,by rw [List.length_take]; omega,h2,?_,?_⟩ <;> rw [← List.append_assoc,← List.flatMap_append,List.take_append_drop]
    exact h3
section
variable {P:Program} {ops:Array Oper} {Q:Exit->Act->World->Prop} {n:Nat} {ds:List Deferred} {a:Act} {e:Env} {w:World} {K:Act->World->Prop} {j:Nat}
theorem mSE {α:Type} {f : α->List Value} {sz el:Nat} (E:Enc f sz) {X:Nat->Prop} {w₀:World} {A B T:OwL} {ad ad':Addr} {c off:Nat} {l l':List α} {vc:List Value} (hA:Holds n ds a e) (hO:Ow P X w₀ w (A++(T++B))) (h1:One f el sz (some ad) c l T)
    (hset:setL (l.flatMap f) off vc=l'.flatMap f) (hlen:l'.length=l.length) (hfit:off+vc.length<=l.length*sz) (had:ad'=ad.add off)
    (hK : ∀ w' T',Ow P X w₀ w' (A++(T'++B))->One f el sz (some ad) c l' T'->K a w')
    (hs:storeAtE P ops e j=some (ad',vc,vc.length):=by kernel_rfl) (hone:vc.all (·.oneCell')=true:=by kernel_rfl):wpOp P ops Q j K a w:=by
  rcases h1 with ⟨h,_⟩ | ⟨bl,r,h,h2,h3,h4,rfl⟩
  · cases h
  cases h
  have hfl:=E.flen l
  have hm:Ow P X w₀ w ((bl,el,l.flatMap f++r)::(A++B)):=(hO.m.perm (by
    refine List.Perm.trans (List.perm_append_comm_assoc A _ B) ?_
    exact List.Perm.refl _)).o
  refine m_store hA (vc:=vc) (b:=bl) (off:=off) (t:=el) (l:=l.flatMap f++r) hs (by rw [had]; exact add_zero_off _ _) rfl hone (hm.b 0 (by simp [Nat.blt_eq])) (by rw [Nat.ble_eq,List.length_append,hfl]; omega) rfl fun w' hb ho=>?_
  have ht:=hm.turn 0 (l:=setL (l.flatMap f++r) off vc) ho hb (by simp)
  rw [setL_app (by rw [hfl]; exact hfit),hset] at ht
  have ht:Ow P X w₀ w' ((bl,el,l'.flatMap f++r)::(A++B)):=ht
  refine hK w' [(bl,el,l'.flatMap f++r)] ((ht.m.perm ?_).o) (.inr ⟨bl,r,rfl,by rw [hlen]; exact h2,h3,?_,rfl⟩)
  · refine List.Perm.trans ?_ (List.perm_append_comm_assoc A _ B).symm
    exact List.Perm.refl _
  · rw [List.length_append,E.flen,hlen,← hfl,← List.length_append]; exact h4
theorem m_clear (hA:Holds n ds a e) {ats:Array TypeId} {ty:TypeId} {vs:List Value} {d:Option Nat} {w':World} (hb:builtAt ops e j=some (.clear,ats,ty,vs,d)) (hd:ltO d n=true)
    {v:Value} (hr:(Builtin.clear_ ats ty vs.toArray).run P w = .ok v w') (hK : ∀ a',Holds n ds a' (putE d v e)->K a' w'):wpOp P ops Q j K a w:=by
  unfold builtAt at hb
  repeat' split at hb
  all_goals try (cases hb; done)
  rename_i o ho _ c hop _ b hcl _ vs' hvs
  simp only [Option.some.injEq,Prod.mk.injEq] at hb
  obtain ⟨rfl,rfl,rfl,rfl,rfl⟩:=hb
  refine wpOp_of hA ho ?_
  have hargs:c.args.map a.eval=vs'.toArray:=by
    have:=vals_eval hA _ _ hvs
    apply Array.toList_inj.1
    simpa using this
  have hrun:(execOp a.eval o).run P w = .ok (.value v) w':=by
    unfold execOp
    simp only [hop,resolve,hcl,hargs,invoke,builtin,Sem.run_bind,Sem.run_pure,Result.andThen_ok,run_program,hr]
  unfold Oper.wp
  rw [hrun]
  exact hK _ (hA.putE v hd)
theorem mCl {α:Type} {f : α->List Value} {el:Nat} (E:Enc f 1) {X:Nat->Prop} {w₀:World} {A B T:OwL} {ad ad':Addr} {c c' i m:Nat} {l:List α} {x0 : α} {z:Value} {t ty:TypeId} {d:Option Nat} (hA:Holds n ds a e) (hO:Ow P X w₀ w (A++(T++B))) (h1:One f el 1 (some ad) c l T)
    (hi:i < l.length) (hm:m=l.length - i) (had:ad'=ad.add i) (hz:f x0=[z])
    (hK : ∀ a' w' T',Holds n ds a' (putE d (.tuple #[]) e)->Ow P X w₀ w' (A++(T'++B))->One f el 1 (some ad) c (l.take i++List.replicate (l.length - i) x0) T'->K a' w')
    (he:builtAt ops e j=some (.clear,#[t],ty,[.slice (some ad') m c'],d):=by kernel_rfl) (hd:ltO d n=true:=by kernel_rfl) (ht:P.underlying t=some (.slice el):=by kernel_rfl)
    (hi0:(P.info? el).map (fun i=>(i.zero,i.size))=some (some z,1):=by kernel_rfl) (hz1:z.cells=#[z]:=by rfl):wpOp P ops Q j K a w:=by
  subst hm had
  rcases h1 with ⟨h,_⟩ | ⟨bl,r,h,h2,h3,h4,rfl⟩
  · cases h
  cases h
  have hfl:=E.flen l
  rw [Nat.mul_one] at hfl
  have hm:Ow P X w₀ w ((bl,el,l.flatMap f++r)::(A++B)):=(hO.m.perm (by
    refine List.Perm.trans (List.perm_append_comm_assoc A _ B) ?_
    exact List.Perm.refl _)).o
  have hB:Blk w bl el (l.flatMap f++r):=hm.b 0 (by simp [Nat.blt_eq])
  have h1c:z.oneCell'=true:=E.one x0 z (by rw [hz]; exact List.mem_singleton.2 rfl)
  obtain ⟨hst,hB'⟩:=hB.store (P:=P) (off:=i) (vs:=List.replicate (l.length - i) z) (by rw [List.length_replicate,List.length_append,hfl]; omega) (fun v hv=>by rw [List.eq_of_mem_replicate hv]; exact h1c)
  have hflat:(List.replicate (l.length - i) x0).flatMap f=List.replicate (l.length - i) z:=by
    generalize l.length - i=q
    induction q with
    | zero=>rfl
    | succ q ih=>rw [List.replicate_succ,List.flatMap_cons,ih,hz,List.replicate_succ]; rfl
  have hset:setL (l.flatMap f++r) i (List.replicate (l.length - i) z)=(l.take i++List.replicate (l.length - i) x0).flatMap f++r:=by
    rw [setL_app (by rw [List.length_replicate,hfl]; omega),List.flatMap_append,hflat]
    unfold setL
    rw [List.length_replicate,List.drop_of_length_le (by rw [hfl]; omega),List.append_nil]
    congr 2
    have e:l.flatMap f=(l.take i).flatMap f++(l.drop i).flatMap f:=by rw [← List.flatMap_append,List.take_append_drop]
    have el':((l.take i).flatMap f).length=i:=by rw [E.flen,List.length_take,Nat.mul_one]; omega
    rw [e,List.take_append_of_le_length (by omega),List.take_of_length_le (by omega)]
  rw [hset] at hst hB'
  have hrun:(Builtin.clear_ #[t] ty #[.slice (some ((⟨bl,0,none⟩:Addr).add i)) (l.length - i) c']).run P w = .ok (.tuple #[]) (w.setRow bl ((l.take i++List.replicate (l.length - i) x0).flatMap f++r).toArray):=by
    rw [add_zero_off]
    cases hq:P.info? el with
    | none=>simp [hq] at hi0
    | some inf =>
      have hz0:inf.zero=some z/\inf.size=1:=by simpa [hq] using hi0
      have hzv : ∀ w,(zeroValue el).run P w = .ok z w:=fun w=>by simp [zeroValue,typeInfo,hq,hz0.1]
      have hzc:(Builtin.zeroCells z.cells (l.length - i)).toList=List.replicate (l.length - i) z:=by
        rw [hz1]
        simp [Builtin.zeroCells]
        apply List.ext_getElem
        · simp
        · intro i h1 h2
          simp [Nat.mod_one]
      obtain ⟨k,hk⟩ : ∃ k,l.length - i=k+1:=⟨l.length - i - 1,by omega⟩
      rw [hk] at hzc hst ⊢
      simp [Builtin.clear_,run_underlying ht,hzv,hzc,hst]
  refine m_clear hA he hd hrun fun a' hA'=>hK a' _ [(bl,el,(l.take i++List.replicate (l.length - i) x0).flatMap f++r)] hA' ?_ (.inr ⟨bl,r,rfl,by rw [List.length_append,List.length_take,List.length_replicate]; omega,h3,?_,rfl⟩)
  · have hw:Ow P X w₀ (w.setRow bl ((l.take i++List.replicate (l.length - i) x0).flatMap f++r).toArray) ((bl,el,(l.take i++List.replicate (l.length - i) x0).flatMap f++r)::(A++B)) :=
      hm.turn 0 (only_setRow w _ _) hB' (by simp)
    refine (hw.m.perm ?_).o
    refine List.Perm.trans ?_ (List.perm_append_comm_assoc A _ B).symm
    exact List.Perm.refl _
  · rw [List.length_append,E.flen,List.length_append,List.length_take,List.length_replicate,Nat.mul_one] at *
    omega
end
end Go.Proofs.Sx
