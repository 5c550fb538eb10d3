import Derived.Test.YtdljjajjonfjbaaDoorShWp
set_option linter.unusedVariables false
set_option linter.unusedSimpArgs false
namespace Go.Proofs.YtdljjajjonfjbaaDoor
open Go Go.RowKit Go.Proofs.Sx
def ext (s:StL) (t:ByteArray):StL:={s with inp:=s.inp++t}
theorem ix_app : ∀ (a b:List UInt8) (c:UInt8),0<=Lib.indexByte a c->Lib.indexByte (a++b) c=Lib.indexByte a c
  | [],b,c,h=>by simp [Lib.indexByte] at h
  | x::a,b,c,h=>by
    simp only [List.cons_append,Lib.indexByte] at h ⊢
    split
    · rfl
    · rename_i hx
      rw [if_neg hx] at h
      have h0:=ixb_ge a c
      by_cases h2:(Lib.indexByte a c == -1)=true
      · rw [if_pos h2] at h; exact absurd h (by decide)
      · rw [if_neg h2] at h
        have h3:Lib.indexByte a c≠-1:=fun e=>h2 (beq_iff_eq.2 e)
        rw [ix_app a b c (by omega),if_neg h2]
theorem nl_app {a b:ByteArray} (h : ¬ nlI a < 0):nlI (a++b)=nlI a:=by
  unfold nlI at h ⊢
  rw [ByteArray.data_append,Array.toList_append]
  exact ix_app _ _ _ (by omega)
theorem ext_pre {a b:ByteArray} {n:Nat} (h:n<=a.size):(a++b).extract 0 n=a.extract 0 n:=by
  apply ba_ext
  rw [ext_bytes,ext_bytes,ByteArray.data_append,Array.toList_append,List.drop_zero,List.drop_zero,Nat.sub_zero]
  rw [List.take_append_of_le_length (by rw [size_list]; exact h)]
theorem ext_suf {a b:ByteArray} {n:Nat} (h:n<=a.size):(a++b).extract n (a++b).size=a.extract n a.size++b:=by
  apply ba_ext
  rw [ext_bytes,ByteArray.data_append,Array.toList_append,ByteArray.data_append,Array.toList_append,ext_bytes,List.drop_append_of_le_length (by rw [size_list]; exact h)]
  rw [List.take_of_length_le (by rw [List.length_append,List.length_drop,size_list,size_list,ByteArray.size_append]; omega),List.take_of_length_le (by rw [List.length_drop,size_list]; exact Nat.le_refl _)]
theorem line_ext {s:StL} {t:ByteArray} {n:Nat} (h:n < s.inp.size):lineS (ext s t) n=ext (lineS s n) t:=by
  unfold lineS ext
  rw [ext_pre (by omega),ext_suf (by omega)]
  split <;> rfl
theorem job_ext (s:StL) (t:ByteArray):jobS (ext s t)=(ext (jobS s).1 t,(jobS s).2):=by
  obtain ⟨mo,po,inp,jobs,rd,wr,pv,kids,plan⟩:=s
  cases jobs with
  | nil=>rfl
  | cons j r =>
    unfold jobS ext
    simp only
    repeat' split
    all_goals rfl
theorem proc_fuel : ∀ (f g:Nat) (s:StL),validL s.jobs=true->meas s+1<=f->meas s+1<=g->procF f s=procF g s
  | 0,_,_,_,h,_=>by omega
  | _,0,_,_,_,h=>by omega
  | f+1,g+1,s,hv,hf,hg=>by
    cases hp:s.plan with
    | cons c r=>rw [proc_plan hp,proc_plan hp]
    | nil =>
      cases hj:s.jobs with
      | cons j r =>
        have hjl : 0 < s.jobs.length:=by rw [hj]; exact Nat.zero_lt_succ _
        cases hs:jobS s with
        | mk s' c =>
          cases c with
          | some x=>rw [proc_some hp hjl hs,proc_some hp hjl hs]
          | none =>
            rw [proc_none hp hjl hs,proc_none hp hjl hs]
            have:=jobS_none hs hjl
            have hv':=jobS_valid (s:=s) hv
            rw [hs] at hv'
            exact proc_fuel f g s' hv' (by omega) (by omega)
      | nil =>
        by_cases hn:nlI s.inp < 0
        · rw [proc_read hp hj hn,proc_read hp hj hn]
        · rw [proc_line hp hj hn,proc_line hp hj hn]
          have hv':validL (lineS s (nlI s.inp).toNat).jobs=true:=by
            unfold lineS
            split
            · exact hv
            · rename_i l hl; exact lineP_valid hl
          have:=lineS_meas (s:=s) (n:=(nlI s.inp).toNat) (nlI_lt hn) (by rw [hj]; rfl) (valid_le hv')
          exact proc_fuel f g _ hv' (by omega) (by omega)
theorem job_mode (s:StL) (k:Int):jobS {s with mode:=k}=((match (jobS s).2 with
    | some _=>(jobS s).1
    | none=>{(jobS s).1 with mode:=k}),(jobS s).2):=by
  obtain ⟨mo,po,inp,jobs,rd,wr,pv,kids,plan⟩:=s
  cases jobs with
  | nil=>rfl
  | cons j r =>
    unfold jobS
    simp only
    by_cases h1:isExit j.cmds=true/\po=0
    · simp only [if_pos h1]
    simp only [if_neg h1]
    by_cases h2:po=0/\longJ j.cmds=true
    · simp only [if_pos h2]
    simp only [if_neg h2]
    by_cases h3:po=(j.cmds.length:Int) - 1
    · simp only [if_pos h3]
    simp only [if_neg h3]
    by_cases h4:po < (j.cmds.length:Int)
    · simp only [if_pos h4]
    simp only [if_neg h4]
    by_cases h5:j.bg=false/\0 < kids.length
    · simp only [if_pos h5]
    simp only [if_neg h5]
theorem proc_mode : ∀ (f:Nat) (s:StL) (k:Int),validL s.jobs=true->meas s+1<=f->procF f {s with mode:=k}=procF f s
  | 0,_,_,_,h=>by omega
  | f+1,s,k,hv,hf=>by
    obtain ⟨s2,hs2⟩ : ∃ s2:StL,s2 = {s with mode:=k}:=⟨_,rfl⟩
    rw [← hs2]
    have ep:s2.plan=s.plan:=by rw [hs2]
    have ej:s2.jobs=s.jobs:=by rw [hs2]
    have ei:s2.inp=s.inp:=by rw [hs2]
    cases hp:s.plan with
    | cons c r=>rw [proc_plan hp,proc_plan (ep.trans hp),hs2]
    | nil =>
      cases hj:s.jobs with
      | cons j r =>
        have hjl : 0 < s.jobs.length:=by rw [hj]; exact Nat.zero_lt_succ _
        have hm:=job_mode s k
        rw [← hs2] at hm
        have hjl2 : 0 < s2.jobs.length:=by rw [ej]; exact hjl
        cases hs:jobS s with
        | mk s' c =>
          rw [hs] at hm
          cases c with
          | some x=>rw [proc_some hp hjl hs,proc_some (ep.trans hp) hjl2 hm]
          | none =>
            rw [proc_none hp hjl hs,proc_none (ep.trans hp) hjl2 hm]
            have:=jobS_none hs hjl
            have hv':=jobS_valid (s:=s) hv
            rw [hs] at hv'
            exact proc_mode f s' k hv' (by omega)
      | nil =>
        by_cases hn:nlI s.inp < 0
        · rw [proc_read hp hj hn,proc_read (ep.trans hp) (ej.trans hj) (by rw [ei]; exact hn),hs2]
        · rw [proc_line hp hj hn,proc_line (ep.trans hp) (ej.trans hj) (by rw [ei]; exact hn),ei,hs2]
          have hv':validL (lineS s (nlI s.inp).toNat).jobs=true:=by
            unfold lineS
            split
            · exact hv
            · rename_i l hl; exact lineP_valid hl
          have:=lineS_meas (s:=s) (n:=(nlI s.inp).toNat) (nlI_lt hn) (by rw [hj]; rfl) (valid_le hv')
          have e:lineS {s with mode:=k} (nlI s.inp).toNat = {lineS s (nlI s.inp).toNat with mode:=k}:=by unfold lineS; cases hq:lineP false (s.inp.extract 0 (nlI s.inp).toNat) <;> simp only [hq]
          rw [e]
          exact proc_mode f _ k hv' (by omega)
def absSt (q:StL×CallL) (t:ByteArray):StL×CallL:=if q.1.mode=1 then procS (ext q.1 t) else (ext q.1 t,q.2)
theorem job_some {s s':StL} {x:CallL} (h:jobS s=(s',some x)):s'.mode≠1:=by
  unfold jobS at h
  split at h
  · cases h
  · repeat' split at h
    all_goals first
      | (cases h; exact (by decide:(7:Int)≠1))
      | (cases h; exact (by decide:(4:Int)≠1))
      | (cases h; exact (by decide:(3:Int)≠1))
      | (cases h; exact (by decide:(5:Int)≠1))
      | (cases h; done)
theorem proc_ext (t:ByteArray) : ∀ (f:Nat) (s:StL),validL s.jobs=true->meas s+1<=f->procS (ext s t)=absSt (procF f s) t
  | 0,_,_,h=>by omega
  | f+1,s,hv,hf=>by
    have hfu : ∀ s:StL,procS s=procF (meas s+1+1) s:=fun s=>rfl
    cases hp:s.plan with
    | cons c r =>
      rw [hfu,proc_plan hp,proc_plan (s:=ext s t) hp]
      exact (if_neg (by show ¬ (2:Int)=1; decide)).symm
    | nil =>
      cases hj:s.jobs with
      | cons j r =>
        have hjl : 0 < s.jobs.length:=by rw [hj]; exact Nat.zero_lt_succ _
        have hm:=job_ext s t
        cases hs:jobS s with
        | mk s' c =>
          rw [hs] at hm
          cases c with
          | some x =>
            rw [hfu,proc_some hp hjl hs,proc_some (s:=ext s t) hp hjl hm]
            exact (if_neg (job_some hs)).symm
          | none =>
            rw [hfu,proc_none hp hjl hs,proc_none (s:=ext s t) hp hjl hm]
            have h1:=jobS_none hs hjl
            have h2:meas (ext s' t)+1=meas (ext s t):=jobS_none hm hjl
            have hv':=jobS_valid (s:=s) hv
            rw [hs] at hv'
            rw [← proc_ext t f s' hv' (by omega)]
            show procF (meas (ext s t)+1) (ext s' t)=procF (meas (ext s' t)+1+1) (ext s' t)
            refine proc_fuel _ _ (ext s' t) hv' ?_ ?_ <;> omega
      | nil =>
        by_cases hn:nlI s.inp < 0
        · rw [proc_read hp hj hn]
          have e:absSt ({s with mode:=1},callL 9 0 80) t=procS (ext {s with mode:=1} t):=if_pos rfl
          rw [e]
          exact (proc_mode _ (ext s t) 1 hv (Nat.le_succ _)).symm
        · have hn':nlI (ext s t).inp=nlI s.inp:=nl_app hn
          have hlt:=nlI_lt hn
          rw [hfu,proc_line hp hj hn,proc_line (s:=ext s t) hp hj (by rw [hn']; exact hn),hn',line_ext hlt]
          have hv':validL (lineS s (nlI s.inp).toNat).jobs=true:=by
            unfold lineS
            split
            · exact hv
            · rename_i l hl; exact lineP_valid hl
          have h1:=lineS_meas (s:=s) (n:=(nlI s.inp).toNat) hlt (by rw [hj]; rfl) (valid_le hv')
          have h2:=lineS_meas (s:=ext s t) (n:=(nlI s.inp).toNat) (by show _ < (s.inp++t).size; rw [ByteArray.size_append]; omega) (by show s.jobs.length=0; rw [hj]; rfl) (by rw [line_ext hlt]; exact valid_le hv')
          rw [line_ext hlt] at h2
          generalize lineS s (nlI s.inp).toNat=s2 at hv' h1 h2 ⊢
          rw [← proc_ext t f s2 hv' (by omega)]
          show procF (meas (ext s t)+1) (ext s2 t)=procF (meas (ext s2 t)+1+1) (ext s2 t)
          refine proc_fuel _ _ (ext s2 t) hv' ?_ ?_ <;> omega
theorem procS_ext (s:StL) (t:ByteArray) (hv:validL s.jobs=true):procS (ext s t)=absSt (procS s) t:=proc_ext t _ s hv (by omega)
def upT (s:StL):StL:={s with plan:=s.plan++closesL [s.pv,s.rd,s.wr]++[tellL],rd:=-1,wr:=-1,pv:=-1,pos:=(nCmd s.jobs:Int)}
def forkT (s:StL) (r:Int):StL:={s with kids:=kidsAdd s.kids (r % 32),plan:=s.plan++closesL [s.pv,s.wr],pv:=s.rd,rd:=-1,wr:=-1,pos:=s.pos+1}
theorem up_T (s:StL):upS s=procS (upT s):=rfl
theorem up_ext (s:StL) (t:ByteArray) (hv:validL s.jobs=true):upS (ext s t)=absSt (upS s) t:=by
  rw [up_T,up_T,show upT (ext s t)=ext (upT s) t from rfl]
  exact procS_ext (upT s) t hv
theorem step_ext (s:StL) (t:ByteArray) (r:Int) (d:List Int) (hv:validL s.jobs=true) (h1:s.mode≠1) (h6:s.mode≠6) (h4:s.mode=4->r≠0) (h7:s.mode<=7) (h0 : 0<=s.mode):stepS (ext s t) r d=absSt (stepS s r d) t:=by
  have hm:(ext s t).mode=s.mode:=rfl
  rcases (show s.mode=0\/s.mode=2\/s.mode=3\/s.mode=4\/s.mode=5\/s.mode=7 by omega) with h | h | h | h | h | h
  · unfold stepS; rw [if_pos h,if_pos (hm.trans h)]; exact procS_ext s t hv
  · have e1:stepS s r d=procS {s with plan:=s.plan.tail}:=by unfold stepS; rw [if_neg (by omega),if_neg (by omega),if_pos h]
    have e2:stepS (ext s t) r d=procS (ext {s with plan:=s.plan.tail} t):=by unfold stepS; rw [if_neg (by omega),if_neg (by omega),if_pos (hm.trans h)]; rfl
    rw [e1,e2]; exact procS_ext _ t hv
  · by_cases hr:r < 0
    · have e1:stepS s r d=upS s:=by unfold stepS; rw [if_neg (by omega),if_neg (by omega),if_neg (by omega),if_pos h,if_pos hr]
      have e2:stepS (ext s t) r d=upS (ext s t):=by unfold stepS; rw [if_neg (by omega),if_neg (by omega),if_neg (by omega),if_pos (hm.trans h),if_pos hr]
      rw [e1,e2]; exact up_ext s t hv
    · have e1:stepS s r d=({s with rd:=r / 256 % 8,wr:=r % 256 % 8,mode:=4},callL 1 0 0):=by unfold stepS; rw [if_neg (by omega),if_neg (by omega),if_neg (by omega),if_pos h,if_neg hr]
      have e2:stepS (ext s t) r d=(ext {s with rd:=r / 256 % 8,wr:=r % 256 % 8,mode:=4} t,callL 1 0 0):=by unfold stepS; rw [if_neg (by omega),if_neg (by omega),if_neg (by omega),if_pos (hm.trans h),if_neg hr]; rfl
      rw [e1,e2]; exact (if_neg (by show ¬ (4:Int)=1; decide)).symm
  · have e1:stepS s r d=forkS s r:=by unfold stepS; rw [if_neg (by omega),if_neg (by omega),if_neg (by omega),if_neg (by omega),if_pos h]
    have e2:stepS (ext s t) r d=forkS (ext s t) r:=by unfold stepS; rw [if_neg (by omega),if_neg (by omega),if_neg (by omega),if_neg (by omega),if_pos (hm.trans h)]
    rw [e1,e2]
    have hr:=h4 h
    unfold forkS
    by_cases hr1:r < 0
    · rw [if_pos hr1,if_pos hr1]; exact up_ext s t hv
    · rw [if_neg hr1,if_neg hr1,if_neg hr,if_neg hr]; exact procS_ext (forkT s r) t hv
  · have e1:stepS s r d=procS {s with kids:=if r < 0 then [] else s.kids.filter fun t=>!(t == r / 256)}:=by unfold stepS; rw [if_neg (by omega),if_neg (by omega),if_neg (by omega),if_neg (by omega),if_neg (by omega),if_pos h]
    have e2:stepS (ext s t) r d=procS (ext {s with kids:=if r < 0 then [] else s.kids.filter fun t=>!(t == r / 256)} t):=by unfold stepS; rw [if_neg (by omega),if_neg (by omega),if_neg (by omega),if_neg (by omega),if_neg (by omega),if_pos (hm.trans h)]; rfl
    rw [e1,e2]; exact procS_ext _ t hv
  · have e1:stepS s r d=(s,callL 0 255 0):=by unfold stepS; rw [if_neg (by omega),if_neg (by omega),if_neg (by omega),if_neg (by omega),if_neg (by omega),if_neg (by omega),if_neg (by omega)]
    have e2:stepS (ext s t) r d=(ext s t,callL 0 255 0):=by unfold stepS; rw [if_neg (by omega),if_neg (by omega),if_neg (by omega),if_neg (by omega),if_neg (by omega),if_neg (by omega),if_neg (by omega)]
    rw [e1,e2]; exact (if_neg h1).symm
section
variable {s:StL} {r:Int} {d:List Int}
theorem sst_1 (h:s.mode=1):stepS s r d=readS s r d:=by unfold stepS; rw [if_neg (by omega),if_pos h]
theorem sst_2 (h:s.mode=2):stepS s r d=procS {s with plan:=s.plan.tail}:=by unfold stepS; rw [if_neg (by omega),if_neg (by omega),if_pos h]
theorem sst_3n (h:s.mode=3) (hr:r < 0):stepS s r d=upS s:=by unfold stepS; rw [if_neg (by omega),if_neg (by omega),if_neg (by omega),if_pos h,if_pos hr]
theorem sst_3 (h:s.mode=3) (hr : ¬ r < 0):stepS s r d=({s with rd:=r / 256 % 8,wr:=r % 256 % 8,mode:=4},callL 1 0 0):=by unfold stepS; rw [if_neg (by omega),if_neg (by omega),if_neg (by omega),if_pos h,if_neg hr]
theorem sst_4 (h:s.mode=4):stepS s r d=forkS s r:=by unfold stepS; rw [if_neg (by omega),if_neg (by omega),if_neg (by omega),if_neg (by omega),if_pos h]
end
def planOk (p:List CallL):Prop:=∀ c∈p,c.call=8\/c.call=10
def PInv (q:StL×CallL):Prop :=
  (q.1.mode=1/\q.2=callL 9 0 80/\q.1.plan=[]/\q.1.jobs=[]/\nlI q.1.inp < 0)\/(q.1.mode=2/\(q.2.call=8\/q.2.call=10)/\planOk q.1.plan)\/(q.1.mode=3/\q.2=callL 11 0 0)\/(q.1.mode=4/\q.2=callL 1 0 0)\/(q.1.mode=5/\q.2=callL 3 0 0)\/(q.1.mode=7/\q.2.call=0)
theorem closes_planOk (l:List Int):planOk (closesL l):=fun c hc=>by
  obtain ⟨n,_,_,rfl⟩:=mem_closes hc
  exact .inl rfl
theorem tell_planOk:planOk [tellL]:=fun c hc=>by rw [List.mem_singleton.1 hc]; exact .inr rfl
theorem planOk.app {a b:List CallL} (h:planOk a) (h':planOk b):planOk (a++b):=fun c hc=>(List.mem_append.1 hc).elim (h c) (h' c)
theorem job_inv {s s':StL} {x:CallL} (h:jobS s=(s',some x)):PInv (s',x):=by
  unfold jobS at h
  split at h
  · cases h
  · repeat' split at h
    all_goals first
      | (cases h; exact .inr (.inr (.inr (.inr (.inr ⟨rfl,rfl⟩)))))
      | (cases h; exact .inr (.inr (.inr (.inl ⟨rfl,rfl⟩))))
      | (cases h; exact .inr (.inr (.inl ⟨rfl,rfl⟩)))
      | (cases h; exact .inr (.inr (.inr (.inr (.inl ⟨rfl,rfl⟩)))))
      | (cases h; done)
theorem job_plan {s s':StL} (h:jobS s=(s',none)) (hp:planOk s.plan):planOk s'.plan:=by
  unfold jobS at h
  split at h
  · cases h; exact hp
  · repeat' split at h
    all_goals first
      | (cases h; exact hp.app tell_planOk)
      | (cases h; exact hp)
      | (cases h; done)
theorem proc_inv : ∀ (f:Nat) (s:StL),validL s.jobs=true->meas s+1<=f->planOk s.plan->PInv (procF f s)
  | 0,_,_,h,_=>by omega
  | f+1,s,hv,hf,hpl=>by
    cases hp:s.plan with
    | cons c r =>
      rw [proc_plan hp]
      exact .inr (.inl ⟨rfl,hpl c (by rw [hp]; exact List.mem_cons_self),hpl⟩)
    | nil =>
      cases hj:s.jobs with
      | cons j r =>
        have hjl : 0 < s.jobs.length:=by rw [hj]; exact Nat.zero_lt_succ _
        cases hs:jobS s with
        | mk s' c =>
          cases c with
          | some x=>rw [proc_some hp hjl hs]; exact job_inv hs
          | none =>
            rw [proc_none hp hjl hs]
            have:=jobS_none hs hjl
            have hv':=jobS_valid (s:=s) hv
            rw [hs] at hv'
            exact proc_inv f s' hv' (by omega) (job_plan hs hpl)
      | nil =>
        by_cases hn:nlI s.inp < 0
        · rw [proc_read hp hj hn]
          exact .inl ⟨rfl,rfl,hp,hj,hn⟩
        · rw [proc_line hp hj hn]
          have hv':validL (lineS s (nlI s.inp).toNat).jobs=true:=by
            unfold lineS
            split
            · exact hv
            · rename_i l hl; exact lineP_valid hl
          have:=lineS_meas (s:=s) (n:=(nlI s.inp).toNat) (nlI_lt hn) (by rw [hj]; rfl) (valid_le hv')
          refine proc_inv f _ hv' (by omega) ?_
          unfold lineS
          split
          · exact hpl.app tell_planOk
          · exact hpl
theorem procS_inv (s:StL) (hv:validL s.jobs=true) (hp:planOk s.plan):PInv (procS s):=proc_inv _ s hv (by omega) hp
theorem nil_planOk:planOk []:=fun c h=>absurd h List.not_mem_nil
theorem plan_nil {s:StL} (hv:validS s=true) (h : ¬ (s.mode=2\/s.mode=6)):s.plan=[]:=by
  have hb:=((valid_iff s).1 hv).2.2.1
  refine List.length_eq_zero_iff.1 ?_
  rcases Nat.eq_zero_or_pos s.plan.length with e | e
  · exact e
  · exact absurd (hb.1 e) h
theorem step_inv {s:StL} {x:CallL} {r:Int} {d:List Int} (hv:validS s=true) (hi:PInv (s,x)) (h4:s.mode=4->r≠0):PInv (stepS s r d):=by
  have hb:=((valid_iff s).1 hv).1
  rcases hi with ⟨h,_⟩ | ⟨h,_,hp⟩ | ⟨h,_⟩ | ⟨h,_⟩ | ⟨h,_⟩ | ⟨h,_⟩ <;> simp only at h
  · have hp:=plan_nil hv (by omega)
    have e1:stepS s r d=readS s r d:=sst_1 h
    rw [e1]
    unfold readS
    split
    · exact procS_inv _ hb.jobs (by show planOk s.plan; rw [hp]; exact nil_planOk)
    split
    · exact .inr (.inr (.inr (.inr (.inr ⟨rfl,rfl⟩))))
    · exact procS_inv _ hb.jobs (by show planOk s.plan; rw [hp]; exact nil_planOk)
  · rw [sst_2 h]
    exact procS_inv _ hb.jobs (fun c hc=>hp c (List.mem_of_mem_tail hc))
  · have hp:=plan_nil hv (by omega)
    by_cases hr:r < 0
    · rw [sst_3n h hr,up_T]
      exact procS_inv (upT s) hb.jobs (by show planOk (s.plan++closesL _++[tellL]); rw [hp]; exact (nil_planOk.app (closes_planOk _)).app tell_planOk)
    · rw [sst_3 h hr]
      exact .inr (.inr (.inr (.inl ⟨rfl,rfl⟩)))
  · have hp:=plan_nil hv (by omega)
    have hr:=h4 h
    rw [sst_4 h]
    unfold forkS
    by_cases hr1:r < 0
    · rw [if_pos hr1,up_T]
      exact procS_inv (upT s) hb.jobs (by show planOk (s.plan++closesL _++[tellL]); rw [hp]; exact (nil_planOk.app (closes_planOk _)).app tell_planOk)
    · rw [if_neg hr1,if_neg hr]
      exact procS_inv (forkT s r) hb.jobs (by show planOk (s.plan++closesL _); rw [hp]; exact nil_planOk.app (closes_planOk _))
  · have hp:=plan_nil hv (by omega)
    have e1:stepS s r d=procS {s with kids:=if r < 0 then [] else s.kids.filter fun t=>!(t == r / 256)}:=by unfold stepS; rw [if_neg (by omega),if_neg (by omega),if_neg (by omega),if_neg (by omega),if_neg (by omega),if_pos h]
    rw [e1]
    exact procS_inv _ hb.jobs (by show planOk s.plan; rw [hp]; exact nil_planOk)
  · have e1:stepS s r d=(s,callL 0 255 0):=by unfold stepS; rw [if_neg (by omega),if_neg (by omega),if_neg (by omega),if_neg (by omega),if_neg (by omega),if_neg (by omega),if_neg (by omega)]
    rw [e1]
    exact .inr (.inr (.inr (.inr (.inr ⟨h,rfl⟩))))
theorem stepP_v {s:StL} {r:Int} {d:List Int} (hv:validS s=true):stepP s r d=stepS s r d:=by unfold stepP; rw [if_pos hv]
theorem child_step {s:StL} {r:Int} (hv:validS s=true) (h:s.mode=6):(stepP s r []).1 = {s with plan:=childP s.plan r}/\(stepP s r []).2=headC (childP s.plan r):=by
  have e:stepS s r []=childS s r:=by unfold stepS; rw [if_neg (by omega),if_neg (by omega),if_neg (by omega),if_neg (by omega),if_neg (by omega),if_neg (by omega),if_pos h]
  rw [stepP_v hv,e]
  exact ⟨rfl,rfl⟩
def callOk (c:CallL):Prop:=c.call=12\/c.call=8\/c.call=7\/c.call=2\/c.call=10\/c.call=0
theorem file_ok {x:CallL} {f:F8} (h:callOk x) (h0 : ¬ x.call=0) (h2 : ¬ x.call=2):(fileF x f).2.1=true:=by
  unfold fileF
  rcases h with h | h | h | h | h | h
  · rw [if_neg (by omega),if_pos h]; split <;> rfl
  · rw [if_pos h]; split <;> rfl
  · rw [if_neg (by omega),if_neg (by omega),if_pos h]; split <;> rfl
  · exact absurd h h2
  · rw [if_neg (by omega),if_neg (by omega),if_neg (by omega),if_pos h]
  · exact absurd h h0
theorem fixL_ok {r:Int} {l:List CallL} (h : ∀ c∈l,callOk c) : ∀ c∈fixL r l,callOk c:=by
  have h1 : ∀ c,callOk c->callOk (fix1 r c):=fun c hc=>by unfold fix1; split <;> exact hc
  intro c hc
  match l,h,hc with
  | [],_,hc=>simp [fixL] at hc
  | [a],h,hc=>simp only [fixL,List.mem_singleton] at hc; subst hc; exact h1 a (h a List.mem_cons_self)
  | a::b::l,h,hc =>
    simp only [fixL,List.mem_cons] at hc
    rcases hc with rfl | rfl | hc
    · exact h1 a (h a List.mem_cons_self)
    · exact h1 b (h b (by simp))
    · exact h c (by simp [hc])
def needC (l:List CallL) (k:Nat):Prop:=((headC l).call=0/\1<=k)\/(l=[tellL,callL 0 127 0]/\2<=k)\/(l.length+3<=k/\∀ c∈l,callOk c)
theorem need_call {l:List CallL} {k:Nat} (h0 : 0 < l.length) (h:needC l k):callOk (headC l):=by
  rcases h with ⟨h,_⟩ | ⟨rfl,_⟩ | ⟨_,h⟩
  · exact .inr (.inr (.inr (.inr (.inr h))))
  · exact .inr (.inr (.inr (.inr (.inl rfl))))
  · exact h _ (headC_mem h0)
theorem need_next {l:List CallL} {k:Nat} {r:Int} (h0 : 0 < l.length) (hn : ¬ (headC l).call=0) (h:needC l (k+1)):needC (childP l r) k:=by
  rcases h with ⟨h,_⟩ | ⟨rfl,hk⟩ | ⟨hk,h⟩
  · exact absurd h hn
  · have e:childP [tellL,callL 0 127 0] r=[callL 0 127 0]:=by
      unfold childP
      rw [if_neg (fun q=>q.2 rfl),if_neg (by decide)]
      rfl
    rw [e]
    exact .inl ⟨rfl,by omega⟩
  · unfold childP
    split
    · exact .inr (.inl ⟨rfl,by omega⟩)
    · have hb:(∀ c∈(if (headC l).call=7 then fixL r l.tail else l.tail),callOk c)/\(if (headC l).call=7 then fixL r l.tail else l.tail).length=l.length - 1:=by
        have ht : ∀ c∈l.tail,callOk c:=fun c hc=>h c (List.mem_of_mem_tail hc)
        split
        · exact ⟨fixL_ok ht,by rw [fixL_len,List.length_tail]⟩
        · exact ⟨ht,List.length_tail⟩
      generalize (if (headC l).call=7 then fixL r l.tail else l.tail)=m at hb ⊢
      unfold or127
      split
      · exact .inl ⟨rfl,by omega⟩
      · exact .inr (.inr ⟨by omega,hb.1⟩)
theorem child_ok : ∀ (k:Nat) (s:StL) (x:CallL) (f:F8) (w:WL),validS s=true->s.mode=6->x=headC s.plan->needC s.plan k->(childW k s x f w).ok=w.ok
  | 0,s,x,f,w,_,_,_,h=>by
    rcases h with ⟨_,h⟩ | ⟨_,h⟩ | ⟨h,_⟩ <;> omega
  | k+1,s,x,f,w,hv,hm,hx,h=>by
    have h0 : 0 < s.plan.length:=((valid_iff s).1 hv).2.2.1.2 (.inr hm)
    have hc:=need_call h0 h
    rw [← hx] at hc
    simp only [childW]
    have next : ∀ r,validS (stepP s r []).1=true/\(stepP s r []).1.mode=6/\(stepP s r []).2=headC (stepP s r []).1.plan/\(¬ x.call=0->needC (stepP s r []).1.plan k):=fun r=>by
      obtain ⟨e1,e2⟩:=child_step (r:=r) hv hm
      refine ⟨(good_stepP s r []).1,by rw [e1]; exact hm,by rw [e1,e2],fun hn=>?_⟩
      rw [e1]
      exact need_next h0 (by rw [← hx]; exact hn) h
    split
    · rfl
    · rename_i hn
      split
      · obtain ⟨a,b,c,d⟩:=next (-13)
        rw [child_ok k _ _ f _ a b c (d hn)]; rfl
      · split
        · rfl
        · rename_i h2
          obtain ⟨a,b,c,d⟩:=next (fileF x f).1
          rw [child_ok k _ _ _ _ a b c (d hn)]
          show (w.ok && (fileF x f).2.1)=w.ok
          rw [file_ok hc hn h2,Bool.and_true]
theorem plan_callOk (s:StL) (d:CmdL) : ∀ c∈planL s d,callOk c:=by
  intro c hc
  rw [planA] at hc
  simp only [List.mem_append] at hc
  have ho : ∀ (nm:ByteArray) (fl fd:Int),∀ c∈opens nm fl fd,callOk c:=by
    intro nm fl fd c hc
    simp only [opens,List.mem_cons,List.not_mem_nil,or_false] at hc
    rcases hc with rfl | rfl | rfl
    · exact .inr (.inr (.inl rfl))
    · exact .inl rfl
    · exact .inr (.inl rfl)
  rcases hc with (((hc | hc) | hc) | hc) | hc
  · unfold pvA at hc
    split at hc
    · simp only [List.mem_cons,List.not_mem_nil,or_false] at hc
      rcases hc with rfl | rfl
      · exact .inl rfl
      · exact .inr (.inl rfl)
    · simp at hc
  · unfold wrA at hc
    split at hc
    · simp only [List.mem_cons,List.not_mem_nil,or_false] at hc
      rcases hc with rfl | rfl | rfl
      · exact .inl rfl
      · exact .inr (.inl rfl)
      · exact .inr (.inl rfl)
    · simp at hc
  · unfold inA at hc
    split at hc
    · simp at hc
    · exact ho _ _ _ c hc
  · unfold outA at hc
    split at hc
    · exact ho _ _ _ c hc
    · split at hc
      · simp at hc
      · exact ho _ _ _ c hc
  · rw [List.mem_singleton.1 hc]
    exact .inr (.inr (.inr (.inl rfl)))
theorem fork_child {s:StL} (h:s.mode=4):stepS s 0 []=({newS with mode:=6,plan:=planL s (cmdAt s)},headC (planL s (cmdAt s))):=by
  rw [sst_4 h]; rfl
theorem childF_ok {s:StL} {f:F8} {w:WL} (hv:validS s=true) (h:s.mode=4):(childF s f w).ok=w.ok:=by
  unfold childF
  have e:stepP s 0 []=({newS with mode:=6,plan:=planL s (cmdAt s)},headC (planL s (cmdAt s))):=by rw [stepP_v hv,fork_child h]
  have hg:=(good_stepP s 0 []).1
  rw [e] at hg ⊢
  exact child_ok 40 _ _ f w hg rfl rfl (.inr (.inr ⟨by have:=planL_len s (cmdAt s); show (planL s (cmdAt s)).length+3<=40; omega,plan_callOk _ _⟩))
end Go.Proofs.YtdljjajjonfjbaaDoor
