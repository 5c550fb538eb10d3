import Derived.Test.YtdljjajjonfjbaaDoorShInput
set_option linter.unusedVariables false
set_option linter.unusedSimpArgs false
namespace Go.Proofs.YtdljjajjonfjbaaDoor
open Go Go.RowKit Go.Proofs.Sx
def catB:List ByteArray->ByteArray
  | []=>⟨#[]⟩
  | c::r=>c++catB r
theorem app_nil (a:ByteArray):a++(⟨#[]⟩:ByteArray)=a:=by
  apply ba_ext
  rw [ByteArray.data_append,Array.toList_append]
  exact List.append_nil _
theorem app_assoc (a b c:ByteArray):a++b++c=a++(b++c):=by
  apply ba_ext
  simp only [ByteArray.data_append,Array.toList_append,List.append_assoc]
theorem bs_s (s:ByteArray):bsI (sI s)=s:=by
  apply ba_ext
  unfold bsI sI
  rw [List.map_map]
  show (s.data.toList.map _)=_
  have:((fun x:Int=>UInt8.ofNat x.toNat) ∘ fun b:UInt8=>(b.toNat:Int))=id:=by
    funext b
    simp
  rw [this,List.map_id]
theorem ext_nil (s:StL):ext s ⟨#[]⟩=s:=by unfold ext; rw [app_nil]
theorem ext_ext (s:StL) (a b:ByteArray):ext (ext s a) b=ext s (a++b):=by unfold ext; simp only [app_assoc]
def goA (w:WL) (r:Int) (d:List Int):WL:={w with st:=(stepS w.st r d).1,x:=(stepS w.st r d).2}
def childA (s:StL) (f:F8) (w:WL):WL:=childW 40 (stepS s 0 []).1 (stepS s 0 []).2 f w
def pipeA (w:WL):WL :=
  if 0<=freeF (mid w.fl) then goA {w with pipes:=w.pipes+1,fl:=(w.fl.set (freeF w.fl).toNat (chP 114 (w.pipes+1))).set (freeF (mid w.fl)).toNat (chP 119 (w.pipes+1))} (256*freeF w.fl+freeF (mid w.fl)) []
  else goA w (-13) []
def forkA (w:WL):WL:=goA (childA w.st w.fl {w with waited:=w.waited++[w.tasks - (w.alive.length:Int)],tasks:=w.tasks+1,alive:=w.alive++[16+(w.tasks+1)]}) (16+(w.tasks+1)) []
def stepA (w:WL):WL :=
  if w.x.call=0 then {w with exit:=w.x.a0}
  else if w.x.call=9 then goA w 0 []
  else if w.x.call=3 then (match w.alive with
    | []=>goA w (-8) []
    | a::r=>goA {w with alive:=r} (256*a) [])
  else if w.x.call=8\/w.x.call=10 then goA {w with fl:=(fileF w.x w.fl).2.2.1,told:=w.told+(fileF w.x w.fl).2.2.2} (fileF w.x w.fl).1 []
  else if w.x.call=11 then pipeA w
  else if w.tasks < 15 then forkA w else goA w (-13) []
def absW (w:WL):WL:={w with st:=(absSt (w.st,w.x) (catB w.inp)).1,x:=(absSt (w.st,w.x) (catB w.inp)).2,inp:=[],leak:=false}
def suf (a b:ByteArray):Prop:=∃ p,a=p++b
theorem suf.refl (a:ByteArray):suf a a:=⟨⟨#[]⟩,by apply ba_ext; rw [ByteArray.data_append,Array.toList_append]; rfl⟩
theorem suf.trans {a b c:ByteArray} (h:suf a b) (k:suf b c):suf a c:=by
  obtain ⟨p,rfl⟩:=h
  obtain ⟨q,rfl⟩:=k
  exact ⟨p++q,by rw [app_assoc]⟩
theorem suf.app {a b:ByteArray} (h:suf a b) (c:ByteArray):suf (a++c) (b++c):=by
  obtain ⟨p,rfl⟩:=h
  exact ⟨p,by rw [app_assoc]⟩
theorem suf_line {s:StL} {n:Nat} (h:n < s.inp.size):suf s.inp (lineS s n).inp:=by
  have e:(lineS s n).inp=s.inp.extract (n+1) s.inp.size:=by unfold lineS; split <;> rfl
  rw [e]
  refine ⟨s.inp.extract 0 (n+1),?_⟩
  apply ba_ext
  rw [ByteArray.data_append,Array.toList_append,ext_bytes,ext_bytes,List.drop_zero,Nat.sub_zero]
  rw [List.take_of_length_le (l:=s.inp.data.toList.drop (n+1)) (by rw [List.length_drop,size_list]; exact Nat.le_refl _),List.take_append_drop]
theorem proc_suf : ∀ (f:Nat) (s:StL),suf s.inp (procF f s).1.inp
  | 0,s=>suf.refl _
  | f+1,s=>by
    cases hp:s.plan with
    | cons c r=>rw [proc_plan hp]; exact suf.refl _
    | nil =>
      cases hj:s.jobs with
      | cons j r =>
        have hjl : 0 < s.jobs.length:=by rw [hj]; exact Nat.zero_lt_succ _
        have hi:(jobS s).1.inp=s.inp:=by
          unfold jobS
          rw [hj]
          simp only
          repeat' split
          all_goals rfl
        cases hs:jobS s with
        | mk s' c =>
          rw [hs] at hi
          cases c with
          | some x=>rw [proc_some hp hjl hs]; show suf s.inp s'.inp; rw [show s'.inp=s.inp from hi]; exact suf.refl _
          | none =>
            rw [proc_none hp hjl hs]
            have:=proc_suf f s'
            rw [show s'.inp=s.inp from hi] at this
            exact this
      | nil =>
        by_cases hn:nlI s.inp < 0
        · rw [proc_read hp hj hn]; exact suf.refl _
        · rw [proc_line hp hj hn]
          exact (suf_line (nlI_lt hn)).trans (proc_suf f _)
theorem procS_suf (s:StL):suf s.inp (procS s).1.inp:=proc_suf _ s
theorem step_suf {s:StL} {r:Int} {d:List Int} (h1:s.mode≠1) (h4:s.mode=4->r≠0):suf s.inp (stepS s r d).1.inp:=by
  unfold stepS
  by_cases e0:s.mode=0
  · rw [if_pos e0]; exact procS_suf s
  rw [if_neg e0,if_neg h1]
  by_cases e2:s.mode=2
  · rw [if_pos e2]; exact procS_suf {s with plan:=s.plan.tail}
  rw [if_neg e2]
  by_cases e3:s.mode=3
  · rw [if_pos e3]
    by_cases hr:r < 0
    · rw [if_pos hr]; exact procS_suf (upT s)
    · rw [if_neg hr]; exact suf.refl _
  rw [if_neg e3]
  by_cases e4:s.mode=4
  · rw [if_pos e4]
    unfold forkS
    by_cases hr:r < 0
    · rw [if_pos hr]; exact procS_suf (upT s)
    · rw [if_neg hr,if_neg (h4 e4)]; exact procS_suf (forkT s r)
  rw [if_neg e4]
  by_cases e5:s.mode=5
  · rw [if_pos e5]; exact procS_suf {s with kids:=if r < 0 then [] else s.kids.filter fun t=>!(t == r / 256)}
  rw [if_neg e5]
  by_cases e6:s.mode=6
  · rw [if_pos e6]; exact suf.refl _
  · rw [if_neg e6]; exact suf.refl _
structure InvI (text:ByteArray) (w:WL):Prop where
  v:validS w.st=true
  m:PInv (w.st,w.x)
  pre:suf text (w.st.inp++catB w.inp)
  ch : ∀ c∈w.inp,0 < c.size/\c.size<=80
  ok:w.ok=true
  fails:w.fails=[]
  tasks : 0<=w.tasks
  ex : 0<=w.exit->w.x.call=0/\w.exit=w.x.a0
theorem go_inv {text:ByteArray} {w w1:WL} {r:Int} (hv:validS w1.st=true) (hm:PInv (w1.st,w1.x)) (h1:w1.st.mode≠1) (h4:w1.st.mode=4->r≠0) (hp:suf text (w1.st.inp++catB w1.inp)) (hc : ∀ c∈w1.inp,0 < c.size/\c.size<=80) (hok:w1.ok=true) (hf:w1.fails=[]) (ht : 0<=w1.tasks) (he:w1.exit < 0) :
    InvI text (goW w1 r [])/\absW (goW w1 r [])=goA (absW w1) r []:=by
  have hb:=(valid_iff _).1 hv
  have h6:w1.st.mode≠6:=by
    rcases hm with ⟨h,_⟩ | ⟨h,_⟩ | ⟨h,_⟩ | ⟨h,_⟩ | ⟨h,_⟩ | ⟨h,_⟩ <;> simp only at h <;> omega
  have es:stepP w1.st r []=stepS w1.st r []:=stepP_v hv
  have hg:=good_stepP w1.st r []
  refine ⟨⟨hg.1,?_,?_,hc,hok,hf,ht,fun q=>absurd q (by show ¬ 0<=w1.exit; omega)⟩,?_⟩
  · show PInv ((stepP w1.st r []).1,(stepP w1.st r []).2)
    rw [es]
    exact step_inv hv hm h4
  · show suf text ((stepP w1.st r []).1.inp++catB w1.inp)
    rw [es]
    exact hp.trans ((step_suf h1 h4).app _)
  · have e:=step_ext w1.st (catB w1.inp) r [] hb.1.jobs h1 h6 h4 hb.2.1.2 hb.2.1.1
    have ea:absSt (w1.st,w1.x) (catB w1.inp)=(ext w1.st (catB w1.inp),w1.x):=if_neg h1
    show ({goW w1 r [] with st:=(absSt ((stepP w1.st r []).1,(stepP w1.st r []).2) (catB w1.inp)).1,x:=(absSt ((stepP w1.st r []).1,(stepP w1.st r []).2) (catB w1.inp)).2,inp:=[],leak:=false}:WL)=goA (absW w1) r []
    rw [es]
    unfold goA absW
    rw [ea]
    simp only
    rw [e]
    rfl
theorem child_frame (a:StL) (b:CallL) (c:List ByteArray) (d:Bool) : ∀ (k:Nat) (s:StL) (x:CallL) (f:F8) (w:WL),childW k s x f {w with st:=a,x:=b,inp:=c,leak:=d} = {childW k s x f w with st:=a,x:=b,inp:=c,leak:=d}
  | 0,_,_,_,w=>rfl
  | k+1,s,x,f,w=>by
    simp only [childW]
    by_cases h0:x.call=0
    · rw [if_pos h0,if_pos h0]
    rw [if_neg h0,if_neg h0]
    have hb:failB {w with st:=a,x:=b,inp:=c,leak:=d}=failB w:=rfl
    rw [hb]
    by_cases h1:failB w=true
    · rw [if_pos h1,if_pos h1]; exact child_frame a b c d k _ _ f (failT w)
    rw [if_neg h1,if_neg h1]
    by_cases h2:x.call=2
    · rw [if_pos h2,if_pos h2]; rfl
    rw [if_neg h2,if_neg h2]
    exact child_frame a b c d k _ _ _ {failT w with told:=w.told+(fileF x f).2.2.2,ok:=w.ok && (fileF x f).2.1}
theorem child_fails : ∀ (k:Nat) (s:StL) (x:CallL) (f:F8) (w:WL),w.fails=[]->(childW k s x f w).fails=[]
  | 0,_,_,_,w,h=>h
  | k+1,s,x,f,w,h=>by
    have ht:(failT w).fails=[]:=by show w.fails.tail=[]; rw [h]; rfl
    simp only [childW]
    split
    · exact h
    split
    · exact child_fails k _ _ f (failT w) ht
    split
    · exact ht
    · exact child_fails k _ _ _ {failT w with told:=w.told+(fileF x f).2.2.2,ok:=w.ok && (fileF x f).2.1} ht
structure textOk (text:ByteArray):Prop where
  line : ∀ p u q:ByteArray,text=p++(u++q)->nlI u < 0->u.size<=200
  last : ∀ p u:ByteArray,text=p++u->nlI u < 0->u.size=0
theorem abs_go {w:WL} (h:w.st.mode≠1):absW w = {w with st:=ext w.st (catB w.inp),x:=w.x,inp:=[],leak:=false}:=by
  have ea:absSt (w.st,w.x) (catB w.inp)=(ext w.st (catB w.inp),w.x):=if_neg h
  unfold absW
  rw [ea]
theorem failT_nil {w:WL} (h:w.fails=[]):failT w=w:=by
  obtain ⟨st,x,fl,inp,fails,pipes,tasks,alive,runs,waited,told,exit,leak,ok⟩:=w
  simp only at h
  subst h
  rfl
theorem failB_nil {w:WL} (h:w.fails=[]):failB w=false:=by unfold failB; rw [h]
theorem child_abs {s:StL} {t:ByteArray} {f:F8} {w:WL} (hv:validS s=true) (h:s.mode=4):childF s f w=childA (ext s t) f w:=by
  unfold childF childA
  have e1:stepP s 0 []=({newS with mode:=6,plan:=planL s (cmdAt s)},headC (planL s (cmdAt s))):=by rw [stepP_v hv,fork_child h]
  have e2:stepS (ext s t) 0 []=({newS with mode:=6,plan:=planL s (cmdAt s)},headC (planL s (cmdAt s))):=fork_child (s:=ext s t) h
  rw [e1,e2]
theorem sim {text:ByteArray} (hT:textOk text) {w:WL} (hI:InvI text w) (hex:w.exit < 0):InvI text (stepW w)/\(absW (stepW w)=absW w\/absW (stepW w)=stepA (absW w)):=by
  have hm:=hI.m
  have hf:=failB_nil hI.fails
  have hft:=failT_nil hI.fails
  have hp0:=hI.pre
  rcases hI.m with ⟨h,hx,hpl,hj,hn⟩ | ⟨h,hx,hpl⟩ | ⟨h,hx⟩ | ⟨h,hx⟩ | ⟨h,hx⟩ | ⟨h,hx⟩ <;> simp only at h hx
  ·
    simp only at hpl hj hn
    have hc:w.x.call=9:=by rw [hx]; rfl
    cases hi:w.inp with
    | nil =>
      have e:stepW w=goW (leakW w) 0 []:=by unfold stepW; rw [if_neg (by omega),if_pos hc,hi]
      rw [hi] at hp0
      obtain ⟨p,hp⟩:=hp0
      have hz:w.st.inp.size=0:=by
        have hp':text=p++w.st.inp:=by rw [hp]; show p++(w.st.inp++(⟨#[]⟩:ByteArray))=_; rw [app_nil]
        exact hT.last _ _ hp' hn
      have es:stepP w.st 0 []=({w.st with mode:=7},callL 0 0 0):=by
        rw [stepP_v hI.v,sst_1 h]
        unfold readS exitS
        rw [if_neg (by decide),if_pos hz,if_pos rfl]
      have eg:goW (leakW w) 0 [] = {leakW w with st:={w.st with mode:=7},x:=callL 0 0 0}:=by unfold goW; rw [show (leakW w).st=w.st from rfl,es]
      have hgd:=good_stepP w.st 0 []
      rw [es] at hgd
      rw [e,eg]
      refine ⟨⟨hgd.1,.inr (.inr (.inr (.inr (.inr ⟨rfl,rfl⟩)))),?_,hI.ch,hI.ok,hI.fails,hI.tasks,fun q=>absurd q (by show ¬ 0<=w.exit; omega)⟩,.inr ?_⟩
      · show suf text (w.st.inp++catB w.inp)
        rw [hi]
        exact ⟨p,hp⟩
      · have ep:procS w.st=(w.st,w.x):=by
          have:procS w.st=({w.st with mode:=1},callL 9 0 80):=proc_read hpl hj hn
          rw [this,hx,← h]
        have ea:absSt (w.st,w.x) (catB w.inp)=(w.st,w.x):=by
          rw [hi]
          have:absSt (w.st,w.x) (⟨#[]⟩:ByteArray)=procS (ext w.st ⟨#[]⟩):=if_pos h
          show absSt (w.st,w.x) (⟨#[]⟩:ByteArray)=_
          rw [this,ext_nil,ep]
        have eA:absW w = {w with inp:=[],leak:=false}:=by unfold absW; rw [ea]
        have e2:stepA (absW w)=goA (absW w) 0 []:=by
          rw [eA]
          unfold stepA
          rw [if_neg (by show ¬ w.x.call=0; omega),if_pos hc]
        have es':stepS w.st 0 []=({w.st with mode:=7},callL 0 0 0):=by rw [← stepP_v hI.v]; exact es
        rw [e2,eA,abs_go (w:={leakW w with st:={w.st with mode:=7},x:=callL 0 0 0}) (by show ¬ (7:Int)=1; decide)]
        unfold goA
        simp only
        rw [es']
        have:catB (leakW w).inp=⟨#[]⟩:=by show catB w.inp=_; rw [hi]; rfl
        rw [this,ext_nil]
        rfl
    | cons c r =>
      have e:stepW w=goW {leakW w with inp:=r} (c.size:Int) (sI c):=by unfold stepW; rw [if_neg (by omega),if_pos hc,hi]
      have hcs:=hI.ch c (by rw [hi]; exact List.mem_cons_self)
      rw [hi] at hp0
      obtain ⟨p,hp⟩:=hp0
      have hz:w.st.inp.size<=200:=hT.line p w.st.inp (catB (c::r)) hp hn
      have es:stepP w.st (c.size:Int) (sI c)=procS {w.st with inp:=w.st.inp++c}:=by
        rw [stepP_v hI.v,sst_1 h]
        unfold readS
        rw [if_pos (by omega),Int.toNat_natCast,List.take_of_length_le (l:=sI c) (by rw [sI_len]; omega),List.take_of_length_le (l:=sI c) (by rw [sI_len]; omega),bs_s]
      have hb:=((valid_iff _).1 hI.v).1
      have hgd:=good_stepP w.st (c.size:Int) (sI c)
      have eg:goW {leakW w with inp:=r} (c.size:Int) (sI c) = {leakW w with inp:=r,st:=(procS {w.st with inp:=w.st.inp++c}).1,x:=(procS {w.st with inp:=w.st.inp++c}).2}:=by unfold goW; simp only [leakW]; rw [es]
      rw [es] at hgd
      rw [e,eg]
      refine ⟨⟨hgd.1,?_,?_,fun c' hc'=>hI.ch c' (by rw [hi]; exact List.mem_cons_of_mem _ hc'),hI.ok,hI.fails,hI.tasks,fun q=>absurd q (by show ¬ 0<=w.exit; omega)⟩,.inl ?_⟩
      · exact procS_inv {w.st with inp:=w.st.inp++c} hb.jobs (by show planOk w.st.plan; rw [hpl]; exact nil_planOk)
      · show suf text ((procS {w.st with inp:=w.st.inp++c}).1.inp++catB r)
        refine suf.trans ⟨p,hp⟩ ?_
        have e3:w.st.inp++catB (c::r)=(w.st.inp++c)++catB r:=by rw [app_assoc]; rfl
        rw [e3]
        exact (procS_suf {w.st with inp:=w.st.inp++c}).app _
      · have ea:absSt (w.st,w.x) (catB w.inp)=procS (ext w.st (c++catB r)):=by rw [hi]; exact if_pos h
        have eb:absSt (procS {w.st with inp:=w.st.inp++c}) (catB r)=procS (ext w.st (c++catB r)):=by
          rw [← ext_ext]
          exact (procS_ext (ext w.st c) (catB r) hb.jobs).symm
        unfold absW
        simp only
        rw [ea,eb]
        rfl
  ·
    have hmo:w.st.mode≠1:=by omega
    obtain ⟨hxc,hx0⟩:(w.x.call=8\/w.x.call=10)/\True:=⟨hx,trivial⟩
    have hco:callOk w.x:=by rcases hx with q | q; exact .inr (.inl q); exact .inr (.inr (.inr (.inr (.inl q))))
    have hfo:=file_ok (f:=w.fl) hco (by omega) (by omega)
    have e:stepW w=goW {w with fl:=(fileF w.x w.fl).2.2.1,told:=w.told+(fileF w.x w.fl).2.2.2} (fileF w.x w.fl).1 []:=by
      unfold stepW
      rw [if_neg (by omega),if_neg (by omega),if_neg (by omega),if_pos hx,hfo,Bool.and_true]
    obtain ⟨h1,h2⟩:=go_inv (text:=text) (w:=w) (w1:={w with fl:=(fileF w.x w.fl).2.2.1,told:=w.told+(fileF w.x w.fl).2.2.2}) (r:=(fileF w.x w.fl).1) hI.v hI.m hmo (fun q=>by have q:w.st.mode=4:=q; omega) hI.pre hI.ch hI.ok hI.fails hI.tasks hex
    rw [e]
    refine ⟨h1,.inr (h2.trans ?_)⟩
    rw [abs_go (w:={w with fl:=(fileF w.x w.fl).2.2.1,told:=w.told+(fileF w.x w.fl).2.2.2}) hmo,abs_go hmo]
    unfold stepA
    rw [if_neg (by show ¬ w.x.call=0; omega),if_neg (by show ¬ w.x.call=9; omega),if_neg (by show ¬ w.x.call=3; omega),if_pos (show w.x.call=8\/w.x.call=10 from hx)]
  ·
    have hmo:w.st.mode≠1:=by omega
    have hc:w.x.call=11:=by rw [hx]; rfl
    have e:stepW w=pipeW w:=by
      unfold stepW
      rw [if_neg (by omega),if_neg (by omega),if_neg (by omega),if_neg (by omega),if_neg (by rw [hf]; decide),if_pos hc,hft]
    have eA:stepA (absW w)=pipeA (absW w):=by
      rw [abs_go hmo]
      unfold stepA
      rw [if_neg (by show ¬ w.x.call=0; omega),if_neg (by show ¬ w.x.call=9; omega),if_neg (by show ¬ w.x.call=3; omega),if_neg (by show ¬ (w.x.call=8\/w.x.call=10); omega),if_pos (show w.x.call=11 from hc)]
    rw [e,eA]
    unfold pipeW pipeA
    have efl:(absW w).fl=w.fl:=rfl
    rw [efl]
    by_cases hb : 0<=freeF (mid w.fl)
    · rw [if_pos hb,if_pos hb]
      obtain ⟨h1,h2⟩:=go_inv (text:=text) (w:=w) (w1:={w with pipes:=w.pipes+1,fl:=(w.fl.set (freeF w.fl).toNat (chP 114 (w.pipes+1))).set (freeF (mid w.fl)).toNat (chP 119 (w.pipes+1))}) (r:=256*freeF w.fl+freeF (mid w.fl)) hI.v hI.m hmo (fun q=>by have q:w.st.mode=4:=q; omega) hI.pre hI.ch hI.ok hI.fails hI.tasks hex
      refine ⟨h1,.inr (h2.trans ?_)⟩
      rfl
    · rw [if_neg hb,if_neg hb]
      obtain ⟨h1,h2⟩:=go_inv (text:=text) (w:=w) (w1:=w) (r:=-13) hI.v hI.m hmo (fun q=>by decide) hI.pre hI.ch hI.ok hI.fails hI.tasks hex
      exact ⟨h1,.inr h2⟩
  ·
    have hmo:w.st.mode≠1:=by omega
    have hc:w.x.call=1:=by rw [hx]; rfl
    have ht:=hI.tasks
    have e:stepW w=if w.tasks < 15 then forkW w else goW w (-13) []:=by
      unfold stepW
      rw [if_neg (by omega),if_neg (by omega),if_neg (by omega),if_neg (by omega),if_neg (by rw [hf]; decide),if_neg (by omega),if_pos hc,hft]
    have eA:stepA (absW w)=if w.tasks < 15 then forkA (absW w) else goA (absW w) (-13) []:=by
      rw [abs_go hmo]
      unfold stepA
      rw [if_neg (by show ¬ w.x.call=0; omega),if_neg (by show ¬ w.x.call=9; omega),if_neg (by show ¬ w.x.call=3; omega),if_neg (by show ¬ (w.x.call=8\/w.x.call=10); omega),if_neg (by show ¬ w.x.call=11; omega)]
    rw [e,eA]
    by_cases hb:w.tasks < 15
    · rw [if_pos hb,if_pos hb]
      obtain ⟨w2,hw2⟩ : ∃ w2:WL,w2 = {w with waited:=w.waited++[w.tasks - (w.alive.length:Int)],tasks:=w.tasks+1,alive:=w.alive++[16+(w.tasks+1)]}:=⟨_,rfl⟩
      have hs:=child_same 40 (stepP w.st 0 []).1 (stepP w.st 0 []).2 w.fl w2
      obtain ⟨w3,hw3⟩ : ∃ w3:WL,w3=childF w.st w.fl w2:=⟨_,rfl⟩
      have hs:sameC w2 w3:=by rw [hw3]; exact hs
      have es:w3.st=w.st:=by rw [hs.st,hw2]
      have ex:w3.x=w.x:=by rw [hs.x,hw2]
      have ei:w3.inp=w.inp:=by rw [hs.inp,hw2]
      have eo:w3.ok=w2.ok:=by rw [hw3]; exact childF_ok hI.v h
      have ef:w3.fails=[]:=by
        rw [hw3]; unfold childF
        exact child_fails 40 _ _ _ _ (by rw [hw2]; exact hI.fails)
      obtain ⟨h1,h2⟩:=go_inv (text:=text) (w:=w) (w1:=w3) (r:=16+(w.tasks+1)) (by rw [es]; exact hI.v) (by rw [es,ex]; exact hI.m) (by rw [es]; exact hmo) (fun q=>by omega) (by rw [es,ei]; exact hI.pre) (by rw [ei]; exact hI.ch) (by rw [eo,hw2]; exact hI.ok) ef (by rw [hs.tasks,hw2]; show 0<=w.tasks+1; omega) (by rw [hs.exit,hw2]; exact hex)
      have eF:forkW w=goW w3 (16+(w.tasks+1)) []:=by rw [hw3,hw2]; rfl
      rw [eF]
      refine ⟨h1,.inr (h2.trans ?_)⟩
      rw [abs_go (w:=w3) (by rw [es]; exact hmo),abs_go hmo]
      unfold forkA
      simp only
      rw [es,ex,ei]
      rw [← child_abs (s:=w.st) (t:=catB w.inp) hI.v h]
      have hfr:=child_frame (ext w.st (catB w.inp)) w.x [] false 40 (stepP w.st 0 []).1 (stepP w.st 0 []).2 w.fl w2
      rw [hw3]
      unfold childF at *
      rw [← hfr,hw2]
    · rw [if_neg hb,if_neg hb]
      obtain ⟨h1,h2⟩:=go_inv (text:=text) (w:=w) (w1:=w) (r:=-13) hI.v hI.m hmo (fun q=>by decide) hI.pre hI.ch hI.ok hI.fails hI.tasks hex
      exact ⟨h1,.inr h2⟩
  ·
    have hmo:w.st.mode≠1:=by omega
    have hc:w.x.call=3:=by rw [hx]; rfl
    cases ha:w.alive with
    | nil =>
      have e:stepW w=goW (leakW w) (-8) []:=by unfold stepW; rw [if_neg (by omega),if_neg (by omega),if_pos hc,ha]
      have eA:stepA (absW w)=goA (absW w) (-8) []:=by
        have:(absW w).alive=[]:=ha
        unfold stepA
        rw [this,if_neg (by rw [abs_go hmo]; show ¬ w.x.call=0; omega),if_neg (by rw [abs_go hmo]; show ¬ w.x.call=9; omega),if_pos (by rw [abs_go hmo]; exact hc)]
      obtain ⟨h1,h2⟩:=go_inv (text:=text) (w:=w) (w1:=leakW w) (r:=-8) hI.v hI.m hmo (fun q=>by decide) hI.pre hI.ch hI.ok hI.fails hI.tasks hex
      rw [e,eA]
      exact ⟨h1,.inr (h2.trans rfl)⟩
    | cons a r =>
      have e:stepW w=goW {leakW w with alive:=r} (256*a) []:=by unfold stepW; rw [if_neg (by omega),if_neg (by omega),if_pos hc,ha]
      have eA:stepA (absW w)=goA {absW w with alive:=r} (256*a) []:=by
        have:(absW w).alive=a::r:=ha
        unfold stepA
        rw [this,if_neg (by rw [abs_go hmo]; show ¬ w.x.call=0; omega),if_neg (by rw [abs_go hmo]; show ¬ w.x.call=9; omega),if_pos (by rw [abs_go hmo]; exact hc)]
      obtain ⟨h1,h2⟩:=go_inv (text:=text) (w:=w) (w1:={leakW w with alive:=r}) (r:=256*a) hI.v hI.m hmo (fun q=>by have q:w.st.mode=4:=q; omega) hI.pre hI.ch hI.ok hI.fails hI.tasks hex
      rw [e,eA]
      exact ⟨h1,.inr (h2.trans rfl)⟩
  ·
    have hmo:w.st.mode≠1:=by omega
    have e:stepW w = {w with exit:=w.x.a0}:=by unfold stepW; rw [if_pos hx]
    rw [e]
    refine ⟨⟨hI.v,hI.m,hI.pre,hI.ch,hI.ok,hI.fails,hI.tasks,fun _=>⟨hx,rfl⟩⟩,.inr ?_⟩
    rw [abs_go (w:={w with exit:=w.x.a0}) hmo,abs_go hmo]
    unfold stepA
    rw [if_pos (show w.x.call=0 from hx)]
end Go.Proofs.YtdljjajjonfjbaaDoor
