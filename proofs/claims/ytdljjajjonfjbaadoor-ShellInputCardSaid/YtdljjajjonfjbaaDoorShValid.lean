import Derived.Test.YtdljjajjonfjbaaDoorShj
import Derived.Test.YtdljjajjonfjbaaDoorSho
set_option linter.unusedVariables false
set_option linter.unusedSimpArgs false
namespace Go.Proofs.YtdljjajjonfjbaaDoor
open Go Go.RowKit Go.Proofs.Sx
theorem kids_iff (l:List Int) : ∀ n,n<=l.length->(kidsB l n=true↔(∀ x∈l.take n,userB x=true)/\(l.take n).Pairwise (·≠·))
  | 0,_=>by simp [kidsB]
  | n+1,h=>by
    have ih:=kids_iff l n (by omega)
    have hg:l.getD n 0=l[n]:=by rw [List.getD_eq_getElem?_getD,List.getElem?_eq_getElem (by omega)]; rfl
    simp only [kidsB]
    rw [List.take_add_one,List.getElem?_eq_getElem (by omega),hg,Bool.and_eq_true,Bool.and_eq_true,ih,List.pairwise_append]
    have hc:(!(l.take n).contains l[n])=true↔∀ a∈l.take n,a≠l[n]:=by
      rw [Bool.not_eq_true',← Bool.not_eq_true,List.contains_iff_mem]
      exact ⟨fun q a ha e=>q (e ▸ ha),fun q ha=>q _ ha rfl⟩
    rw [hc]
    constructor
    · rintro ⟨⟨h1,h2⟩,h3,h4⟩
      refine ⟨fun x hx=>?_,h2,List.pairwise_singleton _ _,fun a ha b hb=>?_⟩
      · rcases List.mem_append.1 hx with hx | hx
        · exact h1 x hx
        · have:x=l[n]:=by simpa using hx
          rw [this]; exact h3
      · have:b=l[n]:=by simpa using hb
        rw [this]; exact h4 a ha
    · rintro ⟨h1,h2,_,h4⟩
      exact ⟨⟨fun x hx=>h1 x (List.mem_append_left _ hx),h2⟩,h1 _ (List.mem_append_right _ (by simp)),fun a ha=>h4 a ha _ (by simp)⟩
def kidsP (l:List Int):Prop:=(∀ x∈l,userB x=true)/\l.Pairwise (·≠·)
theorem kids_all (l:List Int):kidsB l l.length=true↔kidsP l:=by
  have:=kids_iff l l.length (Nat.le_refl _)
  rwa [List.take_length] at this
theorem php : ∀ (n:Nat) (l:List Int) (a:Int),l.Pairwise (·≠·)->(∀ x∈l,a<=x/\x < a+n)->l.length<=n
  | 0,l,a,_,h=>by
    cases l with
    | nil=>exact Nat.le_refl _
    | cons x r=>have:=h x List.mem_cons_self; omega
  | n+1,l,a,hp,h=>by
    have h1:(l.filter fun x=>decide (x≠a+n)).length<=n:=by
      refine php n _ a (hp.filter _) fun x hx=>?_
      have hx':=List.mem_filter.1 hx
      have h2:=h x hx'.1
      have h3:=of_decide_eq_true hx'.2
      omega
    have h4 : ∀ l:List Int,l.Pairwise (·≠·)->l.length<=(l.filter fun x=>decide (x≠a+n)).length+1:=by
      intro l hp
      induction l with
      | nil=>exact Nat.zero_le _
      | cons x r ih =>
        have hp':=List.pairwise_cons.1 hp
        by_cases hx:x=a+n
        · have:(r.filter fun x=>decide (x≠a+n))=r:=by
            rw [List.filter_eq_self]
            intro y hy
            exact decide_eq_true (fun e=>hp'.1 y hy (hx.trans e.symm))
          rw [List.filter_cons_of_neg (by simpa using hx),this]
          exact Nat.le_refl _
        · rw [List.filter_cons_of_pos (by simpa using hx),List.length_cons,List.length_cons]
          exact Nat.succ_le_succ (ih hp'.2)
    exact Nat.le_trans (h4 l hp) (Nat.succ_le_succ h1)
theorem kidsP.len {l:List Int} (h:kidsP l):l.length<=16:=php 16 l 16 h.2 fun x hx=>by
  have:=of_decide_eq_true (h.1 x hx)
  omega
structure base (s:StL):Prop where
  rd : -1<=s.rd/\s.rd < 8
  wr : -1<=s.wr/\s.wr < 8
  pv : -1<=s.pv/\s.pv < 8
  inp:s.inp.size<=300
  jobs:validL s.jobs=true
  kids:kidsP s.kids
  plan : ∀ c∈s.plan,okC c=true
  len:s.plan.length<=12
  pos : 0<=s.pos/\s.pos<=(nCmd s.jobs:Int)
theorem listsB_iff (l:List Int) (p:List CallL):listsB l p=true↔kidsP l/\(∀ c∈p,okC c=true)/\p.length<=12:=by
  unfold listsB
  rw [Bool.and_eq_true,Bool.and_eq_true,kids_all,List.all_eq_true,decide_eq_true_eq]
theorem valid_iff (s:StL):validS s=true↔base s/\(0<=s.mode/\s.mode<=7)/\(0 < s.plan.length↔(s.mode=2\/s.mode=6))/\(s.mode=3\/s.mode=4->s.pos < (nCmd s.jobs:Int))/\(s.mode=5->0 < s.jobs.length):=by
  rw [valid_dec,decide_eq_true_eq,listsB_iff]
  constructor
  · rintro ⟨⟨h1,h2,h3⟩,⟨h4,h5,h6,⟨h7,h8,h9⟩,h10⟩,h11,h12,h13⟩
    exact ⟨⟨h1,h2,h3,h5,h6,h7,h8,h9,h10⟩,h4,h11,h12,h13⟩
  · rintro ⟨h,h4,h11,h12,h13⟩
    exact ⟨⟨h.rd,h.wr,h.pv⟩,⟨h4,h.inp,h.jobs,⟨h.kids,h.plan,h.len⟩,h.pos⟩,h11,h12,h13⟩
theorem ok_call {n a b:Int} (hn : 0<=n/\n < 20) (ha : -1<=a/\a<=1000) (hb : -1<=b/\b<=1000):okC (callL n a b)=true:=by
  rw [okC_dec]
  exact decide_eq_true ⟨ha,hb,(by show (-1:Int)<=0/\(0:Int)<=1000; decide),hn,Nat.zero_le _⟩
theorem ok_tell:okC tellL=true:=by rfl
def good (q:StL×CallL):Prop:=validS q.1=true/\okC q.2=true
theorem codeW_range (ws:List ByteArray) : 0<=codeW ws/\codeW ws<=255:=by
  unfold codeW
  split
  · split <;> omega
  · omega
theorem neg1:(-1:Int)<=-1/\(-1:Int) < 8:=by decide
theorem good_mode {s:StL} {k:Int} {c:CallL} (h:base s) (hk:k=1\/k=3\/k=4\/k=5\/k=7) (hp:s.plan=[]) (h34:k=3\/k=4->s.pos < (nCmd s.jobs:Int)) (h5:k=5->0 < s.jobs.length) (hc:okC c=true):good ({s with mode:=k},c):=by
  refine ⟨(valid_iff _).2 ⟨⟨h.rd,h.wr,h.pv,h.inp,h.jobs,h.kids,h.plan,h.len,h.pos⟩,?_,?_,h34,h5⟩,hc⟩
  · show 0<=k/\k<=7; omega
  · show 0 < s.plan.length↔(k=2\/k=6)
    rw [hp]
    simp only [List.length_nil]
    omega
theorem base_job {s s':StL} {c:Option CallL} (h:base s) (hp:s.plan=[]) (hj : 0 < s.jobs.length) (e:jobS s=(s',c)) :
    (∀ x,c=some x->good (s',x))/\(c=none->base s'):=by
  obtain ⟨j,r,hjr⟩ : ∃ j r,s.jobs=j::r:=by
    cases hq:s.jobs with
    | nil=>rw [hq] at hj; simp at hj
    | cons j r=>exact ⟨j,r,rfl⟩
  have hv:=jobS_valid h.jobs
  rw [e] at hv
  have hn:nCmd s.jobs=j.cmds.length:=by rw [hjr]; rfl
  have hpos:=h.pos
  rw [hn] at hpos
  obtain ⟨mo,po,inp,jobs,rd,wr,pv,kids,plan⟩:=s
  simp only at hjr hp
  subst hjr hp
  unfold jobS at e
  simp only at e
  split at e
  · cases e
    refine ⟨fun x hx=>?_,fun hx=>by cases hx⟩
    cases hx
    exact good_mode (k:=7) h (by decide) rfl (by intro q; omega) (by intro q; omega) (ok_call (by decide) (by have:=codeW_range (cmd1 j.cmds).words; omega) (by decide))
  split at e
  · cases e
    rename_i hb
    refine ⟨fun x hx=>(by cases hx),fun _=>⟨h.rd,h.wr,h.pv,h.inp,hv,h.kids,?_,?_,?_⟩⟩
    · intro c hc
      have:c=tellL:=by simpa using hc
      rw [this]; exact ok_tell
    · exact Nat.le_of_ble_eq_true rfl
    · have:=hb.1
      simp only at this ⊢
      omega
  split at e
  · cases e
    rename_i hc
    refine ⟨fun x hx=>?_,fun hx=>by cases hx⟩
    cases hx
    exact good_mode (k:=4) h (by decide) rfl (by intro _; rw [hn]; simp only at hc ⊢; omega) (by intro q; omega) (by rfl)
  split at e
  · cases e
    rename_i hd
    refine ⟨fun x hx=>?_,fun hx=>by cases hx⟩
    cases hx
    exact good_mode (k:=3) h (by decide) rfl (by intro _; rw [hn]; simp only at hd ⊢; omega) (by intro q; omega) (by rfl)
  split at e
  · cases e
    refine ⟨fun x hx=>?_,fun hx=>by cases hx⟩
    cases hx
    exact good_mode (k:=5) h (by decide) rfl (by intro q; omega) (by intro q; exact Nat.zero_lt_succ _) (by rfl)
  · cases e
    refine ⟨fun x hx=>(by cases hx),fun _=>⟨h.rd,h.wr,neg1,h.inp,hv,⟨fun x hx=>absurd hx List.not_mem_nil,List.Pairwise.nil⟩,h.plan,h.len,?_⟩⟩
    show (0:Int)<=0/\(0:Int)<=_
    omega
theorem base_line {s:StL} (h:base s) (hp:s.plan=[]) (hj:s.jobs=[]) (n:Nat):base (lineS s n):=by
  have hpos:=h.pos
  rw [hj] at hpos
  have h0:s.pos=0:=by simp only [nCmd] at hpos; omega
  have hx:(s.inp.extract (n+1) s.inp.size).size<=300:=by rw [ByteArray.size_extract]; have:=h.inp; omega
  unfold lineS
  split
  · refine ⟨h.rd,h.wr,h.pv,hx,h.jobs,h.kids,?_,?_,h.pos⟩
    · simp only [hp,List.nil_append,List.mem_singleton]; rintro c rfl; exact ok_tell
    · simp only [hp,List.nil_append]; decide
  · rename_i l hl
    exact ⟨h.rd,h.wr,h.pv,hx,lineP_valid hl,h.kids,h.plan,h.len,by show 0<=s.pos/\s.pos<=_; omega⟩
theorem base_proc : ∀ (f:Nat) (s:StL),base s->meas s+1<=f->good (procF f s)
  | 0,s,_,hf=>by omega
  | f+1,s,h,hf=>by
    cases hp:s.plan with
    | cons c r =>
      rw [proc_plan hp]
      have hc:=h.plan c (by rw [hp]; exact List.mem_cons_self)
      refine ⟨(valid_iff _).2 ⟨⟨h.rd,h.wr,h.pv,h.inp,h.jobs,h.kids,h.plan,h.len,h.pos⟩,?_,?_,?_,?_⟩,hc⟩
      · show (0:Int)<=2/\(2:Int)<=7; decide
      · exact ⟨fun _=> .inl rfl,fun _=>by show 0 < s.plan.length; rw [hp]; exact Nat.zero_lt_succ _⟩
      · intro q; have:(2:Int)=3\/(2:Int)=4:=q; omega
      · intro q; have:(2:Int)=5:=q; omega
    | nil =>
      cases hj:s.jobs with
      | cons j r =>
        have hjl : 0 < s.jobs.length:=by rw [hj]; exact Nat.zero_lt_succ _
        cases hs:jobS s with
        | mk s' c =>
          obtain ⟨h1,h2⟩:=base_job h hp hjl hs
          cases c with
          | some x=>rw [proc_some hp hjl hs]; exact h1 x rfl
          | none =>
            rw [proc_none hp hjl hs]
            have:=jobS_none hs hjl
            exact base_proc f s' (h2 rfl) (by omega)
      | nil =>
        by_cases hn:nlI s.inp < 0
        · rw [proc_read hp hj hn]
          exact good_mode h (by decide) hp (by intro q; omega) (by intro q; omega) (by rfl)
        · rw [proc_line hp hj hn]
          have hb:=base_line h hp hj (nlI s.inp).toNat
          have:=lineS_meas (s:=s) (n:=(nlI s.inp).toNat) (nlI_lt hn) (by rw [hj]; rfl) (valid_le hb.jobs)
          exact base_proc f _ hb (by omega)
theorem good_proc {s:StL} (h:base s):good (procS s):=base_proc _ s h (by omega)
theorem mem_closes {l:List Int} {c:CallL} (h:c∈closesL l) : ∃ n∈l,0<=n/\c=callL 8 n 0:=by
  unfold closesL at h
  obtain ⟨n,hn,rfl⟩:=List.mem_map.1 h
  have:=List.mem_filter.1 hn
  exact ⟨n,this.1,of_decide_eq_true this.2,rfl⟩
theorem closes_len (l:List Int):(closesL l).length<=l.length:=by
  unfold closesL
  rw [List.length_map]
  exact List.length_filter_le _ _
theorem good_up {s:StL} (h:base s) (hp:s.plan=[]):good (upS s):=by
  refine good_proc ⟨neg1,neg1,neg1,h.inp,h.jobs,h.kids,?_,?_,?_⟩
  · intro c hc
    simp only [hp,List.nil_append] at hc
    rcases List.mem_append.1 hc with hc | hc
    · obtain ⟨n,hn,h0,rfl⟩:=mem_closes hc
      have h1:=h.rd
      have h2:=h.wr
      have h3:=h.pv
      simp only [List.mem_cons,List.not_mem_nil,or_false] at hn
      exact ok_call (by decide) (by omega) (by decide)
    · rw [List.mem_singleton.1 hc]; exact ok_tell
  · simp only [hp,List.nil_append,List.length_append]
    have:=closes_len [s.pv,s.rd,s.wr]
    simp only [List.length_cons,List.length_nil] at this ⊢
    omega
  · show (0:Int)<=(nCmd s.jobs:Int)/\(nCmd s.jobs:Int)<=(nCmd s.jobs:Int)
    omega
theorem optC {d:CmdL} (h:validC d=true):d.inp.size<=60/\d.out.size<=60/\(word1 d).size<=60:=by
  have hw:=vc_words h
  have h':=h
  unfold validC at h'
  simp only [Bool.and_eq_true] at h'
  refine ⟨optB_size h'.2.2.1,optB_size h'.2.2.2.1,?_⟩
  have h0 : 0 < d.words.length:=by omega
  have e:word1 d=d.words[0]:=by unfold word1; rw [List.getD_eq_getElem?_getD,List.getElem?_eq_getElem h0]; rfl
  rw [e]
  exact (hw.2 _ (List.getElem_mem h0)).2
theorem ok_data {n a b:Int} {nm:ByteArray} (hn : 0<=n/\n < 20) (ha : -1<=a/\a<=1000) (hb : -1<=b/\b<=1000) (hz:nm.size<=60):okC ⟨n,a,b,0,sI nm⟩=true:=by
  rw [okC_dec]
  exact decide_eq_true ⟨ha,hb,(by show (-1:Int)<=0/\(0:Int)<=1000; decide),hn,by show (sI nm).length<=128; rw [sI_len]; omega⟩
theorem ok_opens {nm:ByteArray} {fl fd:Int} (hz:nm.size<=60) (h1 : 0<=fl/\fl<=10) (h2 : 0<=fd/\fd<=10) : ∀ c∈opens nm fl fd,okC c=true:=by
  intro c hc
  simp only [opens,List.mem_cons,List.not_mem_nil,or_false] at hc
  rcases hc with rfl | rfl | rfl
  · exact ok_data (by decide) (by omega) (by decide) hz
  · exact ok_call (by decide) (by decide) (by omega)
  · exact ok_call (by decide) (by decide) (by decide)
theorem ok_plan {s:StL} {d:CmdL} (h:base s) (hd:validC d=true) : ∀ c∈planL s d,okC c=true:=by
  obtain ⟨h1,h2,h3⟩:=optC hd
  have hr:=h.rd
  have hw:=h.wr
  have hp:=h.pv
  intro c hc
  rw [planA] at hc
  simp only [List.mem_append] at hc
  rcases hc with (((hc | hc) | hc) | hc) | hc
  · unfold pvA at hc
    split at hc
    · simp only [List.mem_cons,List.not_mem_nil,or_false] at hc
      rcases hc with rfl | rfl
      · exact ok_call (by decide) (by omega) (by decide)
      · exact ok_call (by decide) (by omega) (by decide)
    · simp at hc
  · unfold wrA at hc
    split at hc
    · simp only [List.mem_cons,List.not_mem_nil,or_false] at hc
      rcases hc with rfl | rfl | rfl
      · exact ok_call (by decide) (by omega) (by decide)
      · exact ok_call (by decide) (by omega) (by decide)
      · exact ok_call (by decide) (by omega) (by decide)
    · simp at hc
  · unfold inA at hc
    split at hc
    · simp at hc
    · exact ok_opens h1 (by decide) (by decide) c hc
  · unfold outA at hc
    split at hc
    · exact ok_opens h2 (by decide) (by decide) c hc
    · split at hc
      · simp at hc
      · exact ok_opens h2 (by decide) (by decide) c hc
  · rw [List.mem_singleton.1 hc]
    exact ok_data (by decide) (by decide) (by decide) h3
theorem planL_pos (s:StL) (d:CmdL) : 0 < (planL s d).length:=by
  rw [planA,List.length_append]
  exact Nat.lt_of_lt_of_le Nat.zero_lt_one (Nat.le_add_left _ _)
theorem cmdAt_ok {s:StL} (h:base s) (hp:s.pos < (nCmd s.jobs:Int)):validC (cmdAt s)=true:=by
  unfold cmdAt
  have hpos:=h.pos
  have hj:=h.jobs
  cases hq:s.jobs with
  | nil=>rw [hq] at hp hpos; simp only [nCmd] at hp; omega
  | cons j r =>
    rw [hq] at hp hj
    simp only [nCmd] at hp
    simp only
    have hlt:s.pos.toNat < j.cmds.length:=by omega
    rw [List.getD_eq_getElem?_getD,List.getElem?_eq_getElem hlt]
    have hv:validJ j=true:=by
      unfold validL at hj
      rw [Bool.and_eq_true,List.all_cons,Bool.and_eq_true] at hj
      exact hj.1.1
    unfold validJ at hv
    rw [Bool.and_eq_true,List.all_eq_true] at hv
    exact hv.2 _ (List.getElem_mem hlt)
theorem headC_mem {l:List CallL} (h : 0 < l.length):headC l∈l:=by
  cases l with
  | nil=>simp at h
  | cons x r=>exact List.mem_cons_self
theorem kids_add {l:List Int} {t:Int} (h:kidsP l):kidsP (kidsAdd l t):=by
  unfold kidsAdd
  split
  · rename_i hq
    refine ⟨fun x hx=>?_,List.pairwise_append.2 ⟨h.2,List.pairwise_singleton _ _,fun a ha b hb=>?_⟩⟩
    · rcases List.mem_append.1 hx with hx | hx
      · exact h.1 x hx
      · rw [List.mem_singleton.1 hx]; exact hq.1
    · rw [List.mem_singleton.1 hb]
      rintro rfl
      have:=List.contains_iff_mem.2 ha
      rw [hq.2] at this
      cases this
  · exact h
theorem good_child (s:StL) (l:List CallL) (h:base s) (hl : ∀ c∈l,okC c=true) (h0 : 0 < l.length) (h12:l.length<=12) (hm:s.mode=6):good ({s with plan:=l},headC l):=by
  refine ⟨(valid_iff _).2 ⟨⟨h.rd,h.wr,h.pv,h.inp,h.jobs,h.kids,hl,h12,h.pos⟩,?_,?_,?_,?_⟩,hl _ (headC_mem h0)⟩
  · show 0<=s.mode/\s.mode<=7; omega
  · exact ⟨fun _=> .inr hm,fun _=>h0⟩
  · intro q; have:s.mode=3\/s.mode=4:=q; omega
  · intro q; have:s.mode=5:=q; omega
theorem ok_fix1 {r:Int} {c:CallL} (h:okC c=true) (hr : 0<=r):okC (fix1 r c)=true:=by
  unfold fix1
  split
  · rw [okC_dec] at h ⊢
    have:=of_decide_eq_true h
    refine decide_eq_true ⟨?_,this.2⟩
    show -1<=r % 8/\r % 8<=1000
    omega
  · exact h
theorem ok_fixL {r:Int} {l:List CallL} (h : ∀ c∈l,okC c=true) (hr : 0<=r) : ∀ c∈fixL r l,okC c=true:=by
  intro c hc
  match l,h,hc with
  | [],_,hc=>simp [fixL] at hc
  | [a],h,hc =>
    simp only [fixL,List.mem_singleton] at hc
    subst hc
    exact ok_fix1 (h a List.mem_cons_self) hr
  | a::b::l,h,hc =>
    simp only [fixL,List.mem_cons] at hc
    rcases hc with rfl | rfl | hc
    · exact ok_fix1 (h a List.mem_cons_self) hr
    · exact ok_fix1 (h b (by simp)) hr
    · exact h c (by simp [hc])
theorem fixL_len (r:Int) (l:List CallL):(fixL r l).length=l.length:=by
  match l with
  | []=>rfl
  | [a]=>rfl
  | a::b::l=>rfl
theorem good_step {s:StL} (hv:validS s=true) (r:Int) (d:List Int):good (stepS s r d):=by
  obtain ⟨h,hm,hpl,hps,hjb⟩:=(valid_iff s).1 hv
  have hp0 : ¬ (s.mode=2\/s.mode=6)->s.plan=[]:=fun q=>List.length_eq_zero_iff.1 (by
    rcases Nat.eq_zero_or_pos s.plan.length with e | e
    · exact e
    · exact absurd (hpl.1 e) q)
  unfold stepS
  split
  · exact good_proc h
  split
  · rename_i h1
    unfold readS
    split
    · refine good_proc ⟨h.rd,h.wr,h.pv,?_,h.jobs,h.kids,h.plan,h.len,h.pos⟩
      show (s.inp++bsI _).size<=300
      rw [ByteArray.size_append,bsI_size,List.length_take]
      have:=h.inp
      omega
    · split
      · unfold exitS
        exact good_mode h (by decide) (hp0 (by omega)) (by intro q; omega) (by intro q; omega) (by split <;> rfl)
      · refine good_proc ⟨h.rd,h.wr,h.pv,?_,h.jobs,h.kids,h.plan,h.len,h.pos⟩
        show (s.inp.extract 0 (min s.inp.size 299)++(⟨#[10]⟩:ByteArray)).size<=300
        rw [ByteArray.size_append,ByteArray.size_extract,show (⟨#[10]⟩:ByteArray).size=1 from rfl]
        omega
  split
  · refine good_proc ⟨h.rd,h.wr,h.pv,h.inp,h.jobs,h.kids,fun c hc=>h.plan c (List.mem_of_mem_tail hc),?_,h.pos⟩
    show s.plan.tail.length<=12
    rw [List.length_tail]
    have:=h.len
    omega
  split
  · split
    · exact good_up h (hp0 (by omega))
    · rename_i h3 hr
      have hb:base {s with rd:=r / 256 % 8,wr:=r % 256 % 8}:=⟨by show -1<=r / 256 % 8/\r / 256 % 8 < 8; omega,by show -1<=r % 256 % 8/\r % 256 % 8 < 8; omega,h.pv,h.inp,h.jobs,h.kids,h.plan,h.len,h.pos⟩
      exact good_mode (k:=4) hb (by decide) (hp0 (by omega)) (by intro _; exact hps (.inl h3)) (by intro q; omega) (by rfl)
  split
  · rename_i h4
    unfold forkS
    split
    · exact good_up h (hp0 (by omega))
    · split
      · have hc:=cmdAt_ok h (hps (.inr h4))
        have:=good_child {newS with mode:=6} (planL s (cmdAt s)) ⟨by decide,by decide,by decide,by decide,by rfl,⟨fun x hx=>absurd hx List.not_mem_nil,List.Pairwise.nil⟩,fun c hc=>absurd hc List.not_mem_nil,by decide,by decide⟩ (ok_plan h hc) (planL_pos _ _) (planL_len _ _) rfl
        exact this
      · refine good_proc ⟨neg1,neg1,h.rd,h.inp,h.jobs,kids_add h.kids,?_,?_,?_⟩
        · intro c hc
          simp only [hp0 (by omega),List.nil_append] at hc
          obtain ⟨n,hn,h0,rfl⟩:=mem_closes hc
          have h2:=h.wr
          have h3:=h.pv
          simp only [List.mem_cons,List.not_mem_nil,or_false] at hn
          exact ok_call (by decide) (by omega) (by decide)
        · simp only [hp0 (by omega),List.nil_append]
          have:=closes_len [s.pv,s.wr]
          simp only [List.length_cons,List.length_nil] at this
          omega
        · have:=hps (.inr h4)
          have:=h.pos
          show 0<=s.pos+1/\s.pos+1<=(nCmd s.jobs:Int)
          omega
  split
  · refine good_proc ⟨h.rd,h.wr,h.pv,h.inp,h.jobs,?_,h.plan,h.len,h.pos⟩
    show kidsP (if r < 0 then [] else _)
    split
    · exact ⟨fun x hx=>absurd hx List.not_mem_nil,List.Pairwise.nil⟩
    · exact ⟨fun x hx=>h.kids.1 x (List.mem_filter.1 hx).1,h.kids.2.filter _⟩
  split
  · rename_i h6
    have h1 : 0 < s.plan.length:=hpl.2 (.inr h6)
    have h2:=h.len
    unfold childS
    have ht : ∀ c∈s.plan.tail,okC c=true:=fun c hc=>h.plan c (List.mem_of_mem_tail hc)
    have key:(∀ c∈childP s.plan r,okC c=true)/\0 < (childP s.plan r).length/\(childP s.plan r).length<=12:=by
      unfold childP
      split
      · refine ⟨?_,by simp,by simp⟩
        intro c hc
        simp only [List.mem_cons,List.not_mem_nil,or_false] at hc
        rcases hc with rfl | rfl
        · exact ok_tell
        · rfl
      · rename_i hn
        have hb:(∀ c∈(if (headC s.plan).call=7 then fixL r s.plan.tail else s.plan.tail),okC c=true)/\(if (headC s.plan).call=7 then fixL r s.plan.tail else s.plan.tail).length<=12:=by
          split
          · refine ⟨ok_fixL ht (by omega),by rw [fixL_len,List.length_tail]; omega⟩
          · exact ⟨ht,by rw [List.length_tail]; omega⟩
        generalize (if (headC s.plan).call=7 then fixL r s.plan.tail else s.plan.tail)=m at hb ⊢
        unfold or127
        split
        · refine ⟨?_,by simp,by simp⟩
          intro c hc
          rw [List.mem_singleton.1 hc]; rfl
        · exact ⟨hb.1,by omega,hb.2⟩
    exact good_child s _ h key.1 key.2.1 key.2.2 h6
  · exact ⟨hv,by rfl⟩
theorem good_stepP (s:StL) (r:Int) (d:List Int):good (stepP s r d):=by
  unfold stepP
  split
  · rename_i h; exact good_step h r d
  · exact ⟨by rfl,by rfl⟩
end Go.Proofs.YtdljjajjonfjbaaDoor
