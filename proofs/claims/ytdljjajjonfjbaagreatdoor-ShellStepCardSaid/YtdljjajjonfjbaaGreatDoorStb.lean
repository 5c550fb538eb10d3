import Derived.Test.YtdljjajjonfjbaaGreatDoorShj
import Derived.Test.YtdljjajjonfjbaaGreatDoorSho
import Derived.Test.YtdljjajjonfjbaaGreatDoorSx
import Derived.Test.YtdljjajjonfjbaaGreatDoorShl
import Derived.Test.YtdljjajjonfjbaaGreatDoorParsc
set_option linter.unusedVariables false
set_option linter.unusedSimpArgs false
open Go.Value renaming slice->C
open Option renaming some->D,none->E
open Go.Proofs.Tryz renaming prog->jP
open List renaming length_append->jR,length_cons->jS,length_nil->jT,length_map->jU,mem_cons_self->jX,not_mem_nil->jY,mem_singleton->jZ,nil_append->kD
open ByteArray renaming size_append->kG,size_extract->kH
open Nat renaming zero_lt_succ->kJ
open Bool renaming and_eq_true->kK
namespace Go.Proofs.YtdljjajjonfjbaaGreatDoor
open Go Go.RowKit Go.Proofs.Sx
theorem Rj (l:List Int) : ∀ n,n<=l.length->(C2 l n=true↔(∀ x∈l.take n,B4 x=true)/\(l.take n).Pairwise (·≠·))
 | 0,_=>by simp [C2]
 | n+1,h=>by
  have ih:=Rj l n (by omega)
  have hg:l.getD n 0=l[n]:=by rw [List.getD_eq_getElem?_getD,List.getElem?_eq_getElem (by omega)]; rfl
  simp only [C2]
  rw [List.take_add_one,List.getElem?_eq_getElem (by omega),hg,kK,kK,ih,List.pairwise_append]
  have hc:(!(l.take n).contains l[n])=true↔∀ a∈l.take n,a≠l[n]:=by
   rw [Bool.not_eq_true',← Bool.not_eq_true,List.contains_iff_mem]
   exact ⟨fun q a ha e=>q (e ▸ ha),fun q ha=>q _ ha rfl⟩
  rw [hc]
  constructor
  · rintro ⟨⟨h1,h2⟩,h3,h4⟩
    refine ⟨fun x hx=>?_,h2,List.pairwise_singleton _ _,fun a ha b hb=>?_⟩
    · rcases List.mem_append.1 hx with hx | hx
      · exact h1 x hx
      · have:x=l[n]:=by simpa using hx
        rw [this]; exact h3
    · have:b=l[n]:=by simpa using hb
      rw [this]; exact h4 a ha
  · rintro ⟨h1,h2,_,h4⟩
    exact ⟨⟨fun x hx=>h1 x (List.mem_append_left _ hx),h2⟩,h1 _ (List.mem_append_right _ (by simp)),fun a ha=>h4 a ha _ (by simp)⟩
def Lu (l:List Int):Prop:=(∀ x∈l,B4 x=true)/\l.Pairwise (·≠·)
theorem Rk (l:List Int):C2 l l.length=true↔Lu l:=by
 have:=Rj l l.length (Nat.le_refl _)
 rwa [List.take_length] at this
theorem php : ∀ (n:Nat) (l:List Int) (a:Int),l.Pairwise (·≠·)->(∀ x∈l,a<=x/\x < a+n)->l.length<=n
 | 0,l,a,_,h=>by
  cases l with
  | nil=>exact Nat.le_refl _
  | cons x r=>have:=h x jX; omega
 | n+1,l,a,hp,h=>by
  have h1:(l.filter fun x=>decide (x≠a+n)).length<=n:=by
   refine php n _ a (hp.filter _) fun x hx=>?_
   have hx':=List.mem_filter.1 hx
   have h2:=h x hx'.1
   have h3:=jL hx'.2
   omega
  have h4 : ∀ l:List Int,l.Pairwise (·≠·)->l.length<=(l.filter fun x=>decide (x≠a+n)).length+1:=by
   intro l hp
   induction l with
   | nil=>exact Nat.zero_le _
   | cons x r ih =>
    have hp':=List.pairwise_cons.1 hp
    by_cases hx:x=a+n
    · have:(r.filter fun x=>decide (x≠a+n))=r:=by
       rw [List.filter_eq_self]
       intro y hy
       exact jN (fun e=>hp'.1 y hy (hx.trans e.symm))
      rw [List.filter_cons_of_neg (by simpa using hx),this]
      exact Nat.le_refl _
    · rw [List.filter_cons_of_pos (by simpa using hx),jS,jS]
      exact Nat.succ_le_succ (ih hp'.2)
  exact Nat.le_trans (h4 l hp) (Nat.succ_le_succ h1)
theorem Lu.len {l:List Int} (h:Lu l):l.length<=16:=php 16 l 16 h.2 fun x hx=>by
 have:=jL (h.1 x hx)
 omega
structure base (s:StL):Prop where
 rd : -1<=s.rd/\s.rd < 8
 wr : -1<=s.wr/\s.wr < 8
 pv : -1<=s.pv/\s.pv < 8
 inp:s.inp.size<=300
 jobs:As s.jobs=true
 kids:Lu s.kids
 plan : ∀ c∈s.plan,okC c=true
 len:s.plan.length<=12
 pos : 0<=s.pos/\s.pos<=(Bh s.jobs:Int)
theorem S3 (l:List Int) (p:List CallL):Cz l p=true↔Lu l/\(∀ c∈p,okC c=true)/\p.length<=12:=by
 unfold Cz
 rw [kK,kK,Rk,List.all_eq_true,decide_eq_true_eq]
theorem Dv (s:StL):Ba s=true↔base s/\(0<=s.mode/\s.mode<=7)/\(0 < s.plan.length↔(s.mode=2\/s.mode=6))/\(s.mode=3\/s.mode=4->s.pos < (Bh s.jobs:Int))/\(s.mode=5->0 < s.jobs.length):=by
 rw [Ku,decide_eq_true_eq,S3]
 constructor
 · rintro ⟨⟨h1,h2,h3⟩,⟨h4,h5,h6,⟨h7,h8,h9⟩,h10⟩,h11,h12,h13⟩
   exact ⟨⟨h1,h2,h3,h5,h6,h7,h8,h9,h10⟩,h4,h11,h12,h13⟩
 · rintro ⟨h,h4,h11,h12,h13⟩
   exact ⟨⟨h.rd,h.wr,h.pv⟩,⟨h4,h.inp,h.jobs,⟨h.kids,h.plan,h.len⟩,h.pos⟩,h11,h12,h13⟩
theorem En {n a b:Int} (hn : 0<=n/\n < 20) (ha : -1<=a/\a<=1000) (hb : -1<=b/\b<=1000):okC (A3 n a b)=true:=by
 rw [Cp]
 exact jN ⟨ha,hb,(by show (-1:Int)<=0/\(0:Int)<=1000; decide),hn,Nat.zero_le _⟩
theorem L6:okC Fa=true:=by rfl
def Rp (q:StL×CallL):Prop:=Ba q.1=true/\okC q.2=true
theorem Rx (ws:List ByteArray) : 0<=B0 ws/\B0 ws<=255:=by
 unfold B0
 split
 · split <;> omega
 · omega
theorem Xi:(-1:Int)<=-1/\(-1:Int) < 8:=by decide
theorem Eh {s:StL} {k:Int} {c:CallL} (h:base s) (hk:k=1\/k=3\/k=4\/k=5\/k=7) (hp:s.plan=[]) (h34:k=3\/k=4->s.pos < (Bh s.jobs:Int)) (h5:k=5->0 < s.jobs.length) (hc:okC c=true):Rp ({s with mode:=k},c):=by
 refine ⟨(Dv _).2 ⟨⟨h.rd,h.wr,h.pv,h.inp,h.jobs,h.kids,h.plan,h.len,h.pos⟩,?_,?_,h34,h5⟩,hc⟩
 · show 0<=k/\k<=7; omega
 · show 0 < s.plan.length↔(k=2\/k=6)
   rw [hp]
   simp only [jT]
   omega
theorem bE {s s':StL} {c:Option CallL} (h:base s) (hp:s.plan=[]) (hj : 0 < s.jobs.length) (e:Dc s=(s',c)) :
 (∀ x,c=D x->Rp (s',x))/\(c=E->base s'):=by
 obtain ⟨j,r,hjr⟩ : ∃ j r,s.jobs=j::r:=by
  cases hq:s.jobs with
  | nil=>rw [hq] at hj; simp at hj
  | cons j r=>exact ⟨j,r,rfl⟩
 have hv:=Jp h.jobs
 rw [e] at hv
 have hn:Bh s.jobs=j.cmds.length:=by rw [hjr]; rfl
 have hpos:=h.pos
 rw [hn] at hpos
 obtain ⟨mo,po,inp,jobs,rd,wr,pv,kids,plan⟩:=s
 simp only at hjr hp
 subst hjr hp
 unfold Dc at e
 simp only at e
 split at e
 · cases e
   refine ⟨fun x hx=>?_,fun hx=>by cases hx⟩
   cases hx
   exact Eh (k:=7) h (by decide) rfl (by intro q; omega) (by intro q; omega) (En (by decide) (by have:=Rx (aS j.cmds).words; omega) (by decide))
 split at e
 · cases e
   rename_i hb
   refine ⟨fun x hx=>(by cases hx),fun _=>⟨h.rd,h.wr,h.pv,h.inp,hv,h.kids,?_,?_,?_⟩⟩
   · intro c hc
     have:c=Fa:=by simpa using hc
     rw [this]; exact L6
   · exact Nat.le_of_ble_eq_true rfl
   · have:=hb.1
     simp only at this ⊢
     omega
 split at e
 · cases e
   rename_i hc
   refine ⟨fun x hx=>?_,fun hx=>by cases hx⟩
   cases hx
   exact Eh (k:=4) h (by decide) rfl (by intro _; rw [hn]; simp only at hc ⊢; omega) (by intro q; omega) (by rfl)
 split at e
 · cases e
   rename_i hd
   refine ⟨fun x hx=>?_,fun hx=>by cases hx⟩
   cases hx
   exact Eh (k:=3) h (by decide) rfl (by intro _; rw [hn]; simp only at hd ⊢; omega) (by intro q; omega) (by rfl)
 split at e
 · cases e
   refine ⟨fun x hx=>?_,fun hx=>by cases hx⟩
   cases hx
   exact Eh (k:=5) h (by decide) rfl (by intro q; omega) (by intro q; exact kJ _) (by rfl)
 · cases e
   refine ⟨fun x hx=>(by cases hx),fun _=>⟨h.rd,h.wr,Xi,h.inp,hv,⟨fun x hx=>absurd hx jY,List.Pairwise.nil⟩,h.plan,h.len,?_⟩⟩
   show (0:Int)<=0/\(0:Int)<=_
   omega
theorem X0 {s:StL} (h:base s) (hp:s.plan=[]) (hj:s.jobs=[]) (n:Nat):base (Dh s n):=by
 have hpos:=h.pos
 rw [hj] at hpos
 have h0:s.pos=0:=by simp only [Bh] at hpos; omega
 have hx:(s.inp.extract (n+1) s.inp.size).size<=300:=by rw [kH]; have:=h.inp; omega
 unfold Dh
 split
 · refine ⟨h.rd,h.wr,h.pv,hx,h.jobs,h.kids,?_,?_,h.pos⟩
   · simp only [hp,kD,jZ]; rintro c rfl; exact L6
   · simp only [hp,kD]; decide
 · rename_i l hl
   exact ⟨h.rd,h.wr,h.pv,hx,Hn hl,h.kids,h.plan,h.len,by show 0<=s.pos/\s.pos<=_; omega⟩
theorem Lg : ∀ (f:Nat) (s:StL),base s->K7 s+1<=f->Rp (Dg f s)
 | 0,s,_,hf=>by omega
 | f+1,s,h,hf=>by
  cases hp:s.plan with
  | cons c r =>
   rw [K5 hp]
   have hc:=h.plan c (by rw [hp]; exact jX)
   refine ⟨(Dv _).2 ⟨⟨h.rd,h.wr,h.pv,h.inp,h.jobs,h.kids,h.plan,h.len,h.pos⟩,?_,?_,?_,?_⟩,hc⟩
   · show (0:Int)<=2/\(2:Int)<=7; decide
   · exact ⟨fun _=> .inl rfl,fun _=>by show 0 < s.plan.length; rw [hp]; exact kJ _⟩
   · intro q; have:(2:Int)=3\/(2:Int)=4:=q; omega
   · intro q; have:(2:Int)=5:=q; omega
  | nil =>
   cases hj:s.jobs with
   | cons j r =>
    have hjl : 0 < s.jobs.length:=by rw [hj]; exact kJ _
    cases hs:Dc s with
    | mk s' c =>
     obtain ⟨h1,h2⟩:=bE h hp hjl hs
     cases c with
     | some x=>rw [E5 hp hjl hs]; exact h1 x rfl
     | none =>
      rw [E6 hp hjl hs]
      have:=E8 hs hjl
      exact Lg f s' (h2 rfl) (by omega)
   | nil =>
    by_cases hn:nlI s.inp < 0
    · rw [K4 hp hj hn]
      exact Eh h (by decide) hp (by intro q; omega) (by intro q; omega) (by rfl)
    · rw [Hz hp hj hn]
      have hb:=X0 h hp hj (nlI s.inp).toNat
      have:=Gp (s:=s) (n:=(nlI s.inp).toNat) (Pq hn) (by rw [hj]; rfl) (Hb hb.jobs)
      exact Lg f _ hb (by omega)
theorem Eg {s:StL} (h:base s):Rp (By s):=Lg _ s h (by omega)
theorem Nb {l:List Int} {c:CallL} (h:c∈Br l) : ∃ n∈l,0<=n/\c=A3 8 n 0:=by
 unfold Br at h
 obtain ⟨n,hn,rfl⟩:=List.mem_map.1 h
 have:=List.mem_filter.1 hn
 exact ⟨n,this.1,jL this.2,rfl⟩
theorem Nt (l:List Int):(Br l).length<=l.length:=by
 unfold Br
 rw [jU]
 exact List.length_filter_le _ _
theorem Vf {s:StL} (h:base s) (hp:s.plan=[]):Rp (upS s):=by
 refine Eg ⟨Xi,Xi,Xi,h.inp,h.jobs,h.kids,?_,?_,?_⟩
 · intro c hc
   simp only [hp,kD] at hc
   rcases List.mem_append.1 hc with hc | hc
   · obtain ⟨n,hn,h0,rfl⟩:=Nb hc
     have h1:=h.rd
     have h2:=h.wr
     have h3:=h.pv
     simp only [List.mem_cons,jY,or_false] at hn
     exact En (by decide) (by omega) (by decide)
   · rw [jZ.1 hc]; exact L6
 · simp only [hp,kD,jR]
   have:=Nt [s.pv,s.rd,s.wr]
   simp only [jS,jT] at this ⊢
   omega
 · show (0:Int)<=(Bh s.jobs:Int)/\(Bh s.jobs:Int)<=(Bh s.jobs:Int)
   omega
theorem optC {d:CmdL} (h:Ax d=true):d.inp.size<=60/\d.out.size<=60/\(Jz d).size<=60:=by
 have hw:=E9 h
 have h':=h
 unfold Ax at h'
 simp only [kK] at h'
 refine ⟨D0 h'.2.2.1,D0 h'.2.2.2.1,?_⟩
 have h0 : 0 < d.words.length:=by omega
 have e:Jz d=d.words[0]:=by unfold Jz; rw [List.getD_eq_getElem?_getD,List.getElem?_eq_getElem h0]; rfl
 rw [e]
 exact (hw.2 _ (List.getElem_mem h0)).2
theorem Uu {n a b:Int} {nm:ByteArray} (hn : 0<=n/\n < 20) (ha : -1<=a/\a<=1000) (hb : -1<=b/\b<=1000) (hz:nm.size<=60):okC ⟨n,a,b,0,sI nm⟩=true:=by
 rw [Cp]
 exact jN ⟨ha,hb,(by show (-1:Int)<=0/\(0:Int)<=1000; decide),hn,by show (sI nm).length<=128; rw [Mw]; omega⟩
theorem M6 {nm:ByteArray} {fl fd:Int} (hz:nm.size<=60) (h1 : 0<=fl/\fl<=10) (h2 : 0<=fd/\fd<=10) : ∀ c∈G7 nm fl fd,okC c=true:=by
 intro c hc
 simp only [G7,List.mem_cons,jY,or_false] at hc
 rcases hc with rfl | rfl | rfl
 · exact Uu (by decide) (by omega) (by decide) hz
 · exact En (by decide) (by decide) (by omega)
 · exact En (by decide) (by decide) (by decide)
theorem cL {s:StL} {d:CmdL} (h:base s) (hd:Ax d=true) : ∀ c∈Hi s d,okC c=true:=by
 obtain ⟨h1,h2,h3⟩:=optC hd
 have hr:=h.rd
 have hw:=h.wr
 have hp:=h.pv
 intro c hc
 rw [Of] at hc
 simp only [List.mem_append] at hc
 rcases hc with (((hc | hc) | hc) | hc) | hc
 · unfold pvA at hc
   split at hc
   · simp only [List.mem_cons,jY,or_false] at hc
     rcases hc with rfl | rfl
     · exact En (by decide) (by omega) (by decide)
     · exact En (by decide) (by omega) (by decide)
   · simp at hc
 · unfold wrA at hc
   split at hc
   · simp only [List.mem_cons,jY,or_false] at hc
     rcases hc with rfl | rfl | rfl
     · exact En (by decide) (by omega) (by decide)
     · exact En (by decide) (by omega) (by decide)
     · exact En (by decide) (by omega) (by decide)
   · simp at hc
 · unfold inA at hc
   split at hc
   · simp at hc
   · exact M6 h1 (by decide) (by decide) c hc
 · unfold Kf at hc
   split at hc
   · exact M6 h2 (by decide) (by decide) c hc
   · split at hc
     · simp at hc
     · exact M6 h2 (by decide) (by decide) c hc
 · rw [jZ.1 hc]
   exact Uu (by decide) (by decide) (by decide) h3
theorem Xc (s:StL) (d:CmdL) : 0 < (Hi s d).length:=by
 rw [Of,jR]
 exact Nat.lt_of_lt_of_le Nat.zero_lt_one (Nat.le_add_left _ _)
theorem aQ {s:StL} (h:base s) (hp:s.pos < (Bh s.jobs:Int)):Ax (Kp s)=true:=by
 unfold Kp
 have hpos:=h.pos
 have hj:=h.jobs
 cases hq:s.jobs with
 | nil=>rw [hq] at hp hpos; simp only [Bh] at hp; omega
 | cons j r =>
  rw [hq] at hp hj
  simp only [Bh] at hp
  simp only
  have hlt:s.pos.toNat < j.cmds.length:=by omega
  rw [List.getD_eq_getElem?_getD,List.getElem?_eq_getElem hlt]
  have hv:B3 j=true:=by
   unfold As at hj
   rw [kK,List.all_cons,kK] at hj
   exact hj.1.1
  unfold B3 at hv
  rw [kK,List.all_eq_true] at hv
  exact hv.2 _ (List.getElem_mem hlt)
theorem Xp {l:List CallL} (h : 0 < l.length):Fq l∈l:=by
 cases l with
 | nil=>simp at h
 | cons x r=>exact jX
theorem Zn {l:List Int} {t:Int} (h:Lu l):Lu (Cv l t):=by
 unfold Cv
 split
 · rename_i hq
   refine ⟨fun x hx=>?_,List.pairwise_append.2 ⟨h.2,List.pairwise_singleton _ _,fun a ha b hb=>?_⟩⟩
   · rcases List.mem_append.1 hx with hx | hx
     · exact h.1 x hx
     · rw [jZ.1 hx]; exact hq.1
   · rw [jZ.1 hb]
     rintro rfl
     have:=List.contains_iff_mem.2 ha
     rw [hq.2] at this
     cases this
 · exact h
theorem Nh (s:StL) (l:List CallL) (h:base s) (hl : ∀ c∈l,okC c=true) (h0 : 0 < l.length) (h12:l.length<=12) (hm:s.mode=6):Rp ({s with plan:=l},Fq l):=by
 refine ⟨(Dv _).2 ⟨⟨h.rd,h.wr,h.pv,h.inp,h.jobs,h.kids,hl,h12,h.pos⟩,?_,?_,?_,?_⟩,hl _ (Xp h0)⟩
 · show 0<=s.mode/\s.mode<=7; omega
 · exact ⟨fun _=> .inr hm,fun _=>h0⟩
 · intro q; have:s.mode=3\/s.mode=4:=q; omega
 · intro q; have:s.mode=5:=q; omega
theorem Po {r:Int} {c:CallL} (h:okC c=true) (hr : 0<=r):okC (Th r c)=true:=by
 unfold Th
 split
 · rw [Cp] at h ⊢
   have:=jL h
   refine jN ⟨?_,this.2⟩
   show -1<=r % 8/\r % 8<=1000
   omega
 · exact h
theorem cM {r:Int} {l:List CallL} (h : ∀ c∈l,okC c=true) (hr : 0<=r) : ∀ c∈Hp r l,okC c=true:=by
 intro c hc
 match l,h,hc with
 | [],_,hc=>simp [Hp] at hc
 | [a],h,hc =>
  simp only [Hp,jZ] at hc
  subst hc
  exact Po (h a jX) hr
 | a::b::l,h,hc =>
  simp only [Hp,List.mem_cons] at hc
  rcases hc with rfl | rfl | hc
  · exact Po (h a jX) hr
  · exact Po (h b (by simp)) hr
  · exact h c (by simp [hc])
theorem Z0 (r:Int) (l:List CallL):(Hp r l).length=l.length:=by
 match l with
 | []=>rfl
 | [a]=>rfl
 | a::b::l=>rfl
theorem Xq {s:StL} (hv:Ba s=true) (r:Int) (d:List Int):Rp (Bi s r d):=by
 obtain ⟨h,hm,hpl,hps,hjb⟩:=(Dv s).1 hv
 have hp0 : ¬ (s.mode=2\/s.mode=6)->s.plan=[]:=fun q=>List.length_eq_zero_iff.1 (by
  rcases Nat.eq_zero_or_pos s.plan.length with e | e
  · exact e
  · exact absurd (hpl.1 e) q)
 unfold Bi
 split
 · exact Eg h
 split
 · rename_i h1
   unfold Ev
   split
   · refine Eg ⟨h.rd,h.wr,h.pv,?_,h.jobs,h.kids,h.plan,h.len,h.pos⟩
     show (s.inp++bsI _).size<=300
     rw [kG,A0,List.length_take]
     have:=h.inp
     omega
   · split
     · unfold Vi
       exact Eh h (by decide) (hp0 (by omega)) (by intro q; omega) (by intro q; omega) (by split <;> rfl)
     · refine Eg ⟨h.rd,h.wr,h.pv,?_,h.jobs,h.kids,h.plan,h.len,h.pos⟩
       show (s.inp.extract 0 (min s.inp.size 299)++(⟨#[10]⟩:ByteArray)).size<=300
       rw [kG,kH,show (⟨#[10]⟩:ByteArray).size=1 from rfl]
       omega
 split
 · refine Eg ⟨h.rd,h.wr,h.pv,h.inp,h.jobs,h.kids,fun c hc=>h.plan c (List.mem_of_mem_tail hc),?_,h.pos⟩
   show s.plan.tail.length<=12
   rw [List.length_tail]
   have:=h.len
   omega
 split
 · split
   · exact Vf h (hp0 (by omega))
   · rename_i h3 hr
     have hb:base {s with rd:=r / 256 % 8,wr:=r % 256 % 8}:=⟨by show -1<=r / 256 % 8/\r / 256 % 8 < 8; omega,by show -1<=r % 256 % 8/\r % 256 % 8 < 8; omega,h.pv,h.inp,h.jobs,h.kids,h.plan,h.len,h.pos⟩
     exact Eh (k:=4) hb (by decide) (hp0 (by omega)) (by intro _; exact hps (.inl h3)) (by intro q; omega) (by rfl)
 split
 · rename_i h4
   unfold Di
   split
   · exact Vf h (hp0 (by omega))
   · split
     · have hc:=aQ h (hps (.inr h4))
       have:=Nh {Sw with mode:=6} (Hi s (Kp s)) ⟨by decide,by decide,by decide,by decide,by rfl,⟨fun x hx=>absurd hx jY,List.Pairwise.nil⟩,fun c hc=>absurd hc jY,by decide,by decide⟩ (cL h hc) (Xc _ _) (Oe _ _) rfl
       exact this
     · refine Eg ⟨Xi,Xi,h.rd,h.inp,h.jobs,Zn h.kids,?_,?_,?_⟩
       · intro c hc
         simp only [hp0 (by omega),kD] at hc
         obtain ⟨n,hn,h0,rfl⟩:=Nb hc
         have h2:=h.wr
         have h3:=h.pv
         simp only [List.mem_cons,jY,or_false] at hn
         exact En (by decide) (by omega) (by decide)
       · simp only [hp0 (by omega),kD]
         have:=Nt [s.pv,s.wr]
         simp only [jS,jT] at this
         omega
       · have:=hps (.inr h4)
         have:=h.pos
         show 0<=s.pos+1/\s.pos+1<=(Bh s.jobs:Int)
         omega
 split
 · refine Eg ⟨h.rd,h.wr,h.pv,h.inp,h.jobs,?_,h.plan,h.len,h.pos⟩
   show Lu (if r < 0 then [] else _)
   split
   · exact ⟨fun x hx=>absurd hx jY,List.Pairwise.nil⟩
   · exact ⟨fun x hx=>h.kids.1 x (List.mem_filter.1 hx).1,h.kids.2.filter _⟩
 split
 · rename_i h6
   have h1 : 0 < s.plan.length:=hpl.2 (.inr h6)
   have h2:=h.len
   unfold Du
   have ht : ∀ c∈s.plan.tail,okC c=true:=fun c hc=>h.plan c (List.mem_of_mem_tail hc)
   have key:(∀ c∈Fy s.plan r,okC c=true)/\0 < (Fy s.plan r).length/\(Fy s.plan r).length<=12:=by
    unfold Fy
    split
    · refine ⟨?_,by simp,by simp⟩
      intro c hc
      simp only [List.mem_cons,jY,or_false] at hc
      rcases hc with rfl | rfl
      · exact L6
      · rfl
    · rename_i hn
      have hb:(∀ c∈(if (Fq s.plan).call=7 then Hp r s.plan.tail else s.plan.tail),okC c=true)/\(if (Fq s.plan).call=7 then Hp r s.plan.tail else s.plan.tail).length<=12:=by
       split
       · refine ⟨cM ht (by omega),by rw [Z0,List.length_tail]; omega⟩
       · exact ⟨ht,by rw [List.length_tail]; omega⟩
      generalize (if (Fq s.plan).call=7 then Hp r s.plan.tail else s.plan.tail)=m at hb ⊢
      unfold Us
      split
      · refine ⟨?_,by simp,by simp⟩
        intro c hc
        rw [jZ.1 hc]; rfl
      · exact ⟨hb.1,by omega,hb.2⟩
   exact Nh s _ h key.1 key.2.1 key.2.2 h6
 · exact ⟨hv,by rfl⟩
theorem Ng (s:StL) (r:Int) (d:List Int):Rp (A4 s r d):=by
 unfold A4
 split
 · rename_i h; exact Xq h r d
 · exact ⟨by rfl,by rfl⟩
end Go.Proofs.YtdljjajjonfjbaaGreatDoor
namespace Go.Proofs.Sx
open Go Go.RowKit
section
variable {P:Program} {Q:Exit->Act->World->Prop} {n:Nat} {ds:List Deferred} {a:Act} {e:Env} {w:World} {ops:Array Oper} {S:World->Prop}
theorem fO {r:List (Nat×Bool)} {K:Act->Prop} (hK : ∀ a',K a'->Ci P ops Q S r a' w) (hS:S w) : ∀ (p:List (Nat×Bool)) (a:Act),(Bd ops (p.map Prod.fst)).length=p.length->Lh P ops S (Bd ops (p.map Prod.fst)) a K->Ci P ops Q S (p++r) a w
 | [],a,_,h=>hK a h
 | (i,b)::l,a,hl,h=>by
  simp only [List.map_cons,Bd] at hl h
  cases hi:ops[i]? with
  | none=>rw [hi] at hl; simp at hl
  | some o =>
   rw [hi] at hl h
   obtain ⟨v,hy,hr⟩:=h
   have ih:=fO hK hS l (a.put o.dst v) (by simpa using hl) hr
   cases b with
   | true=>exact ⟨o,v,hi,hy,ih⟩
   | false=>exact hy.wpOp hi hS ⟨hS,ih⟩
theorem ckF {p:List (Nat×Bool)} (k:Nat) {e':Env} {Cs:List Prop} (V:Holds n ds a e) (vs:List Value) (hC:Ec Cs) (hS:S w) (hK : ∀ a',Holds n ds a' e'->Ci P ops Q S (p.drop k) a' w)
 (hl:Nat.beq (Bd ops ((p.take k).map Prod.fst)).length (p.take k).length=true:=by kernel_rfl) (hev:D2 P (LdS P S) n ops (Ho e') (Bd ops ((p.take k).map Prod.fst)) e vs=D (e',Cs):=by kernel_rfl):Ci P ops Q S p a w:=by
 have h:=fO (P:=P) (Q:=Q) hK hS (p.take k) a (Nat.eq_of_beq_eq_true hl) (C4 (S:=S) (L:=LdS P S) (fun ad t v h w' hw=>h w' hw) _ _ _ _ _ _ V hev hC)
 rwa [List.take_append_drop] at h
end
end Go.Proofs.Sx
set_option maxRecDepth 10000
namespace Go.Proofs.YtdljjajjonfjbaaGreatDoor
open Go Go.Shelf Go.RowKit Go.Proofs Go.Proofs.Sx
section
variable {mo po:Int} {inp:ByteArray} {pj:Option Addr} {kj:Nat} {lj:List JV} {rd wr pv:Int} {pn:Option Addr} {kn:Nat} {ln:List Int} {pp:Option Addr} {kp:Nat} {lp:List PV}
theorem Fj:Ba (SV.d (⟨mo,po,inp,pj,kj,lj,rd,wr,pv,pn,kn,ln,pp,kp,lp⟩:SV))=true↔((-1<=rd/\rd < 8)/\(-1<=wr/\wr < 8)/\(-1<=pv/\pv < 8))/\((0<=mo/\mo<=7)/\inp.size<=300/\As (lj.map JV.d)=true/\(C2 ln ln.length=true/\((lp.all fun x=>okC x.d)=true/\lp.length<=12))/\(0<=po/\po<=(Bh (lj.map JV.d):Int)))/\((0 < lp.length↔(mo=2\/mo=6))/\(mo=3\/mo=4->po < (Bh (lj.map JV.d):Int))/\(mo=5->0 < lj.length)):=by
 rw [Ku,decide_eq_true_iff];unfold SV.d;simp only [H1,kK,decide_eq_true_eq,jU]
theorem Bj (h:((-1<=rd/\rd < 8)/\(-1<=wr/\wr < 8)/\(-1<=pv/\pv < 8)/\(0<=mo/\mo<=7)/\inp.size<=300/\ln.length<=16/\lp.length<=12/\(0<=po/\po<=(Bh (lj.map JV.d):Int))/\(0 < lp.length↔(mo=2\/mo=6))/\(mo=3\/mo=4->po < (Bh (lj.map JV.d):Int))/\(mo=5->0 < lj.length)/\As (lj.map JV.d)=true)->C2 ln ln.length=true->(lp.all fun x=>okC x.d)=true->False):false=Ba (SV.d (⟨mo,po,inp,pj,kj,lj,rd,wr,pv,pn,kn,ln,pp,kp,lp⟩:SV)):=by
 refine (Bool.eq_false_iff.2 fun q=>?_).symm;obtain ⟨⟨h1,h2,h3⟩,⟨h4,h5,h6,⟨h7,h8,h9⟩,h10⟩,h11,h12,h13⟩:=Fj.1 q;exact h ⟨h1,h2,h3,h4,h5,((Rk _).1 h7).len,h9,h10,h11,h12,h13,h6⟩ h7 h8
end
theorem iJ {c:CallL} (h1 : 0<=c.call/\c.call < 20) (h2:c.data.length<=128) (h:(-1<=c.a0/\c.a0<=1000)/\(-1<=c.a1/\c.a1<=1000)/\(-1<=c.a2/\c.a2<=1000)):okC c=true:=by rw [Cp]; exact jN ⟨h.1,h.2.1,h.2.2,h1,h2⟩
theorem Gm {c:CallL} (h : ¬ ((-1<=c.a0/\c.a0<=1000)/\(-1<=c.a1/\c.a1<=1000)/\(-1<=c.a2/\c.a2<=1000)/\(0<=c.call/\c.call < 20)/\c.data.length<=128)):okC c=false:=by rw [Cp]; exact jO h
theorem jH {n:Nat} {m:Int} (h:(decide (((n:Nat):Int) > 0) == ((m == 2) || (m == 6)))=true) : 0 < n↔m=2\/m=6:=by
 rw [beq_iff_eq,Bool.eq_iff_iff,decide_eq_true_eq,Bool.or_eq_true,beq_iff_eq,beq_iff_eq] at h; omega
theorem bm_no {n:Nat} {m:Int} (h:(decide (((n:Nat):Int) > 0) == ((m == 2) || (m == 6)))=false) : ¬ (0 < n↔m=2\/m=6):=by
 rw [beq_eq_false_iff_ne,ne_eq,Bool.eq_iff_iff,decide_eq_true_eq,Bool.or_eq_true,beq_iff_eq,beq_iff_eq] at h; omega
theorem Kr {l:List Int} {i:Nat} (h:C2 l i=true) (hi : ¬ i < l.length) (hi':i<=l.length):C2 l l.length=true:=by rw [show l.length=i by omega]; exact h
theorem Lm (mo po:Int) (inp:ByteArray) (pj:Option Addr) (kj:Nat) (lj:List JV) (rd wr pv:Int) (pn:Option Addr) (kn:Nat) (ln:List Int) (pp:Option Addr) (kp:Nat) (lp:List PV) (w:World) (hs:SV.ok (⟨mo,po,inp,pj,kj,lj,rd,wr,pv,pn,kn,ln,pp,kp,lp⟩:SV) w) (hm:SV.sm (⟨mo,po,inp,pj,kj,lj,rd,wr,pv,pn,kn,ln,pp,kp,lp⟩:SV)) :
 Calls jP 33 #[.agg #[Z mo,Z po,Y inp,C pj lj.length kj,Z rd,Z wr,Z pv,C pn ln.length kn,C pp lp.length kp]] w fun e w'=>e = .returned (.bool (Ba (SV.d (⟨mo,po,inp,pj,kj,lj,rd,wr,pv,pn,kn,ln,pp,kp,lp⟩:SV))))/\Only Ag w w':=by
 let a:=(.agg #[Z mo,Z po,Y inp,C pj lj.length kj,Z rd,Z wr,Z pv,C pn ln.length kn,C pp lp.length kp]:Value);let c:=(2,I false);let f:=(cS mo po inp pj lj.length kj rd wr pv pn ln.length kn pp lp.length kp);let l:=(C pp lp.length kp:Value);let o:=(C pj lj.length kj:Value);let s:=(C pn ln.length kn:Value);let u:=[(2,I (decide (po < ((Bh (lj.map JV.d):Nat):Int))))];let v:=[I (decide (po < ((Bh (lj.map JV.d):Nat):Int)))];let z:=[(136,I true)];refine Ak (args:=[a]) (m:=165) (n:=166) Tryz.func33 rfl (by kernel_rfl) (by kernel_rfl) fun J V=>?_;have O:=Ow.nil jP Ag w;have hv_j:VL w (o) lj:=hs.j;have hv_k:Vw fN w (s) ln:=hs.k;have hv_p:PL w (l) lp:=hs.p;have hm_ck:ln.length<=kn:=hm.ck;have hm_cj:lj.length<=kj:=hm.cj;have hm_cp:lp.length<=kp:=hm.cp;have hm_i:inp.size<=1000000:=hm.i;have hm_k:ln.length<=1000000:=hm.k;have hm_p:lp.length<=1000000:=hm.p;have hm_j:smL 1000000 (lj.map JV.d):=hm.j;have hm_jl:lj.length<=1000000:=hm_j.len;refine sr 2 (Mn f 54 1 V O ?_);clear V O J; intro J w1 b1 V O;let g:=[(1,pt b1),c,(68,I true)];refine Ka 1 [c] V ?_;clear V J; intro J V;refine Ab (Aa (wp_seq (wp_seq ?_)));have hS:=O
 refine rP [(0,true),(1,true),(2,true),(3,true),(4,true),(5,true),(6,true),(7,true),(8,true),(9,true),(10,true),(11,true),(12,true),(13,true),(14,true),(15,true),(16,true),(17,false),(18,true),(19,true),(20,true),(21,true),(22,true),(23,false),(24,true),(25,true),(26,true),(27,true),(28,true),(29,false),(30,true),(31,true),(32,true),(33,true),(34,true),(35,false),(36,true),(37,true),(38,true),(39,true),(40,true),(41,true),(42,true),(43,true),(44,true),(45,true),(46,true),(47,true),(48,true),(49,true),(50,true),(51,true),(52,true),(53,true),(54,true),(55,true),(56,true),(57,true),(58,true),(59,false),(60,true),(61,true)] hS ?_;intro w2 ho; replace O:=O.st ho; clear ho;refine ckF 4 (e':=[(1,pt b1),c,(9,I (decide (mo < 0))),(10,I (decide (mo < 0)))]) V [Z mo] (cc (hS.s1 0 0 3 (Z mo)) c0) (O) ?_;clear V J; intro J V;rcases dC (mo < 0) with ⟨h1,h1p⟩|⟨h1,h1p⟩
 · rw [h1] at V;refine ckF 58 (e':=g) V [] c0 (O) ?_;clear V J; intro J V;refine Ar (Aa (cT V (Sa [] V ?_)));clear V J; intro J V;exact wp_ret (Ac (cv [I false] V (⟨rB (Bj fun q _ _=>by omega),O.only⟩)))
 rw [h1] at V;refine ckF 5 (e':=[(1,pt b1),c,(13,I (decide (mo > 7))),(14,I (decide (mo > 7))),(15,I (decide (mo > 7)))]) V [Z mo] (cc (hS.s1 0 0 3 (Z mo)) c0) (O) ?_;clear V J; intro J V;rcases dC (mo > 7) with ⟨h2,h2p⟩|⟨h2,h2p⟩
 · rw [h2] at V;refine ckF 53 (e':=g) V [] c0 (O) ?_;clear V J; intro J V;refine Ar (Aa (cT V (Sa [] V ?_)));clear V J; intro J V;exact wp_ret (Ac (cv [I false] V (⟨rB (Bj fun q _ _=>by omega),O.only⟩)))
 rw [h2] at V;refine ckF 6 (e':=[(1,pt b1),c,(19,I (decide (((inp.size:Nat):Int) > 300))),(20,I (decide (((inp.size:Nat):Int) > 300))),(21,I (decide (((inp.size:Nat):Int) > 300)))]) V [Y inp] (cc (hS.s1 0 2 9 (Y inp)) c0) (O) ?_;clear V J; intro J V;rcases dC (((inp.size:Nat):Int) > 300) with ⟨h3,h3p⟩|⟨h3,h3p⟩
 · rw [h3] at V;refine ckF 47 (e':=g) V [] c0 (O) ?_;clear V J; intro J V;refine Ar (Aa (cT V (Sa [] V ?_)));clear V J; intro J V;exact wp_ret (Ac (cv [I false] V (⟨rB (Bj fun q _ _=>by omega),O.only⟩)))
 rw [h3] at V;refine ckF 2 (e':=[(1,pt b1),c,(21,I false),(23,o)]) V [o] (cc (hS.s1 0 3 22 (o)) c0) (O) ?_;clear V J; intro J V;refine Am (mK (d:=(D 24)) V O Tryz.func26 (Tz pj kj lj _ (hv_j.keep O.only) hm_j) ?_);clear V O J; intro J w3 V O;refine ⟨O.tt,?_⟩;refine ckF 3 (e':=[(1,pt b1),c,(25,I (!(As (lj.map JV.d)))),(26,I (!(As (lj.map JV.d)))),(27,I (!(As (lj.map JV.d))))]) V [] c0 (O) ?_;clear V J; intro J V;rcases jK (As (lj.map JV.d)) with h4 | h4
 · rw [h4] at V;refine ckF 2 (e':=[(1,pt b1),c,(27,I false),(29,Z rd)]) V [Z rd] (cc (hS.s1 0 4 3 (Z rd)) c0) (O) ?_;clear V J; intro J V;refine Am (mK (d:=(D 30)) V O Tryz.func68 (K1 rd _) ?_);clear V O J; intro J w4 V O;refine ⟨O.tt,?_⟩;refine ckF 3 (e':=[(1,pt b1),c,(31,I (!(decide (-1<=rd/\rd < 8)))),(32,I (!(decide (-1<=rd/\rd < 8)))),(33,I (!(decide (-1<=rd/\rd < 8))))]) V [] c0 (O) ?_;clear V J; intro J V;rcases dC (-1<=rd/\rd < 8) with ⟨h5,h5p⟩|⟨h5,h5p⟩
   · rw [h5] at V;refine ckF 2 (e':=[(1,pt b1),c,(33,I false),(35,Z wr)]) V [Z wr] (cc (hS.s1 0 5 3 (Z wr)) c0) (O) ?_;clear V J; intro J V;refine Am (mK (d:=(D 36)) V O Tryz.func68 (K1 wr _) ?_);clear V O J; intro J w5 V O;refine ⟨O.tt,?_⟩;refine ckF 3 (e':=[(1,pt b1),c,(37,I (!(decide (-1<=wr/\wr < 8)))),(38,I (!(decide (-1<=wr/\wr < 8)))),(39,I (!(decide (-1<=wr/\wr < 8))))]) V [] c0 (O) ?_;clear V J; intro J V;rcases dC (-1<=wr/\wr < 8) with ⟨h6,h6p⟩|⟨h6,h6p⟩
     · rw [h6] at V;refine ckF 2 (e':=[(1,pt b1),c,(39,I false),(41,Z pv)]) V [Z pv] (cc (hS.s1 0 6 3 (Z pv)) c0) (O) ?_;clear V J; intro J V;refine Am (mK (d:=(D 42)) V O Tryz.func68 (K1 pv _) ?_);clear V O J; intro J w6 V O;refine ⟨O.tt,?_⟩;refine ckF 3 (e':=[(1,pt b1),c,(43,I (!(decide (-1<=pv/\pv < 8)))),(44,I (!(decide (-1<=pv/\pv < 8)))),(45,I (!(decide (-1<=pv/\pv < 8))))]) V [] c0 (O) ?_;clear V J; intro J V;rcases dC (-1<=pv/\pv < 8) with ⟨h7,h7p⟩|⟨h7,h7p⟩
       · rw [h7] at V;refine ckF 6 (e':=[(1,pt b1),c,(49,I (decide (((ln.length:Nat):Int) > 16))),(50,I (decide (((ln.length:Nat):Int) > 16))),(51,I (decide (((ln.length:Nat):Int) > 16)))]) V [s] (cc (hS.s1 0 7 33 (s)) c0) (O) ?_;clear V J; intro J V;rcases dC (((ln.length:Nat):Int) > 16) with ⟨h8,h8p⟩|⟨h8,h8p⟩
         · rw [h8] at V;refine ckF 17 (e':=g) V [] c0 (O) ?_;clear V J; intro J V;refine Ar (Aa (cT V (Sa [] V ?_)));clear V J; intro J V;exact wp_ret (Ac (cv [I false] V (⟨rB (Bj fun q _ _=>by omega),O.only⟩)))
         rw [h8] at V;refine ckF 6 (e':=[(1,pt b1),c,(55,I (decide (((lp.length:Nat):Int) > 12))),(56,I (decide (((lp.length:Nat):Int) > 12))),(57,I (decide (((lp.length:Nat):Int) > 12)))]) V [l] (cc (hS.s1 0 8 52 (l)) c0) (O) ?_;clear V J; intro J V;rcases dC (((lp.length:Nat):Int) > 12) with ⟨h9,h9p⟩|⟨h9,h9p⟩
         · rw [h9] at V;refine ckF 11 (e':=g) V [] c0 (O) ?_;clear V J; intro J V;refine Ar (Aa (cT V (Sa [] V ?_)));clear V J; intro J V;exact wp_ret (Ac (cv [I false] V (⟨rB (Bj fun q _ _=>oo),O.only⟩)))
         rw [h9] at V;refine ckF 5 (e':=[(1,pt b1),c,(60,I (decide (po < 0))),(61,I (decide (po < 0))),(62,I (decide (po < 0)))]) V [Z po] (cc (hS.s1 0 1 3 (Z po)) c0) (O) ?_;clear V J; intro J V;rcases dC (po < 0) with ⟨h10,h10p⟩|⟨h10,h10p⟩
         · rw [h10] at V;refine ckF 6 (e':=g) V [] c0 (O) ?_;clear V J; intro J V;refine Ar (Aa (cT V (Sa [] V ?_)));clear V J; intro J V;exact wp_ret (Ac (cv [I false] V (⟨rB (Bj fun q _ _=>oo),O.only⟩)))
         rw [h10] at V;refine ckF 3 (e':=[(1,pt b1),c,(62,I false),(64,Z po),(65,a)]) V [Z po,a] (cc (hS.s1 0 1 3 (Z po)) (cc (hS.sn 0 0 54 f) c0)) (O) ?_;clear V J; intro J V;refine Am (mK (d:=(D 66)) V O Tryz.func69 (Em mo po inp pj kj lj rd wr pv pn kn ln pp kp lp _ (hs.keep O.only)) ?_);clear V O J; intro J w7 V O;refine ⟨O.tt,?_⟩;refine ckF 2 (e':=[(1,pt b1),c,(68,I (decide (po > ((Bh (lj.map JV.d):Nat):Int))))]) V [] c0 (O) ?_;clear V J; intro J V;refine Ar (Aa ?_);rcases dC (po > ((Bh (lj.map JV.d):Nat):Int)) with ⟨h11,h11p⟩|⟨h11,h11p⟩
         · rw [h11] at V;refine cT V (Sa [] V ?_);clear V J; intro J V;exact wp_ret (Ac (cv [I false] V (⟨rB (Bj fun q _ _=>oo),O.only⟩)))
         rw [h11] at V;refine cF V (wp_skip (Aa (wp_seq (Sa [(3,Z 0)] V ?_))));clear V J; intro J V;refine wp_block (Ay (fun mm J W=>∃ (i:Nat),mm=ln.length - i/\Holds 166 [] J [(1,pt b1),c,(3,Z ((i:Nat):Int))]/\Ow jP Ag w W [(b1,54,f)]/\i<=ln.length/\C2 ln i=true/\True) ?_ ?_)
         · exact ⟨_,0,rfl,V.ss,O.to,(Nat.zero_le _),rfl,trivial⟩
         rintro _ J w8 ⟨i,rfl,V,O,hi_i,ho,-⟩;let r:=(3,Z ((i:Nat):Int));refine wp_seq (Sb [(73,I (decide (((i:Nat):Int) < ((ln.length:Nat):Int))))] V [s] (cc (O.l1 0 7 33 (s)) c0) ?_);clear V J; intro J V;rcases dC (((i:Nat):Int) < ((ln.length:Nat):Int)) with ⟨h12,h12p⟩|⟨h12,h12p⟩
         · rw [h12] at V;obtain ⟨ad1,rfl⟩:=((hv_k.keep O.only)).pos oo;let k:=(C (D ad1) ln.length kn:Value);obtain ⟨v1,hx1⟩ : ∃ x,(ln)[i]? = D x:=⟨_,Av _ 0 oo⟩;refine cT V (wp_skip (Aa (wp_seq (wp_block (wp_seq ?_)))));have hS:=O;refine rP [(0,true),(1,true),(2,true),(3,true),(4,true),(5,false),(6,true),(7,true),(8,true),(9,true),(10,true),(11,true),(12,true),(13,true),(14,true),(15,true),(16,true),(17,false),(18,true)] hS ?_;intro w9 ho; replace O:=O.st ho; clear ho;refine ckF 5 (e':=[(1,pt b1),c,r,(80,Z v1)]) V [k,Z v1] (cc (hS.s1 0 7 33 (k)) (cc (oo:(0:Int)<=((i:Nat):Int)/\((i:Nat):Int) < ((ln.length:Nat):Int)) (cc (hS.sx (ad1.add i) 3 (Z v1) fun _ O=>(ldN ((hv_k.keep O.only)) hx1)) c0))) (O) ?_;clear V J; intro J V;refine Am (mK (d:=(D 81)) V O Tryz.func70 (Oa v1 _) ?_);clear V O J; intro J w10 V O;refine ⟨O.tt,?_⟩;refine ckF 2 (e':=[(1,pt b1),c,r,(82,I (!(B4 v1))),(83,I (!(B4 v1)))]) V [] c0 (O) ?_;clear V J; intro J V;rcases jK (B4 v1) with h13 | h13
           · rw [h13] at V;refine ckF 9 (e':=[(1,pt b1),c,r,(83,I false),(87,C (D ad1) i kn),(92,Z v1)]) V [k,I false,k,Z v1] (cc (hS.s1 0 7 33 (k)) (cc (oo:(0:Int)<=0/\(0:Int)<=((i:Nat):Int)/\(((i:Nat):Int):Int)<=((kn:Nat):Int)/\(((kn:Nat):Int):Int)<=((kn:Nat):Int)/\(0=((kn:Nat):Int)\/0=(0:Int))) (cc (hS.s1 0 7 33 (k)) (cc (oo:(0:Int)<=((i:Nat):Int)/\((i:Nat):Int) < ((ln.length:Nat):Int)) (cc (hS.sx (ad1.add i) 3 (Z v1) fun _ O=>(ldN ((hv_k.keep O.only)) hx1)) c0))))) (O) ?_;clear V J; intro J V;refine Am (mK (d:=(D 93)) V O Tryz.func71 (Ve (D ad1) i kn (ln.take i) v1 _ ((hv_k.keep O.only).take rfl oo (hv_k.keep O.only).nilcap) (by rw [List.length_take]; omega)) ?_);clear V O J; intro J w11 V O;refine ⟨O,?_⟩;refine ckF 1 (e':=[(1,pt b1),c,r,(94,I ((ln.take i).contains v1))]) V [] c0 (O) ?_;clear V J; intro J V;refine Ar (Aa ?_);rcases jK ((ln.take i).contains v1) with h14 | h14
             · rw [h14] at V;refine cT V (Sa [] V ?_);clear V J; intro J V;exact wp_ret (Ad (Ac (Ac (Ad (Ac (cv [I false] V (⟨rB (Bj fun _ q_ _=>absurd ((L8 hx1 (by exact .inr aM)).symm.trans q_) dD),O.only⟩)))))))
             rw [h14] at V;refine cF V (wp_skip (Af (Aa (Rc [(3,Z (((i:Nat):Int)+1))] V [I true] (cc ((An oo oo):inK .i64 (((i:Nat):Int)+1)) c0) ?_))));clear V J; intro J V;exact Aa (⟨_,oo,i+1,rfl,V.ss,O.to,oo,(Ot ho hx1 aM aM),trivial⟩)
           rw [h13] at V;refine ckF 11 (e':=[(1,pt b1),c,r,(94,I true)]) V [] c0 (O) ?_;clear V J; intro J V;refine Ar (Aa (cT V (Sa [] V ?_)));clear V J; intro J V;exact wp_ret (Ad (Ac (Ac (Ad (Ac (cv [I false] V (⟨rB (Bj fun _ q_ _=>absurd ((L8 hx1 (by exact .inl aM)).symm.trans q_) dD),O.only⟩)))))))
         rw [h12] at V;refine cF V (wp_exit (Ai (Ai (Aj (Aa (wp_seq (Sa [(4,Z 0)] V ?_)))))));clear V J; intro J V;refine wp_block (Ay (fun mm J W=>∃ (j:Nat),mm=lp.length - j/\Holds 166 [] J [(1,pt b1),c,(4,Z ((j:Nat):Int))]/\Ow jP Ag w W [(b1,54,f)]/\j<=lp.length/\(lp.take j).all (fun x=>okC x.d)=true/\True) ?_ ?_)
         · exact ⟨_,0,rfl,V.ss,O.to,(Nat.zero_le _),rfl,trivial⟩
         rintro _ J w12 ⟨j,rfl,V,O,hi_j,hp,-⟩;let t:=(4,Z ((j:Nat):Int));refine wp_seq (Sb [(99,I (decide (((j:Nat):Int) < ((lp.length:Nat):Int))))] V [l] (cc (O.l1 0 8 52 (l)) c0) ?_);clear V J; intro J V;rcases dC (((j:Nat):Int) < ((lp.length:Nat):Int)) with ⟨h15,h15p⟩|⟨h15,h15p⟩
         · rw [h15] at V;obtain ⟨ad2,rfl⟩:=((hv_p.keep O.only).1).pos oo;obtain ⟨⟨qp1,qc1,qd1⟩,hx2⟩ : ∃ x,(lp)[j]? = D x:=⟨_,Av _ PV0 oo⟩;let h:=(.agg #[Z qd1.call,Z qd1.a0,Z qd1.a1,Z qd1.a2,C qp1 qd1.data.length qc1]:Value);let y:=(C qp1 qd1.data.length qc1:Value);refine cT V (wp_skip (Aa (wp_seq (wp_block (sr 7 (Kb 5 [(106,h)] V [C (D ad2) lp.length kp,h] (cc (O.l1 0 8 52 (C (D ad2) lp.length kp)) (cc (oo:(0:Int)<=((j:Nat):Int)/\((j:Nat):Int) < ((lp.length:Nat):Int)) (cc ((((hv_p.keep O.only).1).ldn A7 hx2):Ld jP w12 (ad2.add (j*5)) 59 (h)) c0))) ?_))))));clear V J; intro J V;refine Mn [Z 0,Z 0,Z 0,Z 0,C E 0 0] 59 5 V O ?_;clear V O J; intro J w13 b2 V O;let b:=([(b2,59,[Z qd1.call,Z qd1.a0,Z qd1.a1,Z qd1.a2,C qp1 qd1.data.length qc1]),(b1,54,(cS mo po inp pj lj.length kj rd wr pv pn ln.length kn (D ad2) lp.length kp))]:OwL);refine Ms 0 [Z qd1.call,Z qd1.a0,Z qd1.a1,Z qd1.a2,y] 0 V O ?_;clear O; intro w14 O;refine Ab (Aa (wp_seq (sr 14 (Kb 4 [(109,I (decide (qd1.call < 0))),(110,I (decide (qd1.call < 0)))] V [Z qd1.call] (cc (O.l1 0 0 3 (Z qd1.call)) c0) ?_))));clear V J; intro J V;rcases dC (qd1.call < 0) with ⟨h16,h16p⟩|⟨h16,h16p⟩
           · rw [h16] at V;refine Ka 10 [(120,I true)] V ?_;clear V J; intro J V;refine Ab (Aa (cT V (Sa [] V ?_)));clear V J; intro J V;exact wp_ret (Ac (Ad (Ac (Ac (Ad (Ac (cv [I false] V (⟨rB (Bj fun _ _ q_=>absurd ((C7 (p:=fun x=>okC x.d) hx2 (show okC qd1=false from Gm oo)).symm.trans q_) dD),O.only⟩))))))))
           rw [h16] at V;refine Kb 5 [(113,I (decide (qd1.call ≥ 20))),(114,I (decide (qd1.call ≥ 20))),(115,I (decide (qd1.call ≥ 20)))] V [Z qd1.call] (cc (O.l1 0 0 3 (Z qd1.call)) c0) ?_;clear V J; intro J V;rcases dC (qd1.call ≥ 20) with ⟨h17,h17p⟩|⟨h17,h17p⟩
           · rw [h17] at V;refine Ka 5 [(120,I true)] V ?_;clear V J; intro J V;refine Ab (Aa (cT V (Sa [] V ?_)));clear V J; intro J V;exact wp_ret (Ac (Ad (Ac (Ac (Ad (Ac (cv [I false] V (⟨rB (Bj fun _ _ q_=>absurd ((C7 (p:=fun x=>okC x.d) hx2 (show okC qd1=false from Gm oo)).symm.trans q_) dD),O.only⟩))))))))
           rw [h17] at V;refine Kb 5 [(120,I (decide (((qd1.data.length:Nat):Int) > 128)))] V [y] (cc (O.l1 0 4 41 (y)) c0) ?_;clear V J; intro J V;refine Ab (Aa ?_);rcases dC (((qd1.data.length:Nat):Int) > 128) with ⟨h18,h18p⟩|⟨h18,h18p⟩
           · rw [h18] at V;refine cT V (Sa [] V ?_);clear V J; intro J V;exact wp_ret (Ac (Ad (Ac (Ac (Ad (Ac (cv [I false] V (⟨rB (Bj fun _ _ q_=>absurd ((C7 (p:=fun x=>okC x.d) hx2 (show okC qd1=false from Gm oo)).symm.trans q_) dD),O.only⟩))))))))
           rw [h18] at V;refine cF V (wp_skip (Aa (Sa [(6,Z 0)] V ?_)));clear V J; intro J V;refine wp_block (Ay (fun mm J W=>(mm=3/\Holds 166 [] J [(1,pt b1),c,t,(5,pt b2),(6,Z 0)]/\Ow jP Ag w W b)\/(mm=2/\Holds 166 [] J [(1,pt b1),c,t,(5,pt b2),(6,Z 1)]/\Ow jP Ag w W b/\(-1<=qd1.a0/\qd1.a0<=1000))\/(mm=1/\Holds 166 [] J [(1,pt b1),c,t,(5,pt b2),(6,Z 2)]/\Ow jP Ag w W b/\(-1<=qd1.a0/\qd1.a0<=1000)/\(-1<=qd1.a1/\qd1.a1<=1000))\/(mm=0/\Holds 166 [] J [(1,pt b1),c,t,(5,pt b2),(6,Z 3)]/\Ow jP Ag w W b/\(-1<=qd1.a0/\qd1.a0<=1000)/\(-1<=qd1.a1/\qd1.a1<=1000)/\(-1<=qd1.a2/\qd1.a2<=1000))) ?_ ?_)
           · exact ⟨_,(.inl ⟨rfl,V.sb,O.to⟩)⟩
           rintro _ J w15 (⟨rfl,V,O⟩ | ⟨rfl,V,O,hu⟩ | ⟨rfl,V,O,hu⟩ | ⟨rfl,V,O,hu⟩)
           · refine wp_seq (Sa [(122,I true)] V ?_);clear V J; intro J V;refine cT V (wp_skip (Aa (wp_seq (wp_block (sr 12 (Kb 6 [(129,I (decide (qd1.a0 < (-1)))),(130,I (decide (qd1.a0 < (-1))))] V [Z qd1.a0] (cc (oo:(0:Int)<=0/\0 < ((3:Nat):Int)) (cc (O.l1 0 1 3 (Z qd1.a0)) c0)) ?_))))));clear V J; intro J V;rcases dC (qd1.a0 < (-1)) with ⟨h19,h19p⟩|⟨h19,h19p⟩
             · rw [h19] at V;refine Ka 6 z V ?_;clear V J; intro J V;refine Ab (Aa (cT V (Sa [] V ?_)));clear V J; intro J V;exact wp_ret (Ad (Ac (Ac (Ad (Ad (Ac (Ac (Ad (Ac (cv [I false] V (⟨rB (Bj fun _ _ q_=>absurd ((C7 (p:=fun x=>okC x.d) hx2 (show okC qd1=false from Gm oo)).symm.trans q_) dD),O.only⟩)))))))))))
             rw [h19] at V;refine Kb 6 [(136,I (decide (qd1.a0 > 1000)))] V [Z qd1.a0] (cc (oo:(0:Int)<=0/\0 < ((3:Nat):Int)) (cc (O.l1 0 1 3 (Z qd1.a0)) c0)) ?_;clear V J; intro J V;refine Ab (Aa ?_);rcases dC (qd1.a0 > 1000) with ⟨h20,h20p⟩|⟨h20,h20p⟩
             · rw [h20] at V;refine cT V (Sa [] V ?_);clear V J; intro J V;exact wp_ret (Ad (Ac (Ac (Ad (Ad (Ac (Ac (Ad (Ac (cv [I false] V (⟨rB (Bj fun _ _ q_=>absurd ((C7 (p:=fun x=>okC x.d) hx2 (show okC qd1=false from Gm oo)).symm.trans q_) dD),O.only⟩)))))))))))
             rw [h20] at V;refine cF V (wp_skip (Af (Aa (Rc [(6,Z 1)] V [I false] c0 ?_))));clear V J; intro J V;exact Aa (⟨2,dD,(.inr (.inl ⟨rfl,V.sb,O.to,oo⟩))⟩)
           · refine wp_seq (Sa [(6,Z 1),(122,I true)] V ?_);clear V J; intro J V;refine cT V (wp_skip (Aa (wp_seq (wp_block (sr 12 (Kb 6 [(129,I (decide (qd1.a1 < (-1)))),(130,I (decide (qd1.a1 < (-1))))] V [Z qd1.a1] (cc (oo:(0:Int)<=1/\1 < ((3:Nat):Int)) (cc (O.l1 0 2 3 (Z qd1.a1)) c0)) ?_))))));clear V J; intro J V;rcases dC (qd1.a1 < (-1)) with ⟨h21,h21p⟩|⟨h21,h21p⟩
             · rw [h21] at V;refine Ka 6 z V ?_;clear V J; intro J V;refine Ab (Aa (cT V (Sa [] V ?_)));clear V J; intro J V;exact wp_ret (Ad (Ac (Ac (Ad (Ad (Ac (Ac (Ad (Ac (cv [I false] V (⟨rB (Bj fun _ _ q_=>absurd ((C7 (p:=fun x=>okC x.d) hx2 (show okC qd1=false from Gm oo)).symm.trans q_) dD),O.only⟩)))))))))))
             rw [h21] at V;refine Kb 6 [(136,I (decide (qd1.a1 > 1000)))] V [Z qd1.a1] (cc (oo:(0:Int)<=1/\1 < ((3:Nat):Int)) (cc (O.l1 0 2 3 (Z qd1.a1)) c0)) ?_;clear V J; intro J V;refine Ab (Aa ?_);rcases dC (qd1.a1 > 1000) with ⟨h22,h22p⟩|⟨h22,h22p⟩
             · rw [h22] at V;refine cT V (Sa [] V ?_);clear V J; intro J V;exact wp_ret (Ad (Ac (Ac (Ad (Ad (Ac (Ac (Ad (Ac (cv [I false] V (⟨rB (Bj fun _ _ q_=>absurd ((C7 (p:=fun x=>okC x.d) hx2 (show okC qd1=false from Gm oo)).symm.trans q_) dD),O.only⟩)))))))))))
             rw [h22] at V;refine cF V (wp_skip (Af (Aa (Rc [(6,Z 2)] V [I false] c0 ?_))));clear V J; intro J V;exact Aa (⟨1,dD,(.inr (.inr (.inl ⟨rfl,V.sb,O.to,oo⟩)))⟩)
           · refine wp_seq (Sa [(6,Z 2),(122,I true)] V ?_);clear V J; intro J V;refine cT V (wp_skip (Aa (wp_seq (wp_block (sr 12 (Kb 6 [(129,I (decide (qd1.a2 < (-1)))),(130,I (decide (qd1.a2 < (-1))))] V [Z qd1.a2] (cc (oo:(0:Int)<=2/\2 < ((3:Nat):Int)) (cc (O.l1 0 3 3 (Z qd1.a2)) c0)) ?_))))));clear V J; intro J V;rcases dC (qd1.a2 < (-1)) with ⟨h23,h23p⟩|⟨h23,h23p⟩
             · rw [h23] at V;refine Ka 6 z V ?_;clear V J; intro J V;refine Ab (Aa (cT V (Sa [] V ?_)));clear V J; intro J V;exact wp_ret (Ad (Ac (Ac (Ad (Ad (Ac (Ac (Ad (Ac (cv [I false] V (⟨rB (Bj fun _ _ q_=>absurd ((C7 (p:=fun x=>okC x.d) hx2 (show okC qd1=false from Gm oo)).symm.trans q_) dD),O.only⟩)))))))))))
             rw [h23] at V;refine Kb 6 [(136,I (decide (qd1.a2 > 1000)))] V [Z qd1.a2] (cc (oo:(0:Int)<=2/\2 < ((3:Nat):Int)) (cc (O.l1 0 3 3 (Z qd1.a2)) c0)) ?_;clear V J; intro J V;refine Ab (Aa ?_);rcases dC (qd1.a2 > 1000) with ⟨h24,h24p⟩|⟨h24,h24p⟩
             · rw [h24] at V;refine cT V (Sa [] V ?_);clear V J; intro J V;exact wp_ret (Ad (Ac (Ac (Ad (Ad (Ac (Ac (Ad (Ac (cv [I false] V (⟨rB (Bj fun _ _ q_=>absurd ((C7 (p:=fun x=>okC x.d) hx2 (show okC qd1=false from Gm oo)).symm.trans q_) dD),O.only⟩)))))))))))
             rw [h24] at V;refine cF V (wp_skip (Af (Aa (Rc [(6,Z 3)] V [I false] c0 ?_))));clear V J; intro J V;exact Aa (⟨0,dD,(.inr (.inr (.inr ⟨rfl,V.sb,O.to,oo⟩)))⟩)
           refine wp_seq (Sa [(6,Z 3),(122,I false)] V ?_);clear V J; intro J V;refine cF V (wp_exit (Ai (Ai (Aj (Af (Aa (Rc [(4,Z (((j:Nat):Int)+1))] V [I true] (cc ((An oo oo):inK .i64 (((j:Nat):Int)+1)) c0) ?_)))))));clear V J; intro J V;exact Aa (⟨_,oo,j+1,rfl,V.ss,(O.sub [1]),oo,(Ck hp hx2 (show okC qd1=true from iJ oo oo oo)),trivial⟩)
         rw [h15] at V;refine cF V (wp_exit (Ai (Ai (Aj (Aa (wp_seq (sJ (fun J W=>Holds 166 [] J [(1,pt b1),c,(149,I (!((decide (((lp.length:Nat):Int) > 0)) == ((mo == 2) || (mo == 6)))))]/\Ow jP Ag w W [(b1,54,f)]/\True) ?_ ?_)))))))
         · rintro J w16 ⟨V,O,-⟩;rcases bC (decide (((lp.length:Nat):Int) > 0)) ((mo == 2) || (mo == 6)) with ⟨h25,h25p⟩|⟨h25,h25p⟩
           · rw [h25] at V;have hbp:=jH h25;refine cF V (wp_skip (Aa (wp_seq (Sb [(151,Z mo)] V [Z mo] (cc (O.l1 0 0 3 (Z mo)) c0) ?_))));clear V J; intro J V;refine wp_block (wp_seq (Sa [(152,I (mo == 3))] V ?_));clear V J; intro J V;rcases bC mo 3 with ⟨h26,h26p⟩|⟨h26,h26p⟩
             · rw [h26] at V;refine cT V (wp_skip (Aa (cT V (wp_seq ?_))));have hS:=O;refine rP [(0,true),(1,true),(2,true),(3,false),(4,true),(5,true)] hS ?_;intro w17 ho; replace O:=O.st ho; clear ho;refine ckF 3 (e':=[c,(156,Z po),(157,a)]) V [Z po,a] (cc (hS.s1 0 1 3 (Z po)) (cc (hS.sn 0 0 54 f) c0)) (O) ?_;clear V J; intro J V;refine Am (mK (d:=(D 158)) V O Tryz.func69 (Em mo po inp pj kj lj rd wr pv pn kn ln pp kp lp _ (hs.keep O.only)) ?_);clear V O J; intro J w18 V O;refine ⟨O,?_⟩;refine ckF 2 (e':=u) V [] c0 (O) ?_;clear V J; intro J V;exact Ar (Aa (wp_ret (Ad (Ac (cv v V (⟨rB (Bool.eq_iff_iff.2 ⟨fun q_=>(have q_:=jL q_; Fj.2 ⟨oo,⟨oo,oo,aM,⟨Kr ho oo oo,Bc hp oo,oo⟩,oo⟩,oo,oo,oo⟩),fun q_=>jN (have q_:=Fj.1 q_; oo)⟩),O.only⟩))))))
             rw [h26] at V;refine cF V (Rc [(152,I (mo == 4))] V [] c0 ?_);clear V J; intro J V;refine Aa ?_;rcases bC mo 4 with ⟨h27,h27p⟩|⟨h27,h27p⟩
             · rw [h27] at V;refine cT V (wp_seq ?_);have hS:=O;refine rP [(0,true),(1,true),(2,true),(3,false),(4,true),(5,true)] hS ?_;intro w19 ho; replace O:=O.st ho; clear ho;refine ckF 3 (e':=[c,(156,Z po),(157,a)]) V [Z po,a] (cc (hS.s1 0 1 3 (Z po)) (cc (hS.sn 0 0 54 f) c0)) (O) ?_;clear V J; intro J V;refine Am (mK (d:=(D 158)) V O Tryz.func69 (Em mo po inp pj kj lj rd wr pv pn kn ln pp kp lp _ (hs.keep O.only)) ?_);clear V O J; intro J w20 V O;refine ⟨O,?_⟩;refine ckF 2 (e':=u) V [] c0 (O) ?_;clear V J; intro J V;exact Ar (Aa (wp_ret (Ad (Ac (cv v V (⟨rB (Bool.eq_iff_iff.2 ⟨fun q_=>(have q_:=jL q_; Fj.2 ⟨oo,⟨oo,oo,aM,⟨Kr ho oo oo,Bc hp oo,oo⟩,oo⟩,oo,oo,oo⟩),fun q_=>jN (have q_:=Fj.1 q_; oo)⟩),O.only⟩))))))
             rw [h27] at V;refine cF V (Sa [(160,I (mo == 5))] V ?_);clear V J; intro J V;rcases bC mo 5 with ⟨h28,h28p⟩|⟨h28,h28p⟩
             · rw [h28] at V;refine cT V (Sb [(2,I (decide (((lj.length:Nat):Int) > 0)))] V [o] (cc (O.l1 0 3 22 (o)) c0) ?_);clear V J; intro J V;exact wp_ret (Ad (Ac (cv [I (decide (((lj.length:Nat):Int) > 0))] V (⟨rB (Bool.eq_iff_iff.2 ⟨fun q_=>(have q_:=jL q_; Fj.2 ⟨oo,⟨oo,oo,aM,⟨Kr ho oo oo,Bc hp oo,oo⟩,oo⟩,oo,oo,oo⟩),fun q_=>jN (have q_:=Fj.1 q_; oo)⟩),O.only⟩))))
             rw [h28] at V;refine cF V (wp_skip (Af (Aa (Sa [(2,I true)] V ?_))));clear V J; intro J V;exact wp_ret (cv [I true] V (⟨rB ((Fj.2 ⟨oo,⟨oo,oo,aM,⟨Kr ho oo oo,Bc hp oo,oo⟩,oo⟩,oo,oo,oo⟩).symm),O.only⟩))
           rw [h25] at V;have hbp:=bm_no h25;refine cT V (Sa [] V ?_);clear V J; intro J V;exact wp_ret (Ac (cv [I false] V (⟨rB (Bj fun q _ _=>oo),O.only⟩)))
         refine rr 13 (Kb 8 [(140,I (decide (((lp.length:Nat):Int) > 0))),(143,I (mo == 2)),(144,I (mo == 2))] V [l,Z mo] (cc (O.l1 0 8 52 (l)) (cc (O.l1 0 0 3 (Z mo)) c0)) ?_);clear V J; intro J V;rcases bC mo 2 with ⟨h29,h29p⟩|⟨h29,h29p⟩
         · rw [h29] at V;refine Ka 5 [(149,I (!((decide (((lp.length:Nat):Int) > 0)) == true)))] V ?_;clear V J; intro J V;exact Ab (Aa (⟨(V.sub (e':=[(1,pt b1),(2,I false),(149,I (!((decide (((lp.length:Nat):Int) > 0)) == true)))]) [1,2,149] (by kernel_rfl)).cast (by (rw [show (!((decide (((lp.length:Nat):Int) > 0)) == ((mo == 2) || (mo == 6))))=(!((decide (((lp.length:Nat):Int) > 0)) == true)) from by (simp only [show (mo == 2)=true by assumption,Bool.true_or]; done)]) <;> kernel_rfl),O.to,trivial⟩))
         rw [h29] at V;refine Kb 5 [(149,I (!((decide (((lp.length:Nat):Int) > 0)) == (mo == 6))))] V [Z mo] (cc (O.l1 0 0 3 (Z mo)) c0) ?_;clear V J; intro J V;exact Ab (Aa (⟨(V.sub (e':=[(1,pt b1),(2,I false),(149,I (!((decide (((lp.length:Nat):Int) > 0)) == (mo == 6))))]) [1,2,149] (by kernel_rfl)).cast (by (rw [show (!((decide (((lp.length:Nat):Int) > 0)) == ((mo == 2) || (mo == 6))))=(!((decide (((lp.length:Nat):Int) > 0)) == (mo == 6))) from by (simp only [show (mo == 2)=false by assumption,Bool.false_or]; done)]) <;> kernel_rfl),O.to,trivial⟩))
       rw [h7] at V;refine ckF 23 (e':=g) V [] c0 (O) ?_;clear V J; intro J V;refine Ar (Aa (cT V (Sa [] V ?_)));clear V J; intro J V;exact wp_ret (Ac (cv [I false] V (⟨rB (Bj fun q _ _=>oo),O.only⟩)))
     rw [h6] at V;refine ckF 29 (e':=g) V [] c0 (O) ?_;clear V J; intro J V;refine Ar (Aa (cT V (Sa [] V ?_)));clear V J; intro J V;exact wp_ret (Ac (cv [I false] V (⟨rB (Bj fun q _ _=>oo),O.only⟩)))
   rw [h5] at V;refine ckF 35 (e':=g) V [] c0 (O) ?_;clear V J; intro J V;refine Ar (Aa (cT V (Sa [] V ?_)));clear V J; intro J V;exact wp_ret (Ac (cv [I false] V (⟨rB (Bj fun q _ _=>oo),O.only⟩)))
 rw [h4] at V;refine ckF 41 (e':=g) V [] c0 (O) ?_;clear V J; intro J V;refine Ar (Aa (cT V (Sa [] V ?_)));clear V J; intro J V;exact wp_ret (Ac (cv [I false] V (⟨rB (Bj fun q _ _=>by simp_all),O.only⟩)))
theorem Hh (p:Option Addr) (c:Nat) (ls:List Int) (w:World) (hv:Vw fN w (C p ls.length c) ls) (hl:ls.length<=1000) (hg : ∀ v∈ls,-1<=v) :
 Calls jP 72 #[C p ls.length c] w fun e w'=>∃ p k l T,e = .returned (C p l.length k)/\l.map PV.d=Br ls/\R8 l/\l.length<=ls.length/\One fP 59 5 p k l T/\Ow jP Ag w w' T:=by
 let b:=(C E 0 0:Value);refine Ak (args:=[C p ls.length c]) (m:=24) (n:=25) Tryz.func72 rfl kR kR fun J V=>?_;have O:=Ow.nil jP Ag w;refine Sa [(2,b)] V ?_;clear V J; intro J V;refine Sa [(3,b)] V ?_;clear V J; intro J V;refine wp_seq (Sa [(4,Z 0)] V ?_);clear V J; intro J V;refine wp_block ?_;have hT1:=One.nil fP 59 5;refine Ay (fun mm J W=>∃ (i:Nat) (l8:List PV) (pL1:Option Addr) (cL1:Nat) (TL1:OwL),mm=ls.length - i/\Holds 25 [] J [(0,C p ls.length c),(2,b),(3,C pL1 l8.length cL1),(4,Z ((i:Nat):Int))]/\Ow jP Ag w W ([]++(TL1++([])))/\One fP 59 5 pL1 cL1 l8 TL1/\i<=ls.length/\l8.map PV.d=Br (ls.take i)/\R8 l8/\l8.length<=i/\True) ?_ ?_
 · exact ⟨_,0,[],E,0,[],rfl,V.ss,O.tt,hT1,(Nat.zero_le _),rfl,bF,(Nat.le_refl _),trivial⟩
 rintro _ J w1 ⟨i,l8,pL1,cL1,TL1,rfl,V,O,hTL1,hi,hc8,hb8,hl8,-⟩;let a:=(C pL1 l8.length cL1:Value);let g:=[(4,Z (((i:Nat):Int)+1))];refine wp_seq (Sa [(8,I (decide (((i:Nat):Int) < ((ls.length:Nat):Int))))] V ?_);clear V J; intro J V;rcases dC (((i:Nat):Int) < ((ls.length:Nat):Int)) with ⟨h1,h1p⟩|⟨h1,h1p⟩
 · rw [h1] at V;obtain ⟨ad1,rfl⟩:=((hv.keep O.only)).pos oo;obtain ⟨v1,hx1⟩ : ∃ x,(ls)[i]? = D x:=⟨_,Av _ 0 oo⟩;refine cT V (wp_skip (Aa (wp_seq (wp_block (Sb [(0,C (D ad1) ls.length c),(15,I (v1 != (-1)))] V [Z v1] (cc (oo:(0:Int)<=((i:Nat):Int)/\((i:Nat):Int) < ((ls.length:Nat):Int)) (cc ((ldN ((hv.keep O.only)) hx1):Ld jP w1 (ad1.add i) 3 (Z v1)) c0)) ?_)))));clear V J; intro J V;rcases jK (v1 != (-1)) with h2 | h2
   · rw [h2] at V;have h2p:=A5 h2;refine cT V (rr 9 (Kb 5 [(16,a),(20,Z v1)] V [Z v1] (cc (oo:(0:Int)<=((i:Nat):Int)/\((i:Nat):Int) < ((ls.length:Nat):Int)) (cc ((ldN ((hv.keep O.only)) hx1):Ld jP w1 (ad1.add i) 3 (Z v1)) c0)) ?_));clear V J; intro J V;refine Mk 21 V O Tryz.func35 (Bp 8 v1 _) ?_;clear V O J; intro J w2 V O;refine Mv [Z 8,Z v1,Z 0,Z 0,b] 59 1 22 V O ?_;clear V O J; intro J w3 b1 V O;refine Ae (mA (f:=fP) (el:=59) (sz:=5) (bytes:=56) (p:=pL1) (c:=cL1) (l:=l8) (l':=([⟨E,0,⟨8,v1,0,0,[]⟩⟩]:List PV)) (T:=TL1) (t:=52) (tx:=52) (ty:=52) (x:= C (D ⟨b1,0,E⟩) 1 1) (d:=23) [(b1,59,[Z 8,Z v1,Z 0,Z 0,C E 0 0])] ([]) A7 V O hTL1 (Vw.src (e':=59) A7 ((O.b 0).vw (off:=0) (xs:=([⟨E,0,⟨8,v1,0,0,[]⟩⟩]:List PV)) kR) kR) (by (simp only [jR,jS,jT]; omega)) (by unfold maxLen; (simp only [jR,jS,jT]; omega)) ?_);clear V O J; intro J w4 p1 c1 T2 V O hT2;refine Ka 1 [(3,C p1 ((l8++([⟨E,0,⟨8,v1,0,0,[]⟩⟩]:List PV)).length) c1)] V ?_;clear V J; intro J V;refine Ab (Af (Aa (Rc g V [I true] (cc ((An oo oo):inK .i64 (((i:Nat):Int)+1)) c0) ?_)));clear V J; intro J V
     exact Aa (⟨_,oo,i+1,l8++([⟨E,0,⟨8,v1,0,0,[]⟩⟩]:List PV),p1,c1,T2,rfl,V.ss,(Ow.subP (A:=[_]) O (.cons _ .slnil)),hT2,oo,(Ns (r:=[]) hc8 hx1 (by have q_:=hg _ (List.mem_of_getElem? hx1); omega)),(bG hb8 (Bn _ _ _ _)),(by simp only [jR,jS,jT]; omega),trivial⟩)
   rw [h2] at V;have h2p:=Au h2;refine cF V (wp_skip (Af (Aa (Rc g V [I true] (cc ((An oo oo):inK .i64 (((i:Nat):Int)+1)) c0) ?_))));clear V J; intro J V;exact Aa (⟨_,oo,i+1,l8,pL1,cL1,TL1,rfl,V.ss,O.tt,hTL1,oo,(O0 (r:=[]) hc8 hx1 oo),hb8,oo,trivial⟩)
 rw [h1] at V;refine cF V (wp_exit (Ai (Ai (Aj (Aa (Sa [(2,a)] V ?_))))));clear V J; intro J V;exact wp_ret (cv [a] V (⟨pL1,cL1,l8,TL1,rfl,Nu (r:=[]) hc8 oo,hb8,oo,hTL1,(O).tt⟩))
theorem gF {l ls:List Int} {i:Nat} {x v:Int} (h:l=(ls.take i).filter (fun t=>!(t == x))) (hx:ls[i]? = D v) (hn:(v != x)=true):l++[v]=(ls.take (i+1)).filter (fun t=>!(t == x)):=by
 rw [List.take_add_one,hx,List.filter_append,← h];show l++[v]=l++List.filter _ [v];rw [List.filter_cons_of_pos (by simpa using hn)]; rfl
theorem wo_no {l ls:List Int} {i:Nat} {x v:Int} (h:l=(ls.take i).filter (fun t=>!(t == x))) (hx:ls[i]? = D v) (hn:(v != x)=false):l=(ls.take (i+1)).filter (fun t=>!(t == x)):=by
 rw [List.take_add_one,hx,List.filter_append,← h];show l=l++List.filter _ [v];rw [List.filter_cons_of_neg (by simpa using hn)]; simp
theorem gG {l ls:List Int} {i:Nat} {x:Int} (h:l=(ls.take i).filter (fun t=>!(t == x))) (hi : ¬ i < ls.length):l=ls.filter (fun t=>!(t == x)):=by rwa [List.take_of_length_le (by omega)] at h
theorem Pb (p:Option Addr) (c:Nat) (ls:List Int) (x:Int) (w:World) (hv:Vw fN w (C p ls.length c) ls) (hl:ls.length<=1000) :
 Calls jP 38 #[C p ls.length c,Z x] w fun e w'=>∃ p k l T,e = .returned (C p l.length k)/\l=(ls.filter fun t=>!(t == x))/\One fN 3 1 p k l T/\Ow jP Ag w w' T:=by
 refine Ak (args:=[C p ls.length c,Z x]) (m:=25) (n:=27) Tryz.func38 rfl kR kR fun J V=>?_;have O:=Ow.nil jP Ag w;refine Sa [(4,C E 0 0)] V ?_;clear V J; intro J V;refine Sa [(5,C E 0 0)] V ?_;clear V J; intro J V;refine wp_seq (Sa [(6,Z 0)] V ?_);clear V J; intro J V;refine wp_block ?_;have hT1:=One.nil fN 3 1;refine Ay (fun mm J W=>∃ (i:Nat) (l8:List Int) (pL1:Option Addr) (cL1:Nat) (TL1:OwL),mm=ls.length - i/\Holds 27 [] J [(0,C p ls.length c),(1,Z x),(4,C E 0 0),(5,C pL1 l8.length cL1),(6,Z ((i:Nat):Int))]/\Ow jP Ag w W ([]++(TL1++([])))/\One fN 3 1 pL1 cL1 l8 TL1/\i<=ls.length/\l8=(ls.take i).filter (fun t_=>!(t_ == x))/\l8.length<=i/\True) ?_ ?_
 · exact ⟨_,0,[],E,0,[],rfl,V.ss,O.tt,hT1,(Nat.zero_le _),rfl,(Nat.le_refl _),trivial⟩
 rintro _ J w1 ⟨i,l8,pL1,cL1,TL1,rfl,V,O,hTL1,hi,hc8,hl8,-⟩;let a:=(C pL1 l8.length cL1:Value);let b:=[(6,Z (((i:Nat):Int)+1))];refine wp_seq (Sa [(10,I (decide (((i:Nat):Int) < ((ls.length:Nat):Int))))] V ?_);clear V J; intro J V;rcases dC (((i:Nat):Int) < ((ls.length:Nat):Int)) with ⟨h1,h1p⟩|⟨h1,h1p⟩
 · rw [h1] at V;obtain ⟨ad1,rfl⟩:=((hv.keep O.only)).pos oo;obtain ⟨v1,hx1⟩ : ∃ x,(ls)[i]? = D x:=⟨_,Av _ 0 oo⟩;refine cT V (wp_skip (Aa (wp_seq (wp_block (Sb [(0,C (D ad1) ls.length c),(18,I (v1 != x))] V [Z v1] (cc (oo:(0:Int)<=((i:Nat):Int)/\((i:Nat):Int) < ((ls.length:Nat):Int)) (cc ((ldN ((hv.keep O.only)) hx1):Ld jP w1 (ad1.add i) 3 (Z v1)) c0)) ?_)))));clear V J; intro J V;rcases jK (v1 != x) with h2 | h2
   · rw [h2] at V;have h2p:=A5 h2;refine cT V (rr 8 (Kb 5 [(19,a),(23,Z v1)] V [Z v1] (cc (oo:(0:Int)<=((i:Nat):Int)/\((i:Nat):Int) < ((ls.length:Nat):Int)) (cc ((ldN ((hv.keep O.only)) hx1):Ld jP w1 (ad1.add i) 3 (Z v1)) c0)) ?_));clear V J; intro J V;refine Mv [Z v1] 3 1 24 V O ?_;clear V O J; intro J w2 b1 V O;refine Ae (mA (f:=fN) (el:=3) (sz:=1) (bytes:=8) (p:=pL1) (c:=cL1) (l:=l8) (l':=([v1]:List Int)) (T:=TL1) (t:=33) (tx:=33) (ty:=33) (x:= C (D ⟨b1,0,E⟩) 1 1) (d:=25) [(b1,3,[Z v1])] ([]) G9 V O hTL1 (Vw.src (e':=3) G9 ((O.b 0).vw (off:=0) (xs:=([v1]:List Int)) kR) kR) (by (simp only [jR,jS,jT]; omega)) (by unfold maxLen; (simp only [jR,jS,jT]; omega)) ?_);clear V O J; intro J w3 p1 c1 T2 V O hT2;refine Ka 1 [(5,C p1 ((l8++([v1]:List Int)).length) c1)] V ?_;clear V J; intro J V;refine Ab (Af (Aa (Rc b V [I true] (cc ((An oo oo):inK .i64 (((i:Nat):Int)+1)) c0) ?_)));clear V J; intro J V;exact Aa (⟨_,oo,i+1,l8++([v1]:List Int),p1,c1,T2,rfl,V.ss,(Ow.subP (A:=[_]) O (.cons _ .slnil)),hT2,oo,(gF hc8 hx1 aM),(by simp only [jR,jS,jT]; omega),trivial⟩)
   rw [h2] at V;have h2p:=Au h2;refine cF V (wp_skip (Af (Aa (Rc b V [I true] (cc ((An oo oo):inK .i64 (((i:Nat):Int)+1)) c0) ?_))));clear V J; intro J V;exact Aa (⟨_,oo,i+1,l8,pL1,cL1,TL1,rfl,V.ss,O.tt,hTL1,oo,(wo_no hc8 hx1 aM),oo,trivial⟩)
 rw [h1] at V;refine cF V (wp_exit (Ai (Ai (Aj (Aa (Sa [(4,a)] V ?_))))));clear V J; intro J V;exact wp_ret (cv [a] V (⟨pL1,cL1,l8,TL1,rfl,gG hc8 oo,hTL1,(O).tt⟩))
end Go.Proofs.YtdljjajjonfjbaaGreatDoor
