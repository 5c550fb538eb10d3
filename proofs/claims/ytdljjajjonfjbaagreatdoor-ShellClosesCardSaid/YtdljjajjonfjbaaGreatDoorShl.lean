import Derived.Test.YtdljjajjonfjbaaGreatDoorShb
import Derived.Lib.Join
import Derived.Test.YtdljjajjonfjbaaGreatDoorReaders
import Derived.Test.YtdljjajjonfjbaaGreatDoorShh
import Derived.Test.YtdljjajjonfjbaaGreatDoorSn
set_option linter.unusedVariables false
set_option linter.unusedSimpArgs false
set_option maxRecDepth 10000
namespace Go.Proofs.YtdljjajjonfjbaaGreatDoor
open Go Go.Shelf Go.RowKit Go.Proofs Go.Proofs.Sx
def bA (l:List UInt8):ByteArray:=⟨l.toArray⟩
theorem Bh (l:List UInt8):(bA l).size=l.length:=by simp [bA,ByteArray.size]
theorem M7 (l:List UInt8):(bA l).data.toList=l:=by simp [bA]
theorem C7 (l:List UInt8) (s:ByteArray):bA l++s=bA (l++s.data.toList):=Et (by rw [M7,ByteArray.data_append,Array.toList_append,M7])
theorem Dv (s t:ByteArray):(s++t).data.toList=s.data.toList++t.data.toList:=by rw [ByteArray.data_append,Array.toList_append]
def Xh (d:CmdL):List ByteArray:=(if d.inp.size=0 then [] else [⟨#[60]⟩,d.inp])++(if d.app=true then [⟨#[62,62]⟩,d.out] else if d.out.size=0 then [] else [⟨#[62]⟩,d.out])
def prC (d:CmdL):List UInt8:=Lib.join ((d.words++Xh d).map (·.data.toList)) [32]
theorem Lq {xs:List (List UInt8)} (h:xs≠[]) (y:List UInt8):Lib.join (xs++[y]) [32]=Lib.join xs [32]++(32::y):=by
 cases xs with
 | nil=>exact absurd rfl h
 | cons x r=>rw [List.cons_append,Lib.join_cons,Lib.join_cons]; simp [Lib.joinTail]
theorem Ds {s:ByteArray} (h:A0 s=true) : 1<=s.size/\s.size<=60:=by
 unfold A0 at h
 rw [Bool.and_eq_true] at h
 exact qX h.2
theorem Cb {s:ByteArray} (h:B9 s=true):s.size<=60:=by
 unfold B9 at h
 rw [Bool.or_eq_true] at h
 rcases h with h | h
 · have:=qX h; omega
 exact (Ds h).2
theorem Y2 : ∀ (xs:List ByteArray),(∀ x∈xs,x.size<=60)->(Lib.join (xs.map (·.data.toList)) [32]).length<=xs.length*61
 | [],_=>by simp [Lib.join_nil]
 | x::r,h=>by
  rw [List.map_cons,Lib.join_cons]
  have hx:x.data.toList.length<=60:=by rw [Ar]; exact h x List.mem_cons_self
  have ht : ∀ (q:List ByteArray),(∀ x∈q,x.size<=60)->(Lib.joinTail [32] (q.map (·.data.toList))).length<=q.length*61:=fun q hq=>by
   induction q with
   | nil=>simp [Lib.joinTail]
   | cons y q ih =>
    have hy:y.data.toList.length<=60:=by rw [Ar]; exact hq y List.mem_cons_self
    have h2:=ih fun z hz=>hq z (List.mem_cons_of_mem _ hz)
    simp only [Lib.joinTail,List.map_cons,List.flatten_cons,List.length_append,List.length_cons,List.length_nil] at h2 ⊢
    omega
  have:=ht r fun z hz=>h z (List.mem_cons_of_mem _ hz)
  rw [List.length_append,List.length_cons]
  omega
theorem Bk {d:CmdL} (h:Av d=true):(∀ u∈d.words,A0 u=true)/\(1<=d.words.length/\d.words.length<=4)/\B9 d.inp=true/\B9 d.out=true/\(d.app=true->d.out.size≠0):=by
 unfold Av at h
 simp only [Bool.and_eq_true,Bool.or_eq_true,Bool.not_eq_true',decide_eq_true_eq,decide_eq_false_iff_not,List.all_eq_true] at h
 refine ⟨h.1,h.2.1,h.2.2.1,h.2.2.2.1,fun ha=>?_⟩
 rcases h.2.2.2.2 with q | q
 · rw [ha] at q; cases q
 exact q
theorem lQ (d:CmdL):(Xh d).length<=4:=by unfold Xh; split <;> split <;> (try split) <;> simp
theorem qB {d:CmdL} (h:Av d=true) : ∀ x∈d.words++Xh d,x.size<=60:=by
 obtain ⟨h1,_,h3,h4,_⟩:=Bk h
 have hi:=Cb h3
 have ho:=Cb h4
 intro x hx
 rcases List.mem_append.1 hx with hx | hx
 · exact (Ds (h1 x hx)).2
 unfold Xh at hx
 have k1:(⟨#[60]⟩:ByteArray).size=1:=rfl
 have k2:(⟨#[62,62]⟩:ByteArray).size=2:=rfl
 have k3:(⟨#[62]⟩:ByteArray).size=1:=rfl
 rcases List.mem_append.1 hx with hx | hx
 · split at hx
   · simp at hx
   simp only [List.mem_cons,List.not_mem_nil,or_false] at hx; rcases hx with rfl | rfl <;> omega
 split at hx
 · simp only [List.mem_cons,List.not_mem_nil,or_false] at hx; rcases hx with rfl | rfl <;> omega
 split at hx
 · simp at hx
 simp only [List.mem_cons,List.not_mem_nil,or_false] at hx; rcases hx with rfl | rfl <;> omega
theorem jS {d:CmdL} (h:Av d=true):(prC d).length<=488:=by
 have h1:=Y2 _ (qB h)
 have h2:=(Bk h).2.1
 have h3:=lQ d
 rw [List.length_append] at h1
 unfold prC
 omega
def pU:JobL:=⟨[],false⟩
def Aw (l:List CmdL):Nat->List UInt8
 | 0=>[]
 | k+1=>Aw l k++((if k=0 then [] else [32,124,32])++prC (l.getD k E7))
def prJ (x:JobL):List UInt8:=Aw x.cmds x.cmds.length
def Mm (bg last:Bool):List UInt8:=if bg=true then (if last=true then [32,38] else [32,38,32]) else if last=true then [] else [59,32]
def prP (l:List JobL):Nat->List UInt8
 | 0=>[]
 | i+1=>prP l i++(prJ (l.getD i pU)++Mm (l.getD i pU).bg (decide (i+1=l.length)))
def prL (l:List JobL):List UInt8:=prP l l.length
theorem Jc {α:Type} {l:List α} {i:Nat} {x d : α} (h:l[i]? = some x):l.getD i d=x:=by rw [List.getD_eq_getElem?_getD,h]; rfl
theorem Vy {α β:Type} {f : α->β} {l:List α} {i:Nat} {x : α} (h:l[i]? = some x):(l.map f)[i]? = some (f x):=by rw [List.getElem?_map,h]; rfl
theorem B6 {xl:List CV} {k:Nat} {y:CV} (hy:xl[k]? = some y):Aw (xl.map CV.d) (k+1)=Aw (xl.map CV.d) k++((if k=0 then [] else [32,124,32])++prC y.d):=by
 simp only [Aw]; rw [Jc (Vy hy)]
theorem Hp {l:List JV} {i:Nat} {xp:Option Addr} {xc:Nat} {xl:List CV} {xb:Bool} (hx:l[i]? = some ⟨xp,xc,xl,xb⟩):prP (l.map JV.d) (i+1)=prP (l.map JV.d) i++(Aw (xl.map CV.d) xl.length++Mm xb (decide (i+1=l.length))):=by
 simp only [prP]
 rw [Jc (Vy hx),List.length_map]
 show _++(Aw (xl.map CV.d) (xl.map CV.d).length++_)=_
 rw [List.length_map]; rfl
theorem Fi {l:List JV} (h:Aq (l.map JV.d)=true):l.length<=8/\∀ x∈l,(1<=x.cmds.length/\x.cmds.length<=4)/\∀ y∈x.cmds,Av y.d=true:=by
 unfold Aq at h
 rw [Bool.and_eq_true,List.length_map,List.all_map,List.all_eq_true] at h
 refine ⟨qX h.2,fun x hx=>?_⟩
 have h1:=h.1 x hx
 simp only [Function.comp,Bm,JV.d,List.length_map,List.all_map,Bool.and_eq_true,decide_eq_true_eq,List.all_eq_true] at h1
 exact h1
theorem Nq {xl:List CV} (h : ∀ y∈xl,Av y.d=true) : ∀ k,k<=xl.length->(Aw (xl.map CV.d) k).length<=k*491
 | 0,_=>by simp [Aw]
 | k+1,hk=>by
  have h1:=Nq h k (by omega)
  have h2:=Bi xl CV0 (i:=k) (by omega)
  rw [B6 h2,List.length_append,List.length_append]
  have h3:=jS (h _ (List.mem_of_getElem? h2))
  split <;> simp only [List.length_nil,List.length_cons] <;> omega
theorem cN (a b:Bool):(Mm a b).length<=3:=by cases a <;> cases b <;> decide
theorem Q2 {l:List JV} (h:Aq (l.map JV.d)=true) : ∀ i,i<=l.length->(prP (l.map JV.d) i).length<=i*1967
 | 0,_=>by simp [prP]
 | i+1,hi=>by
  have h1:=Q2 h i (by omega)
  obtain ⟨⟨xp,xc,xl,xb⟩,hx⟩ : ∃ x,l[i]? = some x:=⟨_,Bi l JV0 (i:=i) (by omega)⟩
  obtain ⟨h3,h4⟩:(1<=xl.length/\xl.length<=4)/\∀ y∈xl,Av y.d=true:=(Fi h).2 _ (List.mem_of_getElem? hx)
  rw [Hp hx,List.length_append,List.length_append]
  have h5:=Nq h4 xl.length (Nat.le_refl _)
  have h6:=cN xb (decide (i+1=l.length))
  omega
theorem P2 {d:CmdL} {z:ByteArray} (hz:d.words[0]? = some z):Lib.join ((d.words.take 1).map (·.data.toList)) [32]=z.data.toList:=by
 cases hw:d.words with
 | nil=>rw [hw] at hz; simp at hz
 | cons x r=>rw [hw] at hz; simp at hz; subst hz; simp [Lib.join_one]
theorem N2 {d:CmdL} {z:ByteArray} {j:Nat} (hz:d.words[j]? = some z) (hj : 1<=j):Lib.join ((d.words.take (j+1)).map (·.data.toList)) [32]=Lib.join ((d.words.take j).map (·.data.toList)) [32]++(32::z.data.toList):=by
 have hlt:=(List.getElem?_eq_some_iff.1 hz).1
 rw [List.take_add_one,hz,List.map_append]
 refine Lq (fun h=>?_) _
 have:=congrArg List.length h
 rw [List.length_map,List.length_take] at this
 simp only [List.length_nil] at this
 omega
theorem Cc {d:CmdL} {j:Nat} (hj : ¬ j < d.words.length):Lib.join ((d.words.take j).map (·.data.toList)) [32]=Lib.join (d.words.map (·.data.toList)) [32]:=by rw [List.take_of_length_le (by omega)]
theorem P3 {d:CmdL} (h:Av d=true) (j:Nat):(Lib.join ((d.words.take j).map (·.data.toList)) [32]).length<=244:=by
 have h1:=Bk h
 have h2:=Y2 (d.words.take j) fun x hx=>(Ds (h1.1 x (List.mem_of_mem_take hx))).2
 have h3:(d.words.take j).length<=4:=by rw [List.length_take]; omega
 omega
theorem Em {d:CmdL} (h : 1<=d.words.length):prC d=Lib.join (d.words.map (·.data.toList)) [32]++((if d.inp.size=0 then [] else [32,60,32]++d.inp.data.toList)++(if d.app=true then [32,62,62,32]++d.out.data.toList else if d.out.size=0 then [] else [32,62,32]++d.out.data.toList)):=by
 have hne:d.words.map (·.data.toList)≠[]:=fun h0=>by have:=congrArg List.length h0; simp at this; rw [this] at h; simp at h
 have two : ∀ (xs:List (List UInt8)) (a b:List UInt8),xs≠[]->Lib.join (xs++[a,b]) [32]=Lib.join xs [32]++(32::a++(32::b)):=fun xs a b hx=>by
  rw [show xs++[a,b]=(xs++[a])++[b] by simp,Lq (by simp) b,Lq hx a]; simp
 unfold prC Xh
 rw [List.map_append,List.map_append]
 have k1:(⟨#[60]⟩:ByteArray).data.toList=[60]:=rfl
 have k2:(⟨#[62,62]⟩:ByteArray).data.toList=[62,62]:=rfl
 have k3:(⟨#[62]⟩:ByteArray).data.toList=[62]:=rfl
 by_cases hi:d.inp.size=0
 · rw [if_pos hi,if_pos hi]
   by_cases ha:d.app=true
   · rw [if_pos ha,if_pos ha]
     simp only [List.map_nil,List.nil_append,List.map_cons,k2]
     rw [two _ _ _ hne]; simp
   · rw [if_neg ha,if_neg ha]
     by_cases ho:d.out.size=0
     · rw [if_pos ho,if_pos ho]; simp
     · rw [if_neg ho,if_neg ho]
       simp only [List.map_nil,List.nil_append,List.map_cons,k3]
       rw [two _ _ _ hne]; simp
 · rw [if_neg hi,if_neg hi]
   have hne2:d.words.map (·.data.toList)++[[60],d.inp.data.toList]≠[]:=by simp
   by_cases ha:d.app=true
   · rw [if_pos ha,if_pos ha]
     simp only [List.map_nil,List.map_cons,k1,k2]
     rw [← List.append_assoc,two _ _ _ hne2,two _ _ _ hne]; simp
   · rw [if_neg ha,if_neg ha]
     by_cases ho:d.out.size=0
     · rw [if_pos ho,if_pos ho]
       simp only [List.map_nil,List.map_cons,k1,List.append_nil]
       rw [two _ _ _ hne]; simp
     · rw [if_neg ho,if_neg ho]
       simp only [List.map_nil,List.map_cons,k1,k3]
       rw [← List.append_assoc,two _ _ _ hne2,two _ _ _ hne]; simp
open Go Go.RowKit Go.Proofs.Sx
section
variable {s:ByteArray}
theorem Yr {s:ByteArray} : ∀ k,(∀ i,i < k->Ba (sb s i)=true)->okW s k=true
 | 0,_=>rfl
 | k+1,h=>by simp only [okW]; rw [Yr k (fun i hi=>h i (by omega)),h k (by omega)]; rfl
theorem oG {n:Nat} (hk:kd s n=1) (hl:tl s n<=60):A0 (tk s n)=true:=by
 have h1:=Dn s n
 have h2:=D6 s n
 have h3:okW (tk s n) (tk s n).size=true:=Yr _ fun i hi=>by
  rw [L4 (by omega)]
  have:=cQ Ba s (s.size - n) n i (by have:La Ba s (s.size - n) n=wl s n:=rfl; omega)
  exact this.2
 rw [G6 h3]
 exact qZ (by omega)
theorem Pf {n m:Nat} {v:ByteArray} (h:Ct s n = .ok (v,m)):A0 v=true:=by
 unfold Ct at h
 split at h
 · cases h
 · split at h
   · cases h
   · cases h; exact oG (by omega) (by omega)
def Sq (d:CmdL):Prop:=(∀ u∈d.words,A0 u=true)/\d.words.length<=4/\B9 d.inp=true/\B9 d.out=true/\(d.app=true->d.out.size≠0)
theorem Vo {d:CmdL} (h:Sq d) (h1:d.words.length≠0):Av d=true :=
 Jt ⟨by omega,h.2.1⟩ h.2.2.1 h.2.2.2.1 h.2.2.2.2 (List.all_eq_true.2 h.1)
theorem Yo {v:ByteArray} (h:A0 v=true):B9 v=true:=by unfold B9; rw [h,Bool.or_true]
theorem Vf {c v:CmdL} {n m:Nat} (hp:Sq c) (h:Bj s c n = .ok (v,m)):Sq v:=by
 unfold Bj at h
 split at h
 · cases h
 · cases hw:Ct s (nx s n) with
   | error e=>rw [hw] at h; cases h
   | ok q =>
    obtain ⟨u,k⟩:=q
    rw [hw] at h
    have hu:=Pf hw
    have hz:=(Ds hu).1
    cases h
    split
    · exact ⟨hp.1,hp.2.1,Yo hu,hp.2.2.2.1,hp.2.2.2.2⟩
    · exact ⟨hp.1,hp.2.1,hp.2.2.1,Yo hu,fun _=>by show u.size≠0; omega⟩
theorem J5 : ∀ (k:Nat) (c:CmdL) (n:Nat) (v:CmdL) (m:Nat),Sq c->n<=s.size->s.size - n < k->D4 false s k c n = .ok (v,m)->Av v=true
 | 0,_,n,_,_,_,_,hk,_=>by omega
 | k+1,c,n,v,m,hp,hn,hk,h=>by
  by_cases h1:kd s n=1
  · by_cases hl:c.words.length=4
    · rw [Oo h1 hl] at h; cases h
    · cases hw:Ct s n with
      | error e=>rw [Ha h1 hl hw] at h; cases h
      | ok q =>
       obtain ⟨u,m'⟩:=q
       rw [Gk h1 hl hw] at h
       obtain ⟨_,_,q3,q4,_⟩:=Cx hn hw
       refine J5 k ⟨c.words++[u],c.inp,c.out,c.app⟩ m' v m ⟨fun z hz=>?_,?_,hp.2.2⟩ q3 (by omega) h
       · rcases List.mem_append.1 hz with hz | hz
         · exact hp.1 z hz
         · rw [List.mem_singleton] at hz; subst hz; exact Pf hw
       · have:=hp.2.1; simp only [List.length_append,List.length_cons,List.length_nil]; omega
  · by_cases h2:kd s n=2\/kd s n=3\/kd s n=4
    · cases hr:Bj s c n with
      | error e=>rw [Lx h2 aY hr] at h; cases h
      | ok q =>
       obtain ⟨u,m'⟩:=q
       rw [On h2 aY hr] at h
       obtain ⟨_,q3,q4⟩:=Lb hn hr
       exact J5 k _ _ v m (Vf hp hr) q3 (by omega) h
    · by_cases hl:c.words.length=0
      · rw [Je h1 (fun q=>h2 q.1) hl] at h; cases h
      · rw [Oq h1 (fun q=>h2 q.1) hl] at h
        cases h
        exact Vo hp hl
theorem part0:Sq E7:=⟨fun u hu=>absurd hu List.not_mem_nil,by decide,rfl,rfl,fun h=>by cases h⟩
theorem Om {n m:Nat} {v:CmdL} (hn:n<=s.size) (h:Hz false s n = .ok (v,m)):Av v=true:=J5 _ _ n v m part0 hn (by omega) h
theorem Uo {soft:Bool} {n:Nat} {q:CmdL×Nat} (h:Hz soft s n = .ok q):C4 (kd s n)=true:=by
 refine qZ ?_
 rcases Classical.em (1<=kd s n/\kd s n<=4) with h1 | h1
 · exact h1
 · have:Hz soft s n = .error (n,3):=Je (by omega) (fun q=>by omega) rfl
   rw [this] at h; cases h
theorem G4 : ∀ (k:Nat) (l:List CmdL) (n:Nat) (v:List CmdL) (m:Nat),(∀ c∈l,Av c=true)->1<=l.length->l.length<=4->n<=s.size->Gf false s k l n = .ok (v,m)->(∀ c∈v,Av c=true)/\1<=v.length/\v.length<=4
 | 0,l,n,v,m,h1,h2,h3,_,h=>by cases h; exact ⟨h1,h2,h3⟩
 | k+1,l,n,v,m,h1,h2,h3,hn,h=>by
  by_cases hk:kd s n=7
  · by_cases hl:l.length=4/\C4 (kd s (nx s n))=true
    · rw [N4 hk hl.1 hl.2] at h; cases h
    · cases hc:Hz false s (nx s n) with
      | error e=>rw [Fp hk hl hc] at h; cases h
      | ok q =>
       obtain ⟨c,m'⟩:=q
       rw [E2 hk hl hc] at h
       have hb:=Uo hc
       have hv:=Om (Hg hn) hc
       have hm:m'<=s.size:=by
        have:=cmdF_le (s.size+1) E7 (nx s n) c m' (Hg hn) hc
        exact this
       refine G4 k _ _ v m (fun z hz=>?_) (by simp) ?_ hm h
       · rcases List.mem_append.1 hz with hz | hz
         · exact h1 z hz
         · rw [List.mem_singleton] at hz; subst hz; exact hv
       · have:l.length≠4:=fun e=>hl ⟨e,hb⟩
         simp only [List.length_append,List.length_cons,List.length_nil]; omega
  · rw [N5 hk] at h; cases h; exact ⟨h1,h2,h3⟩
 where
 cmdF_le : ∀ (k:Nat) (c:CmdL) (n:Nat) (v:CmdL) (m:Nat),n<=s.size->D4 false s k c n = .ok (v,m)->m<=s.size
 | 0,c,n,v,m,hn,h=>by cases h; exact hn
 | k+1,c,n,v,m,hn,h=>by
  by_cases h1:kd s n=1
  · by_cases hl:c.words.length=4
    · rw [Oo h1 hl] at h; cases h
    · cases hw:Ct s n with
      | error e=>rw [Ha h1 hl hw] at h; cases h
      | ok q =>
       obtain ⟨u,m'⟩:=q
       rw [Gk h1 hl hw] at h
       exact cmdF_le k _ _ v m (Cx hn hw).2.2.1 h
  · by_cases h2:kd s n=2\/kd s n=3\/kd s n=4
    · cases hr:Bj s c n with
      | error e=>rw [Lx h2 aY hr] at h; cases h
      | ok q =>
       obtain ⟨u,m'⟩:=q
       rw [On h2 aY hr] at h
       exact cmdF_le k _ _ v m (Lb hn hr).2.1 h
    · by_cases hl:c.words.length=0
      · rw [Je h1 (fun q=>h2 q.1) hl] at h; cases h
      · rw [Oq h1 (fun q=>h2 q.1) hl] at h; cases h; exact hn
theorem Y6 : ∀ (k:Nat) (l:List CmdL) (n:Nat) (v:List CmdL) (m:Nat),n<=s.size->Gf false s k l n = .ok (v,m)->m<=s.size
 | 0,l,n,v,m,hn,h=>by cases h; exact hn
 | k+1,l,n,v,m,hn,h=>by
  by_cases hk:kd s n=7
  · by_cases hl:l.length=4/\C4 (kd s (nx s n))=true
    · rw [N4 hk hl.1 hl.2] at h; cases h
    · cases hc:Hz false s (nx s n) with
      | error e=>rw [Fp hk hl hc] at h; cases h
      | ok q =>
       obtain ⟨c,m'⟩:=q
       rw [E2 hk hl hc] at h
       exact Y6 k _ _ v m (G4.cmdF_le (s.size+1) E7 _ c m' (Hg hn) hc) h
  · rw [N5 hk] at h; cases h; exact hn
theorem V7 {n m:Nat} {v:List CmdL} (hn:n<=s.size) (h:G3 false s n = .ok (v,m)):((∀ c∈v,Av c=true)/\1<=v.length/\v.length<=4)/\m<=s.size/\C4 (kd s n)=true:=by
 unfold G3 at h
 cases hc:Hz false s n with
 | error e=>rw [hc] at h; cases h
 | ok q =>
  obtain ⟨c,m'⟩:=q
  rw [hc] at h
  have hm:=G4.cmdF_le (s.size+1) E7 n c m' hn hc
  exact ⟨G4 _ _ _ v m (fun z hz=>by rw [List.mem_singleton] at hz; subst hz; exact Om hn hc) (by simp) (by simp) hm h,Y6 _ _ _ v m hm h,Uo hc⟩
theorem aU {cs:List CmdL} {b:Bool} (h:(∀ c∈cs,Av c=true)/\1<=cs.length/\cs.length<=4):Bm ⟨cs,b⟩=true:=by
 unfold Bm
 rw [qZ h.2,Bool.true_and]
 exact List.all_eq_true.2 h.1
theorem L9 : ∀ (k:Nat) (l:List JobL) (n:Nat) (v:List JobL),(∀ x∈l,Bm x=true)->l.length<=8->n<=s.size->Dr false s k l n = .ok v->(∀ x∈v,Bm x=true)/\v.length<=8
 | 0,l,n,v,h1,h2,_,h=>by cases h; exact ⟨h1,h2⟩
 | k+1,l,n,v,h1,h2,hn,h=>by
  by_cases hlt:n < s.size
  · by_cases hl:l.length=8/\C4 (kd s n)=true
    · rw [P0 hlt hl.1 hl.2] at h; cases h
    · cases hj:G3 false s n with
      | error e=>rw [J0 hlt hl hj] at h; cases h
      | ok q =>
       obtain ⟨cs,m⟩:=q
       obtain ⟨q1,q2,q3⟩:=V7 hn hj
       have h8:l.length≠8:=fun e=>hl ⟨e,q3⟩
       have hall : ∀ b,∀ x∈l++[(⟨cs,b⟩:JobL)],Bm x=true:=fun b x hx=>by
        rcases List.mem_append.1 hx with hx | hx
        · exact h1 x hx
        · rw [List.mem_singleton] at hx; subst hx; exact aU q1
       have hlen : ∀ b,(l++[(⟨cs,b⟩:JobL)]).length<=8:=fun b=>by simp only [List.length_append,List.length_cons,List.length_nil]; omega
       by_cases k0:kd s m=0
       · rw [Jz hlt hl hj k0] at h; cases h; exact ⟨hall _,hlen _⟩
       · by_cases k5:kd s m=5\/kd s m=6
         · rw [Fv hlt hl hj k5] at h
           exact L9 k _ _ v (hall _) (hlen _) (Hg q2) h
         · rw [Ln hlt hl hj (by omega)] at h; cases h
  · rw [G0 hlt] at h; cases h; exact ⟨h1,h2⟩
theorem E1 {v:List JobL} (h:Dq false s = .ok v):Aq v=true:=by
 obtain ⟨h1,h2⟩:=L9 _ _ _ v (fun x hx=>absurd hx List.not_mem_nil) (by decide) (cJ (Nat.zero_le _)) h
 unfold Aq
 rw [qZ h2,Bool.and_true]
 exact List.all_eq_true.2 h1
theorem L2 {l:List JobL} (h:Aq l=true):smL 1000000 l:=by
 unfold Aq at h
 rw [Bool.and_eq_true,List.all_eq_true] at h
 refine ⟨by have:=qX h.2; omega,fun x hx=>?_⟩
 have h1:=h.1 x hx
 unfold Bm at h1
 rw [Bool.and_eq_true,List.all_eq_true] at h1
 refine ⟨by have:=qX h1.1; omega,fun c hc=>?_⟩
 obtain ⟨q1,q2,q3,q4,_⟩:=Bk (h1.2 c hc)
 have:=Cb q3
 have:=Cb q4
 exact ⟨fun u hu=>by have:=(Ds (q1 u hu)).2; omega,by omega,by omega,by omega⟩
end
theorem Rq {s:ByteArray} {n:Nat} {e:Nat×Int} (h:Ct s n = .error e):e.2≠0:=by
 unfold Ct at h;split at h
 · cases h; simp
 split at h
 · cases h; simp
 cases h
theorem Z6 {s:ByteArray} {c:CmdL} {n:Nat} {e:Nat×Int} (h:Bj s c n = .error e):e.2≠0:=by
 unfold Bj at h;split at h
 · cases h; simp
 cases hw:Ct s (nx s n) with
 | error e'=>rw [hw] at h; cases h; exact Rq hw
 | ok q=>rw [hw] at h; cases h
theorem M5 {s:ByteArray} : ∀ (k:Nat) (c:CmdL) (n:Nat) (e:Nat×Int),D4 false s k c n = .error e->e.2≠0
 | 0,_,_,_,h=>by cases h
 | k+1,c,n,e,h=>by
  simp only [D4] at h;split at h
  · split at h
    · cases h; simp
    · cases hw:Ct s n with
      | error e'=>rw [hw] at h; cases h; exact Rq hw
      | ok q=>rw [hw] at h; exact M5 k _ _ e h
  · split at h
    · cases hw:Bj s c n with
      | error e'=>rw [hw] at h; cases h; exact Z6 hw
      | ok q=>rw [hw] at h; exact M5 k _ _ e h
    · split at h
      · cases h; simp
      · cases h
theorem Y7 {s:ByteArray} : ∀ (k:Nat) (l:List CmdL) (n:Nat) (e:Nat×Int),Gf false s k l n = .error e->e.2≠0
 | 0,_,_,_,h=>by cases h
 | k+1,l,n,e,h=>by
  simp only [Gf] at h;split at h
  · split at h
    · cases h; simp
    · cases hw:Hz false s (nx s n) with
      | error e'=>rw [hw] at h; cases h; exact M5 _ _ _ _ hw
      | ok q=>rw [hw] at h; exact Y7 k _ _ e h
  · cases h
theorem kQ {s:ByteArray} {n:Nat} {e:Nat×Int} (h:G3 false s n = .error e):e.2≠0:=by
 unfold G3 at h;cases hw:Hz false s n with
 | error e'=>rw [hw] at h; cases h; exact M5 _ _ _ _ hw
 | ok q=>rw [hw] at h; exact Y7 _ _ _ e h
theorem Th {s:ByteArray} : ∀ (k:Nat) (l:List JobL) (n:Nat) (e:Nat×Int),Dr false s k l n = .error e->e.2≠0
 | 0,_,_,_,h=>by cases h
 | k+1,l,n,e,h=>by
  simp only [Dr] at h;split at h
  · split at h
    · cases h; simp
    · cases hw:G3 false s n with
      | error e'=>rw [hw] at h; cases h; exact kQ hw
      | ok q =>
       rw [hw] at h;simp only at h;split at h
       · cases h
       · split at h
         · exact Th k _ _ e h
         · cases h; simp
  · cases h
theorem eO {s:ByteArray} {a:Nat} {b:Int} (h:Dq false s = .error (a,b)):(b != 0)=true:=by rw [bne_iff_ne]; exact Th _ _ _ _ h
theorem pH {eJ eC:TypeId} {p:Option Addr} {k:Nat} {l:List JV} {T0 T1:OwL} (h0:One fJ eJ 2 p k l T0) (h1:InJ eC 9 l T1):Ah (T0++(T1++[])) fun w=>VL w (.slice p l.length k) l:=fun X w₀ w hO =>
 ⟨h0.vw (A:=[]) (B:=T1++[]) hO,InJ.view (A:=T0) (B:=[]) h1 hO⟩
theorem aB {sv:ByteArray} {a:Nat} {b:Int} (w:World) (hs:sv.size<=1000000) (hl:Dq false sv = .error (a,b)):Calls Tryz.prog 111 #[str sv] w fun e w'=>e = .returned (.tuple #[.slice none 0 0,i64 ((a:Nat):Int),i64 b])/\Only Ai w w':=by
 refine (Pr sv w hs).mono fun e w' h=>?_;rcases h with ⟨a',b',h1,h2,h3⟩ | ⟨p,k,l,T0,T1,h1,_⟩
 · rw [hl] at h1; cases h1; exact ⟨h2,h3⟩
 rw [hl] at h1; cases h1
theorem dM {sv:ByteArray} {js:List JobL} (w:World) (hs:sv.size<=1000000) (hl:Dq false sv = .ok js):Calls Tryz.prog 111 #[str sv] w fun e w'=>∃ p k l T0 T1,l.map JV.d=js/\e = .returned (.tuple #[.slice p l.length k,i64 0,i64 0])/\One fJ 103 2 p k l T0/\InJ 104 9 l T1/\Ow Tryz.prog Ai w w' (T0++T1):=by
 refine (Pr sv w hs).mono fun e w' h=>?_;rcases h with ⟨a',b',h1,h2,h3⟩ | ⟨p,k,l,T0,T1,h1,h2,h3,h4,h5,_⟩
 · rw [hl] at h1; cases h1
 rw [hl] at h1;exact ⟨p,k,l,T0,T1,(Except.ok.inj h1).symm,h2,h3,h4,h5⟩
theorem Rh {s:ByteArray} (a b:Nat) (h:s.size<=1000000):(s.extract a b).size<=1000000:=by rw [ByteArray.size_extract]; omega
theorem eM (pb:Nat) (mo po:Int) (inp:ByteArray) (pj:Option Addr) (kj:Nat) (lj:List JV) (rd wr pv:Int) (pn:Option Addr) (kn:Nat) (ln:List Int) (pp:Option Addr) (kp:Nat) (lp:List PV) (T:OwL) (n:Nat) (w:World) (hG:Ah T (SV.ok (⟨mo,po,inp,pj,kj,lj,rd,wr,pv,pn,kn,ln,pp,kp,lp⟩:SV))) (h0:Ow Tryz.prog (inT ((pb,39,cS mo po inp pj lj.length kj rd wr pv pn ln.length kn pp lp.length kp)::T)) w w ((pb,39,cS mo po inp pj lj.length kj rd wr pv pn ln.length kn pp lp.length kp)::T)) (hm:SV.sm (⟨mo,po,inp,pj,kj,lj,rd,wr,pv,pn,kn,ln,pp,kp,lp⟩:SV)) (hvl:Aq (lj.map JV.d)=true) (hp0:lp.length=0) (hn:n < inp.size) {a:Nat} {b:Int} (hl:Dq false (inp.extract 0 n) = .error (a,b)) :
 Calls Tryz.prog 92 #[pt pb,i64 ((n:Nat):Int)] w fun e w'=>∃ (v:SV) (Tn:OwL),v.d=Cz (SV.d (⟨mo,po,inp,pj,kj,lj,rd,wr,pv,pn,kn,ln,pp,kp,lp⟩:SV)) n/\v.sm/\Aq (v.lj.map JV.d)=true/\e = .returned (.tuple #[])/\Ow Tryz.prog (inT ((pb,39,cS mo po inp pj lj.length kj rd wr pv pn ln.length kn pp lp.length kp)::T)) w w' ((pb,39,v.cells)::(T++Tn))/\Ah (T++Tn) v.ok:=by
 refine An (args:=[pt pb,i64 ((n:Nat):Int)]) (m:=38) (n:=40) Tryz.func92 rfl (by kernel_rfl) (by kernel_rfl) fun fr hA=>?_;generalize inT ((pb,39,cS mo po inp pj lj.length kj rd wr pv pn ln.length kn pp lp.length kp)::T)=M at *;have hO:Ow Tryz.prog M w w ([(pb,39,(cS mo po inp pj lj.length kj rd wr pv pn ln.length kn pp lp.length kp))]++(T++([]))):=h0.to (by first | rfl | first | rfl | (simp only [TP,apd]));have hm_i:inp.size<=1000000:=hm.i;refine Sb [(4,str (inp.extract 0 n))] hA [str inp] (cc (hO.l1 0 2 9 (str inp)) (cc (⟨by omega,by omega,by omega⟩:(0:Int)<=0/\(0:Int)<=((n:Nat):Int)/\(((n:Nat):Int):Int)<=((inp.size:Nat):Int)) c0)) fun fr hA=>sr 11 (Kb 10 [(21,str (inp.extract ((((n:Nat):Int)+1).toNat) inp.size)),(23,pf pb 2)] hA [str inp,bl true] (cc (hO.l1 0 2 9 (str inp)) (cc ((Am (by omega) (by omega)):inK .i64 (((n:Nat):Int)+1)) (cc (⟨by omega,by omega,by omega⟩:(0:Int)<=((n:Nat):Int)+1/\(((n:Nat):Int)+1:Int)<=((inp.size:Nat):Int)/\(((inp.size:Nat):Int):Int)<=((inp.size:Nat):Int)) c0))) fun fr hA=>?_);rw [show (inp.extract ((((n:Nat):Int)+1).toNat) inp.size)=(inp.extract (n+1) inp.size) from by rw [show (((n:Nat):Int)+1).toNat=n+1 by omega]] at hA;refine Ms 2 [str (inp.extract (n+1) inp.size)] 0 hA hO fun w1 hO=>Ab (Aa (sr 9 (Ka 1 [(25,str (inp.extract 0 n))] hA fun fr hA=>Mk 26 hA hO Tryz.func111 (aB (sv:=(inp.extract 0 n)) _ (Rh _ _ hm_i) hl) fun fr w2 hA hO=>Ka 7 [(5,.slice none 0 0),(7,i64 b)] hA fun fr hA=>Ab (Aa (wp_seq (Sa [(31,bl (b != 0))] hA fun fr hA=>?_))))));rw [(eO hl:(b != 0)=(true))] at hA
 refine cT hA (sr 4 (Ka 1 [(32,pt pb)] hA fun fr hA=>?_));replace hO:Ow Tryz.prog M w w2 ([(pb,39,(cS mo po (inp.extract (n+1) inp.size) pj lj.length kj rd wr pv pn ln.length kn pp lp.length kp))]++(T++([]))):=hO;refine Ag (mC (d:=(some 33)) hA Tryz.func96 ((F2 _).mono ?_));rintro en w3 ⟨p1,c1,T1,rfl,hT1,hW⟩;refine ⟨_,rfl,?_⟩;clear hA fr; intro fr hA;replace hO:=Ow.join hO hW; clear hW;replace hO:Ow Tryz.prog M w _ ([(pb,39,(cS mo po (inp.extract (n+1) inp.size) pj lj.length kj rd wr pv pn ln.length kn pp lp.length kp))]++(T++(T1++([])))):=hO.to (by first | rfl | (simp only [TP,apd]));refine Mv [i64 10,i64 2,i64 0,i64 0,.slice p1 (([63,10]:List Int).length) c1] 43 1 34 hA hO fun fr w4 b1 hA hO=>?_;replace hO:Ow Tryz.prog M w w4 ([(b1,43,[i64 10,i64 2,i64 0,i64 0,.slice p1 (([63,10]:List Int).length) c1]),(pb,39,(cS mo po (inp.extract (n+1) inp.size) pj lj.length kj rd wr pv pn ln.length kn pp lp.length kp))]++(T++(T1++([])))):=hO
 refine Ag (mC (d:=(some 35)) hA Tryz.func95 ((Ko pb mo po (inp.extract (n+1) inp.size) pj kj lj rd wr pv pn kn ln pp kp lp ⟨p1,c1,⟨10,2,0,0,[63,10]⟩⟩ ⟨b1,0,none⟩ 1 _ (Ow.self (A:=[_]) (hO.tt)) (Yw (A:=[_]) (Q:=(fun w_=>Vw fP w_ (.slice pp lp.length kp) lp)) ((hG.mono fun _ h_=>h_.p.1).l) (hO.tt:Ow Tryz.prog M w _ (([(b1,43,[i64 10,i64 2,i64 0,i64 0,.slice p1 (([63,10]:List Int).length) c1])]++[(pb,39,cS mo po (inp.extract (n+1) inp.size) pj lj.length kj rd wr pv pn ln.length kn pp lp.length kp)])++((T++(T1++([])))++[])))) (fun w_ k_=>((S5 (A:=[_]) (hO.tt:Ow Tryz.prog M w _ (([(b1,43,[i64 10,i64 2,i64 0,i64 0,.slice p1 (([63,10]:List Int).length) c1])]++[(pb,39,cS mo po (inp.extract (n+1) inp.size) pj lj.length kj rd wr pv pn ln.length kn pp lp.length kp)])++((T++(T1++([])))++[]))) k_).b 0).vw (off:=0) (xs:=([⟨p1,c1,⟨10,2,0,0,[63,10]⟩⟩]:List PV)) (by kernel_rfl)) (by omega)).mono ?_));rintro en w5 ⟨rfl,p2,k1,T2,hT2,hW⟩;refine ⟨_,rfl,?_⟩;clear hA fr; intro fr hA;replace hO:=Ow.pass2 (A:=[_]) hO hW; clear hW;replace hO:Ow Tryz.prog M w w5 ([(b1,43,[i64 10,i64 2,i64 0,i64 0,.slice p1 (([63,10]:List Int).length) c1]),(pb,39,(cS mo po (inp.extract (n+1) inp.size) pj lj.length kj rd wr pv pn ln.length kn p2 ((lp++([⟨p1,c1,⟨10,2,0,0,[63,10]⟩⟩]:List PV)).length) k1))]++(T++(T1++(T2++([]))))):=hO.to (by first | rfl | (simp only [TP,apd]));refine Ab (Aa (wp_ret (Ac (cv [] hA ?_))))
 have heq_:SV.d (⟨mo,po,inp.extract (n+1) inp.size,pj,kj,lj,rd,wr,pv,pn,kn,ln,p2,k1,lp++([⟨p1,c1,⟨10,2,0,0,[63,10]⟩⟩]:List PV)⟩:SV)=Cz (SV.d (⟨mo,po,inp,pj,kj,lj,rd,wr,pv,pn,kn,ln,pp,kp,lp⟩:SV)) n:=by unfold Cz; simp only [SV.d]; rw [hl,List.map_append]; rfl
 replace hO:Ow Tryz.prog M w w5 ([(b1,43,[i64 10,i64 2,i64 0,i64 0,.slice p1 (([63,10]:List Int).length) c1]),(pb,39,(cS mo po (inp.extract (n+1) inp.size) pj lj.length kj rd wr pv pn ln.length kn p2 ((lp++([⟨p1,c1,⟨10,2,0,0,[63,10]⟩⟩]:List PV)).length) k1))]++(T++(T1++(T2++([]))))):=hO;exact ⟨(⟨mo,po,inp.extract (n+1) inp.size,pj,kj,lj,rd,wr,pv,pn,kn,ln,p2,k1,lp++([⟨p1,c1,⟨10,2,0,0,[63,10]⟩⟩]:List PV)⟩:SV),(T1++(T2++([]))),heq_,⟨Rh _ _ hm.i,hm.j,hm.k,(by show (lp++[_]).length<=_; rw [List.length_append,hp0]; show 0+1<=_; omega),hm.ck,hm.cj,hT2.le⟩,hvl,rfl,(show Ow Tryz.prog M w _ ((pb,39,cS mo po (inp.extract (n+1) inp.size) pj lj.length kj rd wr pv pn ln.length kn p2 ((lp++([⟨p1,c1,⟨10,2,0,0,[63,10]⟩⟩]:List PV)).length) k1)::(T++(T1++(T2++([]))))) from ((Ow.subP (A:=[_,_]) hO (.cons _ (.cons_cons _ .slnil)))).tt),((ok3 (T:=T++(T1++(T2++([])))) (x:=(⟨mo,po,inp.extract (n+1) inp.size,pj,kj,lj,rd,wr,pv,pn,kn,ln,p2,k1,lp++([⟨p1,c1,⟨10,2,0,0,[63,10]⟩⟩]:List PV)⟩:SV)) ((hG.mono fun _ h_=>h_.j).l) ((hG.mono fun _ h_=>h_.k).l) (Ns (T:=T++(T1++(T2++([])))) (hT2.holds.l.r.r) ((hG.mono fun _ h_=>h_.p.2).l) (Hi (x:=⟨p1,c1,⟨10,2,0,0,[63,10]⟩⟩) (hT1.holds.l.r) H2))).tt)⟩
theorem kJ (pb:Nat) (mo po:Int) (inp:ByteArray) (pj:Option Addr) (kj:Nat) (lj:List JV) (rd wr pv:Int) (pn:Option Addr) (kn:Nat) (ln:List Int) (pp:Option Addr) (kp:Nat) (lp:List PV) (T:OwL) (n:Nat) (w:World) (hG:Ah T (SV.ok (⟨mo,po,inp,pj,kj,lj,rd,wr,pv,pn,kn,ln,pp,kp,lp⟩:SV))) (h0:Ow Tryz.prog (inT ((pb,39,cS mo po inp pj lj.length kj rd wr pv pn ln.length kn pp lp.length kp)::T)) w w ((pb,39,cS mo po inp pj lj.length kj rd wr pv pn ln.length kn pp lp.length kp)::T)) (hm:SV.sm (⟨mo,po,inp,pj,kj,lj,rd,wr,pv,pn,kn,ln,pp,kp,lp⟩:SV)) (hvl:Aq (lj.map JV.d)=true) (hp0:lp.length=0) (hn:n < inp.size) {js:List JobL} (hl:Dq false (inp.extract 0 n) = .ok js) :
 Calls Tryz.prog 92 #[pt pb,i64 ((n:Nat):Int)] w fun e w'=>∃ (v:SV) (Tn:OwL),v.d=Cz (SV.d (⟨mo,po,inp,pj,kj,lj,rd,wr,pv,pn,kn,ln,pp,kp,lp⟩:SV)) n/\v.sm/\Aq (v.lj.map JV.d)=true/\e = .returned (.tuple #[])/\Ow Tryz.prog (inT ((pb,39,cS mo po inp pj lj.length kj rd wr pv pn ln.length kn pp lp.length kp)::T)) w w' ((pb,39,v.cells)::(T++Tn))/\Ah (T++Tn) v.ok:=by
 refine An (args:=[pt pb,i64 ((n:Nat):Int)]) (m:=38) (n:=40) Tryz.func92 rfl (by kernel_rfl) (by kernel_rfl) fun fr hA=>?_;generalize inT ((pb,39,cS mo po inp pj lj.length kj rd wr pv pn ln.length kn pp lp.length kp)::T)=M at *;have hO:Ow Tryz.prog M w w ([(pb,39,(cS mo po inp pj lj.length kj rd wr pv pn ln.length kn pp lp.length kp))]++(T++([]))):=h0.to (by first | rfl | first | rfl | (simp only [TP,apd]));have hm_i:inp.size<=1000000:=hm.i;refine Sb [(4,str (inp.extract 0 n))] hA [str inp] (cc (hO.l1 0 2 9 (str inp)) (cc (⟨by omega,by omega,by omega⟩:(0:Int)<=0/\(0:Int)<=((n:Nat):Int)/\(((n:Nat):Int):Int)<=((inp.size:Nat):Int)) c0)) fun fr hA=>sr 11 (Kb 10 [(21,str (inp.extract ((((n:Nat):Int)+1).toNat) inp.size)),(23,pf pb 2)] hA [str inp,bl true] (cc (hO.l1 0 2 9 (str inp)) (cc ((Am (by omega) (by omega)):inK .i64 (((n:Nat):Int)+1)) (cc (⟨by omega,by omega,by omega⟩:(0:Int)<=((n:Nat):Int)+1/\(((n:Nat):Int)+1:Int)<=((inp.size:Nat):Int)/\(((inp.size:Nat):Int):Int)<=((inp.size:Nat):Int)) c0))) fun fr hA=>?_);rw [show (inp.extract ((((n:Nat):Int)+1).toNat) inp.size)=(inp.extract (n+1) inp.size) from by rw [show (((n:Nat):Int)+1).toNat=n+1 by omega]] at hA;refine Ms 2 [str (inp.extract (n+1) inp.size)] 0 hA hO fun w1 hO=>Ab (Aa (sr 9 (Ka 1 [(25,str (inp.extract 0 n))] hA fun fr hA=>?_)));replace hO:Ow Tryz.prog M w w1 ([(pb,39,(cS mo po (inp.extract (n+1) inp.size) pj lj.length kj rd wr pv pn ln.length kn pp lp.length kp))]++(T++([]))):=hO;refine Ag (mC (d:=(some 26)) hA Tryz.func111 ((dM (sv:=(inp.extract 0 n)) _ (Rh _ _ hm_i) hl).mono ?_))
 rintro en w2 ⟨p1,k1,l1,T1,T2,hj1,rfl,hT1,hT2,hW⟩;refine ⟨_,rfl,?_⟩;clear hA fr; intro fr hA;replace hO:=Ow.join hO hW; clear hW;replace hO:Ow Tryz.prog M w _ ([(pb,39,(cS mo po (inp.extract (n+1) inp.size) pj lj.length kj rd wr pv pn ln.length kn pp lp.length kp))]++(T++(T1++(T2++([]))))):=hO.to (by first | rfl | (simp only [TP,apd]));refine Ka 7 [(5,.slice p1 l1.length k1),(7,i64 0)] hA fun fr hA=>Ab (Aa (wp_seq (Sa [(31,bl false)] hA fun fr hA=>cF hA (wp_skip (Aa (rr 5 (Ka 4 [(37,.slice p1 l1.length k1),(39,pf pb 3)] hA fun fr hA=>Ms 3 [.slice p1 l1.length k1] 0 hA hO fun w3 hO=>Ab (Ff (cv [] hA ?_)))))))));have heq_:SV.d (⟨mo,po,inp.extract (n+1) inp.size,p1,k1,l1,rd,wr,pv,pn,kn,ln,pp,kp,lp⟩:SV)=Cz (SV.d (⟨mo,po,inp,pj,kj,lj,rd,wr,pv,pn,kn,ln,pp,kp,lp⟩:SV)) n:=by unfold Cz; simp only [SV.d]; rw [hl,hj1]
 have hvj_:=E1 hl;replace hO:Ow Tryz.prog M w w3 ([(pb,39,(cS mo po (inp.extract (n+1) inp.size) p1 l1.length k1 rd wr pv pn ln.length kn pp lp.length kp))]++(T++(T1++(T2++([]))))):=hO;exact ⟨(⟨mo,po,inp.extract (n+1) inp.size,p1,k1,l1,rd,wr,pv,pn,kn,ln,pp,kp,lp⟩:SV),(T1++(T2++([]))),heq_,⟨Rh _ _ hm.i,(by show smL 1000000 (l1.map JV.d); rw [hj1]; exact L2 hvj_),hm.k,hm.p,hm.ck,hT1.le,hm.cp⟩,(by show Aq (l1.map JV.d)=true; rw [hj1]; exact hvj_),rfl,(show Ow Tryz.prog M w _ ((pb,39,cS mo po (inp.extract (n+1) inp.size) p1 l1.length k1 rd wr pv pn ln.length kn pp lp.length kp)::(T++(T1++(T2++([]))))) from (hO).tt),((ok3 (T:=T++(T1++(T2++([])))) (x:=(⟨mo,po,inp.extract (n+1) inp.size,p1,k1,l1,rd,wr,pv,pn,kn,ln,pp,kp,lp⟩:SV)) (pH hT1 hT2).r ((hG.mono fun _ h_=>h_.k).l) ((hG.mono fun _ h_=>h_.p).l)).tt)⟩
theorem Z4 (pb:Nat) (mo po:Int) (inp:ByteArray) (pj:Option Addr) (kj:Nat) (lj:List JV) (rd wr pv:Int) (pn:Option Addr) (kn:Nat) (ln:List Int) (pp:Option Addr) (kp:Nat) (lp:List PV) (T:OwL) (n:Nat) (w:World) (hG:Ah T (SV.ok (⟨mo,po,inp,pj,kj,lj,rd,wr,pv,pn,kn,ln,pp,kp,lp⟩:SV))) (h0:Ow Tryz.prog (inT ((pb,39,cS mo po inp pj lj.length kj rd wr pv pn ln.length kn pp lp.length kp)::T)) w w ((pb,39,cS mo po inp pj lj.length kj rd wr pv pn ln.length kn pp lp.length kp)::T)) (hm:SV.sm (⟨mo,po,inp,pj,kj,lj,rd,wr,pv,pn,kn,ln,pp,kp,lp⟩:SV)) (hvl:Aq (lj.map JV.d)=true) (hp0:lp.length=0) (hn:n < inp.size):Calls Tryz.prog 92 #[pt pb,i64 ((n:Nat):Int)] w fun e w'=>∃ (v:SV) (Tn:OwL),v.d=Cz (SV.d (⟨mo,po,inp,pj,kj,lj,rd,wr,pv,pn,kn,ln,pp,kp,lp⟩:SV)) n/\v.sm/\Aq (v.lj.map JV.d)=true/\e = .returned (.tuple #[])/\Ow Tryz.prog (inT ((pb,39,cS mo po inp pj lj.length kj rd wr pv pn ln.length kn pp lp.length kp)::T)) w w' ((pb,39,v.cells)::(T++Tn))/\Ah (T++Tn) v.ok:=by
 cases hl:Dq false (inp.extract 0 n) with
 | error q=>obtain ⟨a,b⟩:=q; exact eM pb mo po inp pj kj lj rd wr pv pn kn ln pp kp lp T n w hG h0 hm hvl hp0 hn hl
 | ok js=>exact kJ pb mo po inp pj kj lj rd wr pv pn kn ln pp kp lp T n w hG h0 hm hvl hp0 hn hl
theorem Dc {s:StL} (h:Aq s.jobs=true):Aq (B0 s).1.jobs=true:=by
 have tl : ∀ {j:JobL} {r:List JobL},s.jobs=j::r->Aq r=true:=fun {j r} e=>by
  rw [e] at h
  unfold Aq at h ⊢
  rw [Bool.and_eq_true,List.all_cons,Bool.and_eq_true] at h
  rw [Bool.and_eq_true]
  exact ⟨h.1.2,qZ (by have:=qX h.2; rw [List.length_cons] at this; omega)⟩
 unfold B0
 split
 · exact h
 · rename_i j r e
   repeat' split
   all_goals first | exact h | exact tl e
theorem Gd {s s':StL} (h:B0 s=(s',none)) (hj : 0 < s.jobs.length):Kr s'+1=Kr s:=by
 unfold B0 at h
 split at h
 · rename_i e; rw [e] at hj; simp at hj
 rename_i j r e
 repeat' split at h
 all_goals (cases h; try (unfold Kr; rw [e]; simp only [List.length_cons]; omega))
theorem Fu {s:StL} {n:Nat} (h:n < s.inp.size) (hj:s.jobs.length=0) (hv:(Cz s n).jobs.length<=8):Kr (Cz s n)+1<=Kr s:=by
 have e:(Cz s n).inp=s.inp.extract (n+1) s.inp.size:=by unfold Cz; split <;> rfl
 unfold Kr
 rw [e,ByteArray.size_extract,hj]
 omega
theorem F9 {l:List JobL} (h:Aq l=true):l.length<=8:=by
 unfold Aq at h
 rw [Bool.and_eq_true] at h
 exact qX h.2
section
variable {s s':StL} {c:CallL} {r:List CallL} {f:Nat}
theorem Eh (h:s.plan=c::r):Do (f+1) s=({s with mode:=2},c):=by simp only [Do]; rw [h]
theorem Eg (h:s.plan=[]) (hj : 0 < s.jobs.length) (hs:B0 s=(s',some c)):Do (f+1) s=(s',c):=by
 simp only [Do]
 rw [h]
 cases hq:s.jobs with
 | nil=>rw [hq] at hj; simp at hj
 | cons j r=>simp only; rw [hs]
theorem Ei (h:s.plan=[]) (hj : 0 < s.jobs.length) (hs:B0 s=(s',none)):Do (f+1) s=Do f s':=by
 simp only [Do]
 rw [h]
 cases hq:s.jobs with
 | nil=>rw [hq] at hj; simp at hj
 | cons j r=>simp only; rw [hs]
theorem D0 (h:s.plan=[]) (hj:s.jobs=[]) (hn:nlI s.inp < 0):Do (f+1) s=({s with mode:=1},Ao 9 0 80):=by
 simp only [Do]
 rw [h,hj]
 simp only
 rw [if_pos hn]
theorem Ej (h:s.plan=[]) (hj:s.jobs=[]) (hn : ¬ nlI s.inp < 0):Do (f+1) s=Do f (Cz s (nlI s.inp).toNat):=by
 simp only [Do]
 rw [h,hj]
 simp only
 rw [if_neg hn]
end
theorem pV : ∀ (l:List UInt8) (c:UInt8),Lib.indexByte l c < 0\/Lib.indexByte l c < l.length:=by
 intro l c
 induction l with
 | nil=>left; simp [Lib.indexByte]
 | cons x r ih =>
  simp only [Lib.indexByte,List.length_cons]
  split
  · right; omega
  · split
    · left; omega
    · rcases ih with h | h
      · omega
      · right; omega
theorem Lk {s:ByteArray} (h : ¬ nlI s < 0):(nlI s).toNat < s.size:=by
 have:=pV s.data.toList 10
 rw [Ar] at this
 unfold nlI at h ⊢
 omega
theorem pX : ∀ (l:List UInt8) (c:UInt8),-1<=Lib.indexByte l c:=by
 intro l c
 induction l with
 | nil=>simp [Lib.indexByte]
 | cons x r ih =>
  simp only [Lib.indexByte]
  split
  · omega
  · split
    · omega
    · omega
theorem Bo (pb:Nat) (mo po:Int) (inp:ByteArray) (pj:Option Addr) (kj:Nat) (lj:List JV) (rd wr pv:Int) (pn:Option Addr) (kn:Nat) (ln:List Int) (pp:Option Addr) (kp:Nat) (lp:List PV) (T:OwL)  (w:World) (hG:Ah T (SV.ok (⟨mo,po,inp,pj,kj,lj,rd,wr,pv,pn,kn,ln,pp,kp,lp⟩:SV))) (h0:Ow Tryz.prog (inT ((pb,39,cS mo po inp pj lj.length kj rd wr pv pn ln.length kn pp lp.length kp)::T)) w w ((pb,39,cS mo po inp pj lj.length kj rd wr pv pn ln.length kn pp lp.length kp)::T)) (hm:SV.sm (⟨mo,po,inp,pj,kj,lj,rd,wr,pv,pn,kn,ln,pp,kp,lp⟩:SV)) (hvl:Aq (lj.map JV.d)=true) (hE : ∀ w',Only (inT ((pb,39,cS mo po inp pj lj.length kj rd wr pv pn ln.length kn pp lp.length kp)::T)) w w'->ErrOk w') :
 Calls Tryz.prog 61 #[pt pb] w fun e w'=>∃ (v:SV) (x:PV) (Tn:OwL),A3 (SV.d (⟨mo,po,inp,pj,kj,lj,rd,wr,pv,pn,kn,ln,pp,kp,lp⟩:SV))=(v.d,x.d)/\v.sm/\Aq (v.lj.map JV.d)=true/\e = .returned (.agg #[i64 x.d.call,i64 x.d.a0,i64 x.d.a1,i64 x.d.a2,.slice x.p x.d.data.length x.c])/\Ow Tryz.prog (inT ((pb,39,cS mo po inp pj lj.length kj rd wr pv pn ln.length kn pp lp.length kp)::T)) w w' ((pb,39,v.cells)::(T++Tn))/\Ah (T++Tn) v.ok/\Ah (T++Tn) (fun w=>VP w x):=by
 refine An (args:=[pt pb]) (m:=48) (n:=49) Tryz.func61 rfl (by kernel_rfl) (by kernel_rfl) fun fr hA=>?_;generalize inT ((pb,39,cS mo po inp pj lj.length kj rd wr pv pn ln.length kn pp lp.length kp)::T)=M at *;have hO:Ow Tryz.prog M w w ([(pb,39,(cS mo po inp pj lj.length kj rd wr pv pn ln.length kn pp lp.length kp))]++(T++([]))):=h0.to (by first | rfl | first | rfl | (simp only [TP,apd]));refine sr 1 (Mn [i64 0,i64 0,i64 0,i64 0,.slice none 0 0] 43 2 hA hO fun fr w1 b1 hA hO=>Ab (Aa (wp_block ?_)));have hGl:Ah (T++([]:OwL)) (SV.ok (⟨mo,po,inp,pj,kj,lj,rd,wr,pv,pn,kn,ln,pp,kp,lp⟩:SV)):=hG.l;refine Bg (fun mm fr W=>∃ (mo2 po2:Int) (inp2:ByteArray) (pj2:Option Addr) (kj2:Nat) (lj2:List JV) (rd2 wr2 pv2:Int) (pn2:Option Addr) (kn2:Nat) (ln2:List Int) (pp2:Option Addr) (kp2:Nat) (lp2:List PV) (f:Nat) (TL1:OwL),mm=1+f/\Holds 49 [] fr [(0,pt pb),(2,pt b1)]/\Ow Tryz.prog M w W ([(b1,43,[i64 0,i64 0,i64 0,i64 0,.slice none 0 0]),(pb,39,(cS mo2 po2 inp2 pj2 lj2.length kj2 rd2 wr2 pv2 pn2 ln2.length kn2 pp2 lp2.length kp2))]++((T++TL1)++([])))/\Ah (T++TL1) (SV.ok (⟨mo2,po2,inp2,pj2,kj2,lj2,rd2,wr2,pv2,pn2,kn2,ln2,pp2,kp2,lp2⟩:SV))/\Do f (SV.d (⟨mo2,po2,inp2,pj2,kj2,lj2,rd2,wr2,pv2,pn2,kn2,ln2,pp2,kp2,lp2⟩:SV))=A3 (SV.d (⟨mo,po,inp,pj,kj,lj,rd,wr,pv,pn,kn,ln,pp,kp,lp⟩:SV))/\Kr (SV.d (⟨mo2,po2,inp2,pj2,kj2,lj2,rd2,wr2,pv2,pn2,kn2,ln2,pp2,kp2,lp2⟩:SV))+2<=f/\SV.sm (⟨mo2,po2,inp2,pj2,kj2,lj2,rd2,wr2,pv2,pn2,kn2,ln2,pp2,kp2,lp2⟩:SV)/\Aq (lj2.map JV.d)=true/\True) ?_ ?_
 · exact ⟨_,mo,po,inp,pj,kj,lj,rd,wr,pv,pn,kn,ln,pp,kp,lp,Kr (SV.d (⟨mo,po,inp,pj,kj,lj,rd,wr,pv,pn,kn,ln,pp,kp,lp⟩:SV))+2,(([]:OwL)),rfl,hA.ss,hO.tt,hGl,rfl,(Nat.le_refl _),hm,hvl,trivial⟩
 rintro _ fr w2 ⟨mo2,po2,inp2,pj2,kj2,lj2,rd2,wr2,pv2,pn2,kn2,ln2,pp2,kp2,lp2,f,TL1,rfl,hA,hO,hTL1,hR,hf,hsm2,hvl2,-⟩;obtain ⟨f,rfl⟩ : ∃ j,f=j+1:=⟨f - 1,by omega⟩;have hpos2:=pX inp2.data.toList 10;have hpos2 : -1<=nlI inp2:=hpos2;refine wp_block (wp_seq (Sb [(11,bl (decide (((lp2.length:Nat):Int) > 0)))] hA [.slice pp2 lp2.length kp2] (cc (hO.l1 1 8 37 (.slice pp2 lp2.length kp2)) c0) fun fr hA=>?_));rcases qV (decide (((lp2.length:Nat):Int) > 0)) with h1 | h1
 · rw [h1] at hA;have h1p:=qX h1;obtain ⟨⟨qp,qc,qd⟩,rp,rfl⟩ : ∃ x r,lp2=x::r:=by cases lp2 with | nil=>(simp at h1) | cons x r=>exact ⟨x,r,rfl⟩
   have hokp:=(Ah.at (A:=[_,_]) hTL1 hO.m);obtain ⟨ap,rfl⟩:=hokp.p.1.pos (Nat.zero_lt_succ _);refine cT hA (sr 4 (Ka 3 [(14,pt pb)] hA fun fr hA=>Ms 0 [i64 2] 1 hA hO fun w3 hO=>Ab (Aa (sr 7 (Kb 6 [(20,.agg #[i64 qd.call,i64 qd.a0,i64 qd.a1,i64 qd.a2,.slice qp qd.data.length qc])] hA [.slice (some ap) (((⟨qp,qc,qd⟩:PV)::rp).length) kp2,.agg #[i64 qd.call,i64 qd.a0,i64 qd.a1,i64 qd.a2,.slice qp qd.data.length qc]] (cc (hO.l1 1 8 37 (.slice (some ap) (((⟨qp,qc,qd⟩:PV)::rp).length) kp2)) (cc (⟨by omega,by omega⟩:(0:Int)<=0/\0 < ((((⟨qp,qc,qd⟩:PV)::rp).length:Nat):Int)) (cc (((((Ah.at (A:=[_,_]) hTL1 hO.m)).p.1).ldn C8 (rfl:(((⟨qp,qc,qd⟩:PV)::rp):List PV)[0]? = some ⟨qp,qc,qd⟩)):Ld Tryz.prog w3 (ap.add 0) 43 (.agg #[i64 qd.call,i64 qd.a0,i64 qd.a1,i64 qd.a2,.slice qp qd.data.length qc])) c0))) fun fr hA=>Ms 0 [i64 qd.call,i64 qd.a0,i64 qd.a1,i64 qd.a2,.slice qp qd.data.length qc] 0 hA hO fun w4 hO=>Ab (Aa (wp_ret (Ac (Ae (Ac (Ae (cR (cs:=[some (⟨b1,0,none⟩,43)]) (us:=[.agg #[i64 qd.call,i64 qd.a0,i64 qd.a1,i64 qd.a2,.slice qp qd.data.length qc]]) hA [.agg #[i64 qd.call,i64 qd.a0,i64 qd.a1,i64 qd.a2,.slice qp qd.data.length qc]] ⟨(hO.ln 0 0 43 [i64 qd.call,i64 qd.a0,i64 qd.a1,i64 qd.a2,.slice qp qd.data.length qc]),trivial⟩ ?_))))))))))));replace hO:Ow Tryz.prog M w w4 ([(b1,43,[i64 qd.call,i64 qd.a0,i64 qd.a1,i64 qd.a2,.slice qp qd.data.length qc]),(pb,39,(cS 2 po2 inp2 pj2 lj2.length kj2 rd2 wr2 pv2 pn2 ln2.length kn2 (some ap) (((⟨qp,qc,qd⟩:PV)::rp).length) kp2))]++((T++TL1)++([]))):=hO
   exact ⟨(⟨2,po2,inp2,pj2,kj2,lj2,rd2,wr2,pv2,pn2,kn2,ln2,some ap,kp2,((⟨qp,qc,qd⟩:PV)::rp)⟩:SV),⟨qp,qc,qd⟩,(TL1++([])),hR.symm.trans (Eh (s:=SV.d (⟨mo2,po2,inp2,pj2,kj2,lj2,rd2,wr2,pv2,pn2,kn2,ln2,some ap,kp2,((⟨qp,qc,qd⟩:PV)::rp)⟩:SV)) rfl),⟨hsm2.i,hsm2.j,hsm2.k,hsm2.p,hsm2.ck,hsm2.cj,hsm2.cp⟩,hvl2,rfl,(show Ow Tryz.prog M w _ ((pb,39,cS 2 po2 inp2 pj2 lj2.length kj2 rd2 wr2 pv2 pn2 ln2.length kn2 (some ap) (((⟨qp,qc,qd⟩:PV)::rp).length) kp2)::(T++(TL1++([])))) from ((Ow.subP (A:=[_,_]) hO (.cons _ (.cons_cons _ .slnil)))).tt),((ok3 (T:=(T++TL1)++([])) (x:=(⟨2,po2,inp2,pj2,kj2,lj2,rd2,wr2,pv2,pn2,kn2,ln2,some ap,kp2,((⟨qp,qc,qd⟩:PV)::rp)⟩:SV)) ((hTL1.mono fun _ h_=>h_.j).l) ((hTL1.mono fun _ h_=>h_.k).l) ((hTL1.mono fun _ h_=>h_.p).l)).tt),((hTL1.mono fun _ h_=>h_.p.2 _ List.mem_cons_self).tt)⟩
 rw [h1] at hA;have h1p:=qY h1;have hp0:lp2.length=0:=by omega
 have hpl:(SV.d (⟨mo2,po2,inp2,pj2,kj2,lj2,rd2,wr2,pv2,pn2,kn2,ln2,pp2,kp2,lp2⟩:SV)).plan=[]:=by show lp2.map PV.d=[]; rw [List.length_eq_zero_iff.1 hp0]; rfl
 refine cF hA (wp_skip (Aa (wp_seq (Sb [(26,bl (decide (((lj2.length:Nat):Int) > 0)))] hA [.slice pj2 lj2.length kj2] (cc (hO.l1 1 3 36 (.slice pj2 lj2.length kj2)) c0) fun fr hA=>?_))));rcases qV (decide (((lj2.length:Nat):Int) > 0)) with h2 | h2
 · rw [h2] at hA;have h2p:=qX h2;obtain ⟨⟨xp,xc,xl,xb⟩,rj,rfl⟩ : ∃ x r,lj2=x::r:=by cases lj2 with | nil=>(simp at h2) | cons x r=>exact ⟨x,r,rfl⟩
   obtain ⟨hxl,hxv⟩:=Ph hvl2;obtain ⟨⟨yp,yc,yd⟩,rc,rfl⟩ : ∃ y r,xl=y::r:=by cases xl with | nil=>(simp at hxl) | cons x r=>exact ⟨x,r,rfl⟩
   obtain ⟨hwl,hws⟩:=Hj (hxv ⟨yp,yc,yd⟩ List.mem_cons_self);have hokj:=(Ah.at (A:=[_,_]) hTL1 hO.m);obtain ⟨aj,rfl⟩:=hokj.j.1.pos (Nat.zero_lt_succ _);obtain ⟨ax,rfl⟩:=(hokj.j.2 _ List.mem_cons_self).1.pos (Nat.zero_lt_succ _);obtain ⟨ay,rfl⟩:=((hokj.j.2 _ List.mem_cons_self).2 _ List.mem_cons_self).pos hwl.1;clear hokj;have hjp : 0 < (SV.d (⟨mo2,po2,inp2,some aj,kj2,((⟨some ax,xc,(⟨some ay,yc,yd⟩::rc),xb⟩:JV)::rj),rd2,wr2,pv2,pn2,kn2,ln2,pp2,kp2,lp2⟩:SV)).jobs.length:=Nat.zero_lt_succ _;refine cT hA (wp_seq (sr 8 (Ka 1 [(28,pt pb)] hA fun fr hA=>Ag (mC (d:=(some 29)) hA Tryz.func90 ((cL pb mo2 po2 inp2 aj kj2 ax xc ay yc yd rc xb rj rd2 wr2 pv2 pn2 kn2 ln2 pp2 kp2 lp2 (T++TL1) _ hTL1 (Cg (A:=[_]) (hO.tt:Ow Tryz.prog M w _ (([(b1,43,[i64 0,i64 0,i64 0,i64 0,.slice none 0 0])]++[(pb,39,cS mo2 po2 inp2 (some aj) (((⟨some ax,xc,(⟨some ay,yc,yd⟩::rc),xb⟩:JV)::rj).length) kj2 rd2 wr2 pv2 pn2 ln2.length kn2 pp2 lp2.length kp2)])++((T++TL1)++[])))) hsm2 hvl2 (fun w_ k_=>hE w_ (Ow.pan (A:=[_]) ((hO.tt:Ow Tryz.prog M w _ (([(b1,43,[i64 0,i64 0,i64 0,i64 0,.slice none 0 0])]++[(pb,39,cS mo2 po2 inp2 (some aj) (((⟨some ax,xc,(⟨some ay,yc,yd⟩::rc),xb⟩:JV)::rj).length) kj2 rd2 wr2 pv2 pn2 ln2.length kn2 pp2 lp2.length kp2)])++((T++TL1)++[]))).tt) k_)) hp0).mono ?_)))));rintro en w5 ⟨⟨mo3,po3,inp3,pj3,kj3,lj3,rd3,wr3,pv3,pn3,kn3,ln3,pp3,kp3,lp3⟩,⟨cc_3,c0_3,c1_3,c2_3,cd_3⟩,b_3,T1,hj1,hcd1,hsm3,rfl,hW,hG1⟩;refine ⟨_,rfl,?_⟩;clear hA fr; intro fr hA
   replace hO:=Cu (A:=[(b1,43,[i64 0,i64 0,i64 0,i64 0,.slice none 0 0])]) (B:=[]) (T:=(T++TL1)) (Tn:=T1) (x':=(pb,39,cS mo3 po3 inp3 pj3 lj3.length kj3 rd3 wr3 pv3 pn3 ln3.length kn3 pp3 lp3.length kp3)) hO.tt hW; clear hW;replace hO:Ow Tryz.prog M w _ ([(b1,43,[i64 0,i64 0,i64 0,i64 0,.slice none 0 0]),(pb,39,(cS mo3 po3 inp3 pj3 lj3.length kj3 rd3 wr3 pv3 pn3 ln3.length kn3 pp3 lp3.length kp3))]++(((T++TL1)++T1)++([]))):=hO.to (by first | rfl | (simp only [TP,apd]));refine Ka 3 [(30,.agg #[i64 cc_3,i64 c0_3,i64 c1_3,i64 c2_3,.slice none 0 0]),(31,bl b_3)] hA fun fr hA=>Mn [i64 0,i64 0,i64 0,i64 0,.slice none 0 0] 43 3 hA hO fun fr w6 b2 hA hO=>Ms 0 [i64 cc_3,i64 c0_3,i64 c1_3,i64 c2_3,.slice none 0 0] 0 hA hO fun w7 hO=>Ka 1 [(4,bl b_3)] hA fun fr hA=>Ab (Aa (Sa [(32,bl b_3)] hA fun fr hA=>?_));rcases qV (b_3) with h3 | h3
   · rw [h3] at hA;rw [h3,if_pos rfl] at hj1;refine cT hA (sr 2 (Kb 1 [(33,.agg #[i64 cc_3,i64 c0_3,i64 c1_3,i64 c2_3,.slice none 0 0])] hA [.agg #[i64 cc_3,i64 c0_3,i64 c1_3,i64 c2_3,.slice none 0 0]] (cc (hO.ln 0 0 43 [i64 cc_3,i64 c0_3,i64 c1_3,i64 c2_3,.slice none 0 0]) c0) fun fr hA=>Ms 0 [i64 cc_3,i64 c0_3,i64 c1_3,i64 c2_3,.slice none 0 0] 1 hA hO fun w8 hO=>Ab (Aa (wp_ret (Ac (Ac (Ae (Ac (Ae (cR (cs:=[some (⟨b1,0,none⟩,43)]) (us:=[.agg #[i64 cc_3,i64 c0_3,i64 c1_3,i64 c2_3,.slice none 0 0]]) hA [.agg #[i64 cc_3,i64 c0_3,i64 c1_3,i64 c2_3,.slice none 0 0]] ⟨(hO.ln 1 0 43 [i64 cc_3,i64 c0_3,i64 c1_3,i64 c2_3,.slice none 0 0]),trivial⟩ ?_))))))))));have hcd_:cd_3=[]:=hcd1;subst hcd_;replace hO:Ow Tryz.prog M w w8 ([(b2,43,[i64 cc_3,i64 c0_3,i64 c1_3,i64 c2_3,.slice none 0 0]),(b1,43,[i64 cc_3,i64 c0_3,i64 c1_3,i64 c2_3,.slice none 0 0]),(pb,39,(cS mo3 po3 inp3 pj3 lj3.length kj3 rd3 wr3 pv3 pn3 ln3.length kn3 pp3 lp3.length kp3))]++(((T++TL1)++T1)++([]))):=hO
     exact ⟨(⟨mo3,po3,inp3,pj3,kj3,lj3,rd3,wr3,pv3,pn3,kn3,ln3,pp3,kp3,lp3⟩:SV),⟨none,0,⟨cc_3,c0_3,c1_3,c2_3,[]⟩⟩,(TL1++(T1++([]))),hR.symm.trans (Eg (s:=SV.d (⟨mo2,po2,inp2,some aj,kj2,((⟨some ax,xc,(⟨some ay,yc,yd⟩::rc),xb⟩:JV)::rj),rd2,wr2,pv2,pn2,kn2,ln2,pp2,kp2,lp2⟩:SV)) hpl hjp hj1),hsm3,(by have q_:=Dc (s:=SV.d (⟨mo2,po2,inp2,some aj,kj2,((⟨some ax,xc,(⟨some ay,yc,yd⟩::rc),xb⟩:JV)::rj),rd2,wr2,pv2,pn2,kn2,ln2,pp2,kp2,lp2⟩:SV)) hvl2; rw [hj1] at q_; exact q_),rfl,(show Ow Tryz.prog M w _ ((pb,39,cS mo3 po3 inp3 pj3 lj3.length kj3 rd3 wr3 pv3 pn3 ln3.length kn3 pp3 lp3.length kp3)::(T++(TL1++(T1++([]))))) from ((Ow.subP (A:=[_,_,_]) hO (.cons _ (.cons _ (.cons_cons _ .slnil))))).tt),((ok3 (T:=((T++TL1)++T1)++([])) (x:=(⟨mo3,po3,inp3,pj3,kj3,lj3,rd3,wr3,pv3,pn3,kn3,ln3,pp3,kp3,lp3⟩:SV)) ((hG1.mono fun _ h_=>h_.j).l) ((hG1.mono fun _ h_=>h_.k).l) ((hG1.mono fun _ h_=>h_.p).l)).tt),(fun _ _ _ _=>B8 (Bz _ _ _ _) _ _ (List.mem_singleton.2 rfl))⟩
   rw [h3] at hA;rw [h3,if_neg (by simp)] at hj1;refine cF hA (wp_skip (Aa (wp_exit (Aj (Ap (Aa ?_))))));replace hO:Ow Tryz.prog M w w7 ([(b2,43,[i64 cc_3,i64 c0_3,i64 c1_3,i64 c2_3,.slice none 0 0]),(b1,43,[i64 0,i64 0,i64 0,i64 0,.slice none 0 0]),(pb,39,(cS mo3 po3 inp3 pj3 lj3.length kj3 rd3 wr3 pv3 pn3 ln3.length kn3 pp3 lp3.length kp3))]++(((T++TL1)++T1)++([]))):=hO;have hGn:Ah (T++(TL1++T1)) (SV.ok (⟨mo3,po3,inp3,pj3,kj3,lj3,rd3,wr3,pv3,pn3,kn3,ln3,pp3,kp3,lp3⟩:SV)):=(hG1).to (by simp only [List.append_assoc]);replace hO:Ow Tryz.prog M w w7 ([(b2,43,[i64 cc_3,i64 c0_3,i64 c1_3,i64 c2_3,.slice none 0 0]),(b1,43,[i64 0,i64 0,i64 0,i64 0,.slice none 0 0]),(pb,39,(cS mo3 po3 inp3 pj3 lj3.length kj3 rd3 wr3 pv3 pn3 ln3.length kn3 pp3 lp3.length kp3))]++((T++(TL1++T1))++([]))):=hO.to (by first | rfl | (simp only [TP,apd]));exact ⟨_,by omega,mo3,po3,inp3,pj3,kj3,lj3,rd3,wr3,pv3,pn3,kn3,ln3,pp3,kp3,lp3,f,((TL1++T1)),rfl,hA.ss,(Ow.subP (A:=[_,_,_]) hO (.cons _ (.cons_cons _ (.cons_cons _ .slnil)))),hGn,(by have q_:=hj1; exact (Ei (s:=SV.d (⟨mo2,po2,inp2,some aj,kj2,((⟨some ax,xc,(⟨some ay,yc,yd⟩::rc),xb⟩:JV)::rj),rd2,wr2,pv2,pn2,kn2,ln2,pp2,kp2,lp2⟩:SV)) hpl hjp q_).symm.trans hR),(by have q_:=Gd hj1 hjp; omega),hsm3,(by have q_:=Dc (s:=SV.d (⟨mo2,po2,inp2,some aj,kj2,((⟨some ax,xc,(⟨some ay,yc,yd⟩::rc),xb⟩:JV)::rj),rd2,wr2,pv2,pn2,kn2,ln2,pp2,kp2,lp2⟩:SV)) hvl2; rw [hj1] at q_; exact q_),trivial⟩
 rw [h2] at hA;have h2p:=qY h2;have hjl:(SV.d (⟨mo2,po2,inp2,pj2,kj2,lj2,rd2,wr2,pv2,pn2,kn2,ln2,pp2,kp2,lp2⟩:SV)).jobs.length=0:=by show (lj2.map JV.d).length=0; rw [List.length_map]; omega
 have hjn:(SV.d (⟨mo2,po2,inp2,pj2,kj2,lj2,rd2,wr2,pv2,pn2,kn2,ln2,pp2,kp2,lp2⟩:SV)).jobs=[]:=List.length_eq_zero_iff.1 hjl;refine cF hA (wp_skip (Aa (sr 6 (Kb 4 [(37,str inp2)] hA [str inp2] (cc (hO.l1 1 2 9 (str inp2)) c0) fun fr hA=>Mk 38 hA hO Tryz.func91 (rs (Cq inp2 10 _) (congrArg (Value.int .i64) (rfl:Lib.indexByte inp2.data.toList (10:Int).toNat.toUInt8=nlI inp2))) fun fr w9 hA hO=>Ka 1 [(5,i64 (nlI inp2))] hA fun fr hA=>Ab (Aa (wp_seq (Sa [(40,bl (decide ((nlI inp2) < 0)))] hA fun fr hA=>?_)))))));rcases qV (decide ((nlI inp2) < 0)) with h4 | h4
 · rw [h4] at hA;have h4p:=qX h4;refine cT hA (sr 4 (Ka 3 [(43,pt pb)] hA fun fr hA=>Ms 0 [i64 1] 1 hA hO fun w10 hO=>Ab (Aa (sr 3 (Mv [i64 0,i64 80] 3 2 44 hA hO fun fr w11 b3 hA hO=>Mk 45 hA hO Tryz.func28 (Es 9 0 80 ⟨b3,0,none⟩ 2 _ ((hO.b 0).vw (off:=0) (xs:=[0,80]) (by kernel_rfl))) fun fr w12 hA hO=>Ms 0 [i64 9,i64 0,i64 80,i64 0,.slice none 0 0] 1 hA hO fun w13 hO=>Ab (Aa (wp_ret (Ac (Ae (Ac (Ae (cR (cs:=[some (⟨b1,0,none⟩,43)]) (us:=[.agg #[i64 9,i64 0,i64 80,i64 0,.slice none 0 0]]) hA [.agg #[i64 9,i64 0,i64 80,i64 0,.slice none 0 0]] ⟨(hO.ln 1 0 43 [i64 9,i64 0,i64 80,i64 0,.slice none 0 0]),trivial⟩ ?_))))))))))));replace hO:Ow Tryz.prog M w w13 ([(b3,3,[i64 0,i64 80]),(b1,43,[i64 9,i64 0,i64 80,i64 0,.slice none 0 0]),(pb,39,(cS 1 po2 inp2 pj2 lj2.length kj2 rd2 wr2 pv2 pn2 ln2.length kn2 pp2 lp2.length kp2))]++((T++TL1)++([]))):=hO
   exact ⟨(⟨1,po2,inp2,pj2,kj2,lj2,rd2,wr2,pv2,pn2,kn2,ln2,pp2,kp2,lp2⟩:SV),⟨none,0,Ao 9 0 80⟩,(TL1++([])),hR.symm.trans (D0 (s:=SV.d (⟨mo2,po2,inp2,pj2,kj2,lj2,rd2,wr2,pv2,pn2,kn2,ln2,pp2,kp2,lp2⟩:SV)) hpl hjn (by assumption)),⟨hsm2.i,hsm2.j,hsm2.k,hsm2.p,hsm2.ck,hsm2.cj,hsm2.cp⟩,hvl2,rfl,(show Ow Tryz.prog M w _ ((pb,39,cS 1 po2 inp2 pj2 lj2.length kj2 rd2 wr2 pv2 pn2 ln2.length kn2 pp2 lp2.length kp2)::(T++(TL1++([])))) from ((Ow.subP (A:=[_,_,_]) hO (.cons _ (.cons _ (.cons_cons _ .slnil))))).tt),((ok3 (T:=(T++TL1)++([])) (x:=(⟨1,po2,inp2,pj2,kj2,lj2,rd2,wr2,pv2,pn2,kn2,ln2,pp2,kp2,lp2⟩:SV)) ((hTL1.mono fun _ h_=>h_.j).l) ((hTL1.mono fun _ h_=>h_.k).l) ((hTL1.mono fun _ h_=>h_.p).l)).tt),(fun _ _ _ _=>B8 (Bz _ _ _ _) _ _ (List.mem_singleton.2 rfl))⟩
 rw [h4] at hA;have h4p:=qY h4;refine cF hA (wp_skip (Aa (rr 3 (Ka 2 [(46,pt pb),(47,i64 (nlI inp2))] hA fun fr hA=>Ag (mC (d:=(some 48)) hA Tryz.func92 (((show Calls Tryz.prog 92 #[pt pb,i64 (nlI inp2)] _ _ from (by have q_:=(Z4 pb mo2 po2 inp2 pj2 kj2 lj2 rd2 wr2 pv2 pn2 kn2 ln2 pp2 kp2 lp2 (T++TL1) (nlI inp2).toNat _ hTL1 (Cg (A:=[_]) (hO.tt:Ow Tryz.prog M w _ (([(b1,43,[i64 0,i64 0,i64 0,i64 0,.slice none 0 0])]++[(pb,39,cS mo2 po2 inp2 pj2 lj2.length kj2 rd2 wr2 pv2 pn2 ln2.length kn2 pp2 lp2.length kp2)])++((T++TL1)++[])))) hsm2 hvl2 hp0 (Lk (by omega))); rwa [show (((nlI inp2).toNat:Nat):Int)=nlI inp2 by omega] at q_))).mono ?_))))));rintro en w14 ⟨⟨mo4,po4,inp4,pj4,kj4,lj4,rd4,wr4,pv4,pn4,kn4,ln4,pp4,kp4,lp4⟩,T2,hl1,hsm4,hvl4,rfl,hW,hG2⟩;refine ⟨_,rfl,?_⟩;clear hA fr; intro fr hA;replace hO:=Cu (A:=[(b1,43,[i64 0,i64 0,i64 0,i64 0,.slice none 0 0])]) (B:=[]) (T:=(T++TL1)) (Tn:=T2) (x':=(pb,39,cS mo4 po4 inp4 pj4 lj4.length kj4 rd4 wr4 pv4 pn4 ln4.length kn4 pp4 lp4.length kp4)) hO.tt hW; clear hW;refine Ab (Ad (Aa ?_));have hGn:Ah (T++(TL1++T2)) (SV.ok (⟨mo4,po4,inp4,pj4,kj4,lj4,rd4,wr4,pv4,pn4,kn4,ln4,pp4,kp4,lp4⟩:SV)):=(hG2).to (by simp only [List.append_assoc])
 exact ⟨_,by omega,mo4,po4,inp4,pj4,kj4,lj4,rd4,wr4,pv4,pn4,kn4,ln4,pp4,kp4,lp4,f,((TL1++T2)),rfl,hA.ss,hO.tt,hGn,(by rw [hl1]; exact (Ej (s:=SV.d (⟨mo2,po2,inp2,pj2,kj2,lj2,rd2,wr2,pv2,pn2,kn2,ln2,pp2,kp2,lp2⟩:SV)) hpl hjn (by assumption)).symm.trans hR),(by have q_:=Fu (s:=SV.d (⟨mo2,po2,inp2,pj2,kj2,lj2,rd2,wr2,pv2,pn2,kn2,ln2,pp2,kp2,lp2⟩:SV)) (n:=(nlI inp2).toNat) (Lk (by assumption)) hjl (by rw [← hl1]; exact F9 hvl4); rw [hl1]; omega),hsm4,hvl4,trivial⟩
theorem K3 (pb:Nat) (mo po:Int) (inp:ByteArray) (pj:Option Addr) (kj:Nat) (lj:List JV) (rd wr pv:Int) (pn:Option Addr) (kn:Nat) (ln:List Int) (pp:Option Addr) (kp:Nat) (lp:List PV) (n:Int) (w:World) (h0:Ow Tryz.prog (inT [(pb,39,cS mo po inp pj lj.length kj rd wr pv pn ln.length kn pp lp.length kp)]) w w [(pb,39,cS mo po inp pj lj.length kj rd wr pv pn ln.length kn pp lp.length kp)]) :
 Calls Tryz.prog 93 #[pt pb,i64 n] w fun e w'=>e = .returned (.agg #[i64 0,i64 n,i64 0,i64 0,.slice none 0 0])/\Ow Tryz.prog (inT [(pb,39,cS mo po inp pj lj.length kj rd wr pv pn ln.length kn pp lp.length kp)]) w w' [(pb,39,cS 7 po inp pj lj.length kj rd wr pv pn ln.length kn pp lp.length kp)]:=by
 refine An (args:=[pt pb,i64 n]) (m:=9) (n:=11) Tryz.func93 rfl (by kernel_rfl) (by kernel_rfl) fun fr hA=>?_;generalize inT [(pb,39,cS mo po inp pj lj.length kj rd wr pv pn ln.length kn pp lp.length kp)]=M at *;have hO:Ow Tryz.prog M w w [(pb,39,(cS mo po inp pj lj.length kj rd wr pv pn ln.length kn pp lp.length kp))]:=h0.to (by first | rfl | first | rfl | (simp only [TP,apd]));exact sr 1 (Mn [i64 0,i64 0,i64 0,i64 0,.slice none 0 0] 43 4 hA hO fun fr w1 b1 hA hO=>Ab (Aa (sr 4 (Ka 3 [(7,pt pb)] hA fun fr hA=>Ms 0 [i64 7] 1 hA hO fun w2 hO=>Ab (Aa (sr 4 (Ka 1 [(8,i64 n)] hA fun fr hA=>Mv [i64 n] 3 1 9 hA hO fun fr w3 b2 hA hO=>Mk 10 hA hO Tryz.func28 (Dd 0 n ⟨b2,0,none⟩ 1 _ ((hO.b 0).vw (off:=0) (xs:=[n]) (by kernel_rfl))) fun fr w4 hA hO=>Ms 0 [i64 0,i64 n,i64 0,i64 0,.slice none 0 0] 1 hA hO fun w5 hO=>Ab (Aa (wp_ret (cR (cs:=[some (⟨b1,0,none⟩,43)]) (us:=[.agg #[i64 0,i64 n,i64 0,i64 0,.slice none 0 0]]) hA [.agg #[i64 0,i64 n,i64 0,i64 0,.slice none 0 0]] ⟨(hO.ln 1 0 43 [i64 0,i64 n,i64 0,i64 0,.slice none 0 0]),trivial⟩ (⟨rfl,(hO.sub [2])⟩)))))))))))
theorem N7 (pb:Nat) (mo po:Int) (inp:ByteArray) (pj:Option Addr) (kj:Nat) (lj:List JV) (rd wr pv:Int) (pn:Option Addr) (kn:Nat) (ln:List Int) (pp:Option Addr) (kp:Nat) (lp:List PV) (T:OwL)  (w:World) (hG:Ah T (SV.ok (⟨mo,po,inp,pj,kj,lj,rd,wr,pv,pn,kn,ln,pp,kp,lp⟩:SV))) (h0:Ow Tryz.prog (inT ((pb,39,cS mo po inp pj lj.length kj rd wr pv pn ln.length kn pp lp.length kp)::T)) w w ((pb,39,cS mo po inp pj lj.length kj rd wr pv pn ln.length kn pp lp.length kp)::T)) (hm:SV.sm (⟨mo,po,inp,pj,kj,lj,rd,wr,pv,pn,kn,ln,pp,kp,lp⟩:SV)) (hvl:Aq (lj.map JV.d)=true) (hE : ∀ w',Only (inT ((pb,39,cS mo po inp pj lj.length kj rd wr pv pn ln.length kn pp lp.length kp)::T)) w w'->ErrOk w') (hp0:lp.length=0) :
 Calls Tryz.prog 63 #[pt pb] w fun e w'=>∃ (v:SV) (x:PV) (Tn:OwL),upS (SV.d (⟨mo,po,inp,pj,kj,lj,rd,wr,pv,pn,kn,ln,pp,kp,lp⟩:SV))=(v.d,x.d)/\v.sm/\Aq (v.lj.map JV.d)=true/\e = .returned (.agg #[i64 x.d.call,i64 x.d.a0,i64 x.d.a1,i64 x.d.a2,.slice x.p x.d.data.length x.c])/\Ow Tryz.prog (inT ((pb,39,cS mo po inp pj lj.length kj rd wr pv pn ln.length kn pp lp.length kp)::T)) w w' ((pb,39,v.cells)::(T++Tn))/\Ah (T++Tn) v.ok/\Ah (T++Tn) (fun w=>VP w x):=by
 refine An (args:=[pt pb]) (m:=39) (n:=40) Tryz.func63 rfl (by kernel_rfl) (by kernel_rfl) fun fr hA=>?_;generalize inT ((pb,39,cS mo po inp pj lj.length kj rd wr pv pn ln.length kn pp lp.length kp)::T)=M at *;have hO:Ow Tryz.prog M w w ([(pb,39,(cS mo po inp pj lj.length kj rd wr pv pn ln.length kn pp lp.length kp))]++(T++([]))):=h0.to (by first | rfl | first | rfl | (simp only [TP,apd]));refine sr 1 (Mn [i64 0,i64 0,i64 0,i64 0,.slice none 0 0] 43 2 hA hO fun fr w1 b1 hA hO=>Ab (Aa (sJ (fun fr W=>∃ (pq:Option Addr) (kq:Nat) (lq:List PV) (Tq:OwL),Holds 40 [] fr [(0,pt pb),(2,pt b1)]/\Ow Tryz.prog M w W ([(b1,43,[i64 0,i64 0,i64 0,i64 0,.slice none 0 0]),(pb,39,(cS mo po inp pj lj.length kj rd wr pv pn ln.length kn pq lq.length kq))]++(T++(Tq++([]))))/\lq.map PV.d=lp.map PV.d++Bc [pv,rd,wr]/\lq.length<=kq/\lq.length<=lp.length+3/\Ah (T++Tq) (fun w_=>PL w_ (.slice pq lq.length kq) lq)/\True) ?_ ?_)))
 · rintro fr w2 ⟨pq,kq,lq,Tq,hA,hO,hdq,hcq,hlq,hGq,-⟩;refine sr 4 (Ka 1 [(18,pt pb)] hA fun fr hA=>?_);replace hO:Ow Tryz.prog M w w2 ([(b1,43,[i64 0,i64 0,i64 0,i64 0,.slice none 0 0]),(pb,39,(cS mo po inp pj lj.length kj rd wr pv pn ln.length kn pq lq.length kq))]++(T++(Tq++([])))):=hO;refine Ag (mC (d:=(some 19)) hA Tryz.func96 ((F2 _).mono ?_));rintro en w3 ⟨p1,c1,T1,rfl,hT1,hW⟩;refine ⟨_,rfl,?_⟩;clear hA fr; intro fr hA;replace hO:=Ow.join hO hW; clear hW;replace hO:Ow Tryz.prog M w _ ([(b1,43,[i64 0,i64 0,i64 0,i64 0,.slice none 0 0]),(pb,39,(cS mo po inp pj lj.length kj rd wr pv pn ln.length kn pq lq.length kq))]++(T++(Tq++(T1++([]))))):=hO.to (by first | rfl | (simp only [TP,apd]));refine Mv [i64 10,i64 2,i64 0,i64 0,.slice p1 (([63,10]:List Int).length) c1] 43 1 20 hA hO fun fr w4 b2 hA hO=>?_;replace hO:Ow Tryz.prog M w w4 ([(b2,43,[i64 10,i64 2,i64 0,i64 0,.slice p1 (([63,10]:List Int).length) c1]),(b1,43,[i64 0,i64 0,i64 0,i64 0,.slice none 0 0]),(pb,39,(cS mo po inp pj lj.length kj rd wr pv pn ln.length kn pq lq.length kq))]++(T++(Tq++(T1++([]))))):=hO
   refine Ag (mC (d:=(some 21)) hA Tryz.func95 ((Ko pb mo po inp pj kj lj rd wr pv pn kn ln pq kq lq ⟨p1,c1,⟨10,2,0,0,[63,10]⟩⟩ ⟨b2,0,none⟩ 1 _ (Ow.self (A:=[(b2,43,[i64 10,i64 2,i64 0,i64 0,.slice p1 (([63,10]:List Int).length) c1]),(b1,43,[i64 0,i64 0,i64 0,i64 0,.slice none 0 0])]) (T:=[(pb,39,cS mo po inp pj lj.length kj rd wr pv pn ln.length kn pq lq.length kq)]) (B:=([]++(T++(Tq++(T1++([])))))) (hO.tt)) (Yw (A:=[(b2,43,[i64 10,i64 2,i64 0,i64 0,.slice p1 (([63,10]:List Int).length) c1]),(b1,43,[i64 0,i64 0,i64 0,i64 0,.slice none 0 0])]) (B:=[]) (T:=T++(Tq++(T1++([])))) (Q:=(fun w_=>Vw fP w_ (.slice pq lq.length kq) lq)) ((Ah.l (T':=T1++([])) (hGq.mono fun _ h_=>h_.1)).to (by simp only [List.append_assoc])) (hO.tt:Ow Tryz.prog M w _ (([(b2,43,[i64 10,i64 2,i64 0,i64 0,.slice p1 (([63,10]:List Int).length) c1]),(b1,43,[i64 0,i64 0,i64 0,i64 0,.slice none 0 0])]++[(pb,39,cS mo po inp pj lj.length kj rd wr pv pn ln.length kn pq lq.length kq)])++((T++(Tq++(T1++([]))))++[])))) (fun w_ k_=>((S5 (A:=[(b2,43,[i64 10,i64 2,i64 0,i64 0,.slice p1 (([63,10]:List Int).length) c1]),(b1,43,[i64 0,i64 0,i64 0,i64 0,.slice none 0 0])]) (B:=[]) (T:=T++(Tq++(T1++([])))) (hO.tt:Ow Tryz.prog M w _ (([(b2,43,[i64 10,i64 2,i64 0,i64 0,.slice p1 (([63,10]:List Int).length) c1]),(b1,43,[i64 0,i64 0,i64 0,i64 0,.slice none 0 0])]++[(pb,39,cS mo po inp pj lj.length kj rd wr pv pn ln.length kn pq lq.length kq)])++((T++(Tq++(T1++([]))))++[]))) k_).b 0).vw (off:=0) (xs:=([⟨p1,c1,⟨10,2,0,0,[63,10]⟩⟩]:List PV)) (by kernel_rfl)) (by omega)).mono ?_))
   rintro en w5 ⟨rfl,p2,k1,T2,hT2,hW⟩;refine ⟨_,rfl,?_⟩;clear hA fr; intro fr hA;replace hO:=Ow.pass2 (A:=[_,_]) hO hW; clear hW;replace hO:Ow Tryz.prog M w w5 ([(b2,43,[i64 10,i64 2,i64 0,i64 0,.slice p1 (([63,10]:List Int).length) c1]),(b1,43,[i64 0,i64 0,i64 0,i64 0,.slice none 0 0]),(pb,39,(cS mo po inp pj lj.length kj rd wr pv pn ln.length kn p2 ((lq++([⟨p1,c1,⟨10,2,0,0,[63,10]⟩⟩]:List PV)).length) k1))]++(T++(Tq++(T1++(T2++([])))))):=hO.to (by first | rfl | (simp only [TP,apd]));have hcp_:(lq++([⟨p1,c1,⟨10,2,0,0,[63,10]⟩⟩]:List PV)).length<=k1:=hT2.le
   refine Ab (Aa (sr 20 (Kb 7 [(22,pt pb),(23,pt pb),(24,pt pb),(25,pt pb),(28,.agg #[i64 mo,i64 po,str inp,.slice pj lj.length kj,i64 rd,i64 wr,i64 pv,.slice pn ln.length kn,.slice p2 ((lq++([⟨p1,c1,⟨10,2,0,0,[63,10]⟩⟩]:List PV)).length) k1])] hA [.agg #[i64 mo,i64 po,str inp,.slice pj lj.length kj,i64 rd,i64 wr,i64 pv,.slice pn ln.length kn,.slice p2 ((lq++([⟨p1,c1,⟨10,2,0,0,[63,10]⟩⟩]:List PV)).length) k1]] (cc (hO.ln 2 0 39 (cS mo po inp pj lj.length kj rd wr pv pn ln.length kn p2 ((lq++([⟨p1,c1,⟨10,2,0,0,[63,10]⟩⟩]:List PV)).length) k1)) c0) fun fr hA=>Mk 29 hA hO Tryz.func47 (Di mo po inp pj kj lj rd wr pv pn kn ln p2 k1 (lq++([⟨p1,c1,⟨10,2,0,0,[63,10]⟩⟩]:List PV)) _ (Ah.at (A:=[(b2,43,[i64 10,i64 2,i64 0,i64 0,.slice p1 (([63,10]:List Int).length) c1]),(b1,43,[i64 0,i64 0,i64 0,i64 0,.slice none 0 0]),(pb,39,(cS mo po inp pj lj.length kj rd wr pv pn ln.length kn p2 ((lq++([⟨p1,c1,⟨10,2,0,0,[63,10]⟩⟩]:List PV)).length) k1))]) (B:=[]) (T:=T++(Tq++(T1++(T2++([]))))) (ok3 (T:=T++(Tq++(T1++(T2++([]))))) (x:=(⟨mo,po,inp,pj,kj,lj,rd,wr,pv,pn,kn,ln,p2,k1,lq++([⟨p1,c1,⟨10,2,0,0,[63,10]⟩⟩]:List PV)⟩:SV)) ((hG.mono fun _ h_=>h_.j).l) ((hG.mono fun _ h_=>h_.k).l) (Ns (T:=T++(Tq++(T1++(T2++([]))))) (hT2.holds.l.r.r.r) ((Ah.l (T':=T1++(T2++([]))) (hGq.mono fun _ h_=>h_.2)).to (by simp only [List.append_assoc])) (Hi (x:=⟨p1,c1,⟨10,2,0,0,[63,10]⟩⟩) (hT1.holds.l.r.r) H2))) (hO.to (by simp only [List.append_nil,List.append_assoc]):Ow Tryz.prog M w _ ([(b2,43,[i64 10,i64 2,i64 0,i64 0,.slice p1 (([63,10]:List Int).length) c1]),(b1,43,[i64 0,i64 0,i64 0,i64 0,.slice none 0 0]),(pb,39,(cS mo po inp pj lj.length kj rd wr pv pn ln.length kn p2 ((lq++([⟨p1,c1,⟨10,2,0,0,[63,10]⟩⟩]:List PV)).length) k1))]++(T++(Tq++(T1++(T2++([]))))++[]))).m)) fun fr w6 hA hO=>Ka 2 [(31,pf pb 4)] hA fun fr hA=>Ms 4 [i64 (-1)] 2 hA hO fun w7 hO=>Ka 2 [(33,pf pb 5)] hA fun fr hA=>Ms 5 [i64 (-1)] 2 hA hO fun w8 hO=>Ka 2 [(35,pf pb 6)] hA fun fr hA=>Ms 6 [i64 (-1)] 2 hA hO fun w9 hO=>Ka 2 [(37,pf pb 1)] hA fun fr hA=>Ms 1 [i64 ((Ca (lj.map JV.d):Nat):Int)] 2 hA hO fun w10 hO=>Ab (Aa (sr 3 (Ka 1 [(38,pt pb)] hA fun fr hA=>?_))))))
   replace hO:Ow Tryz.prog M w w10 ([(b2,43,[i64 10,i64 2,i64 0,i64 0,.slice p1 (([63,10]:List Int).length) c1]),(b1,43,[i64 0,i64 0,i64 0,i64 0,.slice none 0 0]),(pb,39,(cS mo ((Ca (lj.map JV.d):Nat):Int) inp pj lj.length kj (-1) (-1) (-1) pn ln.length kn p2 ((lq++([⟨p1,c1,⟨10,2,0,0,[63,10]⟩⟩]:List PV)).length) k1))]++(T++(Tq++(T1++(T2++([])))))):=hO;have hGm1:Ah (((T++Tq)++T1)++T2) (SV.ok (⟨mo,((Ca (lj.map JV.d):Nat):Int),inp,pj,kj,lj,(-1),(-1),(-1),pn,kn,ln,p2,k1,lq++([⟨p1,c1,⟨10,2,0,0,[63,10]⟩⟩]:List PV)⟩:SV)):=(ok3 (T:=T++(Tq++(T1++(T2++([]))))) (x:=(⟨mo,((Ca (lj.map JV.d):Nat):Int),inp,pj,kj,lj,(-1),(-1),(-1),pn,kn,ln,p2,k1,lq++([⟨p1,c1,⟨10,2,0,0,[63,10]⟩⟩]:List PV)⟩:SV)) ((hG.mono fun _ h_=>h_.j).l) ((hG.mono fun _ h_=>h_.k).l) (Ns (T:=T++(Tq++(T1++(T2++([]))))) (hT2.holds.l.r.r.r) ((Ah.l (T':=T1++(T2++([]))) (hGq.mono fun _ h_=>h_.2)).to (by simp only [List.append_assoc])) (Hi (x:=⟨p1,c1,⟨10,2,0,0,[63,10]⟩⟩) (hT1.holds.l.r.r) H2))).tt;replace hO:Ow Tryz.prog M w w10 ([(b2,43,[i64 10,i64 2,i64 0,i64 0,.slice p1 (([63,10]:List Int).length) c1]),(b1,43,[i64 0,i64 0,i64 0,i64 0,.slice none 0 0]),(pb,39,(cS mo ((Ca (lj.map JV.d):Nat):Int) inp pj lj.length kj (-1) (-1) (-1) pn ln.length kn p2 ((lq++([⟨p1,c1,⟨10,2,0,0,[63,10]⟩⟩]:List PV)).length) k1))]++((((T++Tq)++T1)++T2)++([]))):=hO.to (by first | rfl | (simp only [TP,apd]))
   refine Ag (mC (d:=(some 39)) hA Tryz.func61 ((Bo pb mo ((Ca (lj.map JV.d):Nat):Int) inp pj kj lj (-1) (-1) (-1) pn kn ln p2 k1 (lq++([⟨p1,c1,⟨10,2,0,0,[63,10]⟩⟩]:List PV)) (((T++Tq)++T1)++T2) _ hGm1 (Cg (A:=[_,_]) (hO.tt:Ow Tryz.prog M w _ (([(b2,43,[i64 10,i64 2,i64 0,i64 0,.slice p1 (([63,10]:List Int).length) c1]),(b1,43,[i64 0,i64 0,i64 0,i64 0,.slice none 0 0])]++[(pb,39,cS mo ((Ca (lj.map JV.d):Nat):Int) inp pj lj.length kj (-1) (-1) (-1) pn ln.length kn p2 ((lq++([⟨p1,c1,⟨10,2,0,0,[63,10]⟩⟩]:List PV)).length) k1)])++((((T++Tq)++T1)++T2)++[])))) ⟨hm.i,hm.j,hm.k,(by show (lq++[_]).length<=_; rw [List.length_append]; show lq.length+1<=_; omega),hm.ck,hm.cj,hcp_⟩ hvl (fun w_ k_=>hE w_ (Ow.pan (A:=[_,_]) ((hO.tt:Ow Tryz.prog M w _ (([(b2,43,[i64 10,i64 2,i64 0,i64 0,.slice p1 (([63,10]:List Int).length) c1]),(b1,43,[i64 0,i64 0,i64 0,i64 0,.slice none 0 0])]++[(pb,39,cS mo ((Ca (lj.map JV.d):Nat):Int) inp pj lj.length kj (-1) (-1) (-1) pn ln.length kn p2 ((lq++([⟨p1,c1,⟨10,2,0,0,[63,10]⟩⟩]:List PV)).length) k1)])++((((T++Tq)++T1)++T2)++[]))).tt) k_))).mono ?_));rintro en w11 ⟨⟨mo3,po3,inp3,pj3,kj3,lj3,rd3,wr3,pv3,pn3,kn3,ln3,pp3,kp3,lp3⟩,⟨xp_3,xc_3,xd_3⟩,T3,hr1,hsm3,hvl3,rfl,hW,hG1,hvx1⟩;refine ⟨_,rfl,?_⟩;clear hA fr; intro fr hA
   replace hO:=Cu (A:=[(b2,43,[i64 10,i64 2,i64 0,i64 0,.slice p1 (([63,10]:List Int).length) c1]),(b1,43,[i64 0,i64 0,i64 0,i64 0,.slice none 0 0])]) (B:=[]) (T:=(((T++Tq)++T1)++T2)) (Tn:=T3) (x':=(pb,39,cS mo3 po3 inp3 pj3 lj3.length kj3 rd3 wr3 pv3 pn3 ln3.length kn3 pp3 lp3.length kp3)) (hO.to (by simp only [List.append_assoc,List.cons_append,List.nil_append]):Ow Tryz.prog M w _ (([(b2,43,[i64 10,i64 2,i64 0,i64 0,.slice p1 (([63,10]:List Int).length) c1]),(b1,43,[i64 0,i64 0,i64 0,i64 0,.slice none 0 0])]++[(pb,39,cS mo ((Ca (lj.map JV.d):Nat):Int) inp pj lj.length kj (-1) (-1) (-1) pn ln.length kn p2 ((lq++([⟨p1,c1,⟨10,2,0,0,[63,10]⟩⟩]:List PV)).length) k1)])++((((T++Tq)++T1)++T2)++[]))) hW; clear hW
   exact Ms 0 [i64 xd_3.call,i64 xd_3.a0,i64 xd_3.a1,i64 xd_3.a2,.slice xp_3 xd_3.data.length xc_3] 1 hA hO fun w12 hO=>Ab (Aa (wp_ret (cR (cs:=[some (⟨b1,0,none⟩,43)]) (us:=[.agg #[i64 xd_3.call,i64 xd_3.a0,i64 xd_3.a1,i64 xd_3.a2,.slice xp_3 xd_3.data.length xc_3]]) hA [.agg #[i64 xd_3.call,i64 xd_3.a0,i64 xd_3.a1,i64 xd_3.a2,.slice xp_3 xd_3.data.length xc_3]] ⟨(hO.ln 1 0 43 [i64 xd_3.call,i64 xd_3.a0,i64 xd_3.a1,i64 xd_3.a2,.slice xp_3 xd_3.data.length xc_3]),trivial⟩ (⟨(⟨mo3,po3,inp3,pj3,kj3,lj3,rd3,wr3,pv3,pn3,kn3,ln3,pp3,kp3,lp3⟩:SV),⟨xp_3,xc_3,xd_3⟩,(Tq++(T1++(T2++(T3++([]))))),(by have q_:=hr1; unfold upS; rw [← q_]; unfold SV.d; simp only [List.map_append,hdq]; rfl),hsm3,hvl3,rfl,(show Ow Tryz.prog M w _ ((pb,39,cS mo3 po3 inp3 pj3 lj3.length kj3 rd3 wr3 pv3 pn3 ln3.length kn3 pp3 lp3.length kp3)::(T++(Tq++(T1++(T2++(T3++([]))))))) from ((Ow.subP (A:=[_,_,_]) hO (.cons _ (.cons _ (.cons_cons _ .slnil))))).tt),((ok3 (T:=((((T++Tq)++T1)++T2)++T3)++([])) (x:=(⟨mo3,po3,inp3,pj3,kj3,lj3,rd3,wr3,pv3,pn3,kn3,ln3,pp3,kp3,lp3⟩:SV)) ((hG1.mono fun _ h_=>h_.j).l) ((hG1.mono fun _ h_=>h_.k).l) ((hG1.mono fun _ h_=>h_.p).l)).tt),(hvx1).tt⟩))))
 have hS:=hO.pk [0];refine rT (.q 0 (.q 1 (.q 2 (.q 3 (.q 5 (.q 6 (.q 7 (.q 9 (.q 10 (.q 11 (.m 4 (.m 8 (.m 12 (.m 13 (.m 14 .fin .non) .non) .non) (.m 12 (.m 8 (.m 13 (.m 14 .fin .non) .non) .non) .non)) (.m 8 (.m 4 (.m 12 (.m 13 (.m 14 .fin .non) .non) .non) (.m 12 (.m 4 (.m 13 (.m 14 .fin .non) .non) .non) .non)) (.m 12 (.m 4 (.m 8 (.m 13 (.m 14 .fin .non) .non) .non) (.m 8 (.m 4 (.m 13 (.m 14 .fin .non) .non) .non) .non)) .non))))))))))))) hS ?_;intro w13 ho; replace hO:=hO.st ho; clear ho;refine Ay (t1:= .m 12 (.m 13 (.m 14 .fin .non) .non) .non) (fun fr W=>Holds 40 [] fr [(0,pt pb),(2,pt b1),(3,pt pb),(7,i64 pv),(11,i64 rd),(14,pf pb 5)]/\Ow Tryz.prog M w W ([(b1,43,[i64 0,i64 0,i64 0,i64 0,.slice none 0 0]),(pb,39,(cS mo po inp pj lj.length kj rd wr pv pn ln.length kn pp lp.length kp))]++(T++([])))/\True) ?_ ?_
 · rintro fr w14 ⟨hA,hO,-⟩;refine Af ?_ ?_
   · refine (Qc [(15,i64 wr)] hA [i64 wr] (cc (hO.l1 1 5 3 (i64 wr)) c0) fun fr hA=>⟨(hO.sub [0]),?_⟩);refine Af ?_ ?_
     · refine (mN (l:=[i64 pv,i64 rd,i64 wr]) (t:=3) (v:=fun b=> .slice (some ⟨b,0,none⟩) 3 3) (d:=16) hA hO fun fr w15 b3 hA hO=>⟨(hO.sub [1]),?_⟩);refine Af ?_ ?_
       · replace hO:Ow Tryz.prog M w w15 ([(b3,3,[i64 pv,i64 rd,i64 wr]),(b1,43,[i64 0,i64 0,i64 0,i64 0,.slice none 0 0]),(pb,39,(cS mo po inp pj lj.length kj rd wr pv pn ln.length kn pp lp.length kp))]++(T++([]))):=hO;refine (mC (d:=(some 17)) hA Tryz.func94 ((Hk pb mo po inp pj kj lj rd wr pv pn kn ln pp kp lp T ⟨b3,0,none⟩ 3 [pv,rd,wr] _ hG (Cg (A:=[_,_]) (hO.tt:Ow Tryz.prog M w _ (([(b3,3,[i64 pv,i64 rd,i64 wr]),(b1,43,[i64 0,i64 0,i64 0,i64 0,.slice none 0 0])]++[(pb,39,cS mo po inp pj lj.length kj rd wr pv pn ln.length kn pp lp.length kp)])++(T++[])))) (fun w_ k_=>((Nz (A:=[_,_]) (hO.tt:Ow Tryz.prog M w _ (([(b3,3,[i64 pv,i64 rd,i64 wr]),(b1,43,[i64 0,i64 0,i64 0,i64 0,.slice none 0 0])]++[(pb,39,cS mo po inp pj lj.length kj rd wr pv pn ln.length kn pp lp.length kp)])++(T++[]))) k_).b 0).vw (off:=0) (xs:=[pv,rd,wr]) (by kernel_rfl)) (by omega) (Nat.le_of_ble_eq_true (by kernel_rfl)) hm.cp).mono ?_));rintro en w16 ⟨rfl,p3,k2,lq1,T4,hd1,hcq1,hlq1,hW,hGq1⟩;refine ⟨_,rfl,?_⟩;clear hA fr; intro fr hA;replace hO:=Cu (A:=[_,_]) hO hW; clear hW;refine ⟨(hO.sub [1]),?_⟩;exact Ax (Aa (⟨p3,k2,lq1,T4,hA.sb,(Ow.subP (A:=[_,_,_]) hO (.cons _ (.cons_cons _ (.cons_cons _ .slnil)))),hd1,hcq1,hlq1,hGq1,trivial⟩))
       exact trivial
     exact trivial
   exact trivial
 intro ht1;refine Ay (t1:= .m 8 (.m 13 (.m 14 .fin .non) .non) .non) (fun fr W=>Holds 40 [] fr [(0,pt pb),(2,pt b1),(3,pt pb),(7,i64 pv),(10,pf pb 4),(15,i64 wr)]/\Ow Tryz.prog M w W ([(b1,43,[i64 0,i64 0,i64 0,i64 0,.slice none 0 0]),(pb,39,(cS mo po inp pj lj.length kj rd wr pv pn ln.length kn pp lp.length kp))]++(T++([])))/\True) ?_ ?_
 · rintro fr w17 ⟨hA,hO,-⟩;refine Af ?_ ?_
   · refine (Qc [(11,i64 rd)] hA [i64 rd] (cc (hO.l1 1 4 3 (i64 rd)) c0) fun fr hA=>⟨(hO.sub [0]),?_⟩);refine Af ?_ ?_
     · refine (mN (l:=[i64 pv,i64 rd,i64 wr]) (t:=3) (v:=fun b=> .slice (some ⟨b,0,none⟩) 3 3) (d:=16) hA hO fun fr w18 b4 hA hO=>⟨(hO.sub [1]),?_⟩);refine Af ?_ ?_
       · replace hO:Ow Tryz.prog M w w18 ([(b4,3,[i64 pv,i64 rd,i64 wr]),(b1,43,[i64 0,i64 0,i64 0,i64 0,.slice none 0 0]),(pb,39,(cS mo po inp pj lj.length kj rd wr pv pn ln.length kn pp lp.length kp))]++(T++([]))):=hO;refine (mC (d:=(some 17)) hA Tryz.func94 ((Hk pb mo po inp pj kj lj rd wr pv pn kn ln pp kp lp T ⟨b4,0,none⟩ 3 [pv,rd,wr] _ hG (Cg (A:=[_,_]) (hO.tt:Ow Tryz.prog M w _ (([(b4,3,[i64 pv,i64 rd,i64 wr]),(b1,43,[i64 0,i64 0,i64 0,i64 0,.slice none 0 0])]++[(pb,39,cS mo po inp pj lj.length kj rd wr pv pn ln.length kn pp lp.length kp)])++(T++[])))) (fun w_ k_=>((Nz (A:=[_,_]) (hO.tt:Ow Tryz.prog M w _ (([(b4,3,[i64 pv,i64 rd,i64 wr]),(b1,43,[i64 0,i64 0,i64 0,i64 0,.slice none 0 0])]++[(pb,39,cS mo po inp pj lj.length kj rd wr pv pn ln.length kn pp lp.length kp)])++(T++[]))) k_).b 0).vw (off:=0) (xs:=[pv,rd,wr]) (by kernel_rfl)) (by omega) (Nat.le_of_ble_eq_true (by kernel_rfl)) hm.cp).mono ?_));rintro en w19 ⟨rfl,p4,k3,lq2,T5,hd2,hcq2,hlq2,hW,hGq2⟩;refine ⟨_,rfl,?_⟩;clear hA fr; intro fr hA;replace hO:=Cu (A:=[_,_]) hO hW; clear hW;refine ⟨(hO.sub [1]),?_⟩;exact Ax (Aa (⟨p4,k3,lq2,T5,hA.sb,(Ow.subP (A:=[_,_,_]) hO (.cons _ (.cons_cons _ (.cons_cons _ .slnil)))),hd2,hcq2,hlq2,hGq2,trivial⟩))
       exact trivial
     exact trivial
   exact trivial
 intro ht2;refine Ay (t1:= .m 4 (.m 13 (.m 14 .fin .non) .non) .non) (fun fr W=>Holds 40 [] fr [(0,pt pb),(2,pt b1),(3,pt pb),(6,pf pb 6),(11,i64 rd),(15,i64 wr)]/\Ow Tryz.prog M w W ([(b1,43,[i64 0,i64 0,i64 0,i64 0,.slice none 0 0]),(pb,39,(cS mo po inp pj lj.length kj rd wr pv pn ln.length kn pp lp.length kp))]++(T++([])))/\True) ?_ ?_
 · rintro fr w20 ⟨hA,hO,-⟩;refine Af ?_ ?_
   · refine (Qc [(7,i64 pv)] hA [i64 pv] (cc (hO.l1 1 6 3 (i64 pv)) c0) fun fr hA=>⟨(hO.sub [0]),?_⟩);refine Af ?_ ?_
     · refine (mN (l:=[i64 pv,i64 rd,i64 wr]) (t:=3) (v:=fun b=> .slice (some ⟨b,0,none⟩) 3 3) (d:=16) hA hO fun fr w21 b5 hA hO=>⟨(hO.sub [1]),?_⟩);refine Af ?_ ?_
       · replace hO:Ow Tryz.prog M w w21 ([(b5,3,[i64 pv,i64 rd,i64 wr]),(b1,43,[i64 0,i64 0,i64 0,i64 0,.slice none 0 0]),(pb,39,(cS mo po inp pj lj.length kj rd wr pv pn ln.length kn pp lp.length kp))]++(T++([]))):=hO;refine (mC (d:=(some 17)) hA Tryz.func94 ((Hk pb mo po inp pj kj lj rd wr pv pn kn ln pp kp lp T ⟨b5,0,none⟩ 3 [pv,rd,wr] _ hG (Cg (A:=[_,_]) (hO.tt:Ow Tryz.prog M w _ (([(b5,3,[i64 pv,i64 rd,i64 wr]),(b1,43,[i64 0,i64 0,i64 0,i64 0,.slice none 0 0])]++[(pb,39,cS mo po inp pj lj.length kj rd wr pv pn ln.length kn pp lp.length kp)])++(T++[])))) (fun w_ k_=>((Nz (A:=[_,_]) (hO.tt:Ow Tryz.prog M w _ (([(b5,3,[i64 pv,i64 rd,i64 wr]),(b1,43,[i64 0,i64 0,i64 0,i64 0,.slice none 0 0])]++[(pb,39,cS mo po inp pj lj.length kj rd wr pv pn ln.length kn pp lp.length kp)])++(T++[]))) k_).b 0).vw (off:=0) (xs:=[pv,rd,wr]) (by kernel_rfl)) (by omega) (Nat.le_of_ble_eq_true (by kernel_rfl)) hm.cp).mono ?_));rintro en w22 ⟨rfl,p5,k4,lq3,T6,hd3,hcq3,hlq3,hW,hGq3⟩;refine ⟨_,rfl,?_⟩;clear hA fr; intro fr hA;replace hO:=Cu (A:=[_,_]) hO hW; clear hW;refine ⟨(hO.sub [1]),?_⟩;exact Ax (Aa (⟨p5,k4,lq3,T6,hA.sb,(Ow.subP (A:=[_,_,_]) hO (.cons _ (.cons_cons _ (.cons_cons _ .slnil)))),hd3,hcq3,hlq3,hGq3,trivial⟩))
       exact trivial
     exact trivial
   exact trivial
 intro ht3;refine Kt [0,1,2,3,5,6,7,9,10,11] [(3,pt pb),(6,pf pb 6),(10,pf pb 4),(14,pf pb 5)] hA [] c0 fun fr hA=>Af ?_ ?_
 · refine (Qc [(7,i64 pv)] hA [i64 pv] (cc (hO.l1 1 6 3 (i64 pv)) c0) fun fr hA=>⟨(hO.sub [0]),?_⟩);refine Af ?_ ?_
   · refine (Qc [(11,i64 rd)] hA [i64 rd] (cc (hO.l1 1 4 3 (i64 rd)) c0) fun fr hA=>⟨(hO.sub [0]),?_⟩);exact ht1 _ _ ⟨hA.sb,hO.tt,trivial⟩
   refine Af ?_ ?_
   · refine (Qc [(15,i64 wr)] hA [i64 wr] (cc (hO.l1 1 5 3 (i64 wr)) c0) fun fr hA=>⟨(hO.sub [0]),?_⟩);exact ht2 _ _ ⟨hA.sb,hO.tt,trivial⟩
   exact trivial
 refine Af ?_ ?_
 · refine (Qc [(11,i64 rd)] hA [i64 rd] (cc (hO.l1 1 4 3 (i64 rd)) c0) fun fr hA=>⟨(hO.sub [0]),?_⟩);refine Af ?_ ?_
   · refine (Qc [(7,i64 pv)] hA [i64 pv] (cc (hO.l1 1 6 3 (i64 pv)) c0) fun fr hA=>⟨(hO.sub [0]),?_⟩);exact ht1 _ _ ⟨hA.sb,hO.tt,trivial⟩
   refine Af ?_ ?_
   · refine (Qc [(15,i64 wr)] hA [i64 wr] (cc (hO.l1 1 5 3 (i64 wr)) c0) fun fr hA=>⟨(hO.sub [0]),?_⟩);exact ht3 _ _ ⟨hA.sb,hO.tt,trivial⟩
   exact trivial
 refine Af ?_ ?_
 · refine (Qc [(15,i64 wr)] hA [i64 wr] (cc (hO.l1 1 5 3 (i64 wr)) c0) fun fr hA=>⟨(hO.sub [0]),?_⟩);refine Af ?_ ?_
   · refine (Qc [(7,i64 pv)] hA [i64 pv] (cc (hO.l1 1 6 3 (i64 pv)) c0) fun fr hA=>⟨(hO.sub [0]),?_⟩);exact ht2 _ _ ⟨hA.sb,hO.tt,trivial⟩
   refine Af ?_ ?_
   · refine (Qc [(11,i64 rd)] hA [i64 rd] (cc (hO.l1 1 4 3 (i64 rd)) c0) fun fr hA=>⟨(hO.sub [0]),?_⟩);exact ht3 _ _ ⟨hA.sb,hO.tt,trivial⟩
   exact trivial
 exact trivial
end Go.Proofs.YtdljjajjonfjbaaGreatDoor
