import Derived.Test.YtdljjajjonfjbaaGreatDoorShBase
import Derived.Lib.Join
import Derived.Test.YtdljjajjonfjbaaGreatDoorParsf
import Derived.Test.YtdljjajjonfjbaaGreatDoorShh
import Derived.Test.YtdljjajjonfjbaaGreatDoorSn
set_option linter.unusedVariables false
set_option linter.unusedSimpArgs false
set_option maxRecDepth 10000
open Go.Proofs.Tryz renaming prog->sA
open List renaming length_append->sD,length_cons->sE,length_nil->sF,length_map->sG,append_assoc->sH,mem_cons_self->sK,not_mem_nil->sL,mem_singleton->sM,append_nil->sN,nil_append->sO,mem_cons_of_mem->sP,map_nil->sQ
open ByteArray renaming size_extract->sT
open Nat renaming zero_lt_succ->sU
open Bool renaming and_eq_true->sV
namespace Go.Proofs.YtdljjajjonfjbaaGreatDoor
open Go Go.Shelf Go.RowKit Go.Proofs Go.Proofs.Sx
def bA (l:List UInt8):ByteArray:=⟨l.toArray⟩
theorem Bn (l:List UInt8):(bA l).size=l.length:=by simp [bA,ByteArray.size]
theorem Nh (l:List UInt8):(bA l).data.toList=l:=by simp [bA]
theorem Dd (l:List UInt8) (s:ByteArray):bA l++s=bA (l++s.data.toList):=Dm (by rw [Nh,ByteArray.data_append,Array.toList_append,Nh])
theorem D3 (s t:ByteArray):(s++t).data.toList=s.data.toList++t.data.toList:=by rw [ByteArray.data_append,Array.toList_append]
def Xz (d:CmdL):List ByteArray:=(if d.inp.size=0 then [] else [⟨#[60]⟩,d.inp])++(if d.app=true then [⟨#[62,62]⟩,d.out] else if d.out.size=0 then [] else [⟨#[62]⟩,d.out])
def prC (d:CmdL):List UInt8:=Lib.join ((d.words++Xz d).map (·.data.toList)) [32]
theorem Ly {xs:List (List UInt8)} (h:xs≠[]) (y:List UInt8):Lib.join (xs++[y]) [32]=Lib.join xs [32]++(32::y):=by
 cases xs with
 | nil=>exact absurd rfl h
 | cons x r=>rw [List.cons_append,Lib.join_cons,Lib.join_cons]; simp [Lib.joinTail]
theorem C7 {s:ByteArray} (h:A3 s=true) : 1<=s.size/\s.size<=60:=by
 unfold A3 at h
 rw [sV] at h
 exact rV h.2
theorem Bu {s:ByteArray} (h:Cf s=true):s.size<=60:=by
 unfold Cf at h
 rw [Bool.or_eq_true] at h
 rcases h with h | h
 · have:=rV h; omega
 exact (C7 h).2
theorem Zh : ∀ (xs:List ByteArray),(∀ x∈xs,x.size<=60)->(Lib.join (xs.map (·.data.toList)) [32]).length<=xs.length*61
 | [],_=>by simp [Lib.join_nil]
 | x::r,h=>by
  rw [List.map_cons,Lib.join_cons]
  have hx:x.data.toList.length<=60:=by rw [Ar]; exact h x sK
  have ht : ∀ (q:List ByteArray),(∀ x∈q,x.size<=60)->(Lib.joinTail [32] (q.map (·.data.toList))).length<=q.length*61:=fun q hq=>by
   induction q with
   | nil=>simp [Lib.joinTail]
   | cons y q ih =>
    have hy:y.data.toList.length<=60:=by rw [Ar]; exact hq y sK
    have h2:=ih fun z hz=>hq z (sP _ hz)
    simp only [Lib.joinTail,List.map_cons,List.flatten_cons,sD,sE,sF] at h2 ⊢
    omega
  have:=ht r fun z hz=>h z (sP _ hz)
  rw [sD,sE]
  omega
theorem Az {d:CmdL} (h:Au d=true):(∀ u∈d.words,A3 u=true)/\(1<=d.words.length/\d.words.length<=4)/\Cf d.inp=true/\Cf d.out=true/\(d.app=true->d.out.size≠0):=by
 unfold Au at h
 simp only [sV,Bool.or_eq_true,Bool.not_eq_true',decide_eq_true_eq,decide_eq_false_iff_not,List.all_eq_true] at h
 refine ⟨h.1,h.2.1,h.2.2.1,h.2.2.2.1,fun ha=>?_⟩
 rcases h.2.2.2.2 with q | q
 · rw [ha] at q; cases q
 exact q
theorem nD (d:CmdL):(Xz d).length<=4:=by unfold Xz; split <;> split <;> (try split) <;> simp
theorem qV {d:CmdL} (h:Au d=true) : ∀ x∈d.words++Xz d,x.size<=60:=by
 obtain ⟨h1,_,h3,h4,_⟩:=Az h
 have hi:=Bu h3
 have ho:=Bu h4
 intro x hx
 rcases List.mem_append.1 hx with hx | hx
 · exact (C7 (h1 x hx)).2
 unfold Xz at hx
 have k1:(⟨#[60]⟩:ByteArray).size=1:=rfl
 have k2:(⟨#[62,62]⟩:ByteArray).size=2:=rfl
 have k3:(⟨#[62]⟩:ByteArray).size=1:=rfl
 rcases List.mem_append.1 hx with hx | hx
 · split at hx
   · simp at hx
   simp only [List.mem_cons,sL,or_false] at hx; rcases hx with rfl | rfl <;> omega
 split at hx
 · simp only [List.mem_cons,sL,or_false] at hx; rcases hx with rfl | rfl <;> omega
 split at hx
 · simp at hx
 simp only [List.mem_cons,sL,or_false] at hx; rcases hx with rfl | rfl <;> omega
theorem kP {d:CmdL} (h:Au d=true):(prC d).length<=488:=by
 have h1:=Zh _ (qV h)
 have h2:=(Az h).2.1
 have h3:=nD d
 rw [sD] at h1
 unfold prC
 omega
def qP:JobL:=⟨[],false⟩
def Aw (l:List CmdL):Nat->List UInt8
 | 0=>[]
 | k+1=>Aw l k++((if k=0 then [] else [32,124,32])++prC (l.getD k Fh))
def prJ (x:JobL):List UInt8:=Aw x.cmds x.cmds.length
def My (bg last:Bool):List UInt8:=if bg=true then (if last=true then [32,38] else [32,38,32]) else if last=true then [] else [59,32]
def prP (l:List JobL):Nat->List UInt8
 | 0=>[]
 | i+1=>prP l i++(prJ (l.getD i qP)++My (l.getD i qP).bg (decide (i+1=l.length)))
def prL (l:List JobL):List UInt8:=prP l l.length
theorem Ji {α:Type} {l:List α} {i:Nat} {x d : α} (h:l[i]? = some x):l.getD i d=x:=by rw [List.getD_eq_getElem?_getD,h]; rfl
theorem Lu {α β:Type} {f : α->β} {l:List α} {i:Nat} {x : α} (h:l[i]? = some x):(l.map f)[i]? = some (f x):=by rw [List.getElem?_map,h]; rfl
theorem Cc {xl:List CV} {k:Nat} {y:CV} (hy:xl[k]? = some y):Aw (xl.map CV.d) (k+1)=Aw (xl.map CV.d) k++((if k=0 then [] else [32,124,32])++prC y.d):=by
 simp only [Aw]; rw [Ji (Lu hy)]
theorem Hw {l:List JV} {i:Nat} {xp:Option Addr} {xc:Nat} {xl:List CV} {xb:Bool} (hx:l[i]? = some ⟨xp,xc,xl,xb⟩):prP (l.map JV.d) (i+1)=prP (l.map JV.d) i++(Aw (xl.map CV.d) xl.length++My xb (decide (i+1=l.length))):=by
 simp only [prP]
 rw [Ji (Lu hx),sG]
 show _++(Aw (xl.map CV.d) (xl.map CV.d).length++_)=_
 rw [sG]; rfl
theorem Dn {l:List JV} (h:Aq (l.map JV.d)=true):l.length<=8/\∀ x∈l,(1<=x.cmds.length/\x.cmds.length<=4)/\∀ y∈x.cmds,Au y.d=true:=by
 unfold Aq at h
 rw [sV,sG,List.all_map,List.all_eq_true] at h
 refine ⟨rV h.2,fun x hx=>?_⟩
 have h1:=h.1 x hx
 simp only [Function.comp,Bq,JV.d,sG,List.all_map,sV,decide_eq_true_eq,List.all_eq_true] at h1
 exact h1
theorem Nz {xl:List CV} (h : ∀ y∈xl,Au y.d=true) : ∀ k,k<=xl.length->(Aw (xl.map CV.d) k).length<=k*491
 | 0,_=>by simp [Aw]
 | k+1,hk=>by
  have h1:=Nz h k (by omega)
  have h2:=Bg xl CV0 (i:=k) (by omega)
  rw [Cc h2,sD,sD]
  have h3:=kP (h _ (List.mem_of_getElem? h2))
  split <;> simp only [sF,sE] <;> omega
theorem dK (a b:Bool):(My a b).length<=3:=by cases a <;> cases b <;> decide
theorem Rg {l:List JV} (h:Aq (l.map JV.d)=true) : ∀ i,i<=l.length->(prP (l.map JV.d) i).length<=i*1967
 | 0,_=>by simp [prP]
 | i+1,hi=>by
  have h1:=Rg h i (by omega)
  obtain ⟨⟨xp,xc,xl,xb⟩,hx⟩ : ∃ x,l[i]? = some x:=⟨_,Bg l JV0 (i:=i) (by omega)⟩
  obtain ⟨h3,h4⟩:(1<=xl.length/\xl.length<=4)/\∀ y∈xl,Au y.d=true:=(Dn h).2 _ (List.mem_of_getElem? hx)
  rw [Hw hx,sD,sD]
  have h5:=Nz h4 xl.length (Nat.le_refl _)
  have h6:=dK xb (decide (i+1=l.length))
  omega
theorem Qe {d:CmdL} {z:ByteArray} (hz:d.words[0]? = some z):Lib.join ((d.words.take 1).map (·.data.toList)) [32]=z.data.toList:=by
 cases hw:d.words with
 | nil=>rw [hw] at hz; simp at hz
 | cons x r=>rw [hw] at hz; simp at hz; subst hz; simp [Lib.join_one]
theorem Ob {d:CmdL} {z:ByteArray} {j:Nat} (hz:d.words[j]? = some z) (hj : 1<=j):Lib.join ((d.words.take (j+1)).map (·.data.toList)) [32]=Lib.join ((d.words.take j).map (·.data.toList)) [32]++(32::z.data.toList):=by
 have hlt:=(List.getElem?_eq_some_iff.1 hz).1
 rw [List.take_add_one,hz,List.map_append]
 refine Ly (fun h=>?_) _
 have:=congrArg List.length h
 rw [sG,List.length_take] at this
 simp only [sF] at this
 omega
theorem Ch {d:CmdL} {j:Nat} (hj : ¬ j < d.words.length):Lib.join ((d.words.take j).map (·.data.toList)) [32]=Lib.join (d.words.map (·.data.toList)) [32]:=by rw [List.take_of_length_le (by omega)]
theorem Qf {d:CmdL} (h:Au d=true) (j:Nat):(Lib.join ((d.words.take j).map (·.data.toList)) [32]).length<=244:=by
 have h1:=Az h
 have h2:=Zh (d.words.take j) fun x hx=>(C7 (h1.1 x (List.mem_of_mem_take hx))).2
 have h3:(d.words.take j).length<=4:=by rw [List.length_take]; omega
 omega
theorem Ev {d:CmdL} (h : 1<=d.words.length):prC d=Lib.join (d.words.map (·.data.toList)) [32]++((if d.inp.size=0 then [] else [32,60,32]++d.inp.data.toList)++(if d.app=true then [32,62,62,32]++d.out.data.toList else if d.out.size=0 then [] else [32,62,32]++d.out.data.toList)):=by
 have hne:d.words.map (·.data.toList)≠[]:=fun h0=>by have:=congrArg List.length h0; simp at this; rw [this] at h; simp at h
 have two : ∀ (xs:List (List UInt8)) (a b:List UInt8),xs≠[]->Lib.join (xs++[a,b]) [32]=Lib.join xs [32]++(32::a++(32::b)):=fun xs a b hx=>by
  rw [show xs++[a,b]=(xs++[a])++[b] by simp,Ly (by simp) b,Ly hx a]; simp
 unfold prC Xz
 rw [List.map_append,List.map_append]
 have k1:(⟨#[60]⟩:ByteArray).data.toList=[60]:=rfl
 have k2:(⟨#[62,62]⟩:ByteArray).data.toList=[62,62]:=rfl
 have k3:(⟨#[62]⟩:ByteArray).data.toList=[62]:=rfl
 by_cases hi:d.inp.size=0
 · rw [if_pos hi,if_pos hi]
   by_cases ha:d.app=true
   · rw [if_pos ha,if_pos ha]
     simp only [sQ,sO,List.map_cons,k2]
     rw [two _ _ _ hne]; simp
   · rw [if_neg ha,if_neg ha]
     by_cases ho:d.out.size=0
     · rw [if_pos ho,if_pos ho]; simp
     · rw [if_neg ho,if_neg ho]
       simp only [sQ,sO,List.map_cons,k3]
       rw [two _ _ _ hne]; simp
 · rw [if_neg hi,if_neg hi]
   have hne2:d.words.map (·.data.toList)++[[60],d.inp.data.toList]≠[]:=by simp
   by_cases ha:d.app=true
   · rw [if_pos ha,if_pos ha]
     simp only [sQ,List.map_cons,k1,k2]
     rw [← sH,two _ _ _ hne2,two _ _ _ hne]; simp
   · rw [if_neg ha,if_neg ha]
     by_cases ho:d.out.size=0
     · rw [if_pos ho,if_pos ho]
       simp only [sQ,List.map_cons,k1,sN]
       rw [two _ _ _ hne]; simp
     · rw [if_neg ho,if_neg ho]
       simp only [sQ,List.map_cons,k1,k3]
       rw [← sH,two _ _ _ hne2,two _ _ _ hne]; simp
open Go Go.RowKit Go.Proofs.Sx
section
variable {s:ByteArray}
theorem Y6 {s:ByteArray} : ∀ k,(∀ i,i < k->Bd (sb s i)=true)->okW s k=true
 | 0,_=>rfl
 | k+1,h=>by simp only [okW]; rw [Y6 k (fun i hi=>h i (by omega)),h k (by omega)]; rfl
theorem pG {n:Nat} (hk:kd s n=1) (hl:tl s n<=60):A3 (tk s n)=true:=by
 have h1:=Dv s n
 have h2:=Ef s n
 have h3:okW (tk s n) (tk s n).size=true:=Y6 _ fun i hi=>by
  rw [Mc (by omega)]
  have:=dN Bd s (s.size - n) n i (by have:Lj Bd s (s.size - n) n=wl s n:=rfl; omega)
  exact this.2
 rw [Hb h3]
 exact rY (by omega)
theorem Po {n m:Nat} {v:ByteArray} (h:Cw s n = .ok (v,m)):A3 v=true:=by
 unfold Cw at h
 split at h
 · cases h
 · split at h
   · cases h
   · cases h; exact pG (by omega) (by omega)
def S5 (d:CmdL):Prop:=(∀ u∈d.words,A3 u=true)/\d.words.length<=4/\Cf d.inp=true/\Cf d.out=true/\(d.app=true->d.out.size≠0)
theorem V8 {d:CmdL} (h:S5 d) (h1:d.words.length≠0):Au d=true :=
 Jy ⟨by omega,h.2.1⟩ h.2.2.1 h.2.2.2.1 h.2.2.2.2 (List.all_eq_true.2 h.1)
theorem Y3 {v:ByteArray} (h:A3 v=true):Cf v=true:=by unfold Cf; rw [h,Bool.or_true]
theorem V0 {c v:CmdL} {n m:Nat} (hp:S5 c) (h:Bo s c n = .ok (v,m)):S5 v:=by
 unfold Bo at h
 split at h
 · cases h
 · cases hw:Cw s (nx s n) with
   | error e=>rw [hw] at h; cases h
   | ok q =>
    obtain ⟨u,k⟩:=q
    rw [hw] at h
    have hu:=Po hw
    have hz:=(C7 hu).1
    cases h
    split
    · exact ⟨hp.1,hp.2.1,Y3 hu,hp.2.2.2.1,hp.2.2.2.2⟩
    · exact ⟨hp.1,hp.2.1,hp.2.2.1,Y3 hu,fun _=>by show u.size≠0; omega⟩
theorem Kf : ∀ (k:Nat) (c:CmdL) (n:Nat) (v:CmdL) (m:Nat),S5 c->n<=s.size->s.size - n < k->Ed false s k c n = .ok (v,m)->Au v=true
 | 0,_,n,_,_,_,_,hk,_=>by omega
 | k+1,c,n,v,m,hp,hn,hk,h=>by
  by_cases h1:kd s n=1
  · by_cases hl:c.words.length=4
    · rw [O1 h1 hl] at h; cases h
    · cases hw:Cw s n with
      | error e=>rw [Hg h1 hl hw] at h; cases h
      | ok q =>
       obtain ⟨u,m'⟩:=q
       rw [Gs h1 hl hw] at h
       obtain ⟨_,_,q3,q4,_⟩:=C1 hn hw
       refine Kf k ⟨c.words++[u],c.inp,c.out,c.app⟩ m' v m ⟨fun z hz=>?_,?_,hp.2.2⟩ q3 (by omega) h
       · rcases List.mem_append.1 hz with hz | hz
         · exact hp.1 z hz
         · rw [sM] at hz; subst hz; exact Po hw
       · have:=hp.2.1; simp only [sD,sE,sF]; omega
  · by_cases h2:kd s n=2\/kd s n=3\/kd s n=4
    · cases hr:Bo s c n with
      | error e=>rw [L5 h2 bV hr] at h; cases h
      | ok q =>
       obtain ⟨u,m'⟩:=q
       rw [O0 h2 bV hr] at h
       obtain ⟨_,q3,q4⟩:=Lk hn hr
       exact Kf k _ _ v m (V0 hp hr) q3 (by omega) h
    · by_cases hl:c.words.length=0
      · rw [Jk h1 (fun q=>h2 q.1) hl] at h; cases h
      · rw [O2 h1 (fun q=>h2 q.1) hl] at h
        cases h
        exact V8 hp hl
theorem part0:S5 Fh:=⟨fun u hu=>absurd hu sL,by decide,rfl,rfl,fun h=>by cases h⟩
theorem Oz {n m:Nat} {v:CmdL} (hn:n<=s.size) (h:H7 false s n = .ok (v,m)):Au v=true:=Kf _ _ n v m part0 hn (by omega) h
theorem U6 {soft:Bool} {n:Nat} {q:CmdL×Nat} (h:H7 soft s n = .ok q):Da (kd s n)=true:=by
 refine rY ?_
 rcases Classical.em (1<=kd s n/\kd s n<=4) with h1 | h1
 · exact h1
 · have:H7 soft s n = .error (n,3):=Jk (by omega) (fun q=>by omega) rfl
   rw [this] at h; cases h
theorem G9 : ∀ (k:Nat) (l:List CmdL) (n:Nat) (v:List CmdL) (m:Nat),(∀ c∈l,Au c=true)->1<=l.length->l.length<=4->n<=s.size->Gm false s k l n = .ok (v,m)->(∀ c∈v,Au c=true)/\1<=v.length/\v.length<=4
 | 0,l,n,v,m,h1,h2,h3,_,h=>by cases h; exact ⟨h1,h2,h3⟩
 | k+1,l,n,v,m,h1,h2,h3,hn,h=>by
  by_cases hk:kd s n=7
  · by_cases hl:l.length=4/\Da (kd s (nx s n))=true
    · rw [Od hk hl.1 hl.2] at h; cases h
    · cases hc:H7 false s (nx s n) with
      | error e=>rw [Fx hk hl hc] at h; cases h
      | ok q =>
       obtain ⟨c,m'⟩:=q
       rw [E9 hk hl hc] at h
       have hb:=U6 hc
       have hv:=Oz (Hn hn) hc
       have hm:m'<=s.size:=by
        have:=cmdF_le (s.size+1) Fh (nx s n) c m' (Hn hn) hc
        exact this
       refine G9 k _ _ v m (fun z hz=>?_) (by simp) ?_ hm h
       · rcases List.mem_append.1 hz with hz | hz
         · exact h1 z hz
         · rw [sM] at hz; subst hz; exact hv
       · have:l.length≠4:=fun e=>hl ⟨e,hb⟩
         simp only [sD,sE,sF]; omega
  · rw [Oe hk] at h; cases h; exact ⟨h1,h2,h3⟩
 where
  cmdF_le : ∀ (k:Nat) (c:CmdL) (n:Nat) (v:CmdL) (m:Nat),n<=s.size->Ed false s k c n = .ok (v,m)->m<=s.size
  | 0,c,n,v,m,hn,h=>by cases h; exact hn
  | k+1,c,n,v,m,hn,h=>by
   by_cases h1:kd s n=1
   · by_cases hl:c.words.length=4
     · rw [O1 h1 hl] at h; cases h
     · cases hw:Cw s n with
       | error e=>rw [Hg h1 hl hw] at h; cases h
       | ok q =>
        obtain ⟨u,m'⟩:=q
        rw [Gs h1 hl hw] at h
        exact cmdF_le k _ _ v m (C1 hn hw).2.2.1 h
   · by_cases h2:kd s n=2\/kd s n=3\/kd s n=4
     · cases hr:Bo s c n with
       | error e=>rw [L5 h2 bV hr] at h; cases h
       | ok q =>
        obtain ⟨u,m'⟩:=q
        rw [O0 h2 bV hr] at h
        exact cmdF_le k _ _ v m (Lk hn hr).2.1 h
     · by_cases hl:c.words.length=0
       · rw [Jk h1 (fun q=>h2 q.1) hl] at h; cases h
       · rw [O2 h1 (fun q=>h2 q.1) hl] at h; cases h; exact hn
theorem Zm : ∀ (k:Nat) (l:List CmdL) (n:Nat) (v:List CmdL) (m:Nat),n<=s.size->Gm false s k l n = .ok (v,m)->m<=s.size
 | 0,l,n,v,m,hn,h=>by cases h; exact hn
 | k+1,l,n,v,m,hn,h=>by
  by_cases hk:kd s n=7
  · by_cases hl:l.length=4/\Da (kd s (nx s n))=true
    · rw [Od hk hl.1 hl.2] at h; cases h
    · cases hc:H7 false s (nx s n) with
      | error e=>rw [Fx hk hl hc] at h; cases h
      | ok q =>
       obtain ⟨c,m'⟩:=q
       rw [E9 hk hl hc] at h
       exact Zm k _ _ v m (G9.cmdF_le (s.size+1) Fh _ c m' (Hn hn) hc) h
  · rw [Oe hk] at h; cases h; exact hn
theorem Xp {n m:Nat} {v:List CmdL} (hn:n<=s.size) (h:G8 false s n = .ok (v,m)):((∀ c∈v,Au c=true)/\1<=v.length/\v.length<=4)/\m<=s.size/\Da (kd s n)=true:=by
 unfold G8 at h
 cases hc:H7 false s n with
 | error e=>rw [hc] at h; cases h
 | ok q =>
  obtain ⟨c,m'⟩:=q
  rw [hc] at h
  have hm:=G9.cmdF_le (s.size+1) Fh n c m' hn hc
  exact ⟨G9 _ _ _ v m (fun z hz=>by rw [sM] at hz; subst hz; exact Oz hn hc) (by simp) (by simp) hm h,Zm _ _ _ v m hm h,U6 hc⟩
theorem bQ {cs:List CmdL} {b:Bool} (h:(∀ c∈cs,Au c=true)/\1<=cs.length/\cs.length<=4):Bq ⟨cs,b⟩=true:=by
 unfold Bq
 rw [rY h.2,Bool.true_and]
 exact List.all_eq_true.2 h.1
theorem Mh : ∀ (k:Nat) (l:List JobL) (n:Nat) (v:List JobL),(∀ x∈l,Bq x=true)->l.length<=8->n<=s.size->Dz false s k l n = .ok v->(∀ x∈v,Bq x=true)/\v.length<=8
 | 0,l,n,v,h1,h2,_,h=>by cases h; exact ⟨h1,h2⟩
 | k+1,l,n,v,h1,h2,hn,h=>by
  by_cases hlt:n < s.size
  · by_cases hl:l.length=8/\Da (kd s n)=true
    · rw [Qb hlt hl.1 hl.2] at h; cases h
    · cases hj:G8 false s n with
      | error e=>rw [J7 hlt hl hj] at h; cases h
      | ok q =>
       obtain ⟨cs,m⟩:=q
       obtain ⟨q1,q2,q3⟩:=Xp hn hj
       have h8:l.length≠8:=fun e=>hl ⟨e,q3⟩
       have hall : ∀ b,∀ x∈l++[(⟨cs,b⟩:JobL)],Bq x=true:=fun b x hx=>by
        rcases List.mem_append.1 hx with hx | hx
        · exact h1 x hx
        · rw [sM] at hx; subst hx; exact bQ q1
       have hlen : ∀ b,(l++[(⟨cs,b⟩:JobL)]).length<=8:=fun b=>by simp only [sD,sE,sF]; omega
       by_cases k0:kd s m=0
       · rw [J6 hlt hl hj k0] at h; cases h; exact ⟨hall _,hlen _⟩
       · by_cases k5:kd s m=5\/kd s m=6
         · rw [F2 hlt hl hj k5] at h
           exact Mh k _ _ v (hall _) (hlen _) (Hn q2) h
         · rw [Lw hlt hl hj (by omega)] at h; cases h
  · rw [G6 hlt] at h; cases h; exact ⟨h1,h2⟩
theorem E8 {v:List JobL} (h:Dy false s = .ok v):Aq v=true:=by
 obtain ⟨h1,h2⟩:=Mh _ _ _ v (fun x hx=>absurd hx sL) (by decide) (dG (Nat.zero_le _)) h
 unfold Aq
 rw [rY h2,Bool.and_true]
 exact List.all_eq_true.2 h1
theorem Ma {l:List JobL} (h:Aq l=true):smL 1000000 l:=by
 unfold Aq at h
 rw [sV,List.all_eq_true] at h
 refine ⟨by have:=rV h.2; omega,fun x hx=>?_⟩
 have h1:=h.1 x hx
 unfold Bq at h1
 rw [sV,List.all_eq_true] at h1
 refine ⟨by have:=rV h1.1; omega,fun c hc=>?_⟩
 obtain ⟨q1,q2,q3,q4,_⟩:=Az (h1.2 c hc)
 have:=Bu q3
 have:=Bu q4
 exact ⟨fun u hu=>by have:=(C7 (q1 u hu)).2; omega,by omega,by omega,by omega⟩
end
theorem R4 {s:ByteArray} {n:Nat} {e:Nat×Int} (h:Cw s n = .error e):e.2≠0:=by
 unfold Cw at h;split at h
 · cases h; simp
 split at h
 · cases h; simp
 cases h
theorem aO {s:ByteArray} {c:CmdL} {n:Nat} {e:Nat×Int} (h:Bo s c n = .error e):e.2≠0:=by
 unfold Bo at h;split at h
 · cases h; simp
 cases hw:Cw s (nx s n) with
 | error e'=>rw [hw] at h; cases h; exact R4 hw
 | ok q=>rw [hw] at h; cases h
theorem Nf {s:ByteArray} : ∀ (k:Nat) (c:CmdL) (n:Nat) (e:Nat×Int),Ed false s k c n = .error e->e.2≠0
 | 0,_,_,_,h=>by cases h
 | k+1,c,n,e,h=>by
  simp only [Ed] at h;split at h
  · split at h
    · cases h; simp
    · cases hw:Cw s n with
      | error e'=>rw [hw] at h; cases h; exact R4 hw
      | ok q=>rw [hw] at h; exact Nf k _ _ e h
  · split at h
    · cases hw:Bo s c n with
      | error e'=>rw [hw] at h; cases h; exact aO hw
      | ok q=>rw [hw] at h; exact Nf k _ _ e h
    · split at h
      · cases h; simp
      · cases h
theorem Zn {s:ByteArray} : ∀ (k:Nat) (l:List CmdL) (n:Nat) (e:Nat×Int),Gm false s k l n = .error e->e.2≠0
 | 0,_,_,_,h=>by cases h
 | k+1,l,n,e,h=>by
  simp only [Gm] at h;split at h
  · split at h
    · cases h; simp
    · cases hw:H7 false s (nx s n) with
      | error e'=>rw [hw] at h; cases h; exact Nf _ _ _ _ hw
      | ok q=>rw [hw] at h; exact Zn k _ _ e h
  · cases h
theorem lL {s:ByteArray} {n:Nat} {e:Nat×Int} (h:G8 false s n = .error e):e.2≠0:=by
 unfold G8 at h;cases hw:H7 false s n with
 | error e'=>rw [hw] at h; cases h; exact Nf _ _ _ _ hw
 | ok q=>rw [hw] at h; exact Zn _ _ _ e h
theorem Ue {s:ByteArray} : ∀ (k:Nat) (l:List JobL) (n:Nat) (e:Nat×Int),Dz false s k l n = .error e->e.2≠0
 | 0,_,_,_,h=>by cases h
 | k+1,l,n,e,h=>by
  simp only [Dz] at h;split at h
  · split at h
    · cases h; simp
    · cases hw:G8 false s n with
      | error e'=>rw [hw] at h; cases h; exact lL hw
      | ok q =>
       rw [hw] at h;simp only at h;split at h
       · cases h
       · split at h
         · exact Ue k _ _ e h
         · cases h; simp
  · cases h
theorem fU {s:ByteArray} {a:Nat} {b:Int} (h:Dy false s = .error (a,b)):(b != 0)=true:=by rw [bne_iff_ne]; exact Ue _ _ _ _ h
theorem qF {eJ eC:TypeId} {p:Option Addr} {k:Nat} {l:List JV} {T0 T1:OwL} (h0:One fJ eJ 2 p k l T0) (h1:InJ eC 9 l T1):Ah (T0++(T1++[])) fun w=>VL w (.slice p l.length k) l:=fun X w₀ w O =>
 ⟨h0.vw (A:=[]) (B:=T1++[]) O,InJ.view (A:=T0) (B:=[]) h1 O⟩
theorem aY {sv:ByteArray} {a:Nat} {b:Int} (w:World) (hs:sv.size<=1000000) (hl:Dy false sv = .error (a,b)):Calls sA 111 #[Y sv] w fun e w'=>e = .returned (.tuple #[.slice none 0 0,Z ((a:Nat):Int),Z b])/\Only Ai w w':=by
 refine (P3 sv w hs).mono fun e w' h=>?_;rcases h with ⟨a',b',h1,h2,h3⟩ | ⟨p,k,l,T0,T1,h1,_⟩
 · rw [hl] at h1; cases h1; exact ⟨h2,h3⟩
 rw [hl] at h1; cases h1
theorem eH {sv:ByteArray} {js:List JobL} (w:World) (hs:sv.size<=1000000) (hl:Dy false sv = .ok js):Calls sA 111 #[Y sv] w fun e w'=>∃ p k l T0 T1,l.map JV.d=js/\e = .returned (.tuple #[.slice p l.length k,Z 0,Z 0])/\One fJ 103 2 p k l T0/\InJ 104 9 l T1/\Ow sA Ai w w' (T0++T1):=by
 refine (P3 sv w hs).mono fun e w' h=>?_;rcases h with ⟨a',b',h1,h2,h3⟩ | ⟨p,k,l,T0,T1,h1,h2,h3,h4,h5,_⟩
 · rw [hl] at h1; cases h1
 rw [hl] at h1;exact ⟨p,k,l,T0,T1,(Except.ok.inj h1).symm,h2,h3,h4,h5⟩
theorem Rv {s:ByteArray} (a b:Nat) (h:s.size<=1000000):(s.extract a b).size<=1000000:=by rw [sT]; omega
theorem fQ (pb:Nat) (mo po:Int) (inp:ByteArray) (pj:Option Addr) (kj:Nat) (lj:List JV) (rd wr pv:Int) (pn:Option Addr) (kn:Nat) (ln:List Int) (pp:Option Addr) (kp:Nat) (lp:List PV) (T:OwL) (n:Nat) (w:World) (hG:Ah T (SV.ok (⟨mo,po,inp,pj,kj,lj,rd,wr,pv,pn,kn,ln,pp,kp,lp⟩:SV))) (h0:Ow sA (inT ((pb,39,cS mo po inp pj lj.length kj rd wr pv pn ln.length kn pp lp.length kp)::T)) w w ((pb,39,cS mo po inp pj lj.length kj rd wr pv pn ln.length kn pp lp.length kp)::T)) (hm:SV.sm (⟨mo,po,inp,pj,kj,lj,rd,wr,pv,pn,kn,ln,pp,kp,lp⟩:SV)) (hvl:Aq (lj.map JV.d)=true) (hp0:lp.length=0) (hn:n < inp.size) {a:Nat} {b:Int} (hl:Dy false (inp.extract 0 n) = .error (a,b)) :
 Calls sA 92 #[pt pb,Z ((n:Nat):Int)] w fun e w'=>∃ (v:SV) (Tn:OwL),v.d=C3 (SV.d (⟨mo,po,inp,pj,kj,lj,rd,wr,pv,pn,kn,ln,pp,kp,lp⟩:SV)) n/\v.sm/\Aq (v.lj.map JV.d)=true/\e = .returned (.tuple #[])/\Ow sA (inT ((pb,39,cS mo po inp pj lj.length kj rd wr pv pn ln.length kn pp lp.length kp)::T)) w w' ((pb,39,v.cells)::(T++Tn))/\Ah (T++Tn) v.ok:=by
 refine Ao (args:=[pt pb,Z ((n:Nat):Int)]) (m:=38) (n:=40) Tryz.func92 rfl (by kernel_rfl) (by kernel_rfl) fun J V=>?_;generalize inT ((pb,39,cS mo po inp pj lj.length kj rd wr pv pn ln.length kn pp lp.length kp)::T)=M at *;have O:Ow sA M w w ([(pb,39,(cS mo po inp pj lj.length kj rd wr pv pn ln.length kn pp lp.length kp))]++(T++([]))):=h0.to (by first | rfl | first | rfl | (simp only [TP,apd]));have hm_i:inp.size<=1000000:=hm.i;refine Sb [(4,Y (inp.extract 0 n))] V [Y inp] (cc (O.l1 0 2 9 (Y inp)) (cc (⟨by omega,by omega,by omega⟩:(0:Int)<=0/\(0:Int)<=((n:Nat):Int)/\(((n:Nat):Int):Int)<=((inp.size:Nat):Int)) c0)) fun J V=>sr 11 (Kb 10 [(21,Y (inp.extract ((((n:Nat):Int)+1).toNat) inp.size)),(23,pf pb 2)] V [Y inp,I true] (cc (O.l1 0 2 9 (Y inp)) (cc ((Am (by omega) (by omega)):inK .i64 (((n:Nat):Int)+1)) (cc (⟨by omega,by omega,by omega⟩:(0:Int)<=((n:Nat):Int)+1/\(((n:Nat):Int)+1:Int)<=((inp.size:Nat):Int)/\(((inp.size:Nat):Int):Int)<=((inp.size:Nat):Int)) c0))) fun J V=>?_);rw [show (inp.extract ((((n:Nat):Int)+1).toNat) inp.size)=(inp.extract (n+1) inp.size) from by rw [show (((n:Nat):Int)+1).toNat=n+1 by omega]] at V;refine Ms 2 [Y (inp.extract (n+1) inp.size)] 0 V O fun w1 O=>Ab (Aa (sr 9 (Ka 1 [(25,Y (inp.extract 0 n))] V fun J V=>Mk 26 V O Tryz.func111 (aY (sv:=(inp.extract 0 n)) _ (Rv _ _ hm_i) hl) fun J w2 V O=>Ka 7 [(5,.slice none 0 0),(7,Z b)] V fun J V=>Ab (Aa (wp_seq (Sa [(31,I (b != 0))] V fun J V=>?_))))));rw [(fU hl:(b != 0)=(true))] at V
 refine cT V (sr 4 (Ka 1 [(32,pt pb)] V fun J V=>?_));replace O:Ow sA M w w2 ([(pb,39,(cS mo po (inp.extract (n+1) inp.size) pj lj.length kj rd wr pv pn ln.length kn pp lp.length kp))]++(T++([]))):=O;refine Ag (mC (d:=(some 33)) V Tryz.func96 ((F9 _).mono ?_));rintro en w3 ⟨p1,c1,T1,rfl,hT1,hW⟩;refine ⟨_,rfl,?_⟩;clear V J; intro J V;replace O:=Ow.join O hW; clear hW;replace O:Ow sA M w _ ([(pb,39,(cS mo po (inp.extract (n+1) inp.size) pj lj.length kj rd wr pv pn ln.length kn pp lp.length kp))]++(T++(T1++([])))):=O.to (by first | rfl | (simp only [TP,apd]));refine Mv [Z 10,Z 2,Z 0,Z 0,.slice p1 (([63,10]:List Int).length) c1] 43 1 34 V O fun J w4 b1 V O=>?_;replace O:Ow sA M w w4 ([(b1,43,[Z 10,Z 2,Z 0,Z 0,.slice p1 (([63,10]:List Int).length) c1]),(pb,39,(cS mo po (inp.extract (n+1) inp.size) pj lj.length kj rd wr pv pn ln.length kn pp lp.length kp))]++(T++(T1++([])))):=O
 refine Ag (mC (d:=(some 35)) V Tryz.func95 ((Kv pb mo po (inp.extract (n+1) inp.size) pj kj lj rd wr pv pn kn ln pp kp lp ⟨p1,c1,⟨10,2,0,0,[63,10]⟩⟩ ⟨b1,0,none⟩ 1 _ (Ow.self (A:=[_]) (O.tt)) (Zb (A:=[_]) (Q:=(fun w_=>Vw fP w_ (.slice pp lp.length kp) lp)) ((hG.mono fun _ h_=>h_.p.1).l) (O.tt:Ow sA M w _ (([(b1,43,[Z 10,Z 2,Z 0,Z 0,.slice p1 (([63,10]:List Int).length) c1])]++[(pb,39,cS mo po (inp.extract (n+1) inp.size) pj lj.length kj rd wr pv pn ln.length kn pp lp.length kp)])++((T++(T1++([])))++[])))) (fun w_ k_=>((Tt (A:=[_]) (O.tt:Ow sA M w _ (([(b1,43,[Z 10,Z 2,Z 0,Z 0,.slice p1 (([63,10]:List Int).length) c1])]++[(pb,39,cS mo po (inp.extract (n+1) inp.size) pj lj.length kj rd wr pv pn ln.length kn pp lp.length kp)])++((T++(T1++([])))++[]))) k_).b 0).vw (off:=0) (xs:=([⟨p1,c1,⟨10,2,0,0,[63,10]⟩⟩]:List PV)) (by kernel_rfl)) (by omega)).mono ?_));rintro en w5 ⟨rfl,p2,k1,T2,hT2,hW⟩;refine ⟨_,rfl,?_⟩;clear V J; intro J V;replace O:=Ow.pass2 (A:=[_]) O hW; clear hW;replace O:Ow sA M w w5 ([(b1,43,[Z 10,Z 2,Z 0,Z 0,.slice p1 (([63,10]:List Int).length) c1]),(pb,39,(cS mo po (inp.extract (n+1) inp.size) pj lj.length kj rd wr pv pn ln.length kn p2 ((lp++([⟨p1,c1,⟨10,2,0,0,[63,10]⟩⟩]:List PV)).length) k1))]++(T++(T1++(T2++([]))))):=O.to (by first | rfl | (simp only [TP,apd]));refine Ab (Aa (wp_ret (Ad (cv [] V ?_))))
 have heq_:SV.d (⟨mo,po,inp.extract (n+1) inp.size,pj,kj,lj,rd,wr,pv,pn,kn,ln,p2,k1,lp++([⟨p1,c1,⟨10,2,0,0,[63,10]⟩⟩]:List PV)⟩:SV)=C3 (SV.d (⟨mo,po,inp,pj,kj,lj,rd,wr,pv,pn,kn,ln,pp,kp,lp⟩:SV)) n:=by unfold C3; simp only [SV.d]; rw [hl,List.map_append]; rfl
 replace O:Ow sA M w w5 ([(b1,43,[Z 10,Z 2,Z 0,Z 0,.slice p1 (([63,10]:List Int).length) c1]),(pb,39,(cS mo po (inp.extract (n+1) inp.size) pj lj.length kj rd wr pv pn ln.length kn p2 ((lp++([⟨p1,c1,⟨10,2,0,0,[63,10]⟩⟩]:List PV)).length) k1))]++(T++(T1++(T2++([]))))):=O;exact ⟨(⟨mo,po,inp.extract (n+1) inp.size,pj,kj,lj,rd,wr,pv,pn,kn,ln,p2,k1,lp++([⟨p1,c1,⟨10,2,0,0,[63,10]⟩⟩]:List PV)⟩:SV),(T1++(T2++([]))),heq_,⟨Rv _ _ hm.i,hm.j,hm.k,(by show (lp++[_]).length<=_; rw [sD,hp0]; show 0+1<=_; omega),hm.ck,hm.cj,hT2.le⟩,hvl,rfl,(show Ow sA M w _ ((pb,39,cS mo po (inp.extract (n+1) inp.size) pj lj.length kj rd wr pv pn ln.length kn p2 ((lp++([⟨p1,c1,⟨10,2,0,0,[63,10]⟩⟩]:List PV)).length) k1)::(T++(T1++(T2++([]))))) from ((Ow.subP (A:=[_,_]) O (.cons _ (.cons_cons _ .slnil)))).tt),((ok3 (T:=T++(T1++(T2++([])))) (x:=(⟨mo,po,inp.extract (n+1) inp.size,pj,kj,lj,rd,wr,pv,pn,kn,ln,p2,k1,lp++([⟨p1,c1,⟨10,2,0,0,[63,10]⟩⟩]:List PV)⟩:SV)) ((hG.mono fun _ h_=>h_.j).l) ((hG.mono fun _ h_=>h_.k).l) (N1 (T:=T++(T1++(T2++([])))) (hT2.holds.l.r.r) ((hG.mono fun _ h_=>h_.p.2).l) (Hq (x:=⟨p1,c1,⟨10,2,0,0,[63,10]⟩⟩) (hT1.holds.l.r) H9))).tt)⟩
theorem lD (pb:Nat) (mo po:Int) (inp:ByteArray) (pj:Option Addr) (kj:Nat) (lj:List JV) (rd wr pv:Int) (pn:Option Addr) (kn:Nat) (ln:List Int) (pp:Option Addr) (kp:Nat) (lp:List PV) (T:OwL) (n:Nat) (w:World) (hG:Ah T (SV.ok (⟨mo,po,inp,pj,kj,lj,rd,wr,pv,pn,kn,ln,pp,kp,lp⟩:SV))) (h0:Ow sA (inT ((pb,39,cS mo po inp pj lj.length kj rd wr pv pn ln.length kn pp lp.length kp)::T)) w w ((pb,39,cS mo po inp pj lj.length kj rd wr pv pn ln.length kn pp lp.length kp)::T)) (hm:SV.sm (⟨mo,po,inp,pj,kj,lj,rd,wr,pv,pn,kn,ln,pp,kp,lp⟩:SV)) (hvl:Aq (lj.map JV.d)=true) (hp0:lp.length=0) (hn:n < inp.size) {js:List JobL} (hl:Dy false (inp.extract 0 n) = .ok js) :
 Calls sA 92 #[pt pb,Z ((n:Nat):Int)] w fun e w'=>∃ (v:SV) (Tn:OwL),v.d=C3 (SV.d (⟨mo,po,inp,pj,kj,lj,rd,wr,pv,pn,kn,ln,pp,kp,lp⟩:SV)) n/\v.sm/\Aq (v.lj.map JV.d)=true/\e = .returned (.tuple #[])/\Ow sA (inT ((pb,39,cS mo po inp pj lj.length kj rd wr pv pn ln.length kn pp lp.length kp)::T)) w w' ((pb,39,v.cells)::(T++Tn))/\Ah (T++Tn) v.ok:=by
 refine Ao (args:=[pt pb,Z ((n:Nat):Int)]) (m:=38) (n:=40) Tryz.func92 rfl (by kernel_rfl) (by kernel_rfl) fun J V=>?_;generalize inT ((pb,39,cS mo po inp pj lj.length kj rd wr pv pn ln.length kn pp lp.length kp)::T)=M at *;have O:Ow sA M w w ([(pb,39,(cS mo po inp pj lj.length kj rd wr pv pn ln.length kn pp lp.length kp))]++(T++([]))):=h0.to (by first | rfl | first | rfl | (simp only [TP,apd]));have hm_i:inp.size<=1000000:=hm.i;refine Sb [(4,Y (inp.extract 0 n))] V [Y inp] (cc (O.l1 0 2 9 (Y inp)) (cc (⟨by omega,by omega,by omega⟩:(0:Int)<=0/\(0:Int)<=((n:Nat):Int)/\(((n:Nat):Int):Int)<=((inp.size:Nat):Int)) c0)) fun J V=>sr 11 (Kb 10 [(21,Y (inp.extract ((((n:Nat):Int)+1).toNat) inp.size)),(23,pf pb 2)] V [Y inp,I true] (cc (O.l1 0 2 9 (Y inp)) (cc ((Am (by omega) (by omega)):inK .i64 (((n:Nat):Int)+1)) (cc (⟨by omega,by omega,by omega⟩:(0:Int)<=((n:Nat):Int)+1/\(((n:Nat):Int)+1:Int)<=((inp.size:Nat):Int)/\(((inp.size:Nat):Int):Int)<=((inp.size:Nat):Int)) c0))) fun J V=>?_);rw [show (inp.extract ((((n:Nat):Int)+1).toNat) inp.size)=(inp.extract (n+1) inp.size) from by rw [show (((n:Nat):Int)+1).toNat=n+1 by omega]] at V;refine Ms 2 [Y (inp.extract (n+1) inp.size)] 0 V O fun w1 O=>Ab (Aa (sr 9 (Ka 1 [(25,Y (inp.extract 0 n))] V fun J V=>?_)));replace O:Ow sA M w w1 ([(pb,39,(cS mo po (inp.extract (n+1) inp.size) pj lj.length kj rd wr pv pn ln.length kn pp lp.length kp))]++(T++([]))):=O;refine Ag (mC (d:=(some 26)) V Tryz.func111 ((eH (sv:=(inp.extract 0 n)) _ (Rv _ _ hm_i) hl).mono ?_))
 rintro en w2 ⟨p1,k1,l1,T1,T2,hj1,rfl,hT1,hT2,hW⟩;refine ⟨_,rfl,?_⟩;clear V J; intro J V;replace O:=Ow.join O hW; clear hW;replace O:Ow sA M w _ ([(pb,39,(cS mo po (inp.extract (n+1) inp.size) pj lj.length kj rd wr pv pn ln.length kn pp lp.length kp))]++(T++(T1++(T2++([]))))):=O.to (by first | rfl | (simp only [TP,apd]));refine Ka 7 [(5,.slice p1 l1.length k1),(7,Z 0)] V fun J V=>Ab (Aa (wp_seq (Sa [(31,I false)] V fun J V=>cF V (wp_skip (Aa (rr 5 (Ka 4 [(37,.slice p1 l1.length k1),(39,pf pb 3)] V fun J V=>Ms 3 [.slice p1 l1.length k1] 0 V O fun w3 O=>Ab (Fq (cv [] V ?_)))))))));have heq_:SV.d (⟨mo,po,inp.extract (n+1) inp.size,p1,k1,l1,rd,wr,pv,pn,kn,ln,pp,kp,lp⟩:SV)=C3 (SV.d (⟨mo,po,inp,pj,kj,lj,rd,wr,pv,pn,kn,ln,pp,kp,lp⟩:SV)) n:=by unfold C3; simp only [SV.d]; rw [hl,hj1]
 have hvj_:=E8 hl;replace O:Ow sA M w w3 ([(pb,39,(cS mo po (inp.extract (n+1) inp.size) p1 l1.length k1 rd wr pv pn ln.length kn pp lp.length kp))]++(T++(T1++(T2++([]))))):=O;exact ⟨(⟨mo,po,inp.extract (n+1) inp.size,p1,k1,l1,rd,wr,pv,pn,kn,ln,pp,kp,lp⟩:SV),(T1++(T2++([]))),heq_,⟨Rv _ _ hm.i,(by show smL 1000000 (l1.map JV.d); rw [hj1]; exact Ma hvj_),hm.k,hm.p,hm.ck,hT1.le,hm.cp⟩,(by show Aq (l1.map JV.d)=true; rw [hj1]; exact hvj_),rfl,(show Ow sA M w _ ((pb,39,cS mo po (inp.extract (n+1) inp.size) p1 l1.length k1 rd wr pv pn ln.length kn pp lp.length kp)::(T++(T1++(T2++([]))))) from (O).tt),((ok3 (T:=T++(T1++(T2++([])))) (x:=(⟨mo,po,inp.extract (n+1) inp.size,p1,k1,l1,rd,wr,pv,pn,kn,ln,pp,kp,lp⟩:SV)) (qF hT1 hT2).r ((hG.mono fun _ h_=>h_.k).l) ((hG.mono fun _ h_=>h_.p).l)).tt)⟩
theorem aM (pb:Nat) (mo po:Int) (inp:ByteArray) (pj:Option Addr) (kj:Nat) (lj:List JV) (rd wr pv:Int) (pn:Option Addr) (kn:Nat) (ln:List Int) (pp:Option Addr) (kp:Nat) (lp:List PV) (T:OwL) (n:Nat) (w:World) (hG:Ah T (SV.ok (⟨mo,po,inp,pj,kj,lj,rd,wr,pv,pn,kn,ln,pp,kp,lp⟩:SV))) (h0:Ow sA (inT ((pb,39,cS mo po inp pj lj.length kj rd wr pv pn ln.length kn pp lp.length kp)::T)) w w ((pb,39,cS mo po inp pj lj.length kj rd wr pv pn ln.length kn pp lp.length kp)::T)) (hm:SV.sm (⟨mo,po,inp,pj,kj,lj,rd,wr,pv,pn,kn,ln,pp,kp,lp⟩:SV)) (hvl:Aq (lj.map JV.d)=true) (hp0:lp.length=0) (hn:n < inp.size):Calls sA 92 #[pt pb,Z ((n:Nat):Int)] w fun e w'=>∃ (v:SV) (Tn:OwL),v.d=C3 (SV.d (⟨mo,po,inp,pj,kj,lj,rd,wr,pv,pn,kn,ln,pp,kp,lp⟩:SV)) n/\v.sm/\Aq (v.lj.map JV.d)=true/\e = .returned (.tuple #[])/\Ow sA (inT ((pb,39,cS mo po inp pj lj.length kj rd wr pv pn ln.length kn pp lp.length kp)::T)) w w' ((pb,39,v.cells)::(T++Tn))/\Ah (T++Tn) v.ok:=by
 cases hl:Dy false (inp.extract 0 n) with
 | error q=>obtain ⟨a,b⟩:=q; exact fQ pb mo po inp pj kj lj rd wr pv pn kn ln pp kp lp T n w hG h0 hm hvl hp0 hn hl
 | ok js=>exact lD pb mo po inp pj kj lj rd wr pv pn kn ln pp kp lp T n w hG h0 hm hvl hp0 hn hl
theorem Di {s:StL} (h:Aq s.jobs=true):Aq (B6 s).1.jobs=true:=by
 have tl : ∀ {j:JobL} {r:List JobL},s.jobs=j::r->Aq r=true:=fun {j r} e=>by
  rw [e] at h
  unfold Aq at h ⊢
  rw [sV,List.all_cons,sV] at h
  rw [sV]
  exact ⟨h.1.2,rY (by have:=rV h.2; rw [sE] at this; omega)⟩
 unfold B6
 split
 · exact h
 · rename_i j r e
   repeat' split
   all_goals first | exact h | exact tl e
theorem Gk {s s':StL} (h:B6 s=(s',none)) (hj : 0 < s.jobs.length):Ky s'+1=Ky s:=by
 unfold B6 at h
 split at h
 · rename_i e; rw [e] at hj; simp at hj
 rename_i j r e
 repeat' split at h
 all_goals (cases h; try (unfold Ky; rw [e]; simp only [sE]; omega))
theorem F1 {s:StL} {n:Nat} (h:n < s.inp.size) (hj:s.jobs.length=0) (hv:(C3 s n).jobs.length<=8):Ky (C3 s n)+1<=Ky s:=by
 have e:(C3 s n).inp=s.inp.extract (n+1) s.inp.size:=by unfold C3; split <;> rfl
 unfold Ky
 rw [e,sT,hj]
 omega
theorem Gf {l:List JobL} (h:Aq l=true):l.length<=8:=by
 unfold Aq at h
 rw [sV] at h
 exact rV h.2
section
variable {s s':StL} {c:CallL} {r:List CallL} {f:Nat}
theorem Er (h:s.plan=c::r):Dw (f+1) s=({s with mode:=2},c):=by simp only [Dw]; rw [h]
theorem Ep (h:s.plan=[]) (hj : 0 < s.jobs.length) (hs:B6 s=(s',some c)):Dw (f+1) s=(s',c):=by
 simp only [Dw]
 rw [h]
 cases hq:s.jobs with
 | nil=>rw [hq] at hj; simp at hj
 | cons j r=>simp only; rw [hs]
theorem Es (h:s.plan=[]) (hj : 0 < s.jobs.length) (hs:B6 s=(s',none)):Dw (f+1) s=Dw f s':=by
 simp only [Dw]
 rw [h]
 cases hq:s.jobs with
 | nil=>rw [hq] at hj; simp at hj
 | cons j r=>simp only; rw [hs]
theorem D7 (h:s.plan=[]) (hj:s.jobs=[]) (hn:nlI s.inp < 0):Dw (f+1) s=({s with mode:=1},Ap 9 0 80):=by
 simp only [Dw]
 rw [h,hj]
 simp only
 rw [if_pos hn]
theorem Et (h:s.plan=[]) (hj:s.jobs=[]) (hn : ¬ nlI s.inp < 0):Dw (f+1) s=Dw f (C3 s (nlI s.inp).toNat):=by
 simp only [Dw]
 rw [h,hj]
 simp only
 rw [if_neg hn]
end
theorem qQ : ∀ (l:List UInt8) (c:UInt8),Lib.indexByte l c < 0\/Lib.indexByte l c < l.length:=by
 intro l c
 induction l with
 | nil=>left; simp [Lib.indexByte]
 | cons x r ih =>
  simp only [Lib.indexByte,sE]
  split
  · right; omega
  · split
    · left; omega
    · rcases ih with h | h
      · omega
      · right; omega
theorem Ls {s:ByteArray} (h : ¬ nlI s < 0):(nlI s).toNat < s.size:=by
 have:=qQ s.data.toList 10
 rw [Ar] at this
 unfold nlI at h ⊢
 omega
theorem qR : ∀ (l:List UInt8) (c:UInt8),-1<=Lib.indexByte l c:=by
 intro l c
 induction l with
 | nil=>simp [Lib.indexByte]
 | cons x r ih =>
  simp only [Lib.indexByte]
  split
  · omega
  · split
    · omega
    · omega
theorem Bs (pb:Nat) (mo po:Int) (inp:ByteArray) (pj:Option Addr) (kj:Nat) (lj:List JV) (rd wr pv:Int) (pn:Option Addr) (kn:Nat) (ln:List Int) (pp:Option Addr) (kp:Nat) (lp:List PV) (T:OwL)  (w:World) (hG:Ah T (SV.ok (⟨mo,po,inp,pj,kj,lj,rd,wr,pv,pn,kn,ln,pp,kp,lp⟩:SV))) (h0:Ow sA (inT ((pb,39,cS mo po inp pj lj.length kj rd wr pv pn ln.length kn pp lp.length kp)::T)) w w ((pb,39,cS mo po inp pj lj.length kj rd wr pv pn ln.length kn pp lp.length kp)::T)) (hm:SV.sm (⟨mo,po,inp,pj,kj,lj,rd,wr,pv,pn,kn,ln,pp,kp,lp⟩:SV)) (hvl:Aq (lj.map JV.d)=true) (hE : ∀ w',Only (inT ((pb,39,cS mo po inp pj lj.length kj rd wr pv pn ln.length kn pp lp.length kp)::T)) w w'->ErrOk w') :
 Calls sA 61 #[pt pb] w fun e w'=>∃ (v:SV) (x:PV) (Tn:OwL),A5 (SV.d (⟨mo,po,inp,pj,kj,lj,rd,wr,pv,pn,kn,ln,pp,kp,lp⟩:SV))=(v.d,x.d)/\v.sm/\Aq (v.lj.map JV.d)=true/\e = .returned (.agg #[Z x.d.call,Z x.d.a0,Z x.d.a1,Z x.d.a2,.slice x.p x.d.data.length x.c])/\Ow sA (inT ((pb,39,cS mo po inp pj lj.length kj rd wr pv pn ln.length kn pp lp.length kp)::T)) w w' ((pb,39,v.cells)::(T++Tn))/\Ah (T++Tn) v.ok/\Ah (T++Tn) (fun w=>VP w x):=by
 refine Ao (args:=[pt pb]) (m:=48) (n:=49) Tryz.func61 rfl (by kernel_rfl) (by kernel_rfl) fun J V=>?_;generalize inT ((pb,39,cS mo po inp pj lj.length kj rd wr pv pn ln.length kn pp lp.length kp)::T)=M at *;have O:Ow sA M w w ([(pb,39,(cS mo po inp pj lj.length kj rd wr pv pn ln.length kn pp lp.length kp))]++(T++([]))):=h0.to (by first | rfl | first | rfl | (simp only [TP,apd]));refine sr 1 (Mn [Z 0,Z 0,Z 0,Z 0,.slice none 0 0] 43 2 V O ?_);clear V O J; intro J w1 b1 V O;refine Ab (Aa (wp_block ?_));have hGl:Ah (T++([]:OwL)) (SV.ok (⟨mo,po,inp,pj,kj,lj,rd,wr,pv,pn,kn,ln,pp,kp,lp⟩:SV)):=hG.l;refine Bc (fun mm J W=>∃ (mo2 po2:Int) (inp2:ByteArray) (pj2:Option Addr) (kj2:Nat) (lj2:List JV) (rd2 wr2 pv2:Int) (pn2:Option Addr) (kn2:Nat) (ln2:List Int) (pp2:Option Addr) (kp2:Nat) (lp2:List PV) (f:Nat) (TL1:OwL),mm=1+f/\Holds 49 [] J [(0,pt pb),(2,pt b1)]/\Ow sA M w W ([(b1,43,[Z 0,Z 0,Z 0,Z 0,.slice none 0 0]),(pb,39,(cS mo2 po2 inp2 pj2 lj2.length kj2 rd2 wr2 pv2 pn2 ln2.length kn2 pp2 lp2.length kp2))]++((T++TL1)++([])))/\Ah (T++TL1) (SV.ok (⟨mo2,po2,inp2,pj2,kj2,lj2,rd2,wr2,pv2,pn2,kn2,ln2,pp2,kp2,lp2⟩:SV))/\Dw f (SV.d (⟨mo2,po2,inp2,pj2,kj2,lj2,rd2,wr2,pv2,pn2,kn2,ln2,pp2,kp2,lp2⟩:SV))=A5 (SV.d (⟨mo,po,inp,pj,kj,lj,rd,wr,pv,pn,kn,ln,pp,kp,lp⟩:SV))/\Ky (SV.d (⟨mo2,po2,inp2,pj2,kj2,lj2,rd2,wr2,pv2,pn2,kn2,ln2,pp2,kp2,lp2⟩:SV))+2<=f/\SV.sm (⟨mo2,po2,inp2,pj2,kj2,lj2,rd2,wr2,pv2,pn2,kn2,ln2,pp2,kp2,lp2⟩:SV)/\Aq (lj2.map JV.d)=true/\True) ?_ ?_
 · exact ⟨_,mo,po,inp,pj,kj,lj,rd,wr,pv,pn,kn,ln,pp,kp,lp,Ky (SV.d (⟨mo,po,inp,pj,kj,lj,rd,wr,pv,pn,kn,ln,pp,kp,lp⟩:SV))+2,(([]:OwL)),rfl,V.ss,O.tt,hGl,rfl,(Nat.le_refl _),hm,hvl,trivial⟩
 rintro _ J w2 ⟨mo2,po2,inp2,pj2,kj2,lj2,rd2,wr2,pv2,pn2,kn2,ln2,pp2,kp2,lp2,f,TL1,rfl,V,O,hTL1,hR,hf,hsm2,hvl2,-⟩;obtain ⟨f,rfl⟩ : ∃ j,f=j+1:=⟨f - 1,by omega⟩;have hpos2:=qR inp2.data.toList 10;have hpos2 : -1<=nlI inp2:=hpos2;refine wp_block (wp_seq (Sb [(11,I (decide (((lp2.length:Nat):Int) > 0)))] V [.slice pp2 lp2.length kp2] (cc (O.l1 1 8 37 (.slice pp2 lp2.length kp2)) c0) ?_));clear V J; intro J V;rcases rU (decide (((lp2.length:Nat):Int) > 0)) with h1 | h1
 · rw [h1] at V;have h1p:=rV h1;obtain ⟨⟨qp,qc,qd⟩,rp,rfl⟩ : ∃ x r,lp2=x::r:=by cases lp2 with | nil=>(simp at h1) | cons x r=>exact ⟨x,r,rfl⟩
   have hokp:=(Ah.at (A:=[_,_]) hTL1 O.m);obtain ⟨ap,rfl⟩:=hokp.p.1.pos (sU _);refine cT V (sr 4 (Ka 3 [(14,pt pb)] V ?_));clear V J; intro J V;refine Ms 0 [Z 2] 1 V O ?_;clear O; intro w3 O;refine Ab (Aa (sr 7 (Kb 6 [(20,.agg #[Z qd.call,Z qd.a0,Z qd.a1,Z qd.a2,.slice qp qd.data.length qc])] V [.slice (some ap) (((⟨qp,qc,qd⟩:PV)::rp).length) kp2,.agg #[Z qd.call,Z qd.a0,Z qd.a1,Z qd.a2,.slice qp qd.data.length qc]] (cc (O.l1 1 8 37 (.slice (some ap) (((⟨qp,qc,qd⟩:PV)::rp).length) kp2)) (cc (⟨by omega,by omega⟩:(0:Int)<=0/\0 < ((((⟨qp,qc,qd⟩:PV)::rp).length:Nat):Int)) (cc (((((Ah.at (A:=[_,_]) hTL1 O.m)).p.1).ldn De (rfl:(((⟨qp,qc,qd⟩:PV)::rp):List PV)[0]? = some ⟨qp,qc,qd⟩)):Ld sA w3 (ap.add 0) 43 (.agg #[Z qd.call,Z qd.a0,Z qd.a1,Z qd.a2,.slice qp qd.data.length qc])) c0))) ?_)));clear V J; intro J V;refine Ms 0 [Z qd.call,Z qd.a0,Z qd.a1,Z qd.a2,.slice qp qd.data.length qc] 0 V O ?_;clear O; intro w4 O;refine Ab (Aa (wp_ret (Ad (Ae (Ad (Ae (cR (cs:=[some (⟨b1,0,none⟩,43)]) (us:=[.agg #[Z qd.call,Z qd.a0,Z qd.a1,Z qd.a2,.slice qp qd.data.length qc]]) V [.agg #[Z qd.call,Z qd.a0,Z qd.a1,Z qd.a2,.slice qp qd.data.length qc]] ⟨(O.ln 0 0 43 [Z qd.call,Z qd.a0,Z qd.a1,Z qd.a2,.slice qp qd.data.length qc]),trivial⟩ ?_)))))))
   replace O:Ow sA M w w4 ([(b1,43,[Z qd.call,Z qd.a0,Z qd.a1,Z qd.a2,.slice qp qd.data.length qc]),(pb,39,(cS 2 po2 inp2 pj2 lj2.length kj2 rd2 wr2 pv2 pn2 ln2.length kn2 (some ap) (((⟨qp,qc,qd⟩:PV)::rp).length) kp2))]++((T++TL1)++([]))):=O;exact ⟨(⟨2,po2,inp2,pj2,kj2,lj2,rd2,wr2,pv2,pn2,kn2,ln2,some ap,kp2,((⟨qp,qc,qd⟩:PV)::rp)⟩:SV),⟨qp,qc,qd⟩,(TL1++([])),hR.symm.trans (Er (s:=SV.d (⟨mo2,po2,inp2,pj2,kj2,lj2,rd2,wr2,pv2,pn2,kn2,ln2,some ap,kp2,((⟨qp,qc,qd⟩:PV)::rp)⟩:SV)) rfl),⟨hsm2.i,hsm2.j,hsm2.k,hsm2.p,hsm2.ck,hsm2.cj,hsm2.cp⟩,hvl2,rfl,(show Ow sA M w _ ((pb,39,cS 2 po2 inp2 pj2 lj2.length kj2 rd2 wr2 pv2 pn2 ln2.length kn2 (some ap) (((⟨qp,qc,qd⟩:PV)::rp).length) kp2)::(T++(TL1++([])))) from ((Ow.subP (A:=[_,_]) O (.cons _ (.cons_cons _ .slnil)))).tt),((ok3 (T:=(T++TL1)++([])) (x:=(⟨2,po2,inp2,pj2,kj2,lj2,rd2,wr2,pv2,pn2,kn2,ln2,some ap,kp2,((⟨qp,qc,qd⟩:PV)::rp)⟩:SV)) ((hTL1.mono fun _ h_=>h_.j).l) ((hTL1.mono fun _ h_=>h_.k).l) ((hTL1.mono fun _ h_=>h_.p).l)).tt),((hTL1.mono fun _ h_=>h_.p.2 _ sK).tt)⟩
 rw [h1] at V;have h1p:=rX h1;have hp0:lp2.length=0:=by omega
 have hpl:(SV.d (⟨mo2,po2,inp2,pj2,kj2,lj2,rd2,wr2,pv2,pn2,kn2,ln2,pp2,kp2,lp2⟩:SV)).plan=[]:=by show lp2.map PV.d=[]; rw [List.length_eq_zero_iff.1 hp0]; rfl
 refine cF V (wp_skip (Aa (wp_seq (Sb [(26,I (decide (((lj2.length:Nat):Int) > 0)))] V [.slice pj2 lj2.length kj2] (cc (O.l1 1 3 36 (.slice pj2 lj2.length kj2)) c0) ?_))));clear V J; intro J V;rcases rU (decide (((lj2.length:Nat):Int) > 0)) with h2 | h2
 · rw [h2] at V;have h2p:=rV h2;obtain ⟨⟨xp,xc,xl,xb⟩,rj,rfl⟩ : ∃ x r,lj2=x::r:=by cases lj2 with | nil=>(simp at h2) | cons x r=>exact ⟨x,r,rfl⟩
   obtain ⟨hxl,hxv⟩:=Pq hvl2;obtain ⟨⟨yp,yc,yd⟩,rc,rfl⟩ : ∃ y r,xl=y::r:=by cases xl with | nil=>(simp at hxl) | cons x r=>exact ⟨x,r,rfl⟩
   obtain ⟨hwl,hws⟩:=Hr (hxv ⟨yp,yc,yd⟩ sK);have hokj:=(Ah.at (A:=[_,_]) hTL1 O.m);obtain ⟨aj,rfl⟩:=hokj.j.1.pos (sU _);obtain ⟨ax,rfl⟩:=(hokj.j.2 _ sK).1.pos (sU _);obtain ⟨ay,rfl⟩:=((hokj.j.2 _ sK).2 _ sK).pos hwl.1;clear hokj;have hjp : 0 < (SV.d (⟨mo2,po2,inp2,some aj,kj2,((⟨some ax,xc,(⟨some ay,yc,yd⟩::rc),xb⟩:JV)::rj),rd2,wr2,pv2,pn2,kn2,ln2,pp2,kp2,lp2⟩:SV)).jobs.length:=sU _;refine cT V (wp_seq (sr 8 (Ka 1 [(28,pt pb)] V ?_)));clear V J; intro J V;refine Ag (mC (d:=(some 29)) V Tryz.func90 ((dH pb mo2 po2 inp2 aj kj2 ax xc ay yc yd rc xb rj rd2 wr2 pv2 pn2 kn2 ln2 pp2 kp2 lp2 (T++TL1) _ hTL1 (Cm (A:=[_]) (O.tt:Ow sA M w _ (([(b1,43,[Z 0,Z 0,Z 0,Z 0,.slice none 0 0])]++[(pb,39,cS mo2 po2 inp2 (some aj) (((⟨some ax,xc,(⟨some ay,yc,yd⟩::rc),xb⟩:JV)::rj).length) kj2 rd2 wr2 pv2 pn2 ln2.length kn2 pp2 lp2.length kp2)])++((T++TL1)++[])))) hsm2 hvl2 (fun w_ k_=>hE w_ (Ow.pan (A:=[_]) ((O.tt:Ow sA M w _ (([(b1,43,[Z 0,Z 0,Z 0,Z 0,.slice none 0 0])]++[(pb,39,cS mo2 po2 inp2 (some aj) (((⟨some ax,xc,(⟨some ay,yc,yd⟩::rc),xb⟩:JV)::rj).length) kj2 rd2 wr2 pv2 pn2 ln2.length kn2 pp2 lp2.length kp2)])++((T++TL1)++[]))).tt) k_)) hp0).mono ?_));rintro en w5 ⟨⟨mo3,po3,inp3,pj3,kj3,lj3,rd3,wr3,pv3,pn3,kn3,ln3,pp3,kp3,lp3⟩,⟨cc_3,c0_3,c1_3,c2_3,cd_3⟩,b_3,T1,hj1,hcd1,hsm3,rfl,hW,hG1⟩;refine ⟨_,rfl,?_⟩;clear V J; intro J V
   replace O:=Cx (A:=[(b1,43,[Z 0,Z 0,Z 0,Z 0,.slice none 0 0])]) (B:=[]) (T:=(T++TL1)) (Tn:=T1) (x':=(pb,39,cS mo3 po3 inp3 pj3 lj3.length kj3 rd3 wr3 pv3 pn3 ln3.length kn3 pp3 lp3.length kp3)) O.tt hW; clear hW;replace O:Ow sA M w _ ([(b1,43,[Z 0,Z 0,Z 0,Z 0,.slice none 0 0]),(pb,39,(cS mo3 po3 inp3 pj3 lj3.length kj3 rd3 wr3 pv3 pn3 ln3.length kn3 pp3 lp3.length kp3))]++(((T++TL1)++T1)++([]))):=O.to (by first | rfl | (simp only [TP,apd]));refine Ka 3 [(30,.agg #[Z cc_3,Z c0_3,Z c1_3,Z c2_3,.slice none 0 0]),(31,I b_3)] V ?_;clear V J; intro J V;refine Mn [Z 0,Z 0,Z 0,Z 0,.slice none 0 0] 43 3 V O ?_;clear V O J; intro J w6 b2 V O;refine Ms 0 [Z cc_3,Z c0_3,Z c1_3,Z c2_3,.slice none 0 0] 0 V O ?_;clear O; intro w7 O;refine Ka 1 [(4,I b_3)] V ?_;clear V J; intro J V;refine Ab (Aa (Sa [(32,I b_3)] V ?_));clear V J; intro J V;rcases rU (b_3) with h3 | h3
   · rw [h3] at V;rw [h3,if_pos rfl] at hj1;refine cT V (sr 2 (Kb 1 [(33,.agg #[Z cc_3,Z c0_3,Z c1_3,Z c2_3,.slice none 0 0])] V [.agg #[Z cc_3,Z c0_3,Z c1_3,Z c2_3,.slice none 0 0]] (cc (O.ln 0 0 43 [Z cc_3,Z c0_3,Z c1_3,Z c2_3,.slice none 0 0]) c0) ?_));clear V J; intro J V;refine Ms 0 [Z cc_3,Z c0_3,Z c1_3,Z c2_3,.slice none 0 0] 1 V O ?_;clear O; intro w8 O;refine Ab (Aa (wp_ret (Ad (Ad (Ae (Ad (Ae (cR (cs:=[some (⟨b1,0,none⟩,43)]) (us:=[.agg #[Z cc_3,Z c0_3,Z c1_3,Z c2_3,.slice none 0 0]]) V [.agg #[Z cc_3,Z c0_3,Z c1_3,Z c2_3,.slice none 0 0]] ⟨(O.ln 1 0 43 [Z cc_3,Z c0_3,Z c1_3,Z c2_3,.slice none 0 0]),trivial⟩ ?_))))))));have hcd_:cd_3=[]:=hcd1;subst hcd_;replace O:Ow sA M w w8 ([(b2,43,[Z cc_3,Z c0_3,Z c1_3,Z c2_3,.slice none 0 0]),(b1,43,[Z cc_3,Z c0_3,Z c1_3,Z c2_3,.slice none 0 0]),(pb,39,(cS mo3 po3 inp3 pj3 lj3.length kj3 rd3 wr3 pv3 pn3 ln3.length kn3 pp3 lp3.length kp3))]++(((T++TL1)++T1)++([]))):=O
     exact ⟨(⟨mo3,po3,inp3,pj3,kj3,lj3,rd3,wr3,pv3,pn3,kn3,ln3,pp3,kp3,lp3⟩:SV),⟨none,0,⟨cc_3,c0_3,c1_3,c2_3,[]⟩⟩,(TL1++(T1++([]))),hR.symm.trans (Ep (s:=SV.d (⟨mo2,po2,inp2,some aj,kj2,((⟨some ax,xc,(⟨some ay,yc,yd⟩::rc),xb⟩:JV)::rj),rd2,wr2,pv2,pn2,kn2,ln2,pp2,kp2,lp2⟩:SV)) hpl hjp hj1),hsm3,(by have q_:=Di (s:=SV.d (⟨mo2,po2,inp2,some aj,kj2,((⟨some ax,xc,(⟨some ay,yc,yd⟩::rc),xb⟩:JV)::rj),rd2,wr2,pv2,pn2,kn2,ln2,pp2,kp2,lp2⟩:SV)) hvl2; rw [hj1] at q_; exact q_),rfl,(show Ow sA M w _ ((pb,39,cS mo3 po3 inp3 pj3 lj3.length kj3 rd3 wr3 pv3 pn3 ln3.length kn3 pp3 lp3.length kp3)::(T++(TL1++(T1++([]))))) from ((Ow.subP (A:=[_,_,_]) O (.cons _ (.cons _ (.cons_cons _ .slnil))))).tt),((ok3 (T:=((T++TL1)++T1)++([])) (x:=(⟨mo3,po3,inp3,pj3,kj3,lj3,rd3,wr3,pv3,pn3,kn3,ln3,pp3,kp3,lp3⟩:SV)) ((hG1.mono fun _ h_=>h_.j).l) ((hG1.mono fun _ h_=>h_.k).l) ((hG1.mono fun _ h_=>h_.p).l)).tt),(fun _ _ _ _=>Ce (B5 _ _ _ _) _ _ (sM.2 rfl))⟩
   rw [h3] at V;rw [h3,if_neg (by simp)] at hj1;refine cF V (wp_skip (Aa (wp_exit (Aj (An (Aa ?_))))));replace O:Ow sA M w w7 ([(b2,43,[Z cc_3,Z c0_3,Z c1_3,Z c2_3,.slice none 0 0]),(b1,43,[Z 0,Z 0,Z 0,Z 0,.slice none 0 0]),(pb,39,(cS mo3 po3 inp3 pj3 lj3.length kj3 rd3 wr3 pv3 pn3 ln3.length kn3 pp3 lp3.length kp3))]++(((T++TL1)++T1)++([]))):=O;have hGn:Ah (T++(TL1++T1)) (SV.ok (⟨mo3,po3,inp3,pj3,kj3,lj3,rd3,wr3,pv3,pn3,kn3,ln3,pp3,kp3,lp3⟩:SV)):=(hG1).to (by simp only [sH]);replace O:Ow sA M w w7 ([(b2,43,[Z cc_3,Z c0_3,Z c1_3,Z c2_3,.slice none 0 0]),(b1,43,[Z 0,Z 0,Z 0,Z 0,.slice none 0 0]),(pb,39,(cS mo3 po3 inp3 pj3 lj3.length kj3 rd3 wr3 pv3 pn3 ln3.length kn3 pp3 lp3.length kp3))]++((T++(TL1++T1))++([]))):=O.to (by first | rfl | (simp only [TP,apd]));exact ⟨_,by omega,mo3,po3,inp3,pj3,kj3,lj3,rd3,wr3,pv3,pn3,kn3,ln3,pp3,kp3,lp3,f,((TL1++T1)),rfl,V.ss,(Ow.subP (A:=[_,_,_]) O (.cons _ (.cons_cons _ (.cons_cons _ .slnil)))),hGn,(by have q_:=hj1; exact (Es (s:=SV.d (⟨mo2,po2,inp2,some aj,kj2,((⟨some ax,xc,(⟨some ay,yc,yd⟩::rc),xb⟩:JV)::rj),rd2,wr2,pv2,pn2,kn2,ln2,pp2,kp2,lp2⟩:SV)) hpl hjp q_).symm.trans hR),(by have q_:=Gk hj1 hjp; omega),hsm3,(by have q_:=Di (s:=SV.d (⟨mo2,po2,inp2,some aj,kj2,((⟨some ax,xc,(⟨some ay,yc,yd⟩::rc),xb⟩:JV)::rj),rd2,wr2,pv2,pn2,kn2,ln2,pp2,kp2,lp2⟩:SV)) hvl2; rw [hj1] at q_; exact q_),trivial⟩
 rw [h2] at V;have h2p:=rX h2;have hjl:(SV.d (⟨mo2,po2,inp2,pj2,kj2,lj2,rd2,wr2,pv2,pn2,kn2,ln2,pp2,kp2,lp2⟩:SV)).jobs.length=0:=by show (lj2.map JV.d).length=0; rw [sG]; omega
 have hjn:(SV.d (⟨mo2,po2,inp2,pj2,kj2,lj2,rd2,wr2,pv2,pn2,kn2,ln2,pp2,kp2,lp2⟩:SV)).jobs=[]:=List.length_eq_zero_iff.1 hjl;refine cF V (wp_skip (Aa (sr 6 (Kb 4 [(37,Y inp2)] V [Y inp2] (cc (O.l1 1 2 9 (Y inp2)) c0) ?_))));clear V J; intro J V;refine Mk 38 V O Tryz.func91 (rs (Cu inp2 10 _) (congrArg (Value.int .i64) (rfl:Lib.indexByte inp2.data.toList (10:Int).toNat.toUInt8=nlI inp2))) ?_;clear V O J; intro J w9 V O;refine Ka 1 [(5,Z (nlI inp2))] V ?_;clear V J; intro J V;refine Ab (Aa (wp_seq (Sa [(40,I (decide ((nlI inp2) < 0)))] V ?_)));clear V J; intro J V;rcases rU (decide ((nlI inp2) < 0)) with h4 | h4
 · rw [h4] at V;have h4p:=rV h4;refine cT V (sr 4 (Ka 3 [(43,pt pb)] V ?_));clear V J; intro J V;refine Ms 0 [Z 1] 1 V O ?_;clear O; intro w10 O;refine Ab (Aa (sr 3 (Mv [Z 0,Z 80] 3 2 44 V O ?_)));clear V O J; intro J w11 b3 V O;refine Mk 45 V O Tryz.func28 (E0 9 0 80 ⟨b3,0,none⟩ 2 _ ((O.b 0).vw (off:=0) (xs:=[0,80]) (by kernel_rfl))) ?_;clear V O J; intro J w12 V O;refine Ms 0 [Z 9,Z 0,Z 80,Z 0,.slice none 0 0] 1 V O ?_;clear O; intro w13 O;refine Ab (Aa (wp_ret (Ad (Ae (Ad (Ae (cR (cs:=[some (⟨b1,0,none⟩,43)]) (us:=[.agg #[Z 9,Z 0,Z 80,Z 0,.slice none 0 0]]) V [.agg #[Z 9,Z 0,Z 80,Z 0,.slice none 0 0]] ⟨(O.ln 1 0 43 [Z 9,Z 0,Z 80,Z 0,.slice none 0 0]),trivial⟩ ?_)))))));replace O:Ow sA M w w13 ([(b3,3,[Z 0,Z 80]),(b1,43,[Z 9,Z 0,Z 80,Z 0,.slice none 0 0]),(pb,39,(cS 1 po2 inp2 pj2 lj2.length kj2 rd2 wr2 pv2 pn2 ln2.length kn2 pp2 lp2.length kp2))]++((T++TL1)++([]))):=O
   exact ⟨(⟨1,po2,inp2,pj2,kj2,lj2,rd2,wr2,pv2,pn2,kn2,ln2,pp2,kp2,lp2⟩:SV),⟨none,0,Ap 9 0 80⟩,(TL1++([])),hR.symm.trans (D7 (s:=SV.d (⟨mo2,po2,inp2,pj2,kj2,lj2,rd2,wr2,pv2,pn2,kn2,ln2,pp2,kp2,lp2⟩:SV)) hpl hjn (by assumption)),⟨hsm2.i,hsm2.j,hsm2.k,hsm2.p,hsm2.ck,hsm2.cj,hsm2.cp⟩,hvl2,rfl,(show Ow sA M w _ ((pb,39,cS 1 po2 inp2 pj2 lj2.length kj2 rd2 wr2 pv2 pn2 ln2.length kn2 pp2 lp2.length kp2)::(T++(TL1++([])))) from ((Ow.subP (A:=[_,_,_]) O (.cons _ (.cons _ (.cons_cons _ .slnil))))).tt),((ok3 (T:=(T++TL1)++([])) (x:=(⟨1,po2,inp2,pj2,kj2,lj2,rd2,wr2,pv2,pn2,kn2,ln2,pp2,kp2,lp2⟩:SV)) ((hTL1.mono fun _ h_=>h_.j).l) ((hTL1.mono fun _ h_=>h_.k).l) ((hTL1.mono fun _ h_=>h_.p).l)).tt),(fun _ _ _ _=>Ce (B5 _ _ _ _) _ _ (sM.2 rfl))⟩
 rw [h4] at V;have h4p:=rX h4;refine cF V (wp_skip (Aa (rr 3 (Ka 2 [(46,pt pb),(47,Z (nlI inp2))] V ?_))));clear V J; intro J V;refine Ag (mC (d:=(some 48)) V Tryz.func92 (((show Calls sA 92 #[pt pb,Z (nlI inp2)] _ _ from (by have q_:=(aM pb mo2 po2 inp2 pj2 kj2 lj2 rd2 wr2 pv2 pn2 kn2 ln2 pp2 kp2 lp2 (T++TL1) (nlI inp2).toNat _ hTL1 (Cm (A:=[_]) (O.tt:Ow sA M w _ (([(b1,43,[Z 0,Z 0,Z 0,Z 0,.slice none 0 0])]++[(pb,39,cS mo2 po2 inp2 pj2 lj2.length kj2 rd2 wr2 pv2 pn2 ln2.length kn2 pp2 lp2.length kp2)])++((T++TL1)++[])))) hsm2 hvl2 hp0 (Ls (by omega))); rwa [show (((nlI inp2).toNat:Nat):Int)=nlI inp2 by omega] at q_))).mono ?_));rintro en w14 ⟨⟨mo4,po4,inp4,pj4,kj4,lj4,rd4,wr4,pv4,pn4,kn4,ln4,pp4,kp4,lp4⟩,T2,hl1,hsm4,hvl4,rfl,hW,hG2⟩;refine ⟨_,rfl,?_⟩;clear V J; intro J V;replace O:=Cx (A:=[(b1,43,[Z 0,Z 0,Z 0,Z 0,.slice none 0 0])]) (B:=[]) (T:=(T++TL1)) (Tn:=T2) (x':=(pb,39,cS mo4 po4 inp4 pj4 lj4.length kj4 rd4 wr4 pv4 pn4 ln4.length kn4 pp4 lp4.length kp4)) O.tt hW; clear hW;refine Ab (Ac (Aa ?_));have hGn:Ah (T++(TL1++T2)) (SV.ok (⟨mo4,po4,inp4,pj4,kj4,lj4,rd4,wr4,pv4,pn4,kn4,ln4,pp4,kp4,lp4⟩:SV)):=(hG2).to (by simp only [sH])
 exact ⟨_,by omega,mo4,po4,inp4,pj4,kj4,lj4,rd4,wr4,pv4,pn4,kn4,ln4,pp4,kp4,lp4,f,((TL1++T2)),rfl,V.ss,O.tt,hGn,(by rw [hl1]; exact (Et (s:=SV.d (⟨mo2,po2,inp2,pj2,kj2,lj2,rd2,wr2,pv2,pn2,kn2,ln2,pp2,kp2,lp2⟩:SV)) hpl hjn (by assumption)).symm.trans hR),(by have q_:=F1 (s:=SV.d (⟨mo2,po2,inp2,pj2,kj2,lj2,rd2,wr2,pv2,pn2,kn2,ln2,pp2,kp2,lp2⟩:SV)) (n:=(nlI inp2).toNat) (Ls (by assumption)) hjl (by rw [← hl1]; exact Gf hvl4); rw [hl1]; omega),hsm4,hvl4,trivial⟩
theorem La (pb:Nat) (mo po:Int) (inp:ByteArray) (pj:Option Addr) (kj:Nat) (lj:List JV) (rd wr pv:Int) (pn:Option Addr) (kn:Nat) (ln:List Int) (pp:Option Addr) (kp:Nat) (lp:List PV) (n:Int) (w:World) (h0:Ow sA (inT [(pb,39,cS mo po inp pj lj.length kj rd wr pv pn ln.length kn pp lp.length kp)]) w w [(pb,39,cS mo po inp pj lj.length kj rd wr pv pn ln.length kn pp lp.length kp)]) :
 Calls sA 93 #[pt pb,Z n] w fun e w'=>e = .returned (.agg #[Z 0,Z n,Z 0,Z 0,.slice none 0 0])/\Ow sA (inT [(pb,39,cS mo po inp pj lj.length kj rd wr pv pn ln.length kn pp lp.length kp)]) w w' [(pb,39,cS 7 po inp pj lj.length kj rd wr pv pn ln.length kn pp lp.length kp)]:=by
 refine Ao (args:=[pt pb,Z n]) (m:=9) (n:=11) Tryz.func93 rfl (by kernel_rfl) (by kernel_rfl) fun J V=>?_;generalize inT [(pb,39,cS mo po inp pj lj.length kj rd wr pv pn ln.length kn pp lp.length kp)]=M at *;have O:Ow sA M w w [(pb,39,(cS mo po inp pj lj.length kj rd wr pv pn ln.length kn pp lp.length kp))]:=h0.to (by first | rfl | first | rfl | (simp only [TP,apd]));exact sr 1 (Mn [Z 0,Z 0,Z 0,Z 0,.slice none 0 0] 43 4 V O fun J w1 b1 V O=>Ab (Aa (sr 4 (Ka 3 [(7,pt pb)] V fun J V=>Ms 0 [Z 7] 1 V O fun w2 O=>Ab (Aa (sr 4 (Ka 1 [(8,Z n)] V fun J V=>Mv [Z n] 3 1 9 V O fun J w3 b2 V O=>Mk 10 V O Tryz.func28 (Dj 0 n ⟨b2,0,none⟩ 1 _ ((O.b 0).vw (off:=0) (xs:=[n]) (by kernel_rfl))) fun J w4 V O=>Ms 0 [Z 0,Z n,Z 0,Z 0,.slice none 0 0] 1 V O fun w5 O=>Ab (Aa (wp_ret (cR (cs:=[some (⟨b1,0,none⟩,43)]) (us:=[.agg #[Z 0,Z n,Z 0,Z 0,.slice none 0 0]]) V [.agg #[Z 0,Z n,Z 0,Z 0,.slice none 0 0]] ⟨(O.ln 1 0 43 [Z 0,Z n,Z 0,Z 0,.slice none 0 0]),trivial⟩ (⟨rfl,(O.sub [2])⟩)))))))))))
theorem Og (pb:Nat) (mo po:Int) (inp:ByteArray) (pj:Option Addr) (kj:Nat) (lj:List JV) (rd wr pv:Int) (pn:Option Addr) (kn:Nat) (ln:List Int) (pp:Option Addr) (kp:Nat) (lp:List PV) (T:OwL)  (w:World) (hG:Ah T (SV.ok (⟨mo,po,inp,pj,kj,lj,rd,wr,pv,pn,kn,ln,pp,kp,lp⟩:SV))) (h0:Ow sA (inT ((pb,39,cS mo po inp pj lj.length kj rd wr pv pn ln.length kn pp lp.length kp)::T)) w w ((pb,39,cS mo po inp pj lj.length kj rd wr pv pn ln.length kn pp lp.length kp)::T)) (hm:SV.sm (⟨mo,po,inp,pj,kj,lj,rd,wr,pv,pn,kn,ln,pp,kp,lp⟩:SV)) (hvl:Aq (lj.map JV.d)=true) (hE : ∀ w',Only (inT ((pb,39,cS mo po inp pj lj.length kj rd wr pv pn ln.length kn pp lp.length kp)::T)) w w'->ErrOk w') (hp0:lp.length=0) :
 Calls sA 63 #[pt pb] w fun e w'=>∃ (v:SV) (x:PV) (Tn:OwL),upS (SV.d (⟨mo,po,inp,pj,kj,lj,rd,wr,pv,pn,kn,ln,pp,kp,lp⟩:SV))=(v.d,x.d)/\v.sm/\Aq (v.lj.map JV.d)=true/\e = .returned (.agg #[Z x.d.call,Z x.d.a0,Z x.d.a1,Z x.d.a2,.slice x.p x.d.data.length x.c])/\Ow sA (inT ((pb,39,cS mo po inp pj lj.length kj rd wr pv pn ln.length kn pp lp.length kp)::T)) w w' ((pb,39,v.cells)::(T++Tn))/\Ah (T++Tn) v.ok/\Ah (T++Tn) (fun w=>VP w x):=by
 refine Ao (args:=[pt pb]) (m:=39) (n:=40) Tryz.func63 rfl (by kernel_rfl) (by kernel_rfl) fun J V=>?_;generalize inT ((pb,39,cS mo po inp pj lj.length kj rd wr pv pn ln.length kn pp lp.length kp)::T)=M at *;have O:Ow sA M w w ([(pb,39,(cS mo po inp pj lj.length kj rd wr pv pn ln.length kn pp lp.length kp))]++(T++([]))):=h0.to (by first | rfl | first | rfl | (simp only [TP,apd]));refine sr 1 (Mn [Z 0,Z 0,Z 0,Z 0,.slice none 0 0] 43 2 V O fun J w1 b1 V O=>Ab (Aa (sJ (fun J W=>∃ (pq:Option Addr) (kq:Nat) (lq:List PV) (Tq:OwL),Holds 40 [] J [(0,pt pb),(2,pt b1)]/\Ow sA M w W ([(b1,43,[Z 0,Z 0,Z 0,Z 0,.slice none 0 0]),(pb,39,(cS mo po inp pj lj.length kj rd wr pv pn ln.length kn pq lq.length kq))]++(T++(Tq++([]))))/\lq.map PV.d=lp.map PV.d++Bh [pv,rd,wr]/\lq.length<=kq/\lq.length<=lp.length+3/\Ah (T++Tq) (fun w_=>PL w_ (.slice pq lq.length kq) lq)/\True) ?_ ?_)))
 · rintro J w2 ⟨pq,kq,lq,Tq,V,O,hdq,hcq,hlq,hGq,-⟩;refine sr 4 (Ka 1 [(18,pt pb)] V fun J V=>?_);replace O:Ow sA M w w2 ([(b1,43,[Z 0,Z 0,Z 0,Z 0,.slice none 0 0]),(pb,39,(cS mo po inp pj lj.length kj rd wr pv pn ln.length kn pq lq.length kq))]++(T++(Tq++([])))):=O;refine Ag (mC (d:=(some 19)) V Tryz.func96 ((F9 _).mono ?_));rintro en w3 ⟨p1,c1,T1,rfl,hT1,hW⟩;refine ⟨_,rfl,?_⟩;clear V J; intro J V;replace O:=Ow.join O hW; clear hW;replace O:Ow sA M w _ ([(b1,43,[Z 0,Z 0,Z 0,Z 0,.slice none 0 0]),(pb,39,(cS mo po inp pj lj.length kj rd wr pv pn ln.length kn pq lq.length kq))]++(T++(Tq++(T1++([]))))):=O.to (by first | rfl | (simp only [TP,apd]));refine Mv [Z 10,Z 2,Z 0,Z 0,.slice p1 (([63,10]:List Int).length) c1] 43 1 20 V O fun J w4 b2 V O=>?_;replace O:Ow sA M w w4 ([(b2,43,[Z 10,Z 2,Z 0,Z 0,.slice p1 (([63,10]:List Int).length) c1]),(b1,43,[Z 0,Z 0,Z 0,Z 0,.slice none 0 0]),(pb,39,(cS mo po inp pj lj.length kj rd wr pv pn ln.length kn pq lq.length kq))]++(T++(Tq++(T1++([]))))):=O
   refine Ag (mC (d:=(some 21)) V Tryz.func95 ((Kv pb mo po inp pj kj lj rd wr pv pn kn ln pq kq lq ⟨p1,c1,⟨10,2,0,0,[63,10]⟩⟩ ⟨b2,0,none⟩ 1 _ (Ow.self (A:=[(b2,43,[Z 10,Z 2,Z 0,Z 0,.slice p1 (([63,10]:List Int).length) c1]),(b1,43,[Z 0,Z 0,Z 0,Z 0,.slice none 0 0])]) (T:=[(pb,39,cS mo po inp pj lj.length kj rd wr pv pn ln.length kn pq lq.length kq)]) (B:=([]++(T++(Tq++(T1++([])))))) (O.tt)) (Zb (A:=[(b2,43,[Z 10,Z 2,Z 0,Z 0,.slice p1 (([63,10]:List Int).length) c1]),(b1,43,[Z 0,Z 0,Z 0,Z 0,.slice none 0 0])]) (B:=[]) (T:=T++(Tq++(T1++([])))) (Q:=(fun w_=>Vw fP w_ (.slice pq lq.length kq) lq)) ((Ah.l (T':=T1++([])) (hGq.mono fun _ h_=>h_.1)).to (by simp only [sH])) (O.tt:Ow sA M w _ (([(b2,43,[Z 10,Z 2,Z 0,Z 0,.slice p1 (([63,10]:List Int).length) c1]),(b1,43,[Z 0,Z 0,Z 0,Z 0,.slice none 0 0])]++[(pb,39,cS mo po inp pj lj.length kj rd wr pv pn ln.length kn pq lq.length kq)])++((T++(Tq++(T1++([]))))++[])))) (fun w_ k_=>((Tt (A:=[(b2,43,[Z 10,Z 2,Z 0,Z 0,.slice p1 (([63,10]:List Int).length) c1]),(b1,43,[Z 0,Z 0,Z 0,Z 0,.slice none 0 0])]) (B:=[]) (T:=T++(Tq++(T1++([])))) (O.tt:Ow sA M w _ (([(b2,43,[Z 10,Z 2,Z 0,Z 0,.slice p1 (([63,10]:List Int).length) c1]),(b1,43,[Z 0,Z 0,Z 0,Z 0,.slice none 0 0])]++[(pb,39,cS mo po inp pj lj.length kj rd wr pv pn ln.length kn pq lq.length kq)])++((T++(Tq++(T1++([]))))++[]))) k_).b 0).vw (off:=0) (xs:=([⟨p1,c1,⟨10,2,0,0,[63,10]⟩⟩]:List PV)) (by kernel_rfl)) (by omega)).mono ?_))
   rintro en w5 ⟨rfl,p2,k1,T2,hT2,hW⟩;refine ⟨_,rfl,?_⟩;clear V J; intro J V;replace O:=Ow.pass2 (A:=[_,_]) O hW; clear hW;replace O:Ow sA M w w5 ([(b2,43,[Z 10,Z 2,Z 0,Z 0,.slice p1 (([63,10]:List Int).length) c1]),(b1,43,[Z 0,Z 0,Z 0,Z 0,.slice none 0 0]),(pb,39,(cS mo po inp pj lj.length kj rd wr pv pn ln.length kn p2 ((lq++([⟨p1,c1,⟨10,2,0,0,[63,10]⟩⟩]:List PV)).length) k1))]++(T++(Tq++(T1++(T2++([])))))):=O.to (by first | rfl | (simp only [TP,apd]));have hcp_:(lq++([⟨p1,c1,⟨10,2,0,0,[63,10]⟩⟩]:List PV)).length<=k1:=hT2.le
   refine Ab (Aa (sr 20 (Kb 7 [(22,pt pb),(23,pt pb),(24,pt pb),(25,pt pb),(28,.agg #[Z mo,Z po,Y inp,.slice pj lj.length kj,Z rd,Z wr,Z pv,.slice pn ln.length kn,.slice p2 ((lq++([⟨p1,c1,⟨10,2,0,0,[63,10]⟩⟩]:List PV)).length) k1])] V [.agg #[Z mo,Z po,Y inp,.slice pj lj.length kj,Z rd,Z wr,Z pv,.slice pn ln.length kn,.slice p2 ((lq++([⟨p1,c1,⟨10,2,0,0,[63,10]⟩⟩]:List PV)).length) k1]] (cc (O.ln 2 0 39 (cS mo po inp pj lj.length kj rd wr pv pn ln.length kn p2 ((lq++([⟨p1,c1,⟨10,2,0,0,[63,10]⟩⟩]:List PV)).length) k1)) c0) fun J V=>Mk 29 V O Tryz.func47 (Dr mo po inp pj kj lj rd wr pv pn kn ln p2 k1 (lq++([⟨p1,c1,⟨10,2,0,0,[63,10]⟩⟩]:List PV)) _ (Ah.at (A:=[(b2,43,[Z 10,Z 2,Z 0,Z 0,.slice p1 (([63,10]:List Int).length) c1]),(b1,43,[Z 0,Z 0,Z 0,Z 0,.slice none 0 0]),(pb,39,(cS mo po inp pj lj.length kj rd wr pv pn ln.length kn p2 ((lq++([⟨p1,c1,⟨10,2,0,0,[63,10]⟩⟩]:List PV)).length) k1))]) (B:=[]) (T:=T++(Tq++(T1++(T2++([]))))) (ok3 (T:=T++(Tq++(T1++(T2++([]))))) (x:=(⟨mo,po,inp,pj,kj,lj,rd,wr,pv,pn,kn,ln,p2,k1,lq++([⟨p1,c1,⟨10,2,0,0,[63,10]⟩⟩]:List PV)⟩:SV)) ((hG.mono fun _ h_=>h_.j).l) ((hG.mono fun _ h_=>h_.k).l) (N1 (T:=T++(Tq++(T1++(T2++([]))))) (hT2.holds.l.r.r.r) ((Ah.l (T':=T1++(T2++([]))) (hGq.mono fun _ h_=>h_.2)).to (by simp only [sH])) (Hq (x:=⟨p1,c1,⟨10,2,0,0,[63,10]⟩⟩) (hT1.holds.l.r.r) H9))) (O.to (by simp only [sN,sH]):Ow sA M w _ ([(b2,43,[Z 10,Z 2,Z 0,Z 0,.slice p1 (([63,10]:List Int).length) c1]),(b1,43,[Z 0,Z 0,Z 0,Z 0,.slice none 0 0]),(pb,39,(cS mo po inp pj lj.length kj rd wr pv pn ln.length kn p2 ((lq++([⟨p1,c1,⟨10,2,0,0,[63,10]⟩⟩]:List PV)).length) k1))]++(T++(Tq++(T1++(T2++([]))))++[]))).m)) fun J w6 V O=>Ka 2 [(31,pf pb 4)] V fun J V=>Ms 4 [Z (-1)] 2 V O fun w7 O=>Ka 2 [(33,pf pb 5)] V fun J V=>Ms 5 [Z (-1)] 2 V O fun w8 O=>Ka 2 [(35,pf pb 6)] V fun J V=>Ms 6 [Z (-1)] 2 V O fun w9 O=>Ka 2 [(37,pf pb 1)] V fun J V=>Ms 1 [Z ((Cg (lj.map JV.d):Nat):Int)] 2 V O fun w10 O=>Ab (Aa (sr 3 (Ka 1 [(38,pt pb)] V fun J V=>?_))))))
   replace O:Ow sA M w w10 ([(b2,43,[Z 10,Z 2,Z 0,Z 0,.slice p1 (([63,10]:List Int).length) c1]),(b1,43,[Z 0,Z 0,Z 0,Z 0,.slice none 0 0]),(pb,39,(cS mo ((Cg (lj.map JV.d):Nat):Int) inp pj lj.length kj (-1) (-1) (-1) pn ln.length kn p2 ((lq++([⟨p1,c1,⟨10,2,0,0,[63,10]⟩⟩]:List PV)).length) k1))]++(T++(Tq++(T1++(T2++([])))))):=O;have hGm1:Ah (((T++Tq)++T1)++T2) (SV.ok (⟨mo,((Cg (lj.map JV.d):Nat):Int),inp,pj,kj,lj,(-1),(-1),(-1),pn,kn,ln,p2,k1,lq++([⟨p1,c1,⟨10,2,0,0,[63,10]⟩⟩]:List PV)⟩:SV)):=(ok3 (T:=T++(Tq++(T1++(T2++([]))))) (x:=(⟨mo,((Cg (lj.map JV.d):Nat):Int),inp,pj,kj,lj,(-1),(-1),(-1),pn,kn,ln,p2,k1,lq++([⟨p1,c1,⟨10,2,0,0,[63,10]⟩⟩]:List PV)⟩:SV)) ((hG.mono fun _ h_=>h_.j).l) ((hG.mono fun _ h_=>h_.k).l) (N1 (T:=T++(Tq++(T1++(T2++([]))))) (hT2.holds.l.r.r.r) ((Ah.l (T':=T1++(T2++([]))) (hGq.mono fun _ h_=>h_.2)).to (by simp only [sH])) (Hq (x:=⟨p1,c1,⟨10,2,0,0,[63,10]⟩⟩) (hT1.holds.l.r.r) H9))).tt;replace O:Ow sA M w w10 ([(b2,43,[Z 10,Z 2,Z 0,Z 0,.slice p1 (([63,10]:List Int).length) c1]),(b1,43,[Z 0,Z 0,Z 0,Z 0,.slice none 0 0]),(pb,39,(cS mo ((Cg (lj.map JV.d):Nat):Int) inp pj lj.length kj (-1) (-1) (-1) pn ln.length kn p2 ((lq++([⟨p1,c1,⟨10,2,0,0,[63,10]⟩⟩]:List PV)).length) k1))]++((((T++Tq)++T1)++T2)++([]))):=O.to (by first | rfl | (simp only [TP,apd]))
   refine Ag (mC (d:=(some 39)) V Tryz.func61 ((Bs pb mo ((Cg (lj.map JV.d):Nat):Int) inp pj kj lj (-1) (-1) (-1) pn kn ln p2 k1 (lq++([⟨p1,c1,⟨10,2,0,0,[63,10]⟩⟩]:List PV)) (((T++Tq)++T1)++T2) _ hGm1 (Cm (A:=[_,_]) (O.tt:Ow sA M w _ (([(b2,43,[Z 10,Z 2,Z 0,Z 0,.slice p1 (([63,10]:List Int).length) c1]),(b1,43,[Z 0,Z 0,Z 0,Z 0,.slice none 0 0])]++[(pb,39,cS mo ((Cg (lj.map JV.d):Nat):Int) inp pj lj.length kj (-1) (-1) (-1) pn ln.length kn p2 ((lq++([⟨p1,c1,⟨10,2,0,0,[63,10]⟩⟩]:List PV)).length) k1)])++((((T++Tq)++T1)++T2)++[])))) ⟨hm.i,hm.j,hm.k,(by show (lq++[_]).length<=_; rw [sD]; show lq.length+1<=_; omega),hm.ck,hm.cj,hcp_⟩ hvl (fun w_ k_=>hE w_ (Ow.pan (A:=[_,_]) ((O.tt:Ow sA M w _ (([(b2,43,[Z 10,Z 2,Z 0,Z 0,.slice p1 (([63,10]:List Int).length) c1]),(b1,43,[Z 0,Z 0,Z 0,Z 0,.slice none 0 0])]++[(pb,39,cS mo ((Cg (lj.map JV.d):Nat):Int) inp pj lj.length kj (-1) (-1) (-1) pn ln.length kn p2 ((lq++([⟨p1,c1,⟨10,2,0,0,[63,10]⟩⟩]:List PV)).length) k1)])++((((T++Tq)++T1)++T2)++[]))).tt) k_))).mono ?_));rintro en w11 ⟨⟨mo3,po3,inp3,pj3,kj3,lj3,rd3,wr3,pv3,pn3,kn3,ln3,pp3,kp3,lp3⟩,⟨xp_3,xc_3,xd_3⟩,T3,hr1,hsm3,hvl3,rfl,hW,hG1,hvx1⟩;refine ⟨_,rfl,?_⟩;clear V J; intro J V
   replace O:=Cx (A:=[(b2,43,[Z 10,Z 2,Z 0,Z 0,.slice p1 (([63,10]:List Int).length) c1]),(b1,43,[Z 0,Z 0,Z 0,Z 0,.slice none 0 0])]) (B:=[]) (T:=(((T++Tq)++T1)++T2)) (Tn:=T3) (x':=(pb,39,cS mo3 po3 inp3 pj3 lj3.length kj3 rd3 wr3 pv3 pn3 ln3.length kn3 pp3 lp3.length kp3)) (O.to (by simp only [sH,List.cons_append,sO]):Ow sA M w _ (([(b2,43,[Z 10,Z 2,Z 0,Z 0,.slice p1 (([63,10]:List Int).length) c1]),(b1,43,[Z 0,Z 0,Z 0,Z 0,.slice none 0 0])]++[(pb,39,cS mo ((Cg (lj.map JV.d):Nat):Int) inp pj lj.length kj (-1) (-1) (-1) pn ln.length kn p2 ((lq++([⟨p1,c1,⟨10,2,0,0,[63,10]⟩⟩]:List PV)).length) k1)])++((((T++Tq)++T1)++T2)++[]))) hW; clear hW
   exact Ms 0 [Z xd_3.call,Z xd_3.a0,Z xd_3.a1,Z xd_3.a2,.slice xp_3 xd_3.data.length xc_3] 1 V O fun w12 O=>Ab (Aa (wp_ret (cR (cs:=[some (⟨b1,0,none⟩,43)]) (us:=[.agg #[Z xd_3.call,Z xd_3.a0,Z xd_3.a1,Z xd_3.a2,.slice xp_3 xd_3.data.length xc_3]]) V [.agg #[Z xd_3.call,Z xd_3.a0,Z xd_3.a1,Z xd_3.a2,.slice xp_3 xd_3.data.length xc_3]] ⟨(O.ln 1 0 43 [Z xd_3.call,Z xd_3.a0,Z xd_3.a1,Z xd_3.a2,.slice xp_3 xd_3.data.length xc_3]),trivial⟩ (⟨(⟨mo3,po3,inp3,pj3,kj3,lj3,rd3,wr3,pv3,pn3,kn3,ln3,pp3,kp3,lp3⟩:SV),⟨xp_3,xc_3,xd_3⟩,(Tq++(T1++(T2++(T3++([]))))),(by have q_:=hr1; unfold upS; rw [← q_]; unfold SV.d; simp only [List.map_append,hdq]; rfl),hsm3,hvl3,rfl,(show Ow sA M w _ ((pb,39,cS mo3 po3 inp3 pj3 lj3.length kj3 rd3 wr3 pv3 pn3 ln3.length kn3 pp3 lp3.length kp3)::(T++(Tq++(T1++(T2++(T3++([]))))))) from ((Ow.subP (A:=[_,_,_]) O (.cons _ (.cons _ (.cons_cons _ .slnil))))).tt),((ok3 (T:=((((T++Tq)++T1)++T2)++T3)++([])) (x:=(⟨mo3,po3,inp3,pj3,kj3,lj3,rd3,wr3,pv3,pn3,kn3,ln3,pp3,kp3,lp3⟩:SV)) ((hG1.mono fun _ h_=>h_.j).l) ((hG1.mono fun _ h_=>h_.k).l) ((hG1.mono fun _ h_=>h_.p).l)).tt),(hvx1).tt⟩))))
 have hS:=O.pk [0];refine rT (.q 0 (.q 1 (.q 2 (.q 3 (.q 5 (.q 6 (.q 7 (.q 9 (.q 10 (.q 11 (.m 4 (.m 8 (.m 12 (.m 13 (.m 14 .fin .non) .non) .non) (.m 12 (.m 8 (.m 13 (.m 14 .fin .non) .non) .non) .non)) (.m 8 (.m 4 (.m 12 (.m 13 (.m 14 .fin .non) .non) .non) (.m 12 (.m 4 (.m 13 (.m 14 .fin .non) .non) .non) .non)) (.m 12 (.m 4 (.m 8 (.m 13 (.m 14 .fin .non) .non) .non) (.m 8 (.m 4 (.m 13 (.m 14 .fin .non) .non) .non) .non)) .non))))))))))))) hS ?_;intro w13 ho; replace O:=O.st ho; clear ho;refine A2 (t1:= .m 12 (.m 13 (.m 14 .fin .non) .non) .non) (fun J W=>Holds 40 [] J [(0,pt pb),(2,pt b1),(3,pt pb),(7,Z pv),(11,Z rd),(14,pf pb 5)]/\Ow sA M w W ([(b1,43,[Z 0,Z 0,Z 0,Z 0,.slice none 0 0]),(pb,39,(cS mo po inp pj lj.length kj rd wr pv pn ln.length kn pp lp.length kp))]++(T++([])))/\True) ?_ ?_
 · rintro J w14 ⟨V,O,-⟩;refine Af ?_ ?_
   · refine (Qc [(15,Z wr)] V [Z wr] (cc (O.l1 1 5 3 (Z wr)) c0) fun J V=>⟨(O.sub [0]),?_⟩);refine Af ?_ ?_
     · refine (mN (l:=[Z pv,Z rd,Z wr]) (t:=3) (v:=fun b=> .slice (some ⟨b,0,none⟩) 3 3) (d:=16) V O fun J w15 b3 V O=>⟨(O.sub [1]),?_⟩);refine Af ?_ ?_
       · replace O:Ow sA M w w15 ([(b3,3,[Z pv,Z rd,Z wr]),(b1,43,[Z 0,Z 0,Z 0,Z 0,.slice none 0 0]),(pb,39,(cS mo po inp pj lj.length kj rd wr pv pn ln.length kn pp lp.length kp))]++(T++([]))):=O;refine (mC (d:=(some 17)) V Tryz.func94 ((Hs pb mo po inp pj kj lj rd wr pv pn kn ln pp kp lp T ⟨b3,0,none⟩ 3 [pv,rd,wr] _ hG (Cm (A:=[_,_]) (O.tt:Ow sA M w _ (([(b3,3,[Z pv,Z rd,Z wr]),(b1,43,[Z 0,Z 0,Z 0,Z 0,.slice none 0 0])]++[(pb,39,cS mo po inp pj lj.length kj rd wr pv pn ln.length kn pp lp.length kp)])++(T++[])))) (fun w_ k_=>((N8 (A:=[_,_]) (O.tt:Ow sA M w _ (([(b3,3,[Z pv,Z rd,Z wr]),(b1,43,[Z 0,Z 0,Z 0,Z 0,.slice none 0 0])]++[(pb,39,cS mo po inp pj lj.length kj rd wr pv pn ln.length kn pp lp.length kp)])++(T++[]))) k_).b 0).vw (off:=0) (xs:=[pv,rd,wr]) (by kernel_rfl)) (by omega) (Nat.le_of_ble_eq_true (by kernel_rfl)) hm.cp).mono ?_));rintro en w16 ⟨rfl,p3,k2,lq1,T4,hd1,hcq1,hlq1,hW,hGq1⟩;refine ⟨_,rfl,?_⟩;clear V J; intro J V;replace O:=Cx (A:=[_,_]) O hW; clear hW;refine ⟨(O.sub [1]),?_⟩;exact Ay (Aa (⟨p3,k2,lq1,T4,V.sb,(Ow.subP (A:=[_,_,_]) O (.cons _ (.cons_cons _ (.cons_cons _ .slnil)))),hd1,hcq1,hlq1,hGq1,trivial⟩))
       exact trivial
     exact trivial
   exact trivial
 intro ht1;refine A2 (t1:= .m 8 (.m 13 (.m 14 .fin .non) .non) .non) (fun J W=>Holds 40 [] J [(0,pt pb),(2,pt b1),(3,pt pb),(7,Z pv),(10,pf pb 4),(15,Z wr)]/\Ow sA M w W ([(b1,43,[Z 0,Z 0,Z 0,Z 0,.slice none 0 0]),(pb,39,(cS mo po inp pj lj.length kj rd wr pv pn ln.length kn pp lp.length kp))]++(T++([])))/\True) ?_ ?_
 · rintro J w17 ⟨V,O,-⟩;refine Af ?_ ?_
   · refine (Qc [(11,Z rd)] V [Z rd] (cc (O.l1 1 4 3 (Z rd)) c0) fun J V=>⟨(O.sub [0]),?_⟩);refine Af ?_ ?_
     · refine (mN (l:=[Z pv,Z rd,Z wr]) (t:=3) (v:=fun b=> .slice (some ⟨b,0,none⟩) 3 3) (d:=16) V O fun J w18 b4 V O=>⟨(O.sub [1]),?_⟩);refine Af ?_ ?_
       · replace O:Ow sA M w w18 ([(b4,3,[Z pv,Z rd,Z wr]),(b1,43,[Z 0,Z 0,Z 0,Z 0,.slice none 0 0]),(pb,39,(cS mo po inp pj lj.length kj rd wr pv pn ln.length kn pp lp.length kp))]++(T++([]))):=O;refine (mC (d:=(some 17)) V Tryz.func94 ((Hs pb mo po inp pj kj lj rd wr pv pn kn ln pp kp lp T ⟨b4,0,none⟩ 3 [pv,rd,wr] _ hG (Cm (A:=[_,_]) (O.tt:Ow sA M w _ (([(b4,3,[Z pv,Z rd,Z wr]),(b1,43,[Z 0,Z 0,Z 0,Z 0,.slice none 0 0])]++[(pb,39,cS mo po inp pj lj.length kj rd wr pv pn ln.length kn pp lp.length kp)])++(T++[])))) (fun w_ k_=>((N8 (A:=[_,_]) (O.tt:Ow sA M w _ (([(b4,3,[Z pv,Z rd,Z wr]),(b1,43,[Z 0,Z 0,Z 0,Z 0,.slice none 0 0])]++[(pb,39,cS mo po inp pj lj.length kj rd wr pv pn ln.length kn pp lp.length kp)])++(T++[]))) k_).b 0).vw (off:=0) (xs:=[pv,rd,wr]) (by kernel_rfl)) (by omega) (Nat.le_of_ble_eq_true (by kernel_rfl)) hm.cp).mono ?_));rintro en w19 ⟨rfl,p4,k3,lq2,T5,hd2,hcq2,hlq2,hW,hGq2⟩;refine ⟨_,rfl,?_⟩;clear V J; intro J V;replace O:=Cx (A:=[_,_]) O hW; clear hW;refine ⟨(O.sub [1]),?_⟩;exact Ay (Aa (⟨p4,k3,lq2,T5,V.sb,(Ow.subP (A:=[_,_,_]) O (.cons _ (.cons_cons _ (.cons_cons _ .slnil)))),hd2,hcq2,hlq2,hGq2,trivial⟩))
       exact trivial
     exact trivial
   exact trivial
 intro ht2;refine A2 (t1:= .m 4 (.m 13 (.m 14 .fin .non) .non) .non) (fun J W=>Holds 40 [] J [(0,pt pb),(2,pt b1),(3,pt pb),(6,pf pb 6),(11,Z rd),(15,Z wr)]/\Ow sA M w W ([(b1,43,[Z 0,Z 0,Z 0,Z 0,.slice none 0 0]),(pb,39,(cS mo po inp pj lj.length kj rd wr pv pn ln.length kn pp lp.length kp))]++(T++([])))/\True) ?_ ?_
 · rintro J w20 ⟨V,O,-⟩;refine Af ?_ ?_
   · refine (Qc [(7,Z pv)] V [Z pv] (cc (O.l1 1 6 3 (Z pv)) c0) fun J V=>⟨(O.sub [0]),?_⟩);refine Af ?_ ?_
     · refine (mN (l:=[Z pv,Z rd,Z wr]) (t:=3) (v:=fun b=> .slice (some ⟨b,0,none⟩) 3 3) (d:=16) V O fun J w21 b5 V O=>⟨(O.sub [1]),?_⟩);refine Af ?_ ?_
       · replace O:Ow sA M w w21 ([(b5,3,[Z pv,Z rd,Z wr]),(b1,43,[Z 0,Z 0,Z 0,Z 0,.slice none 0 0]),(pb,39,(cS mo po inp pj lj.length kj rd wr pv pn ln.length kn pp lp.length kp))]++(T++([]))):=O;refine (mC (d:=(some 17)) V Tryz.func94 ((Hs pb mo po inp pj kj lj rd wr pv pn kn ln pp kp lp T ⟨b5,0,none⟩ 3 [pv,rd,wr] _ hG (Cm (A:=[_,_]) (O.tt:Ow sA M w _ (([(b5,3,[Z pv,Z rd,Z wr]),(b1,43,[Z 0,Z 0,Z 0,Z 0,.slice none 0 0])]++[(pb,39,cS mo po inp pj lj.length kj rd wr pv pn ln.length kn pp lp.length kp)])++(T++[])))) (fun w_ k_=>((N8 (A:=[_,_]) (O.tt:Ow sA M w _ (([(b5,3,[Z pv,Z rd,Z wr]),(b1,43,[Z 0,Z 0,Z 0,Z 0,.slice none 0 0])]++[(pb,39,cS mo po inp pj lj.length kj rd wr pv pn ln.length kn pp lp.length kp)])++(T++[]))) k_).b 0).vw (off:=0) (xs:=[pv,rd,wr]) (by kernel_rfl)) (by omega) (Nat.le_of_ble_eq_true (by kernel_rfl)) hm.cp).mono ?_));rintro en w22 ⟨rfl,p5,k4,lq3,T6,hd3,hcq3,hlq3,hW,hGq3⟩;refine ⟨_,rfl,?_⟩;clear V J; intro J V;replace O:=Cx (A:=[_,_]) O hW; clear hW;refine ⟨(O.sub [1]),?_⟩;exact Ay (Aa (⟨p5,k4,lq3,T6,V.sb,(Ow.subP (A:=[_,_,_]) O (.cons _ (.cons_cons _ (.cons_cons _ .slnil)))),hd3,hcq3,hlq3,hGq3,trivial⟩))
       exact trivial
     exact trivial
   exact trivial
 intro ht3;refine Kt [0,1,2,3,5,6,7,9,10,11] [(3,pt pb),(6,pf pb 6),(10,pf pb 4),(14,pf pb 5)] V [] c0 fun J V=>Af ?_ ?_
 · refine (Qc [(7,Z pv)] V [Z pv] (cc (O.l1 1 6 3 (Z pv)) c0) fun J V=>⟨(O.sub [0]),?_⟩);refine Af ?_ ?_
   · refine (Qc [(11,Z rd)] V [Z rd] (cc (O.l1 1 4 3 (Z rd)) c0) fun J V=>⟨(O.sub [0]),?_⟩);exact ht1 _ _ ⟨V.sb,O.tt,trivial⟩
   refine Af ?_ ?_
   · refine (Qc [(15,Z wr)] V [Z wr] (cc (O.l1 1 5 3 (Z wr)) c0) fun J V=>⟨(O.sub [0]),?_⟩);exact ht2 _ _ ⟨V.sb,O.tt,trivial⟩
   exact trivial
 refine Af ?_ ?_
 · refine (Qc [(11,Z rd)] V [Z rd] (cc (O.l1 1 4 3 (Z rd)) c0) fun J V=>⟨(O.sub [0]),?_⟩);refine Af ?_ ?_
   · refine (Qc [(7,Z pv)] V [Z pv] (cc (O.l1 1 6 3 (Z pv)) c0) fun J V=>⟨(O.sub [0]),?_⟩);exact ht1 _ _ ⟨V.sb,O.tt,trivial⟩
   refine Af ?_ ?_
   · refine (Qc [(15,Z wr)] V [Z wr] (cc (O.l1 1 5 3 (Z wr)) c0) fun J V=>⟨(O.sub [0]),?_⟩);exact ht3 _ _ ⟨V.sb,O.tt,trivial⟩
   exact trivial
 refine Af ?_ ?_
 · refine (Qc [(15,Z wr)] V [Z wr] (cc (O.l1 1 5 3 (Z wr)) c0) fun J V=>⟨(O.sub [0]),?_⟩);refine Af ?_ ?_
   · refine (Qc [(7,Z pv)] V [Z pv] (cc (O.l1 1 6 3 (Z pv)) c0) fun J V=>⟨(O.sub [0]),?_⟩);exact ht2 _ _ ⟨V.sb,O.tt,trivial⟩
   refine Af ?_ ?_
   · refine (Qc [(11,Z rd)] V [Z rd] (cc (O.l1 1 4 3 (Z rd)) c0) fun J V=>⟨(O.sub [0]),?_⟩);exact ht3 _ _ ⟨V.sb,O.tt,trivial⟩
   exact trivial
 exact trivial
end Go.Proofs.YtdljjajjonfjbaaGreatDoor
