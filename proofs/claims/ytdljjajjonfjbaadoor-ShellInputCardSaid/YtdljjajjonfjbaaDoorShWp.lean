import Derived.Test.YtdljjajjonfjbaaDoorShValid
set_option linter.unusedVariables false
set_option linter.unusedSimpArgs false
namespace Go.Proofs.YtdljjajjonfjbaaDoor
open Go Go.RowKit Go.Proofs.Sx
structure F8 where
  f0:ByteArray
  f1:ByteArray
  f2:ByteArray
  f3:ByteArray
  f4:ByteArray
  f5:ByteArray
  f6:ByteArray
  f7:ByteArray
def F8.at (f:F8):Nat->ByteArray
  | 0=>f.f0 | 1=>f.f1 | 2=>f.f2 | 3=>f.f3 | 4=>f.f4 | 5=>f.f5 | 6=>f.f6 | _=>f.f7
def F8.set (f:F8) (i:Nat) (v:ByteArray):F8:=match i with
  | 0=>{f with f0:=v} | 1=>{f with f1:=v} | 2=>{f with f2:=v} | 3=>{f with f3:=v} | 4=>{f with f4:=v} | 5=>{f with f5:=v} | 6=>{f with f6:=v} | _=>{f with f7:=v}
theorem lt8 {i:Nat} (h:i < 8):i=0\/i=1\/i=2\/i=3\/i=4\/i=5\/i=6\/i=7:=by omega
theorem F8.at_set (f:F8) {i j:Nat} (v:ByteArray) (hi:i < 8) (hj:j < 8):(f.set i v).at j=if i=j then v else f.at j:=by
  rcases lt8 hi with rfl | rfl | rfl | rfl | rfl | rfl | rfl | rfl <;> rcases lt8 hj with rfl | rfl | rfl | rfl | rfl | rfl | rfl | rfl <;> rfl
structure RunL where
  path:ByteArray
  fl:F8
structure WL where
  st:StL
  x:CallL
  fl:F8
  inp:List ByteArray
  fails:List Int
  pipes:Int
  tasks:Int
  alive:List Int
  runs:List RunL
  waited:List Int
  told:Int
  exit:Int
  leak:Bool
  ok:Bool
def failB (w:WL):Bool:=match w.fails with
  | []=>false
  | f::_=>f == 1
def failT (w:WL):WL:={w with fails:=w.fails.tail}
def freeF (f:F8):Int :=
  if f.f0.size=0 then 0 else if f.f1.size=0 then 1 else if f.f2.size=0 then 2 else if f.f3.size=0 then 3 else if f.f4.size=0 then 4 else if f.f5.size=0 then 5 else if f.f6.size=0 then 6 else if f.f7.size=0 then 7 else -1
def plainB (f:F8):Bool:=decide (f.f0.size≠0/\f.f1.size≠0/\f.f2.size≠0/\f.f3.size=0/\f.f4.size=0/\f.f5.size=0/\f.f6.size=0/\f.f7.size=0)
def inB (n:Int):Bool:=decide (0<=n/\n < 8)
def fileN:ByteArray:=⟨#[102,105,108,101,32]⟩
def spN:ByteArray:=⟨#[32]⟩
def nameF (x:CallL):ByteArray:=fileN++Utf8.encode (48+x.a0.tmod 10)++spN++bsI x.data
def fileF (x:CallL) (f:F8):Int×Bool×F8×Int :=
  if x.call=8 then (if inB x.a0=true/\(f.at x.a0.toNat).size≠0 then (0,true,f.set x.a0.toNat ⟨#[]⟩,0) else (-8,true,f,0))
  else if x.call=12 then (if inB x.a0=true/\inB x.a1=true/\(f.at x.a0.toNat).size≠0 then (0,true,f.set x.a1.toNat (f.at x.a0.toNat),0) else (-8,true,f,0))
  else if x.call=7 then (if freeF f < 0 then (-6,true,f,0) else (freeF f,true,f.set (freeF f).toNat (nameF x),0))
  else if x.call=10 then ((x.data.length:Int),true,f,1)
  else (0,false,f,0)
def childW:Nat->StL->CallL->F8->WL->WL
  | 0,_,_,_,w=>{w with ok:=false}
  | k+1,s,x,f,w =>
    if x.call=0 then w
    else if failB w=true then childW k (stepP s (-13) []).1 (stepP s (-13) []).2 f (failT w)
    else if x.call=2 then {failT w with runs:=w.runs++[⟨bsI x.data,f⟩]}
    else childW k (stepP s (fileF x f).1 []).1 (stepP s (fileF x f).1 []).2 (fileF x f).2.2.1 {failT w with told:=w.told+(fileF x f).2.2.2,ok:=w.ok && (fileF x f).2.1}
def childF (s:StL) (f:F8) (w:WL):WL:=childW 40 (stepP s 0 []).1 (stepP s 0 []).2 f w
def goW (w:WL) (r:Int) (d:List Int):WL:={w with st:=(stepP w.st r d).1,x:=(stepP w.st r d).2}
def leakW (w:WL):WL:={w with leak:=w.leak || !plainB w.fl}
def chP (c:UInt8) (n:Int):ByteArray:=(⟨#[c]⟩:ByteArray)++Utf8.encode (97+n % 26)
def mid (f:F8):F8:=if 0<=freeF f then f.set (freeF f).toNat ⟨#[114]⟩ else f
def pipeW (w:WL):WL :=
  if 0<=freeF (mid w.fl) then goW {w with pipes:=w.pipes+1,fl:=(w.fl.set (freeF w.fl).toNat (chP 114 (w.pipes+1))).set (freeF (mid w.fl)).toNat (chP 119 (w.pipes+1))} (256*freeF w.fl+freeF (mid w.fl)) []
  else goW w (-13) []
def forkW (w:WL):WL:=goW (childF w.st w.fl {w with waited:=w.waited++[w.tasks - (w.alive.length:Int)],tasks:=w.tasks+1,alive:=w.alive++[16+(w.tasks+1)]}) (16+(w.tasks+1)) []
def stepW (w:WL):WL :=
  if w.x.call=0 then {w with exit:=w.x.a0}
  else if w.x.call=9 then (match w.inp with
    | []=>goW (leakW w) 0 []
    | c::r=>goW {leakW w with inp:=r} (c.size:Int) (sI c))
  else if w.x.call=3 then (match w.alive with
    | []=>goW (leakW w) (-8) []
    | a::r=>goW {leakW w with alive:=r} (256*a) [])
  else if w.x.call=8\/w.x.call=10 then goW {w with fl:=(fileF w.x w.fl).2.2.1,told:=w.told+(fileF w.x w.fl).2.2.2,ok:=w.ok && (fileF w.x w.fl).2.1} (fileF w.x w.fl).1 []
  else if failB w=true then goW (failT w) (-13) []
  else if w.x.call=11 then pipeW (failT w)
  else if w.x.call=1 then (if w.tasks < 15 then forkW (failT w) else goW (failT w) (-13) [])
  else goW {failT w with ok:=false} (-13) []
def playF:Nat->WL->WL
  | 0,w=>w
  | k+1,w=>if w.exit < 0 then playF k (stepW w) else w
def inN:ByteArray:=⟨#[105,110]⟩
def outN:ByteArray:=⟨#[111,117,116]⟩
def errN:ByteArray:=⟨#[101,114,114]⟩
def fl0:F8:=⟨inN,outN,errN,⟨#[]⟩,⟨#[]⟩,⟨#[]⟩,⟨#[]⟩,⟨#[]⟩⟩
def play0 (inp:List ByteArray) (fails:List Int):WL:=goW ⟨newS,callL 0 0 0,fl0,inp,fails,0,0,[],[],[],0,-1,false,true⟩ 0 []
def playW (inp:List ByteArray) (fails:List Int):WL:=playF 900 (play0 inp fails)
theorem fileF_told (x:CallL) (f:F8) : 0<=(fileF x f).2.2.2/\(fileF x f).2.2.2<=1:=by
  unfold fileF
  repeat' split
  all_goals (first | exact (show (0:Int)<=0/\(0:Int)<=1 by decide) | exact (show (0:Int)<=1/\(1:Int)<=1 by decide))
structure sameC (w w':WL):Prop where
  st:w'.st=w.st
  x:w'.x=w.x
  fl:w'.fl=w.fl
  inp:w'.inp=w.inp
  pipes:w'.pipes=w.pipes
  tasks:w'.tasks=w.tasks
  alive:w'.alive=w.alive
  waited:w'.waited=w.waited
  exit:w'.exit=w.exit
  leak:w'.leak=w.leak
theorem sameC.refl (w:WL):sameC w w:=⟨rfl,rfl,rfl,rfl,rfl,rfl,rfl,rfl,rfl,rfl⟩
theorem sameC.trans {a b c:WL} (h:sameC a b) (k:sameC b c):sameC a c:=⟨k.st.trans h.st,k.x.trans h.x,k.fl.trans h.fl,k.inp.trans h.inp,k.pipes.trans h.pipes,k.tasks.trans h.tasks,k.alive.trans h.alive,k.waited.trans h.waited,k.exit.trans h.exit,k.leak.trans h.leak⟩
theorem child_same : ∀ (k:Nat) (s:StL) (x:CallL) (f:F8) (w:WL),sameC w (childW k s x f w)
  | 0,_,_,_,w=>⟨rfl,rfl,rfl,rfl,rfl,rfl,rfl,rfl,rfl,rfl⟩
  | k+1,s,x,f,w=>by
    simp only [childW]
    split
    · exact sameC.refl w
    split
    · exact (show sameC w (failT w) from ⟨rfl,rfl,rfl,rfl,rfl,rfl,rfl,rfl,rfl,rfl⟩).trans (child_same k _ _ f (failT w))
    split
    · exact ⟨rfl,rfl,rfl,rfl,rfl,rfl,rfl,rfl,rfl,rfl⟩
    · exact (show sameC w {failT w with told:=w.told+(fileF x f).2.2.2,ok:=w.ok && (fileF x f).2.1} from ⟨rfl,rfl,rfl,rfl,rfl,rfl,rfl,rfl,rfl,rfl⟩).trans (child_same k _ _ _ _)
theorem child_told : ∀ (k:Nat) (s:StL) (x:CallL) (f:F8) (w:WL),w.told<=(childW k s x f w).told/\(childW k s x f w).told<=w.told+k/\(childW k s x f w).runs.length<=w.runs.length+1
  | 0,_,_,_,w=>⟨Int.le_refl _,by show w.told<=w.told+0; omega,Nat.le_succ _⟩
  | k+1,s,x,f,w=>by
    simp only [childW]
    split
    · exact ⟨Int.le_refl _,by omega,Nat.le_succ _⟩
    split
    · have:=child_told k (stepP s (-13) []).1 (stepP s (-13) []).2 f (failT w)
      simp only [failT] at this ⊢
      omega
    split
    · refine ⟨Int.le_refl _,by show w.told<=_; omega,?_⟩
      show (w.runs++[_]).length<=_
      rw [List.length_append]; exact Nat.le_refl _
    · have:=child_told k (stepP s (fileF x f).1 []).1 (stepP s (fileF x f).1 []).2 (fileF x f).2.2.1 {failT w with told:=w.told+(fileF x f).2.2.2,ok:=w.ok && (fileF x f).2.1}
      have h1:=fileF_told x f
      simp only [failT] at this ⊢
      omega
structure smW (n:Nat) (w:WL):Prop where
  told : 0<=w.told/\w.told<=50*n
  pipes : 0<=w.pipes/\w.pipes<=n
  tasks : 0<=w.tasks/\w.tasks<=15
  alive:w.alive.length<=n
  av : ∀ t∈w.alive,0<=t/\t<=32
  runs:w.runs.length<=n
  waited:w.waited.length<=n
theorem smW.go {n:Nat} {w:WL} (h:smW n w) (r:Int) (d:List Int):smW n (goW w r d):=⟨h.told,h.pipes,h.tasks,h.alive,h.av,h.runs,h.waited⟩
theorem smW.up {n:Nat} {w:WL} (h:smW n w):smW (n+1) w:=⟨by have:=h.told; omega,by have:=h.pipes; omega,h.tasks,Nat.le_succ_of_le h.alive,h.av,Nat.le_succ_of_le h.runs,Nat.le_succ_of_le h.waited⟩
theorem smW.lk {n:Nat} {w:WL} (h:smW n w):smW n (leakW w):=⟨h.told,h.pipes,h.tasks,h.alive,h.av,h.runs,h.waited⟩
theorem smW.ft {n:Nat} {w:WL} (h:smW n w):smW n (failT w):=⟨h.told,h.pipes,h.tasks,h.alive,h.av,h.runs,h.waited⟩
theorem smW.step {n:Nat} {w:WL} (h:smW n w):smW (n+1) (stepW w):=by
  have hu:=h.up
  unfold stepW
  split
  · exact ⟨hu.told,hu.pipes,hu.tasks,hu.alive,hu.av,hu.runs,hu.waited⟩
  split
  · split
    · exact hu.lk.go _ _
    · refine smW.go ?_ _ _
      exact ⟨hu.told,hu.pipes,hu.tasks,hu.alive,hu.av,hu.runs,hu.waited⟩
  split
  · split
    · exact hu.lk.go _ _
    · rename_i a r e
      have h1:=hu.alive
      have h2:=hu.av
      rw [e] at h1 h2
      refine smW.go ?_ _ _
      exact ⟨hu.told,hu.pipes,hu.tasks,Nat.le_of_succ_le h1,fun t ht=>h2 t (List.mem_cons_of_mem _ ht),hu.runs,hu.waited⟩
  split
  · have h1:=fileF_told w.x w.fl
    have h2:=h.told
    refine smW.go ?_ _ _
    exact ⟨by show 0<=w.told+(fileF w.x w.fl).2.2.2/\w.told+(fileF w.x w.fl).2.2.2<=_; omega,hu.pipes,hu.tasks,hu.alive,hu.av,hu.runs,hu.waited⟩
  split
  · exact hu.ft.go _ _
  split
  · unfold pipeW
    split
    · have h2:=h.pipes
      refine smW.go ?_ _ _
      exact ⟨hu.told,by show 0<=w.pipes+1/\w.pipes+1<=_; omega,hu.tasks,hu.alive,hu.av,hu.runs,hu.waited⟩
    · exact hu.ft.go _ _
  split
  · split
    · rename_i ht
      unfold forkW
      refine smW.go ?_ _ _
      unfold childF
      generalize hq:({failT w with waited:=_,tasks:=_,alive:=_}:WL)=w1
      have hs:=child_same 40 (stepP (failT w).st 0 []).1 (stepP (failT w).st 0 []).2 (failT w).fl w1
      have hc:=child_told 40 (stepP (failT w).st 0 []).1 (stepP (failT w).st 0 []).2 (failT w).fl w1
      have e1:w1.told=w.told:=by rw [← hq]; rfl
      have e2:w1.runs=w.runs:=by rw [← hq]; rfl
      have h2:=h.told
      have h3:=h.tasks
      have h4:=h.runs
      rw [e1,e2] at hc
      refine ⟨by omega,?_,?_,?_,?_,by omega,?_⟩
      · rw [hs.pipes,← hq]; exact hu.pipes
      · rw [hs.tasks,← hq]; show 0<=w.tasks+1/\w.tasks+1<=15; omega
      · rw [hs.alive,← hq]; show (w.alive++[_]).length<=_; rw [List.length_append]; exact Nat.succ_le_succ h.alive
      · rw [hs.alive,← hq]
        intro t hm
        rcases List.mem_append.1 hm with hm | hm
        · exact h.av t hm
        · have:t=16+(w.tasks+1):=List.mem_singleton.1 hm
          rw [this]; omega
      · rw [hs.waited,← hq]; show (w.waited++[_]).length<=_; rw [List.length_append]; exact Nat.succ_le_succ h.waited
    · exact hu.ft.go _ _
  · refine smW.go ?_ _ _
    exact ⟨hu.told,hu.pipes,hu.tasks,hu.alive,hu.av,hu.runs,hu.waited⟩
theorem free_lt (f:F8) : -1<=freeF f/\freeF f < 8:=by
  unfold freeF
  repeat' split
  all_goals (constructor <;> decide)
theorem free_at {f:F8} (h : 0<=freeF f):(f.at (freeF f).toNat).size=0:=by
  unfold freeF at h ⊢
  split
  · assumption
  rename_i h0; rw [if_neg h0] at h; clear h0
  split
  · assumption
  rename_i h0; rw [if_neg h0] at h; clear h0
  split
  · assumption
  rename_i h0; rw [if_neg h0] at h; clear h0
  split
  · assumption
  rename_i h0; rw [if_neg h0] at h; clear h0
  split
  · assumption
  rename_i h0; rw [if_neg h0] at h; clear h0
  split
  · assumption
  rename_i h0; rw [if_neg h0] at h; clear h0
  split
  · assumption
  rename_i h0; rw [if_neg h0] at h; clear h0
  split
  · assumption
  rename_i h0; rw [if_neg h0] at h; omega
theorem mid_free {f:F8} (h : 0<=freeF (mid f)) : 0<=freeF f/\freeF f≠freeF (mid f):=by
  by_cases hf : 0<=freeF f
  · refine ⟨hf,fun e=>?_⟩
    have h1:=free_at h
    have h2:=free_lt f
    rw [← e] at h1
    have h3:mid f=f.set (freeF f).toNat ⟨#[114]⟩:=if_pos hf
    rw [h3,F8.at_set _ _ (by omega) (by omega),if_pos rfl] at h1
    cases h1
  · have h3:mid f=f:=if_neg hf
    rw [h3] at h
    exact absurd h hf
end Go.Proofs.YtdljjajjonfjbaaDoor
