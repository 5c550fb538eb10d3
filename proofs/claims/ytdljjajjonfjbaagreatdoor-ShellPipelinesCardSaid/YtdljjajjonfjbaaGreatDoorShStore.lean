import Derived.Test.YtdljjajjonfjbaaGreatDoorShRunb
import Derived.Test.YtdljjajjonfjbaaGreatDoorSho
import Derived.Test.YtdljjajjonfjbaaGreatDoorSn
set_option linter.unusedVariables false
set_option linter.unusedSimpArgs false
open Go.Proofs.Tryz renaming prog->sA
open List renaming length_append->sD,length_cons->sE,length_nil->sF,append_assoc->sH,mem_cons_self->sK,not_mem_nil->sL,mem_singleton->sM,append_nil->sN,mem_cons_of_mem->sP
open ByteArray renaming size_append->sS
open Nat renaming zero_lt_succ->sU
namespace Go.Proofs.YtdljjajjonfjbaaGreatDoor
open Go Go.RowKit Go.Proofs.Sx
structure EX where
 runs:List RunL
 waited:List Int
 told:Int
 pipes:Int
 fin:Int
def C5 (p:Int):ByteArray:=Utf8.encode (97+p % 26)
def rB:ByteArray:=⟨#[114]⟩
def wB:ByteArray:=⟨#[119]⟩
def Ea (b:ByteArray):ByteArray:=if b.size≠0 then rB++b else inN
def Fe (last:Bool) (p:Int):ByteArray:=if last=true then F0 else wB++C5 (p+1)
def X1 (c:CmdL) (last:Bool) (b:ByteArray) (e:EX):EX :=
 ⟨e.runs++[⟨Bp c,Ht c (Ea b) (Fe last e.pipes)⟩],e.waited++[e.fin],e.told,if last=true then e.pipes else e.pipes+1,e.fin⟩
def Uw (last:Bool) (b:ByteArray) (e:EX):ByteArray:=if last=true then b else C5 (e.pipes+1)
def Fa:List CmdL->ByteArray->EX->EX
 | [],_,e=>e
 | c::r,b,e=>Fa r (Uw r.isEmpty b e) (X1 c r.isEmpty b e)
def Uz (bg:Bool) (e:EX):EX:=if bg=true then e else {e with fin:=(e.runs.length:Int)}
def Hp (j:JobL) (e:EX):EX:=if Bz j.cmds=true then {e with told:=e.told+1} else Uz j.bg (Fa j.cmds ⟨#[]⟩ e)
def Bm:List JobL->EX->EX×Bool
 | [],e=>(e,false)
 | j::r,e=>if Be j.cmds=true then (e,true) else Bm r (Hp j e)
theorem Ou : ∀ (l:List CmdL) (b:ByteArray) (e:EX),(∃ m,(Fa l b e).runs=e.runs++m)
 | [],b,e=>⟨[],(sN _).symm⟩
 | c::r,b,e=>by
  obtain ⟨m,hm⟩:=Ou r (Uw r.isEmpty b e) (X1 c r.isEmpty b e)
  exact ⟨_::m,by rw [Fa,hm]; exact sH _ _ _⟩
section
variable {s:StL} {j:JobL} {r:List JobL}
theorem lS (hj:s.jobs=j::r) (h:Be j.cmds=true) (hp:s.pos=0):B6 s=({s with mode:=7},some (Ap 0 (Co (Pk j.cmds).words) 0)):=by
 unfold B6; rw [hj]; simp only []; rw [if_pos ⟨h,hp⟩]
theorem lQ (hj:s.jobs=j::r) (h : ¬ Be j.cmds=true) (hp:s.pos=0) (hl:Bz j.cmds=true):B6 s=({s with jobs:=r,plan:=s.plan++[Ca]},none):=by
 unfold B6; rw [hj]; simp only []; rw [if_neg (fun q=>h q.1),if_pos ⟨hp,hl⟩]
theorem lR (hj:s.jobs=j::r) (h : ¬ (Be j.cmds=true/\s.pos=0)) (hl : ¬ (s.pos=0/\Bz j.cmds=true)) (hp:s.pos=(j.cmds.length:Int) - 1):B6 s=({s with mode:=4},some (Ap 1 0 0)):=by
 unfold B6; rw [hj]; simp only []; rw [if_neg h,if_neg hl,if_pos hp]
theorem lP (hj:s.jobs=j::r) (h : ¬ (Be j.cmds=true/\s.pos=0)) (hl : ¬ (s.pos=0/\Bz j.cmds=true)) (hp:s.pos < (j.cmds.length:Int) - 1):B6 s=({s with mode:=3},some (Ap 11 0 0)):=by
 unfold B6; rw [hj]; simp only []; rw [if_neg h,if_neg hl,if_neg (show ¬ s.pos=(j.cmds.length:Int) - 1 by omega),if_pos (show s.pos < (j.cmds.length:Int) by omega)]
theorem lO (hj:s.jobs=j::r) (h : ¬ (Be j.cmds=true/\s.pos=0)) (hl : ¬ (s.pos=0/\Bz j.cmds=true)) (hp:s.pos=(j.cmds.length:Int)) (hb:j.bg=false) (hk : 0 < s.kids.length):B6 s=({s with mode:=5},some (Ap 3 0 0)):=by
 unfold B6; rw [hj]; simp only []; rw [if_neg h,if_neg hl,if_neg (show ¬ s.pos=(j.cmds.length:Int) - 1 by omega),if_neg (show ¬ s.pos < (j.cmds.length:Int) by omega),if_pos ⟨hb,hk⟩]
theorem Zo (hj:s.jobs=j::r) (h : ¬ (Be j.cmds=true/\s.pos=0)) (hl : ¬ (s.pos=0/\Bz j.cmds=true)) (hp:s.pos=(j.cmds.length:Int)) (hb : ¬ (j.bg=false/\0 < s.kids.length)):B6 s=({s with jobs:=r,kids:=[],pos:=0,pv:=-1},none):=by
 unfold B6; rw [hj]; simp only []; rw [if_neg h,if_neg hl,if_neg (show ¬ s.pos=(j.cmds.length:Int) - 1 by omega),if_neg (show ¬ s.pos < (j.cmds.length:Int) by omega),if_neg hb]
end
def stP (js:List JobL) (k:Int) (pv:Int) (kids:List Int) (rd wr:Int) (p:List CallL):StL:=⟨0,k,⟨#[]⟩,js,rd,wr,pv,kids,p⟩
structure Inv (F:Prop) (w:WL) (pv:Int) (kids:List Int) (e:EX) (b:ByteArray) (left:Nat):Prop where
 fd:Fd w.fl inN F0 (C4 [pv])
 nm:F->(0<=pv->w.fl.at pv.toNat=rB++b)/\(0<=pv↔b.size≠0)
 pr : -1<=pv
 ok:w.ok=true
 lk:w.leak=false
 ex:w.exit < 0
 inp:w.inp=[]
 tk : 0<=w.tasks/\w.tasks+left<=15
 al : ∀ t∈w.alive,17<=t/\t<=16+w.tasks
 nd:w.alive.Pairwise (·≠·)
 kd : ∀ t∈kids,t∈w.alive
 last:kids≠[]->∃ l,w.alive=l++[16+w.tasks]/\16+w.tasks∈kids
 sub:(w.runs.map RunL.path).Sublist (e.runs.map RunL.path)
 pl : ∀ r∈w.runs,By r.fl=true
 full:F->w.fails=[]/\w.runs=e.runs/\w.told=e.told/\w.pipes=e.pipes/\(e.runs.length:Int)=w.tasks/\e.fin<=w.tasks - (w.alive.length:Int)/\w.waited.length=e.waited.length/\∀ i,e.waited.getD i 0<=w.waited.getD i 0
theorem Xm (p:Int):(C5 p).size≠0:=by
 unfold C5 Utf8.encode
 simp only []
 repeat' split
 all_goals (intro h; cases h)
theorem O8 (a:StL) (b:CallL) : ∀ (k:Nat) (s:StL) (x:CallL) (f:F8) (w:WL),Bw k s x f {w with st:=a,x:=b} = {Bw k s x f w with st:=a,x:=b}
 | 0,s,x,f,w=>rfl
 | k+1,s,x,f,w=>by
  simp only [Bw]
  by_cases h0:x.call=0
  · rw [if_pos h0,if_pos h0]
  · rw [if_neg h0,if_neg h0]
    have e:B9 {w with st:=a,x:=b}=B9 w:=rfl
    rw [e]
    by_cases h1:B9 w=true
    · rw [if_pos h1,if_pos h1]
      exact O8 a b k _ _ f (A8 w)
    · rw [if_neg h1,if_neg h1]
      by_cases h2:x.call=2
      · rw [if_pos h2,if_pos h2]; rfl
      · rw [if_neg h2,if_neg h2]
        exact O8 a b k _ _ _ {A8 w with told:=w.told+(A4 x f).2.2.2,ok:=w.ok && (A4 x f).2.1}
theorem Z7 (c:UInt8) (n:Int):(chP c n).size≠0:=by
 unfold chP
 rw [sS]
 have:(⟨#[c]⟩:ByteArray).size=1:=rfl
 omega
theorem Sw (l m:List Int):C4 (l++m)=C4 l++C4 m:=List.filter_append ..
theorem dY (l:List Int):(C4 l).length<=l.length:=List.length_filter_le ..
section
variable {s:StL} {w:WL}
theorem w_up {k:Int} (hv:Br {s with mode:=k}=true) (hj:Aq s.jobs=true) (hk:k=3\/k=4):Bi w (Bb {s with mode:=k} (-13) [])=Bi w (A5 (upT s))/\Pt (upT s):=by
 have e:Bb {s with mode:=k} (-13) []=A5 (upT s):=by
  rcases hk with rfl | rfl
  · rw [pV rfl (by decide),up_T]
    exact Eu (s:=upT s) hj 3
  · rw [dF rfl]
    unfold Gn
    rw [if_pos (by decide),up_T]
    exact Eu (s:=upT s) hj 4
 refine ⟨by rw [e],?_,hj⟩
 have:=Eo hv (-13) []
 rwa [e] at this
theorem aE (hv:Br {s with mode:=3}=true) (hj:Aq s.jobs=true) (hf:B9 w=true):Ba (Bi w ({s with mode:=3},Ap 11 0 0))=Bi (A8 w) (A5 (upT s))/\Pt (upT s):=by
 have h:=w_up (w:=A8 w) hv hj (.inl rfl)
 refine ⟨?_,h.2⟩
 rw [Yf (w:=Bi w ({s with mode:=3},Ap 11 0 0)) (.inl rfl) hf,H1 hv]
 exact h.1
theorem Pp (hv:Br {s with mode:=4}=true) (hj:Aq s.jobs=true) (hf:B9 w=true):Ba (Bi w ({s with mode:=4},Ap 1 0 0))=Bi (A8 w) (A5 (upT s))/\Pt (upT s):=by
 have h:=w_up (w:=A8 w) hv hj (.inr rfl)
 refine ⟨?_,h.2⟩
 rw [Yf (w:=Bi w ({s with mode:=4},Ap 1 0 0)) (.inr rfl) hf,H1 hv]
 exact h.1
theorem Vm {L:List Int} (hv:Br {s with mode:=3}=true) (hf : ¬ B9 w=true) (hd:Fd w.fl inN F0 L) (hL:L.length<=1) :
 ∃ a b F,Ba (Bi w ({s with mode:=3},Ap 11 0 0))=Bi {A8 w with pipes:=w.pipes+1,fl:=F} ({s with rd:=a,wr:=b,mode:=4},Ap 1 0 0)/\Br {s with rd:=a,wr:=b,mode:=4}=true /\
  Fd F inN F0 (b::a::L)/\F.at a.toNat=chP 114 (w.pipes+1)/\F.at b.toNat=chP 119 (w.pipes+1)/\∀ n∈L,F.at n.toNat=w.fl.at n.toNat:=by
 obtain ⟨a3,a8,aL⟩:=Up hd (by decide) (by decide) (by omega)
 have em:mid w.fl=w.fl.set (Ak w.fl).toNat ⟨#[114]⟩:=if_pos (by omega)
 have hm:Fd (mid w.fl) inN F0 (Ak w.fl::L):=by rw [em]; exact hd.add ⟨a3,a8⟩ aL (by decide)
 obtain ⟨b3,b8,bL⟩:=Up hm (by decide) (by decide) (by simp only [sE]; omega)
 have hF:=(hd.add ⟨a3,a8⟩ aL (Z7 114 (w.pipes+1))).add ⟨b3,b8⟩ bL (Z7 119 (w.pipes+1))
 have hne:Ak (mid w.fl)≠Ak w.fl:=fun e=>bL (by rw [e]; exact sK ..)
 have e:Bb {s with mode:=3} (256*Ak w.fl+Ak (mid w.fl)) []=({s with rd:=Ak w.fl,wr:=Ak (mid w.fl),mode:=4},Ap 1 0 0):=by
  rw [sst_3 rfl (by omega)]
  have h1:(256*Ak w.fl+Ak (mid w.fl)) / 256 % 8=Ak w.fl:=by omega
  have h2:(256*Ak w.fl+Ak (mid w.fl)) % 256 % 8=Ak (mid w.fl):=by omega
  rw [h1,h2]
 refine ⟨Ak w.fl,Ak (mid w.fl),_,?_,?_,hF,?_,?_,?_⟩
 · rw [jM (w:=Bi w ({s with mode:=3},Ap 11 0 0)) rfl hf]
   unfold Gh
   rw [if_pos (show 0<=Ak (mid (A8 (Bi w ({s with mode:=3},Ap 11 0 0))).fl) from (show 0<=Ak (mid w.fl) by omega)),H1 hv]
   show Bi _ (Bb {s with mode:=3} (256*Ak w.fl+Ak (mid w.fl)) [])=_
   rw [e]
   rfl
 · have:=Eo hv (256*Ak w.fl+Ak (mid w.fl)) []
   rwa [e] at this
 · rw [F8.at_set _ _ (by omega) (by omega),if_neg (by omega),F8.at_set _ _ (by omega) (by omega),if_pos rfl]
 · rw [F8.at_set _ _ (by omega) (by omega),if_pos rfl]
 · intro n hn
   have hr:=hd.rg n hn
   rw [F8.at_set _ _ (by omega) (by omega),if_neg (fun q=>bL (sP _ (by rw [show Ak (mid w.fl)=n by omega]; exact hn))),F8.at_set _ _ (by omega) (by omega),if_neg (fun q=>aL (by rw [show Ak w.fl=n by omega]; exact hn))]
def H3 (w:WL):WL:={A8 w with waited:=w.waited++[w.tasks - (w.alive.length:Int)],tasks:=w.tasks+1,alive:=w.alive++[16+(w.tasks+1)]}
theorem Vn (hv:Br {s with mode:=4}=true) (hj:Aq s.jobs=true) (hf : ¬ B9 w=true) (ht : 0<=w.tasks/\w.tasks < 15) :
 Ba (Bi w ({s with mode:=4},Ap 1 0 0))=Bi (Cv {s with mode:=4} w.fl (H3 w)) (A5 (Mj s (16+(w.tasks+1))))/\Pt (Mj s (16+(w.tasks+1))):=by
 have e:Bb {s with mode:=4} (16+(w.tasks+1)) []=A5 (Mj s (16+(w.tasks+1))):=by
  rw [dF rfl]
  unfold Gn
  rw [if_neg (by omega),if_neg (by omega)]
  exact Eu (s:=Mj s (16+(w.tasks+1))) hj 4
 have hst : ∀ W:WL,W.st = {s with mode:=4}->goW (Cv {s with mode:=4} w.fl W) (16+(w.tasks+1)) []=Bi (Cv {s with mode:=4} w.fl W) (A5 (Mj s (16+(w.tasks+1)))):=fun W hW=>by
  have hs:(Cv {s with mode:=4} w.fl W).st = {s with mode:=4}:=(Ez 40 _ _ _ W).st.trans hW
  rw [H1 (by rw [hs]; exact hv),hs,e]
 refine ⟨?_,?_,hj⟩
 · rw [jN (w:=Bi w ({s with mode:=4},Ap 1 0 0)) rfl hf ht.2]
   unfold Oi
   refine (hst _ rfl).trans ?_
   have hc : ∀ (W:WL) (q:StL×CallL),Bi (Cv {s with mode:=4} w.fl (Bi W q)) (A5 (Mj s (16+(w.tasks+1))))=Bi (Cv {s with mode:=4} w.fl W) (A5 (Mj s (16+(w.tasks+1)))):=fun W q=>by
    unfold Cv
    have:=O8 q.1 q.2 40 (Bf {s with mode:=4} 0 []).1 (Bf {s with mode:=4} 0 []).2 w.fl W
    rw [show Bi W q = {W with st:=q.1,x:=q.2} from rfl,this]
    rfl
   exact hc (H3 w) ({s with mode:=4},Ap 1 0 0)
 · have:=Eo hv (16+(w.tasks+1)) []
   rwa [e] at this
end
theorem gQ {a b:List Int} (x y:Int) (hl:a.length=b.length) (h : ∀ i,b.getD i 0<=a.getD i 0) (hxy:y<=x) (i:Nat):(b++[y]).getD i 0<=(a++[x]).getD i 0:=by
 have h':=h i
 simp only [List.getD_eq_getElem?_getD,List.getElem?_append] at h' ⊢
 rw [hl]
 split
 · exact h'
 · cases i - b.length with
   | zero=>exact hxy
   | succ n=>exact Int.le_refl 0
theorem gB {kids:List Int} {t:Int} (h : ∀ x∈kids,x < t) (h1 : 16<=t) (h2:t < 32):C6 kids (t % 32)=kids++[t]:=by
 have e:t % 32=t:=by omega
 have hc:kids.contains t=false:=by
  cases hq:kids.contains t with
  | false=>rfl
  | true=>exact absurd (h t (List.contains_iff_mem.1 hq)) (by omega)
 unfold C6
 rw [e,if_pos ⟨rY ⟨h1,h2⟩,hc⟩]
theorem Ur {F:Prop} {w:WL} {js:List JobL} {k:Nat} {pv rd wr:Int} {kids:List Int} {left:Nat} {b:ByteArray} {e:EX} {c:CmdL} {last:Bool}
 (hv:Br {stP js k pv kids rd wr [] with mode:=4}=true) (hj:Aq js=true) (hc:C9 (stP js k pv kids rd wr [])=c)
 (hfd:Fd w.fl inN F0 (C4 [pv,rd,wr])) (hrw : 0<=wr↔0<=rd) (hla:last=true↔¬ 0<=rd) (hr : -1<=rd) (hpr : -1<=pv)
 (hf : ¬ B9 w=true) (ok:w.ok=true) (lk:w.leak=false) (ex:w.exit < 0) (inp:w.inp=[]) (tk : 0<=w.tasks/\w.tasks+(left+1)<=15)
 (al : ∀ t∈w.alive,17<=t/\t<=16+w.tasks) (nd:w.alive.Pairwise (·≠·)) (kd : ∀ t∈kids,t∈w.alive)
 (sub:(w.runs.map RunL.path).Sublist (e.runs.map RunL.path)) (pl : ∀ r∈w.runs,By r.fl=true)
 (full:F->w.fails=[]/\w.runs=e.runs/\w.told=e.told/\w.pipes=(if last=true then e.pipes else e.pipes+1)/\(e.runs.length:Int)=w.tasks/\e.fin<=w.tasks - (w.alive.length:Int)/\w.waited.length=e.waited.length/\(∀ i,e.waited.getD i 0<=w.waited.getD i 0) /\
  (0<=pv->w.fl.at pv.toNat=rB++b)/\(0<=pv↔b.size≠0)/\(0<=rd->w.fl.at rd.toNat=rB++C5 (e.pipes+1)/\w.fl.at wr.toNat=wB++C5 (e.pipes+1))) :
 ∃ n w',Rch n (Bi w ({stP js k pv kids rd wr [] with mode:=4},Ap 1 0 0)) (Bi w' (A5 (stP js (k+1) rd (kids++[16+(w.tasks+1)]) (-1) (-1) [])))/\Pt (stP js (k+1) rd (kids++[16+(w.tasks+1)]) (-1) (-1) []) /\
  Inv F w' rd (kids++[16+(w.tasks+1)]) (X1 c last b e) (if last=true then ⟨#[]⟩ else C5 (e.pipes+1)) left/\n<=3/\w'.alive.length=w.alive.length+1:=by
 obtain ⟨h1,hP⟩:=Vn (s:=stP js k pv kids rd wr []) (w:=w) hv hj hf ⟨tk.1,by omega⟩
 have hkid:C6 kids ((16+(w.tasks+1)) % 32)=kids++[16+(w.tasks+1)]:=gB (fun x hx=>by have:=al x (kd x hx); omega) (by omega) (by omega)
 have eT:Mj (stP js k pv kids rd wr []) (16+(w.tasks+1))=stP js (k+1) rd (kids++[16+(w.tasks+1)]) (-1) (-1) (Bh [pv,wr]):=by
  show (⟨0,(k:Int)+1,⟨#[]⟩,js,-1,-1,rd,C6 kids ((16+(w.tasks+1)) % 32),[]++Bh [pv,wr]⟩:StL)=_
  rw [hkid]; rfl
 rw [eT] at h1 hP
 obtain ⟨f1,f2,f3⟩:=gR (s:={stP js k pv kids rd wr [] with mode:=4}) (f:=w.fl) (w:=H3 w) hv rfl hfd hrw rfl rfl
 have hsame:=Ez 40 (Bf {stP js k pv kids rd wr [] with mode:=4} 0 []).1 (Bf {stP js k pv kids rd wr [] with mode:=4} 0 []).2 w.fl (H3 w)
 have hok:=cN (s:={stP js k pv kids rd wr [] with mode:=4}) (f:=w.fl) (w:=H3 w) hv rfl
 have hcm:C9 {stP js k pv kids rd wr [] with mode:=4}=c:=hc
 rw [hcm] at f1 f2 f3
 change sameC (H3 w) (Cv {stP js k pv kids rd wr [] with mode:=4} w.fl (H3 w)) at hsame
 generalize Cv {stP js k pv kids rd wr [] with mode:=4} w.fl (H3 w)=W at h1 f1 f2 hsame hok
 have hrun:Rch 1 (Bi w ({stP js k pv kids rd wr [] with mode:=4},Ap 1 0 0)) (Ba (Bi w ({stP js k pv kids rd wr [] with mode:=4},Ap 1 0 0))):=Rch.one ex
 rw [h1] at hrun
 have hex:W.exit < 0:=by rw [hsame.exit]; exact ex
 obtain ⟨d1,d2⟩:=Z2 (Bh [pv,wr]) (stP js (k+1) rd (kids++[16+(w.tasks+1)]) (-1) (-1) []) W hP (Jw _) hex
 have hp:(C4 [pv,rd,wr]).Perm (C4 [pv,wr]++C4 [rd]):=by
  rw [← Sw]
  exact List.Perm.filter _ (List.Perm.cons pv (List.Perm.swap wr rd []))
 have hfl:W.fl=w.fl:=hsame.fl
 obtain ⟨g,c1,c2,c3⟩:=Gz [pv,wr] (C4 [rd]) W (by rw [hfl]; exact hfd.perm hp)
 rw [c1] at d1
 have hcl:=Hh [pv,wr]
 have hmem : 0<=rd->rd∈C4 [rd]:=fun h=>by rw [G2 h]; exact sK ..
 refine ⟨1+(Bh [pv,wr]).length,{W with fl:=g},hrun.trans d1,d2,?_,?_,?_⟩
 · have ha:W.alive=w.alive++[16+(w.tasks+1)]:=hsame.alive
   have ht:W.tasks=w.tasks+1:=hsame.tasks
   have hruns:W.runs=w.runs\/W.runs=w.runs++[⟨Bp c,Ht c (if 0<=pv then w.fl.at pv.toNat else inN) (if 0<=wr then w.fl.at wr.toNat else F0)⟩]:=f1
   refine ⟨c2,fun hF=>?_,hr,hok.trans ok,hsame.leak.trans lk,hex,hsame.inp.trans inp,?_,?_,?_,?_,fun _=>⟨w.alive,?_,?_⟩,?_,?_,fun hF=>?_⟩
   · obtain ⟨_,_,_,_,_,_,_,_,_,_,q⟩:=full hF
     have hz:=Xm (e.pipes+1)
     by_cases h0 : 0<=rd
     · have hl : ¬ last=true:=fun q=>hla.1 q h0
       rw [if_neg hl]
       refine ⟨fun _=>?_,fun _=>hz,fun _=>h0⟩
       show g.at rd.toNat=_
       rw [c3 rd (hmem h0),hfl,(q h0).1]
     · have hl:last=true:=hla.2 h0
       rw [if_pos hl]
       exact ⟨fun h=>absurd h h0,fun h=>absurd h h0,fun h=>absurd rfl h⟩
   · show 0<=W.tasks/\W.tasks+(left:Int)<=15
     rw [ht]; omega
   · show ∀ t∈W.alive,17<=t/\t<=16+W.tasks
     rw [ha,ht]
     intro t hm
     rcases List.mem_append.1 hm with hm | hm
     · have:=al t hm; omega
     · have:t=16+(w.tasks+1):=sM.1 hm
       omega
   · show W.alive.Pairwise (·≠·)
     rw [ha]
     refine List.pairwise_append.2 ⟨nd,List.pairwise_singleton _ _,fun x hx y hy=>?_⟩
     have:=al x hx
     have:y=16+(w.tasks+1):=sM.1 hy
     omega
   · show ∀ t∈_,t∈W.alive
     rw [ha]
     intro t hm
     rcases List.mem_append.1 hm with hm | hm
     · exact List.mem_append_left _ (kd t hm)
     · exact List.mem_append_right _ hm
   · show W.alive=_++[16+W.tasks]
     rw [ha,ht]
   · show 16+W.tasks∈_
     rw [ht]; exact List.mem_append_right _ (sM.2 rfl)
   · show (W.runs.map RunL.path).Sublist ((e.runs++[_]).map RunL.path)
     rw [List.map_append]
     rcases hruns with q | q
     · rw [q]; exact sub.trans (List.sublist_append_left _ _)
     · rw [q,List.map_append]; exact sub.append (List.Sublist.refl _)
   · show ∀ r∈W.runs,_
     intro r hm
     rcases hruns with q | q
     · rw [q] at hm; exact pl r hm
     · rw [q] at hm
       rcases List.mem_append.1 hm with hm | hm
       · exact pl r hm
       · rw [sM.1 hm]; exact f3
   · obtain ⟨q1,q2,q3,q4,q5,q6,q7,q8,q9,q10,q11⟩:=full hF
     have hfB:(H3 w).fails=[]:=by show w.fails.tail=[]; rw [q1]; rfl
     have hW:=f2 hfB
     have ei:(if 0<=pv then w.fl.at pv.toNat else inN)=Ea b:=by
      unfold Ea
      by_cases h0 : 0<=pv
      · rw [if_pos h0,if_pos (q10.1 h0),q9 h0]
      · rw [if_neg h0,if_neg (fun h=>h0 (q10.2 h))]
     have eo:(if 0<=wr then w.fl.at wr.toNat else F0)=Fe last e.pipes:=by
      unfold Fe
      by_cases h0 : 0<=rd
      · rw [if_pos (hrw.2 h0),if_neg (fun q=>hla.1 q h0),(q11 h0).2]
      · rw [if_neg (fun q=>h0 (hrw.1 q)),if_pos (hla.2 h0)]
     have e1:(Cv {stP js k pv kids rd wr [] with mode:=4} w.fl (H3 w))=(Cv {stP js k pv kids rd wr [] with mode:=4} w.fl (H3 w)):=rfl
     refine ⟨by rw [hW]; exact hfB,?_,by rw [hW]; exact q3,by rw [hW]; exact q4,?_,?_,?_,?_⟩
     · rw [hW]
       show w.runs++[_]=e.runs++[_]
       rw [q2]
       show e.runs++[RunL.mk (Bp c) (Ht c (if 0<=pv then w.fl.at pv.toNat else inN) (if 0<=wr then w.fl.at wr.toNat else F0))]=_
       rw [ei,eo]
     · show (((e.runs++[_]).length:Nat):Int)=W.tasks
       rw [sD,List.length_singleton,ht]
       omega
     · show e.fin<=W.tasks - (W.alive.length:Int)
       rw [ht,ha,sD,List.length_singleton]
       omega
     · rw [hW]
       show (w.waited++[_]).length=(e.waited++[_]).length
       rw [sD,sD,q7]; rfl
     · rw [hW]
       intro i
       show (e.waited++[e.fin]).getD i 0<=(w.waited++[w.tasks - (w.alive.length:Int)]).getD i 0
       exact gQ _ _ q7 q8 q6 i
 · have : [pv,wr].length=2:=rfl
   omega
 · show W.alive.length=_
   rw [hsame.alive]
   show (w.alive++[_]).length=_
   rw [sD,List.length_singleton]
theorem V7 (pv:Int):C4 [pv,-1,-1]=C4 [pv]:=by
 by_cases h : 0<=pv
 · rw [G2 h,G2 h]; rfl
 · rw [N0 h,N0 h]; rfl
theorem Vr {w:WL} {j:JobL} {r:List JobL} {k:Nat} {pv rd wr:Int} {kids:List Int} (hP:Pt (upT (stP (j::r) k pv kids rd wr []))) (hfd:Fd w.fl inN F0 (C4 [pv,rd,wr])) (ex:w.exit < 0) :
 ∃ n f,Rch n (Bi w (A5 (upT (stP (j::r) k pv kids rd wr [])))) (Bi {w with fl:=f,told:=w.told+1} (A5 (stP (j::r) (j.cmds.length:Int) (-1) kids (-1) (-1) [])))/\Pt (stP (j::r) (j.cmds.length:Int) (-1) kids (-1) (-1) [])/\Fd f inN F0 []/\n<=4:=by
 have e:upT (stP (j::r) k pv kids rd wr [])=stP (j::r) (j.cmds.length:Int) (-1) kids (-1) (-1) (Bh [pv,rd,wr]++[Ca]):=rfl
 rw [e] at hP ⊢
 obtain ⟨d1,d2⟩:=Z2 (Bh [pv,rd,wr]++[Ca]) (stP (j::r) (j.cmds.length:Int) (-1) kids (-1) (-1) []) w hP ((Jw _).app Mb) ex
 obtain ⟨f,c1,c2,_⟩:=Gz [pv,rd,wr] [] w (by rw [sN]; exact hfd)
 rw [kJ,c1,Sh] at d1
 refine ⟨_,f,d1,d2,c2,?_⟩
 have:=Hh [pv,rd,wr]
 have h3 : [pv,rd,wr].length=3:=rfl
 rw [sD,List.length_singleton]
 omega
theorem Xr {F:Prop} {w w2:WL} {pv:Int} {kids:List Int} {e e':EX} {b:ByteArray} {left left':Nat} (hF : ¬ F) (h:Inv F w pv kids e b left) (h1:w2.ok=w.ok) (h2:w2.leak=w.leak) (h3:w2.exit=w.exit) (h4:w2.inp=w.inp) (h5:w2.tasks=w.tasks) (h6:w2.alive=w.alive) (h7:w2.runs=w.runs)
 (hfd:Fd w2.fl inN F0 []) (he : ∃ m,e'.runs=e.runs++m) (hl:left'<=left):Inv F w2 (-1) kids e' ⟨#[]⟩ left':=by
 obtain ⟨m,hm⟩:=he
 refine ⟨hfd,fun q=>absurd q hF,by decide,h1.trans h.ok,h2.trans h.lk,by rw [h3]; exact h.ex,h4.trans h.inp,by rw [h5]; have:=h.tk; omega,by rw [h6,h5]; exact h.al,by rw [h6]; exact h.nd,by rw [h6]; exact h.kd,by rw [h6,h5]; exact h.last,?_,by rw [h7]; exact h.pl,fun q=>absurd q hF⟩
 rw [h7,hm,List.map_append]
 exact h.sub.trans (List.sublist_append_left _ _)
theorem iE {α:Type} {l:List α} {k:Nat} {c : α} {r:List α} (h:l.drop k=c::r):k < l.length/\l[k]? = some c/\l.drop (k+1)=r/\r.length=l.length - (k+1):=by
 have hk:k < l.length:=by
  rcases Nat.lt_or_ge k l.length with h' | h'
  · exact h'
  · rw [List.drop_eq_nil_of_le h'] at h; cases h
 have h2:l.drop (k+1)=r:=by rw [← List.drop_drop,h]; rfl
 refine ⟨hk,?_,h2,by rw [← h2,List.length_drop]⟩
 have:=List.drop_eq_getElem_cons hk
 rw [h] at this
 rw [List.getElem?_eq_getElem hk]
 exact congrArg some (List.cons.inj this).1.symm
theorem iS {j:JobL} {r:List JobL} {k:Nat} {pv rd wr:Int} {kids:List Int} {c:CmdL} (h:j.cmds[k]? = some c):C9 (stP (j::r) k pv kids rd wr [])=c:=by
 show j.cmds.getD (k:Int).toNat Fh=c
 rw [show (k:Int).toNat=k by omega]
 exact K2 h
theorem nP {F:Prop} {w:WL} {j:JobL} {r:List JobL} {k:Nat} {pv:Int} {kids:List Int} {left:Nat} {b:ByteArray} {e:EX} {c:CmdL} {l:List CmdL}
 (hl:j.cmds.drop k=c::l) (hx : ¬ Be j.cmds=true) (hg : ¬ Bz j.cmds=true) (hI:Inv F w pv kids e b (left+1)) (hP:Pt (stP (j::r) k pv kids (-1) (-1) [])) :
 (∃ n w' pv' kids',Rch n (Bi w (A5 (stP (j::r) k pv kids (-1) (-1) []))) (Bi w' (A5 (stP (j::r) ((k+1:Nat):Int) pv' kids' (-1) (-1) [])))/\Pt (stP (j::r) ((k+1:Nat):Int) pv' kids' (-1) (-1) []) /\
  Inv F w' pv' kids' (X1 c l.isEmpty b e) (if l.isEmpty=true then ⟨#[]⟩ else C5 (e.pipes+1)) left/\kids'≠[]/\(l=[]->pv' = -1)/\n+w'.alive.length<=w.alive.length+7) \/
 (¬ F/\∃ n w',Rch n (Bi w (A5 (stP (j::r) k pv kids (-1) (-1) []))) (Bi w' (A5 (stP (j::r) (j.cmds.length:Int) (-1) kids (-1) (-1) [])))/\Pt (stP (j::r) (j.cmds.length:Int) (-1) kids (-1) (-1) []) /\
  (∀ e':EX,(∃ m,e'.runs=e.runs++m)->∀ left',left'<=left+1->Inv F w' (-1) kids e' ⟨#[]⟩ left')/\n+w'.alive.length<=w.alive.length+7):=by
 obtain ⟨hk,hc,hd,hlen⟩:=iE hl
 have hcmd : ∀ rd wr,C9 (stP (j::r) k pv kids rd wr [])=c:=fun rd wr=>iS hc
 have hnF:B9 w=true->¬ F:=fun hf q=>by
  have:=(hI.full q).1
  unfold B9 at hf
  rw [this] at hf; cases hf
 have hfull:=fun q=>hI.full q
 have hjl : 0 < (stP (j::r) k pv kids (-1) (-1) []).jobs.length:=sU _
 by_cases hle:l=[]
 · subst hle
   have hkm:(k:Int)=(j.cmds.length:Int) - 1:=by have:([]:List CmdL).length=0:=rfl; omega
   have hS:=G1 (s:=stP (j::r) k pv kids (-1) (-1) []) rfl hjl (lR rfl (fun q=>hx q.1) (fun q=>hg q.2) hkm)
   have hv:=hP.v
   rw [hS] at hv ⊢
   have hrun:Rch 1 (Bi w ({stP (j::r) k pv kids (-1) (-1) [] with mode:=4},Ap 1 0 0)) (Ba (Bi w ({stP (j::r) k pv kids (-1) (-1) [] with mode:=4},Ap 1 0 0))):=Rch.one hI.ex
   by_cases hf:B9 w=true
   · obtain ⟨h1,h2⟩:=Pp (s:=stP (j::r) k pv kids (-1) (-1) []) (w:=w) hv hP.j hf
     rw [h1] at hrun
     obtain ⟨n,f,u1,u2,u3,u4⟩:=Vr (w:=A8 w) h2 (by rw [V7]; exact hI.fd) hI.ex
     refine .inr ⟨hnF hf,1+n,_,hrun.trans u1,u2,fun e' he left' hle=>Xr (hnF hf) hI rfl rfl rfl rfl rfl rfl rfl u3 he hle,?_⟩
     show 1+n+w.alive.length<=_
     omega
   · obtain ⟨n,w',u1,u2,u3,u4,u5⟩:=Ur (F:=F) (w:=w) (left:=left) (b:=b) (e:=e) (last:=true) hv hP.j (hcmd (-1) (-1)) (by rw [V7]; exact hI.fd) (by decide) (by decide) (by decide) hI.pr hf hI.ok hI.lk hI.ex hI.inp (by have:=hI.tk; omega) hI.al hI.nd hI.kd hI.sub hI.pl
      (fun q=>by
       obtain ⟨q1,q2,q3,q4,q5,q6,q7,q8⟩:=hI.full q
       exact ⟨q1,q2,q3,by rw [if_pos rfl]; exact q4,q5,q6,q7,q8,(hI.nm q).1,(hI.nm q).2,fun h=>absurd h (by decide)⟩)
     refine .inl ⟨n,w',-1,_,u1,u2,u3,?_,fun _=>rfl,by omega⟩
     intro h; have:=congrArg List.length h; simp at this
 · have hlp : 0 < l.length:=by cases l with
    | nil=>exact absurd rfl hle
    | cons a b=>exact sU _
   have hie:l.isEmpty=false:=by cases l with
    | nil=>exact absurd rfl hle
    | cons a b=>rfl
   have hkm:(k:Int) < (j.cmds.length:Int) - 1:=by omega
   have hS:=G1 (s:=stP (j::r) k pv kids (-1) (-1) []) rfl hjl (lP rfl (fun q=>hx q.1) (fun q=>hg q.2) hkm)
   have hv:=hP.v
   rw [hS] at hv ⊢
   have hrun:Rch 1 (Bi w ({stP (j::r) k pv kids (-1) (-1) [] with mode:=3},Ap 11 0 0)) (Ba (Bi w ({stP (j::r) k pv kids (-1) (-1) [] with mode:=3},Ap 11 0 0))):=Rch.one hI.ex
   by_cases hf:B9 w=true
   · obtain ⟨h1,h2⟩:=aE (s:=stP (j::r) k pv kids (-1) (-1) []) (w:=w) hv hP.j hf
     rw [h1] at hrun
     obtain ⟨n,f,u1,u2,u3,u4⟩:=Vr (w:=A8 w) h2 (by rw [V7]; exact hI.fd) hI.ex
     refine .inr ⟨hnF hf,1+n,_,hrun.trans u1,u2,fun e' he left' hle=>Xr (hnF hf) hI rfl rfl rfl rfl rfl rfl rfl u3 he hle,?_⟩
     show 1+n+w.alive.length<=_
     omega
   · obtain ⟨a,d,G,p1,p2,p3,p4,p5,p6⟩:=Vm (s:=stP (j::r) k pv kids (-1) (-1) []) (w:=w) hv hf hI.fd (dY _)
     rw [p1] at hrun
     have ra:=p3.rg a (by simp)
     have rd_:=p3.rg d (by simp)
     have hperm:(d::a::C4 [pv]).Perm (C4 [pv,a,d]):=by
      have e1:C4 [pv,a,d]=C4 [pv]++[a,d]:=by
       rw [show [pv,a,d]=[pv]++[a,d] from rfl,Sw,G2 (show 0<=a by omega),G2 (show 0<=d by omega)]; rfl
      rw [e1]
      exact ((List.Perm.swap a d _)).trans (List.perm_append_comm (l₁:=[a,d]) (l₂:=C4 [pv]))
     have hfd2:=p3.perm hperm
     have hp2 : {stP (j::r) k pv kids (-1) (-1) [] with rd:=a,wr:=d,mode:=4}=({stP (j::r) k pv kids a d [] with mode:=4}:StL):=rfl
     rw [hp2] at p2 hrun
     have hrun2:Rch 1 (Bi {A8 w with pipes:=w.pipes+1,fl:=G} ({stP (j::r) k pv kids a d [] with mode:=4},Ap 1 0 0)) (Ba (Bi {A8 w with pipes:=w.pipes+1,fl:=G} ({stP (j::r) k pv kids a d [] with mode:=4},Ap 1 0 0))):=Rch.one hI.ex
     by_cases hf2:B9 {A8 w with pipes:=w.pipes+1,fl:=G}=true
     · have hnF2 : ¬ F:=fun q=>by
        have:=(hI.full q).1
        unfold B9 at hf2
        rw [show ({A8 w with pipes:=w.pipes+1,fl:=G}:WL).fails=[] by show w.fails.tail=[]; rw [this]; rfl] at hf2
        cases hf2
       obtain ⟨h1,h2⟩:=Pp (s:=stP (j::r) k pv kids a d []) (w:={A8 w with pipes:=w.pipes+1,fl:=G}) p2 hP.j hf2
       rw [h1] at hrun2
       obtain ⟨n,f,u1,u2,u3,u4⟩:=Vr (w:=A8 {A8 w with pipes:=w.pipes+1,fl:=G}) h2 hfd2 hI.ex
       refine .inr ⟨hnF2,1+(1+n),_,hrun.trans (hrun2.trans u1),u2,fun e' he left' hle=>Xr hnF2 hI rfl rfl rfl rfl rfl rfl rfl u3 he hle,?_⟩
       show 1+(1+n)+w.alive.length<=_
       omega
     · have hrd : 0<=a:=by omega
       obtain ⟨n,w',u1,u2,u3,u4,u5⟩:=Ur (F:=F) (w:={A8 w with pipes:=w.pipes+1,fl:=G}) (left:=left) (b:=b) (e:=e) (last:=false) p2 hP.j (hcmd a d) hfd2 ⟨fun _=>hrd,fun _=>by omega⟩ ⟨fun h=>by (cases h),fun h=>absurd hrd h⟩ (by omega) hI.pr hf2 hI.ok hI.lk hI.ex hI.inp (by show 0<=w.tasks/\w.tasks+((left:Int)+1)<=15; have:=hI.tk; omega) hI.al hI.nd hI.kd hI.sub hI.pl
        (fun q=>by
         obtain ⟨q1,q2,q3,q4,q5,q6,q7,q8⟩:=hI.full q
         refine ⟨by show w.fails.tail=[]; rw [q1]; rfl,q2,q3,?_,q5,q6,q7,q8,fun h=>?_,(hI.nm q).2,fun _=>⟨?_,?_⟩⟩
         · show w.pipes+1=_
           rw [q4]; rfl
         · show G.at pv.toNat=_
           rw [p6 pv (by rw [G2 h]; exact sK ..)]
           exact (hI.nm q).1 h
         · show G.at a.toNat=_
           rw [p4,q4]; rfl
         · show G.at d.toNat=_
           rw [p5,q4]; rfl)
       rw [hie]
       refine .inl ⟨1+n,w',a,_,hrun.trans u1,u2,u3,?_,fun h=>absurd h hle,?_⟩
       · intro h; have:=congrArg List.length h; simp at this
       · have:w'.alive.length=w.alive.length+1:=u5
         omega
theorem U4 {F:Prop} {j:JobL} {r:List JobL} (hx : ¬ Be j.cmds=true) (hg : ¬ Bz j.cmds=true) : ∀ (l:List CmdL) (k:Nat) (w:WL) (pv:Int) (kids:List Int) (b:ByteArray) (e:EX) (left:Nat),
 j.cmds.drop k=l->k<=j.cmds.length->(l=[]->pv = -1/\b=⟨#[]⟩/\kids≠[])->Inv F w pv kids e b (left+l.length)->Pt (stP (j::r) k pv kids (-1) (-1) []) ->
 ∃ n w' kids',Rch n (Bi w (A5 (stP (j::r) k pv kids (-1) (-1) []))) (Bi w' (A5 (stP (j::r) (j.cmds.length:Int) (-1) kids' (-1) (-1) [])))/\Pt (stP (j::r) (j.cmds.length:Int) (-1) kids' (-1) (-1) []) /\
  Inv F w' (-1) kids' (Fa l b e) ⟨#[]⟩ left/\(F->kids'≠[])/\n+w'.alive.length<=w.alive.length+7*l.length
 | [],k,w,pv,kids,b,e,left,hl,hk,h0,hI,hP=>by
  obtain ⟨rfl,rfl,hkn⟩:=h0 rfl
  have:j.cmds.length - k=0:=by rw [← List.length_drop,hl]; rfl
  have ek:k=j.cmds.length:=by omega
  rw [ek] at hP ⊢
  exact ⟨0,w,kids,Rch.refl _,hP,hI,fun _=>hkn,by omega⟩
 | c::l,k,w,pv,kids,b,e,left,hl,hk,h0,hI,hP=>by
  obtain ⟨hk',hc,hd,hlen⟩:=iE hl
  rcases nP (left:=left+l.length) hl hx hg hI hP with ⟨n,w',pv',kids',u1,u2,u3,u4,u5,u6⟩ | ⟨hF,n,w',u1,u2,u3,u4⟩
  · obtain ⟨n2,w2,kids2,v1,v2,v3,v4,v5⟩:=U4 hx hg l (k+1) w' pv' kids' _ _ left hd (by omega) (fun q=>⟨u5 q,by rw [q]; rfl,u4⟩) u3 u2
    refine ⟨n+n2,w2,kids2,u1.trans v1,v2,?_,v4,by rw [sE]; omega⟩
    have ee:Fa (c::l) b e=Fa l (if l.isEmpty=true then ⟨#[]⟩ else C5 (e.pipes+1)) (X1 c l.isEmpty b e):=by
     cases l with
     | nil=>rfl
     | cons _ _=>rfl
    rw [ee]; exact v3
  · refine ⟨n,w',kids,u1,u2,u3 _ (Ou _ _ _) left (by omega),fun q=>absurd q hF,by rw [sE]; omega⟩
theorem Inv.plain {F:Prop} {w:WL} {kids:List Int} {e:EX} {b:ByteArray} {left:Nat} (h:Inv F w (-1) kids e b left):By w.fl=true:=by
 have h1:Fd w.fl inN F0 []:=h.fd
 rw [h1.flat]
 exact Oj (by decide) (by decide)
theorem Lx {w:WL} (h:w.leak=false) (hp:By w.fl=true):Gb w=w:=by
 unfold Gb
 rw [h,hp]
 show {w with leak:=false}=w
 rw [← h]
theorem waits {F:Prop} {j:JobL} {r:List JobL} (hx : ¬ Be j.cmds=true) (hg : ¬ Bz j.cmds=true) (hb:j.bg=false) : ∀ (m:Nat) (w:WL) (kids:List Int) (e:EX) (left:Nat),
 w.alive.length=m->Inv F w (-1) kids e ⟨#[]⟩ left->Pt (stP (j::r) (j.cmds.length:Int) (-1) kids (-1) (-1) []) ->
 ∃ n w',Rch n (Bi w (A5 (stP (j::r) (j.cmds.length:Int) (-1) kids (-1) (-1) []))) (Bi w' (A5 (stP (j::r) (j.cmds.length:Int) (-1) [] (-1) (-1) [])))/\Pt (stP (j::r) (j.cmds.length:Int) (-1) [] (-1) (-1) []) /\
  Inv F w' (-1) [] e ⟨#[]⟩ left/\(kids≠[]->w'.alive=[])/\n+w'.alive.length<=w.alive.length
 | m,w,[],e,left,hm,hI,hP=>⟨0,w,Rch.refl _,hP,hI,fun h=>absurd rfl h,by omega⟩
 | 0,w,t::ks,e,left,hm,hI,hP=>by
  have:=hI.kd t (sK ..)
  rw [List.length_eq_zero_iff.1 hm] at this
  exact absurd this sL
 | m+1,w,t::ks,e,left,hm,hI,hP=>by
  obtain ⟨a,l,hal⟩ : ∃ a l,w.alive=a::l:=by
   cases hq:w.alive with
   | nil=>rw [hq] at hm; cases hm
   | cons a l=>exact ⟨a,l,rfl⟩
  have hjl : 0 < (stP (j::r) (j.cmds.length:Int) (-1) (t::ks) (-1) (-1) []).jobs.length:=sU _
  have hS:=G1 (s:=stP (j::r) (j.cmds.length:Int) (-1) (t::ks) (-1) (-1) []) rfl hjl (lO rfl (fun q=>hx q.1) (fun q=>hg q.2) rfl hb (sU _))
  have hv:=hP.v
  rw [hS] at hv ⊢
  have ha:=hI.al a (by rw [hal]; exact sK ..)
  have est:Bb {stP (j::r) (j.cmds.length:Int) (-1) (t::ks) (-1) (-1) [] with mode:=5} (256*a) []=A5 (stP (j::r) (j.cmds.length:Int) (-1) ((t::ks).filter fun x=>!(x == a)) (-1) (-1) []):=by
   unfold Bb
   rw [if_neg (show ¬ (5:Int)=0 by decide),if_neg (show ¬ (5:Int)=1 by decide),if_neg (show ¬ (5:Int)=2 by decide),if_neg (show ¬ (5:Int)=3 by decide),if_neg (show ¬ (5:Int)=4 by decide),if_pos (show (5:Int)=5 from rfl),if_neg (show ¬ 256*a < 0 by omega),show 256*a / 256=a by omega]
   exact Eu (s:=stP (j::r) (j.cmds.length:Int) (-1) ((t::ks).filter fun x=>!(x == a)) (-1) (-1) []) hP.j 5
  have hst:Ba (Bi w ({stP (j::r) (j.cmds.length:Int) (-1) (t::ks) (-1) (-1) [] with mode:=5},Ap 3 0 0))=Bi {w with alive:=l} (A5 (stP (j::r) (j.cmds.length:Int) (-1) ((t::ks).filter fun x=>!(x == a)) (-1) (-1) [])):=by
   rw [jK (w:=Bi w ({stP (j::r) (j.cmds.length:Int) (-1) (t::ks) (-1) (-1) [] with mode:=5},Ap 3 0 0)) rfl hal,Lx (w:=Bi w _) hI.lk hI.plain,H1 hv]
   show Bi _ (Bb {stP (j::r) (j.cmds.length:Int) (-1) (t::ks) (-1) (-1) [] with mode:=5} (256*a) [])=_
   rw [est]
   rfl
  have hrun:Rch 1 (Bi w ({stP (j::r) (j.cmds.length:Int) (-1) (t::ks) (-1) (-1) [] with mode:=5},Ap 3 0 0)) (Ba (Bi w ({stP (j::r) (j.cmds.length:Int) (-1) (t::ks) (-1) (-1) [] with mode:=5},Ap 3 0 0))):=Rch.one hI.ex
  rw [hst] at hrun
  have hP2:Pt (stP (j::r) (j.cmds.length:Int) (-1) ((t::ks).filter fun x=>!(x == a)) (-1) (-1) []):=⟨by
   have:=Eo hv (256*a) []
   rwa [est] at this,hP.j⟩
  have hnd:=hI.nd
  rw [hal] at hnd
  have hnd:=List.pairwise_cons.1 hnd
  obtain ⟨L,hL,hlast⟩:=hI.last (by simp)
  have hmem : ∀ x,x∈(t::ks).filter (fun x=>!(x == a))↔x∈t::ks/\x≠a:=fun x=>by rw [List.mem_filter]; simp
  have hsplit:(L=[]/\a=16+w.tasks/\l=[])\/(∃ L',L=a::L'/\l=L'++[16+w.tasks]):=by
   rw [hal] at hL
   cases L with
   | nil =>
    rw [List.nil_append] at hL
    exact .inl ⟨rfl,(List.cons.inj hL).1,(List.cons.inj hL).2⟩
   | cons x L' =>
    rw [List.cons_append] at hL
    have:=List.cons.inj hL
    exact .inr ⟨L',by rw [this.1],this.2⟩
  have hkd : ∀ x∈(t::ks).filter (fun x=>!(x == a)),x∈l:=fun x hx'=>by
   have h1:=(hmem x).1 hx'
   have h2:=hI.kd x h1.1
   rw [hal] at h2
   exact (List.mem_cons.1 h2).resolve_left h1.2
  have hlen:w.alive.length=l.length+1:=by rw [hal]; rfl
  have hI2:Inv F {w with alive:=l} (-1) ((t::ks).filter fun x=>!(x == a)) e ⟨#[]⟩ left:=by
   refine ⟨hI.fd,hI.nm,hI.pr,hI.ok,hI.lk,hI.ex,hI.inp,hI.tk,fun x hx'=>hI.al x (by rw [hal]; exact sP _ hx'),hnd.2,hkd,fun hne=>?_,hI.sub,hI.pl,fun q=>?_⟩
   · rcases hsplit with ⟨_,_,h0⟩ | ⟨L',_,h1⟩
     · obtain ⟨y,hy⟩:=List.exists_mem_of_ne_nil _ hne
       have:=hkd y hy
       rw [h0] at this
       exact absurd this sL
     · refine ⟨L',h1,(hmem _).2 ⟨hlast,fun h=>?_⟩⟩
       exact hnd.1 (16+w.tasks) (by rw [h1]; exact List.mem_append_right _ (sM.2 rfl)) h.symm
   · obtain ⟨q1,q2,q3,q4,q5,q6,q7,q8⟩:=hI.full q
     refine ⟨q1,q2,q3,q4,q5,?_,q7,q8⟩
     show e.fin<=w.tasks - (l.length:Int)
     omega
  obtain ⟨n,w',u1,u2,u3,u4,u5⟩:=waits hx hg hb m {w with alive:=l} _ e left (by show l.length=m; omega) hI2 hP2
  refine ⟨1+n,w',hrun.trans u1,u2,u3,fun _=>?_,?_⟩
  · by_cases hne:(t::ks).filter (fun x=>!(x == a))=[]
    · have hlt:l=[]:=by
       rcases hsplit with ⟨_,_,h0⟩ | ⟨L',_,h1⟩
       · exact h0
       · have:=(hmem (16+w.tasks)).2 ⟨hlast,fun h=>hnd.1 (16+w.tasks) (by rw [h1]; exact List.mem_append_right _ (sM.2 rfl)) h.symm⟩
         rw [hne] at this
         exact absurd this sL
      have h5:n+w'.alive.length<=l.length:=u5
      rw [hlt] at h5
      have h6:w'.alive.length=0:=by have:([]:List Int).length=0:=rfl; omega
      exact List.length_eq_zero_iff.1 h6
    · exact u4 hne
  · have h5:n+w'.alive.length<=l.length:=u5
    omega
def nC:List JobL->Nat
 | []=>0
 | j::r=>j.cmds.length+nC r
structure Fin (F:Prop) (w:WL) (e:EX) (x:Bool):Prop where
 ok:w.ok=true
 lk:w.leak=false
 ex : 0<=w.exit
 e0:x=false->w.exit=0
 sub:(w.runs.map RunL.path).Sublist (e.runs.map RunL.path)
 pl : ∀ r∈w.runs,By r.fl=true
 full:F->w.runs=e.runs/\w.told=e.told/\w.waited.length=e.waited.length/\∀ i,e.waited.getD i 0<=w.waited.getD i 0
theorem Inv.fin {F:Prop} {w:WL} {e E:EX} {b:ByteArray} {left:Nat} {kids:List Int} {pv:Int} (h:Inv F w pv kids e b left) (q:StL×CallL) (n:Int) (hn : 0<=n) (x:Bool) (hx:x=false->n=0) (he:E=e):Fin F {Bi w q with exit:=n} E x:=by
 subst he
 exact ⟨h.ok,h.lk,hn,hx,h.sub,h.pl,fun q=>by
  obtain ⟨q1,q2,q3,q4,q5,q6,q7,q8⟩:=h.full q
  exact ⟨q2,q3,q7,q8⟩⟩
theorem Oc {F:Prop} : ∀ (js:List JobL) (w:WL) (e:EX),(∀ j∈js,j.cmds≠[])->Inv F w (-1) [] e ⟨#[]⟩ (nC js)->Pt (stP js 0 (-1) [] (-1) (-1) []) ->
 ∃ n w',Rch n (Bi w (A5 (stP js 0 (-1) [] (-1) (-1) []))) w'/\n<=w.alive.length+8*nC js+2/\Fin F w' (Bm js e).1 (Bm js e).2
 | [],w,e,_,hI,hP=>by
  have hS:=Nw (s:=stP [] 0 (-1) [] (-1) (-1) []) rfl rfl (by decide)
  have hv:=hP.v
  rw [hS] at hv ⊢
  have e1:Bb {stP [] 0 (-1) [] (-1) (-1) [] with mode:=1} 0 []=Lb {stP [] 0 (-1) [] (-1) (-1) [] with mode:=1} 0:=by
   rw [oG rfl]; rfl
  have h1:Ba (Bi w ({stP [] 0 (-1) [] (-1) (-1) [] with mode:=1},Ap 9 0 80))=Bi w (Lb {stP [] 0 (-1) [] (-1) (-1) [] with mode:=1} 0):=by
   rw [cX (w:=Bi w ({stP [] 0 (-1) [] (-1) (-1) [] with mode:=1},Ap 9 0 80)) rfl hI.inp,Lx (w:=Bi w _) hI.lk hI.plain,H1 hv]
   show Bi _ (Bb {stP [] 0 (-1) [] (-1) (-1) [] with mode:=1} 0 [])=_
   rw [e1,set_set]
  have r1:Rch 1 (Bi w ({stP [] 0 (-1) [] (-1) (-1) [] with mode:=1},Ap 9 0 80)) (Ba (Bi w ({stP [] 0 (-1) [] (-1) (-1) [] with mode:=1},Ap 9 0 80))):=Rch.one hI.ex
  rw [h1] at r1
  have r2:Rch 1 (Bi w (Lb {stP [] 0 (-1) [] (-1) (-1) [] with mode:=1} 0)) (Ba (Bi w (Lb {stP [] 0 (-1) [] (-1) (-1) [] with mode:=1} 0))):=Rch.one hI.ex
  rw [Yg (w:=Bi w (Lb {stP [] 0 (-1) [] (-1) (-1) [] with mode:=1} 0)) rfl] at r2
  exact ⟨1+1,_,r1.trans r2,by omega,hI.fin _ _ (Int.le_refl 0) _ (fun _=>rfl) rfl⟩
 | j::r,w,e,hne,hI,hP=>by
  have hj0 : 0 < j.cmds.length:=by
   have:=hne j (sK ..)
   cases hq:j.cmds with
   | nil=>exact absurd hq this
   | cons _ _=>exact sU _
  have hjl : 0 < (stP (j::r) 0 (-1) [] (-1) (-1) []).jobs.length:=sU _
  have hvr:Aq r=true:=by
   have:=Di (s:={stP (j::r) (j.cmds.length:Int) (-1) [] (-1) (-1) [] with pos:=(j.cmds.length:Int)}) hP.j
   have e2:=Zo (s:=stP (j::r) (j.cmds.length:Int) (-1) [] (-1) (-1) []) (j:=j) (r:=r) rfl (fun q=>by have:(j.cmds.length:Int)=0:=q.2; omega) (fun q=>by have:(j.cmds.length:Int)=0:=q.1; omega) rfl (fun q=>absurd q.2 (Nat.lt_irrefl 0))
   have h3:Aq (B6 (stP (j::r) (j.cmds.length:Int) (-1) [] (-1) (-1) [])).1.jobs=true:=Di hP.j
   rw [e2] at h3
   exact h3
  rw [Bm]
  by_cases hx:Be j.cmds=true
  · rw [if_pos hx]
    have hS:=G1 (s:=stP (j::r) 0 (-1) [] (-1) (-1) []) rfl hjl (lS rfl hx rfl)
    rw [hS]
    have r2:Rch 1 (Bi w ({stP (j::r) 0 (-1) [] (-1) (-1) [] with mode:=7},Ap 0 (Co (Pk j.cmds).words) 0)) (Ba (Bi w ({stP (j::r) 0 (-1) [] (-1) (-1) [] with mode:=7},Ap 0 (Co (Pk j.cmds).words) 0))):=Rch.one hI.ex
    rw [Yg (w:=Bi w ({stP (j::r) 0 (-1) [] (-1) (-1) [] with mode:=7},Ap 0 (Co (Pk j.cmds).words) 0)) rfl] at r2
    exact ⟨1,_,r2,by omega,hI.fin _ _ (Mp _).1 _ (fun h=>by cases h) rfl⟩
  · rw [if_neg hx]
    by_cases hg:Bz j.cmds=true
    · have hS:=Nx (s:=stP (j::r) 0 (-1) [] (-1) (-1) []) hP.j rfl hjl (lQ rfl hx rfl hg)
      have e1:({stP (j::r) 0 (-1) [] (-1) (-1) [] with jobs:=r,plan:=(stP (j::r) 0 (-1) [] (-1) (-1) []).plan++[Ca]}:StL)=stP r 0 (-1) [] (-1) (-1) [Ca]:=rfl
      rw [e1] at hS
      have hP2:Pt (stP r 0 (-1) [] (-1) (-1) [Ca]):=⟨by rw [← hS]; exact hP.v,hvr⟩
      obtain ⟨d1,d2⟩:=Z2 [Ca] (stP r 0 (-1) [] (-1) (-1) []) w hP2 Mb hI.ex
      rw [Sh] at d1
      have eJ:Hp j e = {e with told:=e.told+1}:=by unfold Hp; rw [if_pos hg]
      have hI2:Inv F {w with told:=w.told+1} (-1) [] (Hp j e) ⟨#[]⟩ (nC r):=by
       rw [eJ]
       refine ⟨hI.fd,hI.nm,hI.pr,hI.ok,hI.lk,hI.ex,hI.inp,?_,hI.al,hI.nd,hI.kd,hI.last,hI.sub,hI.pl,fun q=>?_⟩
       · show 0<=w.tasks/\w.tasks+(nC r:Int)<=15
         have:=hI.tk
         have h2:nC (j::r)=j.cmds.length+nC r:=rfl
         omega
       · obtain ⟨q1,q2,q3,q4,q5,q6,q7,q8⟩:=hI.full q
         exact ⟨q1,q2,(show w.told+1=e.told+1 by rw [q3]),q4,q5,q6,q7,q8⟩
      obtain ⟨n,w',u1,u2,u3⟩:=Oc r {w with told:=w.told+1} (Hp j e) (fun x hx'=>hne x (sP _ hx')) hI2 d2
      rw [hS]
      refine ⟨_,w',d1.trans u1,?_,u3⟩
      have h2:nC (j::r)=j.cmds.length+nC r:=rfl
      have h3:n<=w.alive.length+8*nC r+2:=u2
      show 1+n<=_
      omega
    · have hlk:(nC (j::r))=nC r+j.cmds.length:=by show j.cmds.length+nC r=_; omega
      rw [hlk] at hI
      obtain ⟨n1,w1,kids,u1,u2,u3,u4,u5⟩:=U4 (r:=r) hx hg j.cmds 0 w (-1) [] ⟨#[]⟩ e (nC r) rfl (Nat.zero_le _) (fun h=>absurd h (hne j (sK ..))) hI hP
      have hend : ∀ (w2:WL) (n2:Nat) (k2:List Int),Rch n2 (Bi w1 (A5 (stP (j::r) (j.cmds.length:Int) (-1) kids (-1) (-1) []))) (Bi w2 (A5 (stP (j::r) (j.cmds.length:Int) (-1) k2 (-1) (-1) [])))->Pt (stP (j::r) (j.cmds.length:Int) (-1) k2 (-1) (-1) [])->¬ (j.bg=false/\0 < k2.length) ->
       Inv F w2 (-1) [] (Hp j e) ⟨#[]⟩ (nC r)->n2+w2.alive.length<=w1.alive.length->∃ n w',Rch n (Bi w (A5 (stP (j::r) 0 (-1) [] (-1) (-1) []))) w'/\n<=w.alive.length+8*(nC (j::r))+2/\Fin F w' (Bm r (Hp j e)).1 (Bm r (Hp j e)).2:=by
       intro w2 n2 k2 v1 v2 v3 v4 v5
       have hS:=Nx (s:=stP (j::r) (j.cmds.length:Int) (-1) k2 (-1) (-1) []) v2.j rfl (sU _) (Zo rfl (fun q=>hx q.1) (fun q=>hg q.2) rfl v3)
       have e1:({stP (j::r) (j.cmds.length:Int) (-1) k2 (-1) (-1) [] with jobs:=r,kids:=[],pos:=0,pv:=-1}:StL)=stP r 0 (-1) [] (-1) (-1) []:=rfl
       rw [e1] at hS
       have hP2:Pt (stP r 0 (-1) [] (-1) (-1) []):=⟨by rw [← hS]; exact v2.v,hvr⟩
       obtain ⟨n,w',x1,x2,x3⟩:=Oc r w2 (Hp j e) (fun x hx'=>hne x (sP _ hx')) v4 hP2
       rw [hS] at v1
       exact ⟨n1+(n2+n),w',u1.trans (v1.trans x1),by omega,x3⟩
      have eJ:Hp j e=Uz j.bg (Fa j.cmds ⟨#[]⟩ e):=by unfold Hp; rw [if_neg hg]
      by_cases hb:j.bg=true
      · refine hend w1 0 kids (Rch.refl _) u2 (fun q=>by rw [hb] at q; cases q.1) ?_ (by omega)
        rw [eJ]
        unfold Uz
        rw [if_pos hb]
        exact ⟨u3.fd,u3.nm,u3.pr,u3.ok,u3.lk,u3.ex,u3.inp,u3.tk,u3.al,u3.nd,fun t ht=>absurd ht sL,fun h=>absurd rfl h,u3.sub,u3.pl,u3.full⟩
      · have hb':j.bg=false:=by cases hq:j.bg with
         | false=>rfl
         | true=>exact absurd hq hb
        obtain ⟨n2,w2,v1,v2,v3,v4,v5⟩:=waits (r:=r) hx hg hb' _ w1 kids _ (nC r) rfl u3 u2
        refine hend w2 n2 [] v1 v2 (fun q=>absurd q.2 (Nat.lt_irrefl 0)) ?_ v5
        rw [eJ]
        unfold Uz
        rw [if_neg hb]
        refine ⟨v3.fd,v3.nm,v3.pr,v3.ok,v3.lk,v3.ex,v3.inp,v3.tk,v3.al,v3.nd,v3.kd,v3.last,v3.sub,v3.pl,fun q=>?_⟩
        obtain ⟨q1,q2,q3,q4,q5,q6,q7,q8⟩:=v3.full q
        refine ⟨q1,q2,q3,q4,q5,?_,q7,q8⟩
        show ((Fa j.cmds ⟨#[]⟩ e).runs.length:Int)<=w2.tasks - (w2.alive.length:Int)
        rw [v4 (u4 q),q5]
        show w2.tasks<=w2.tasks - ((0:Nat):Int)
        omega
def O9:List ByteArray->ByteArray
 | []=>⟨#[]⟩
 | c::r=>c++O9 r
theorem R0 (a:ByteArray):a++(⟨#[]⟩:ByteArray)=a:=by
 apply Dm
 rw [ByteArray.data_append,Array.toList_append]
 exact sN _
theorem L7 (a b c:ByteArray):a++b++c=a++(b++c):=by
 apply Dm
 simp only [ByteArray.data_append,Array.toList_append,sH]
def suf (a b:ByteArray):Prop:=∃ p,a=p++b
theorem suf.refl (a:ByteArray):suf a a:=⟨⟨#[]⟩,by apply Dm; rw [ByteArray.data_append,Array.toList_append]; rfl⟩
theorem suf.trans {a b c:ByteArray} (h:suf a b) (k:suf b c):suf a c:=by
 obtain ⟨p,rfl⟩:=h
 obtain ⟨q,rfl⟩:=k
 exact ⟨p++q,by rw [L7]⟩
theorem suf.app {a b:ByteArray} (h:suf a b) (c:ByteArray):suf (a++c) (b++c):=by
 obtain ⟨p,rfl⟩:=h
 exact ⟨p,by rw [L7]⟩
structure InvI (text:ByteArray) (w:WL):Prop where
 v:Br w.st=true
 m:PInv (w.st,w.x)
 pre:suf text (w.st.inp++O9 w.inp)
 ch : ∀ c∈w.inp,0 < c.size/\c.size<=80
 ok:w.ok=true
 fails:w.fails=[]
 tasks : 0<=w.tasks
 ex : 0<=w.exit->w.x.call=0/\w.exit=w.x.a0
structure textOk (text:ByteArray):Prop where
 line : ∀ p u q:ByteArray,text=p++(u++q)->nlI u < 0->u.size<=200
 last : ∀ p u:ByteArray,text=p++u->nlI u < 0->u.size=0
set_option maxRecDepth 10000
open Go Go.Shelf Go.RowKit Go.Proofs Go.Proofs.Sx
theorem Xv (pb:Nat) (mo po:Int) (inp:ByteArray) (pj:Option Addr) (kj:Nat) (lj:List JV) (rd wr pv:Int) (pn:Option Addr) (kn:Nat) (ln:List Int) (pp:Option Addr) (kp:Nat) (lp:List PV) (T:OwL) (result:Int) (w:World) (hG:Ah T (SV.ok (⟨mo,po,inp,pj,kj,lj,rd,wr,pv,pn,kn,ln,pp,kp,lp⟩:SV))) (h0:Ow sA (inT ((pb,39,cS mo po inp pj lj.length kj rd wr pv pn ln.length kn pp lp.length kp)::T)) w w ((pb,39,cS mo po inp pj lj.length kj rd wr pv pn ln.length kn pp lp.length kp)::T)) (hm:SV.sm (⟨mo,po,inp,pj,kj,lj,rd,wr,pv,pn,kn,ln,pp,kp,lp⟩:SV)) (hvl:Aq (lj.map JV.d)=true) (hE : ∀ w',Only (inT ((pb,39,cS mo po inp pj lj.length kj rd wr pv pn ln.length kn pp lp.length kp)::T)) w w'->ErrOk w') (hp0:lp.length=0) (hr:result < 0) :
 Calls sA 64 #[pt pb,Z result] w fun e w'=>∃ (v:SV) (x:PV) (Tn:OwL),Gn (SV.d (⟨mo,po,inp,pj,kj,lj,rd,wr,pv,pn,kn,ln,pp,kp,lp⟩:SV)) result=(v.d,x.d)/\v.sm/\Aq (v.lj.map JV.d)=true/\e = .returned (.agg #[Z x.d.call,Z x.d.a0,Z x.d.a1,Z x.d.a2,.slice x.p x.d.data.length x.c])/\Ow sA (inT ((pb,39,cS mo po inp pj lj.length kj rd wr pv pn ln.length kn pp lp.length kp)::T)) w w' ((pb,39,v.cells)::(T++Tn))/\Ah (T++Tn) v.ok/\Ah (T++Tn) (fun w=>VP w x):=by
 refine Ao (args:=[pt pb,Z result]) (m:=98) (n:=100) Tryz.func64 rfl (by kernel_rfl) (by kernel_rfl) fun J V=>?_;generalize inT ((pb,39,cS mo po inp pj lj.length kj rd wr pv pn ln.length kn pp lp.length kp)::T)=M at *;have O:Ow sA M w w ([(pb,39,(cS mo po inp pj lj.length kj rd wr pv pn ln.length kn pp lp.length kp))]++(T++([]))):=h0.to (by first | rfl | first | rfl | (simp only [TP,apd]));refine sr 1 (Mn [Z 0,Z 0,Z 0,Z 0,.slice none 0 0] 43 4 V O fun J w1 b1 V O=>Ab (Aa (wp_seq (wp_block (Sa [(7,I (decide (result < 0)))] V fun J V=>?_)))));rw [(rY hr:(decide (result < 0))=true)] at V;refine cT V (sr 3 (Ka 1 [(10,pt pb)] V fun J V=>?_));have hGm1:Ah T (SV.ok (⟨mo,po,inp,pj,kj,lj,rd,wr,pv,pn,kn,ln,pp,kp,lp⟩:SV)):=(ok3 (T:=T++([])) (x:=(⟨mo,po,inp,pj,kj,lj,rd,wr,pv,pn,kn,ln,pp,kp,lp⟩:SV)) ((hG.mono fun _ h_=>h_.j).l) ((hG.mono fun _ h_=>h_.k).l) ((hG.mono fun _ h_=>h_.p).l)).tt;refine Ag (mC (d:=(some 11)) V Tryz.func63 ((Og pb mo po inp pj kj lj rd wr pv pn kn ln pp kp lp T _ hGm1 (Cm (A:=[_]) (O.tt:Ow sA M w _ (([(b1,43,[Z 0,Z 0,Z 0,Z 0,.slice none 0 0])]++[(pb,39,cS mo po inp pj lj.length kj rd wr pv pn ln.length kn pp lp.length kp)])++(T++[])))) hm hvl (fun w_ k_=>hE w_ (Ow.pan (A:=[_]) ((O.tt:Ow sA M w _ (([(b1,43,[Z 0,Z 0,Z 0,Z 0,.slice none 0 0])]++[(pb,39,cS mo po inp pj lj.length kj rd wr pv pn ln.length kn pp lp.length kp)])++(T++[]))).tt) k_)) hp0).mono ?_))
 rintro en w2 ⟨⟨mo3,po3,inp3,pj3,kj3,lj3,rd3,wr3,pv3,pn3,kn3,ln3,pp3,kp3,lp3⟩,⟨xp_3,xc_3,xd_3⟩,T1,hr1,hsm3,hvl3,rfl,hW,hG1,hvx1⟩;refine ⟨_,rfl,?_⟩;clear V J; intro J V;replace O:=Cx (A:=[(b1,43,[Z 0,Z 0,Z 0,Z 0,.slice none 0 0])]) (B:=[]) (T:=T) (Tn:=T1) (x':=(pb,39,cS mo3 po3 inp3 pj3 lj3.length kj3 rd3 wr3 pv3 pn3 ln3.length kn3 pp3 lp3.length kp3)) O.tt hW; clear hW;exact Ms 0 [Z xd_3.call,Z xd_3.a0,Z xd_3.a1,Z xd_3.a2,.slice xp_3 xd_3.data.length xc_3] 0 V O fun w3 O=>Ab (Aa (wp_ret (Ae (Ad (cR (cs:=[some (⟨b1,0,none⟩,43)]) (us:=[.agg #[Z xd_3.call,Z xd_3.a0,Z xd_3.a1,Z xd_3.a2,.slice xp_3 xd_3.data.length xc_3]]) V [.agg #[Z xd_3.call,Z xd_3.a0,Z xd_3.a1,Z xd_3.a2,.slice xp_3 xd_3.data.length xc_3]] ⟨(O.ln 0 0 43 [Z xd_3.call,Z xd_3.a0,Z xd_3.a1,Z xd_3.a2,.slice xp_3 xd_3.data.length xc_3]),trivial⟩ (⟨(⟨mo3,po3,inp3,pj3,kj3,lj3,rd3,wr3,pv3,pn3,kn3,ln3,pp3,kp3,lp3⟩:SV),⟨xp_3,xc_3,xd_3⟩,(T1++([])),(by have q_:=hr1; unfold Gn; rw [if_pos hr]; exact q_),hsm3,hvl3,rfl,(((Ow.subP (A:=[_,_]) O (.cons _ (.cons_cons _ .slnil)))).tt),((ok3 (T:=(T++T1)++([])) (x:=(⟨mo3,po3,inp3,pj3,kj3,lj3,rd3,wr3,pv3,pn3,kn3,ln3,pp3,kp3,lp3⟩:SV)) ((hG1.mono fun _ h_=>h_.j).l) ((hG1.mono fun _ h_=>h_.k).l) ((hG1.mono fun _ h_=>h_.p).l)).tt),(hvx1).tt⟩))))))
theorem gA {l:List Int} {t:Int} (h:Fi t=true) (h2:l.contains t=false):C6 l t=l++[t]:=by unfold C6; rw [if_pos ⟨h,h2⟩]
theorem Ze {l:List Int} {t:Int} (h:Fi t=false):C6 l t=l:=by unfold C6; rw [if_neg (by rw [h]; simp)]
theorem Zg {l:List Int} {t:Int} (h2:l.contains t=true):C6 l t=l:=by unfold C6; rw [if_neg (by rw [h2]; simp)]
set_option maxHeartbeats 2000000 in
theorem Xu (pb:Nat) (mo po:Int) (inp:ByteArray) (pj:Option Addr) (kj:Nat) (lj:List JV) (rd wr pv:Int) (pn:Option Addr) (kn:Nat) (ln:List Int) (pp:Option Addr) (kp:Nat) (lp:List PV) (T:OwL) (result:Int) (w:World) (hG:Ah T (SV.ok (⟨mo,po,inp,pj,kj,lj,rd,wr,pv,pn,kn,ln,pp,kp,lp⟩:SV))) (h0:Ow sA (inT ((pb,39,cS mo po inp pj lj.length kj rd wr pv pn ln.length kn pp lp.length kp)::T)) w w ((pb,39,cS mo po inp pj lj.length kj rd wr pv pn ln.length kn pp lp.length kp)::T)) (hm:SV.sm (⟨mo,po,inp,pj,kj,lj,rd,wr,pv,pn,kn,ln,pp,kp,lp⟩:SV)) (hvl:Aq (lj.map JV.d)=true) (hE : ∀ w',Only (inT ((pb,39,cS mo po inp pj lj.length kj rd wr pv pn ln.length kn pp lp.length kp)::T)) w w'->ErrOk w') (hp0:lp.length=0) (hr : 0 < result) (hrx:result<=9223372036854775807) (hpo : 0<=po/\po<=1000) (hkn:ln.length<=1000) :
 Calls sA 64 #[pt pb,Z result] w fun e w'=>∃ (v:SV) (x:PV) (Tn:OwL),Gn (SV.d (⟨mo,po,inp,pj,kj,lj,rd,wr,pv,pn,kn,ln,pp,kp,lp⟩:SV)) result=(v.d,x.d)/\v.sm/\Aq (v.lj.map JV.d)=true/\e = .returned (.agg #[Z x.d.call,Z x.d.a0,Z x.d.a1,Z x.d.a2,.slice x.p x.d.data.length x.c])/\Ow sA (inT ((pb,39,cS mo po inp pj lj.length kj rd wr pv pn ln.length kn pp lp.length kp)::T)) w w' ((pb,39,v.cells)::(T++Tn))/\Ah (T++Tn) v.ok/\Ah (T++Tn) (fun w=>VP w x):=by
 refine Ao (args:=[pt pb,Z result]) (m:=98) (n:=100) Tryz.func64 rfl (by kernel_rfl) (by kernel_rfl) fun J V=>?_;generalize inT ((pb,39,cS mo po inp pj lj.length kj rd wr pv pn ln.length kn pp lp.length kp)::T)=M at *;have O:Ow sA M w w ([(pb,39,(cS mo po inp pj lj.length kj rd wr pv pn ln.length kn pp lp.length kp))]++(T++([]))):=h0.to (by first | rfl | first | rfl | (simp only [TP,apd]));refine sr 1 (Mn [Z 0,Z 0,Z 0,Z 0,.slice none 0 0] 43 4 V O fun J w1 b1 V O=>Ab (Aa (wp_seq (wp_block (Sa [(7,I (decide (result < 0)))] V fun J V=>?_)))));rw [(rZ (by omega):(decide (result < 0))=false)] at V;refine cF V (Sa [(12,I (result == 0))] V fun J V=>?_);rw [(beq_eq_false_iff_ne.2 (by omega):(result == 0)=false)] at V;refine cF V (wp_skip (Ac (Aa (sJ (fun J W=>∃ (pm:Option Addr) (km:Nat) (lm:List Int) (Tm:OwL),Holds 100 [] J [(0,pt pb),(4,pt b1)]/\Ow sA M w W ([(b1,43,[Z 0,Z 0,Z 0,Z 0,.slice none 0 0]),(pb,39,(cS mo po inp pj lj.length kj rd wr pv pm lm.length km pp lp.length kp))]++((T++Tm)++([])))/\lm=C6 ln (result % 32)/\lm.length<=km/\lm.length<=ln.length+1/\Ah (T++Tm) (SV.ok (⟨mo,po,inp,pj,kj,lj,rd,wr,pv,pm,km,lm,pp,kp,lp⟩:SV))/\True) ?_ ?_))))
 · rintro J w2 ⟨pm,km,lm,Tm,V,O,hlm,hkm,hlml,hGm_,-⟩;refine sJ (fun J W=>∃ (pq:Option Addr) (kq:Nat) (lq:List PV) (Tq:OwL),Holds 100 [] J [(0,pt pb),(4,pt b1)]/\Ow sA M w W ([(b1,43,[Z 0,Z 0,Z 0,Z 0,.slice none 0 0]),(pb,39,(cS mo po inp pj lj.length kj rd wr pv pm lm.length km pq lq.length kq))]++((T++Tm)++(Tq++([]))))/\lq.map PV.d=lp.map PV.d++Bh [pv,wr]/\lq.length<=kq/\lq.length<=lp.length+2/\Ah ((T++Tm)++Tq) (fun w_=>PL w_ (.slice pq lq.length kq) lq)/\True) ?_ ?_
   · rintro J w3 ⟨pq,kq,lq,Tq,V,O,hdq,hcq,hlq,hGq,-⟩;refine sr 16 (Kb 9 [(79,pt pb),(80,pt pb),(84,Z rd),(86,pf pb 6)] V [Z rd] (cc (O.l1 1 4 3 (Z rd)) c0) fun J V=>Ms 6 [Z rd] 1 V O fun w4 O=>Ka 2 [(88,pf pb 4)] V fun J V=>Ms 4 [Z (-1)] 1 V O fun w5 O=>Ka 2 [(90,pf pb 5)] V fun J V=>Ms 5 [Z (-1)] 1 V O fun w6 O=>Ab (Aa (sr 8 (Kb 7 [(95,Z (po+1)),(97,pf pb 1)] V [Z po,I true] (cc (O.l1 1 1 3 (Z po)) (cc ((Am (by omega) (by omega)):inK .i64 (po+1)) c0)) fun J V=>Ms 1 [Z (po+1)] 1 V O fun w7 O=>Ab (Aa (sr 3 (Ka 1 [(98,pt pb)] V fun J V=>?_)))))));replace O:Ow sA M w w7 ([(b1,43,[Z 0,Z 0,Z 0,Z 0,.slice none 0 0]),(pb,39,(cS mo (po+1) inp pj lj.length kj (-1) (-1) rd pm lm.length km pq lq.length kq))]++((T++Tm)++(Tq++([])))):=O;have hGm1:Ah ((T++Tm)++Tq) (SV.ok (⟨mo,po+1,inp,pj,kj,lj,(-1),(-1),rd,pm,km,lm,pq,kq,lq⟩:SV)):=(ok3 (T:=(T++Tm)++(Tq++([]))) (x:=(⟨mo,po+1,inp,pj,kj,lj,(-1),(-1),rd,pm,km,lm,pq,kq,lq⟩:SV)) ((hGm_.mono fun _ h_=>h_.j).l) ((hGm_.mono fun _ h_=>h_.k).l) ((Ah.l (T':=[]) (hGq.mono fun _ h_=>h_)).to (by simp only [sH]))).tt;replace O:Ow sA M w w7 ([(b1,43,[Z 0,Z 0,Z 0,Z 0,.slice none 0 0]),(pb,39,(cS mo (po+1) inp pj lj.length kj (-1) (-1) rd pm lm.length km pq lq.length kq))]++(((T++Tm)++Tq)++([]))):=O.to (by first | rfl | (simp only [TP,apd]))
     refine Ag (mC (d:=(some 99)) V Tryz.func61 ((Bs pb mo (po+1) inp pj kj lj (-1) (-1) rd pm km lm pq kq lq ((T++Tm)++Tq) _ hGm1 (Cm (A:=[_]) (O.tt:Ow sA M w _ (([(b1,43,[Z 0,Z 0,Z 0,Z 0,.slice none 0 0])]++[(pb,39,cS mo (po+1) inp pj lj.length kj (-1) (-1) rd pm lm.length km pq lq.length kq)])++(((T++Tm)++Tq)++[])))) ⟨hm.i,hm.j,(by show lm.length<=_; omega),(by show lq.length<=_; omega),hkm,hm.cj,hcq⟩ hvl (fun w_ k_=>hE w_ (Ow.pan (A:=[_]) ((O.tt:Ow sA M w _ (([(b1,43,[Z 0,Z 0,Z 0,Z 0,.slice none 0 0])]++[(pb,39,cS mo (po+1) inp pj lj.length kj (-1) (-1) rd pm lm.length km pq lq.length kq)])++(((T++Tm)++Tq)++[]))).tt) k_))).mono ?_));rintro en w8 ⟨⟨mo3,po3,inp3,pj3,kj3,lj3,rd3,wr3,pv3,pn3,kn3,ln3,pp3,kp3,lp3⟩,⟨xp_3,xc_3,xd_3⟩,T1,hr1,hsm3,hvl3,rfl,hW,hG1,hvx1⟩;refine ⟨_,rfl,?_⟩;clear V J; intro J V;replace O:=Cx (A:=[(b1,43,[Z 0,Z 0,Z 0,Z 0,.slice none 0 0])]) (B:=[]) (T:=((T++Tm)++Tq)) (Tn:=T1) (x':=(pb,39,cS mo3 po3 inp3 pj3 lj3.length kj3 rd3 wr3 pv3 pn3 ln3.length kn3 pp3 lp3.length kp3)) O.tt hW; clear hW;replace O:Ow sA M w _ ([(b1,43,[Z 0,Z 0,Z 0,Z 0,.slice none 0 0]),(pb,39,(cS mo3 po3 inp3 pj3 lj3.length kj3 rd3 wr3 pv3 pn3 ln3.length kn3 pp3 lp3.length kp3))]++((((T++Tm)++Tq)++T1)++([]))):=O.to (by first | rfl | (simp only [TP,apd]))
     refine Ms 0 [Z xd_3.call,Z xd_3.a0,Z xd_3.a1,Z xd_3.a2,.slice xp_3 xd_3.data.length xc_3] 0 V O fun w9 O=>Ab (Aa (wp_ret (cR (cs:=[some (⟨b1,0,none⟩,43)]) (us:=[.agg #[Z xd_3.call,Z xd_3.a0,Z xd_3.a1,Z xd_3.a2,.slice xp_3 xd_3.data.length xc_3]]) V [.agg #[Z xd_3.call,Z xd_3.a0,Z xd_3.a1,Z xd_3.a2,.slice xp_3 xd_3.data.length xc_3]] ⟨(O.ln 0 0 43 [Z xd_3.call,Z xd_3.a0,Z xd_3.a1,Z xd_3.a2,.slice xp_3 xd_3.data.length xc_3]),trivial⟩ ?_)));replace O:Ow sA M w w9 ([(b1,43,[Z xd_3.call,Z xd_3.a0,Z xd_3.a1,Z xd_3.a2,.slice xp_3 xd_3.data.length xc_3]),(pb,39,(cS mo3 po3 inp3 pj3 lj3.length kj3 rd3 wr3 pv3 pn3 ln3.length kn3 pp3 lp3.length kp3))]++((((T++Tm)++Tq)++T1)++([]))):=O;exact ⟨(⟨mo3,po3,inp3,pj3,kj3,lj3,rd3,wr3,pv3,pn3,kn3,ln3,pp3,kp3,lp3⟩:SV),⟨xp_3,xc_3,xd_3⟩,(Tm++(Tq++(T1++([])))),(by have q_:=hr1; unfold Gn; rw [if_neg (by omega),if_neg (by omega)]; rw [← q_]; unfold SV.d; simp only [hdq,hlm]),hsm3,hvl3,rfl,(show Ow sA M w _ ((pb,39,cS mo3 po3 inp3 pj3 lj3.length kj3 rd3 wr3 pv3 pn3 ln3.length kn3 pp3 lp3.length kp3)::(T++(Tm++(Tq++(T1++([])))))) from ((Ow.subP (A:=[_,_]) O (.cons _ (.cons_cons _ .slnil)))).tt),((ok3 (T:=(((T++Tm)++Tq)++T1)++([])) (x:=(⟨mo3,po3,inp3,pj3,kj3,lj3,rd3,wr3,pv3,pn3,kn3,ln3,pp3,kp3,lp3⟩:SV)) ((hG1.mono fun _ h_=>h_.j).l) ((hG1.mono fun _ h_=>h_.k).l) ((hG1.mono fun _ h_=>h_.p).l)).tt),(hvx1).tt⟩
   have hS:Ow sA M w _ [(b1,43,[Z 0,Z 0,Z 0,Z 0,.slice none 0 0])]:=O.sub [0];refine rT (.q 0 (.q 1 (.q 2 (.q 3 (.q 5 (.q 6 (.q 7 (.m 4 (.m 8 (.m 9 (.m 10 .fin .non) .non) .non) (.m 8 (.m 4 (.m 9 (.m 10 .fin .non) .non) .non) .non))))))))) hS ?_;intro w10 ho; replace O:=O.st ho; clear ho;refine Kt [0,1,2,3,5,6,7] [(67,pt pb),(70,pf pb 6),(74,pf pb 5)] V [] c0 fun J V=>Af ?_ ?_
   · refine (Qc [(71,Z pv)] V [Z pv] (cc (O.l1 1 6 3 (Z pv)) c0) fun J V=>⟨(O.sub [0]),?_⟩);refine Af ?_ ?_
     · refine (Qc [(75,Z wr)] V [Z wr] (cc (O.l1 1 5 3 (Z wr)) c0) fun J V=>⟨(O.sub [0]),?_⟩);refine Af ?_ ?_
       · refine (mN (l:=[Z pv,Z wr]) (t:=3) (v:=fun b=> .slice (some ⟨b,0,none⟩) 2 2) (d:=76) V O fun J w11 b2 V O=>⟨(O.sub [1]),?_⟩);refine Af ?_ ?_
         · replace O:Ow sA M w w11 ([(b2,3,[Z pv,Z wr]),(b1,43,[Z 0,Z 0,Z 0,Z 0,.slice none 0 0]),(pb,39,(cS mo po inp pj lj.length kj rd wr pv pm lm.length km pp lp.length kp))]++((T++Tm)++([]))):=O;refine (mC (d:=(some 77)) V Tryz.func94 ((Hs pb mo po inp pj kj lj rd wr pv pm km lm pp kp lp (T++Tm) ⟨b2,0,none⟩ 2 [pv,wr] _ hGm_ (Cm (A:=[_,_]) (O.tt:Ow sA M w _ (([(b2,3,[Z pv,Z wr]),(b1,43,[Z 0,Z 0,Z 0,Z 0,.slice none 0 0])]++[(pb,39,cS mo po inp pj lj.length kj rd wr pv pm lm.length km pp lp.length kp)])++((T++Tm)++[])))) (fun w_ k_=>((N8 (A:=[_,_]) (O.tt:Ow sA M w _ (([(b2,3,[Z pv,Z wr]),(b1,43,[Z 0,Z 0,Z 0,Z 0,.slice none 0 0])]++[(pb,39,cS mo po inp pj lj.length kj rd wr pv pm lm.length km pp lp.length kp)])++((T++Tm)++[]))) k_).b 0).vw (off:=0) (xs:=[pv,wr]) (by kernel_rfl)) (by omega) (Nat.le_of_ble_eq_true (by kernel_rfl)) hm.cp).mono ?_));rintro en w12 ⟨rfl,p1,k1,lq1,T2,hd1,hcq1,hlq1,hW,hGq1⟩;refine ⟨_,rfl,?_⟩;clear V J; intro J V;replace O:=Cx (A:=[_,_]) O hW; clear hW;refine ⟨(O.sub [1]),?_⟩;exact Ay (Aa (⟨p1,k1,lq1,T2,V.sb,(Ow.subP (A:=[_,_,_]) O (.cons _ (.cons_cons _ (.cons_cons _ .slnil)))),hd1,hcq1,hlq1,hGq1,trivial⟩))
         exact trivial
       exact trivial
     exact trivial
   refine Af ?_ ?_
   · refine (Qc [(75,Z wr)] V [Z wr] (cc (O.l1 1 5 3 (Z wr)) c0) fun J V=>⟨(O.sub [0]),?_⟩);refine Af ?_ ?_
     · refine (Qc [(71,Z pv)] V [Z pv] (cc (O.l1 1 6 3 (Z pv)) c0) fun J V=>⟨(O.sub [0]),?_⟩);refine Af ?_ ?_
       · refine (mN (l:=[Z pv,Z wr]) (t:=3) (v:=fun b=> .slice (some ⟨b,0,none⟩) 2 2) (d:=76) V O fun J w13 b3 V O=>⟨(O.sub [1]),?_⟩);refine Af ?_ ?_
         · replace O:Ow sA M w w13 ([(b3,3,[Z pv,Z wr]),(b1,43,[Z 0,Z 0,Z 0,Z 0,.slice none 0 0]),(pb,39,(cS mo po inp pj lj.length kj rd wr pv pm lm.length km pp lp.length kp))]++((T++Tm)++([]))):=O;refine (mC (d:=(some 77)) V Tryz.func94 ((Hs pb mo po inp pj kj lj rd wr pv pm km lm pp kp lp (T++Tm) ⟨b3,0,none⟩ 2 [pv,wr] _ hGm_ (Cm (A:=[_,_]) (O.tt:Ow sA M w _ (([(b3,3,[Z pv,Z wr]),(b1,43,[Z 0,Z 0,Z 0,Z 0,.slice none 0 0])]++[(pb,39,cS mo po inp pj lj.length kj rd wr pv pm lm.length km pp lp.length kp)])++((T++Tm)++[])))) (fun w_ k_=>((N8 (A:=[_,_]) (O.tt:Ow sA M w _ (([(b3,3,[Z pv,Z wr]),(b1,43,[Z 0,Z 0,Z 0,Z 0,.slice none 0 0])]++[(pb,39,cS mo po inp pj lj.length kj rd wr pv pm lm.length km pp lp.length kp)])++((T++Tm)++[]))) k_).b 0).vw (off:=0) (xs:=[pv,wr]) (by kernel_rfl)) (by omega) (Nat.le_of_ble_eq_true (by kernel_rfl)) hm.cp).mono ?_));rintro en w14 ⟨rfl,p2,k2,lq2,T3,hd2,hcq2,hlq2,hW,hGq2⟩;refine ⟨_,rfl,?_⟩;clear V J; intro J V;replace O:=Cx (A:=[_,_]) O hW; clear hW;refine ⟨(O.sub [1]),?_⟩;exact Ay (Aa (⟨p2,k2,lq2,T3,V.sb,(Ow.subP (A:=[_,_,_]) O (.cons _ (.cons_cons _ (.cons_cons _ .slnil)))),hd2,hcq2,hlq2,hGq2,trivial⟩))
         exact trivial
       exact trivial
     exact trivial
   exact trivial
 refine Sb [(6,Z (result % 32))] V [I true] (cc (⟨by omega,by omega,Am (by omega) (by omega)⟩:(0:Int)<=result/\(0:Int) < 32/\inK .i64 result) c0) fun J V=>sr 11 (Ka 1 [(45,Z (result % 32))] V fun J V=>Mk 46 V O Tryz.func80 (R8 (result % 32) _) fun J w15 V O=>Ka 1 [(47,I (Fi (result % 32)))] V fun J V=>?_);rcases rU (Fi (result % 32)) with h1 | h1
 · rw [h1] at V;refine Kb 5 [(47,I true),(51,.slice pn ln.length kn),(52,Z (result % 32))] V [.slice pn ln.length kn] (cc (O.l1 1 7 33 (.slice pn ln.length kn)) c0) fun J V=>Mk 53 V O Tryz.func81 (Lc pn ln.length kn ln (result % 32) _ (Ah.at (A:=[_,_]) ((hG.mono fun _ h_=>h_.k).l) (O.tt:Ow sA M w _ ([(b1,43,[Z 0,Z 0,Z 0,Z 0,.slice none 0 0]),(pb,39,(cS mo po inp pj lj.length kj rd wr pv pn ln.length kn pp lp.length kp))]++(T++([])++[]))).m) (by omega)) fun J w16 V O=>Ka 2 [(55,I (!(ln.contains (result % 32))))] V fun J V=>Ab (Aa ?_);rcases rU (ln.contains (result % 32)) with h2 | h2
   · rw [h2] at V;refine cF V (wp_skip (Aa ?_));have hGm2:Ah T (SV.ok (⟨mo,po,inp,pj,kj,lj,rd,wr,pv,pn,kn,ln,pp,kp,lp⟩:SV)):=(ok3 (T:=T++([])) (x:=(⟨mo,po,inp,pj,kj,lj,rd,wr,pv,pn,kn,ln,pp,kp,lp⟩:SV)) ((hG.mono fun _ h_=>h_.j).l) ((hG.mono fun _ h_=>h_.k).l) ((hG.mono fun _ h_=>h_.p).l)).tt;exact ⟨pn,kn,ln,[],V.sb,(O).tt,(by first | exact (Ze (by assumption)).symm | exact (Zg (by assumption)).symm),hm.ck,Nat.le_succ _,(hGm2).tt,trivial⟩
   rw [h2] at V;refine cT V (rr 12 (Kb 5 [(56,pt pb),(60,.slice pn ln.length kn)] V [.slice pn ln.length kn] (cc (O.l1 1 7 33 (.slice pn ln.length kn)) c0) fun J V=>Ag (mC (d:=(some 61)) V Tryz.func58 ((Hi pn kn ln _ (Ah.at (A:=[_,_]) ((hG.mono fun _ h_=>h_.k).l) (O.tt:Ow sA M w _ ([(b1,43,[Z 0,Z 0,Z 0,Z 0,.slice none 0 0]),(pb,39,(cS mo po inp pj lj.length kj rd wr pv pn ln.length kn pp lp.length kp))]++(T++([])++[]))).m) (by omega)).mono ?_))));rintro en w17 ⟨p3,c1,T4,rfl,hT4,hW⟩;refine ⟨_,rfl,?_⟩;clear V J; intro J V;replace O:=Ow.join O hW; clear hW
   refine Ka 1 [(62,Z (result % 32))] V fun J V=>Mv [Z (result % 32)] 3 1 63 V O fun J w18 b4 V O=>Ag (mA (f:=fN) (el:=3) (sz:=1) (bytes:=8) (p:=p3) (c:=c1) (l:=ln) (l':=([result % 32]:List Int)) (T:=T4) (t:=33) (tx:=33) (ty:=33) (x:= .slice (some ⟨b4,0,none⟩) 1 1) (d:=64) ([(b4,3,[Z (result % 32)]),(b1,43,[Z 0,Z 0,Z 0,Z 0,.slice none 0 0]),(pb,39,(cS mo po inp pj lj.length kj rd wr pv pn ln.length kn pp lp.length kp))]++(T++([]))) ([]) Fg V (O.tt:Ow sA M w _ (([(b4,3,[Z (result % 32)]),(b1,43,[Z 0,Z 0,Z 0,Z 0,.slice none 0 0]),(pb,39,(cS mo po inp pj lj.length kj rd wr pv pn ln.length kn pp lp.length kp))]++(T++([])))++(T4++([])))) hT4 (Vw.src (e':=3) Fg ((O.b 0).vw (off:=0) (xs:=([result % 32]:List Int)) (by kernel_rfl)) (by kernel_rfl)) (by first | omega | (simp only [sD,sE,sF]; omega)) (by unfold maxLen; first | omega | (simp only [sD,sE,sF]; omega)) fun J w19 p4 c2 T5 V O hT5=>?_);replace O:Ow sA M w w19 ([(b4,3,[Z (result % 32)]),(b1,43,[Z 0,Z 0,Z 0,Z 0,.slice none 0 0]),(pb,39,(cS mo po inp pj lj.length kj rd wr pv pn ln.length kn pp lp.length kp))]++(T++(T5++([])))):=O.to (by first | rfl | (simp only [TP,apd]));refine Ka 2 [(66,pf pb 7)] V fun J V=>Ms 7 [.slice p4 ((ln++([result % 32]:List Int)).length) c2] 2 V O fun w20 O=>Ab ?_
   replace O:Ow sA M w w20 ([(b4,3,[Z (result % 32)]),(b1,43,[Z 0,Z 0,Z 0,Z 0,.slice none 0 0]),(pb,39,(cS mo po inp pj lj.length kj rd wr pv p4 ((ln++([result % 32]:List Int)).length) c2 pp lp.length kp))]++(T++(T5++([])))):=O;refine Aa ?_;have hGm3:Ah (T++T5) (SV.ok (⟨mo,po,inp,pj,kj,lj,rd,wr,pv,p4,c2,ln++([result % 32]:List Int),pp,kp,lp⟩:SV)):=(ok3 (T:=T++(T5++([]))) (x:=(⟨mo,po,inp,pj,kj,lj,rd,wr,pv,p4,c2,ln++([result % 32]:List Int),pp,kp,lp⟩:SV)) ((hG.mono fun _ h_=>h_.j).l) (hT5.holds.l.r) ((hG.mono fun _ h_=>h_.p).l)).tt;replace O:Ow sA M w w20 ([(b4,3,[Z (result % 32)]),(b1,43,[Z 0,Z 0,Z 0,Z 0,.slice none 0 0]),(pb,39,(cS mo po inp pj lj.length kj rd wr pv p4 ((ln++([result % 32]:List Int)).length) c2 pp lp.length kp))]++((T++T5)++([]))):=O.to (by first | rfl | (simp only [TP,apd]));exact ⟨p4,c2,ln++([result % 32]:List Int),T5,V.sb,((Ow.subP (A:=[_,_,_]) O (.cons _ (.cons_cons _ (.cons_cons _ .slnil))))).tt,(gA (by assumption) (by assumption)).symm,hT5.le,(by rw [sD]; exact Nat.le_refl _),(hGm3).tt,trivial⟩
 rw [h1] at V;refine Ka 8 [(55,I false)] V fun J V=>Ab (Aa (cF V (wp_skip (Aa ?_))));have hGm4:Ah T (SV.ok (⟨mo,po,inp,pj,kj,lj,rd,wr,pv,pn,kn,ln,pp,kp,lp⟩:SV)):=(ok3 (T:=T++([])) (x:=(⟨mo,po,inp,pj,kj,lj,rd,wr,pv,pn,kn,ln,pp,kp,lp⟩:SV)) ((hG.mono fun _ h_=>h_.j).l) ((hG.mono fun _ h_=>h_.k).l) ((hG.mono fun _ h_=>h_.p).l)).tt;exact ⟨pn,kn,ln,[],V.sb,(O).tt,(by first | exact (Ze (by assumption)).symm | exact (Zg (by assumption)).symm),hm.ck,Nat.le_succ _,(hGm4).tt,trivial⟩
theorem Uq (pb:Nat) (mo:Int) (i:Nat) (inp:ByteArray) (aj:Addr) (kj:Nat) (ax:Addr) (xc:Nat) (xl:List CV) (xb:Bool) (rj:List JV) (rd wr pv:Int) (pn:Option Addr) (kn:Nat) (ln:List Int) (pp:Option Addr) (kp:Nat) (lp:List PV) (T:OwL) (ay:Addr) (yc:Nat) (yd:CmdL) (z:ByteArray) (w:World) (hG:Ah T (SV.ok (⟨mo,((i:Nat):Int),inp,some aj,kj,((⟨some ax,xc,xl,xb⟩:JV)::rj),rd,wr,pv,pn,kn,ln,pp,kp,lp⟩:SV))) (h0:Ow sA (inT ((pb,39,cS mo ((i:Nat):Int) inp (some aj) (((⟨some ax,xc,xl,xb⟩:JV)::rj).length) kj rd wr pv pn ln.length kn pp lp.length kp)::T)) w w ((pb,39,cS mo ((i:Nat):Int) inp (some aj) (((⟨some ax,xc,xl,xb⟩:JV)::rj).length) kj rd wr pv pn ln.length kn pp lp.length kp)::T)) (hi:xl[i]? = some ⟨some ay,yc,yd⟩) (hz:yd.words[0]? = some z) (hzs:z.size<=60) (his:yd.inp.size<=60) (hos:yd.out.size<=60) (hrl:rj.length<=1000000) (hxl:xl.length<=1000000) :
 Calls sA 64 #[pt pb,Z 0] w fun e w'=>∃ (v:SV) (x:PV) (Tn:OwL),Gn (SV.d (⟨mo,((i:Nat):Int),inp,some aj,kj,((⟨some ax,xc,xl,xb⟩:JV)::rj),rd,wr,pv,pn,kn,ln,pp,kp,lp⟩:SV)) 0=(v.d,x.d)/\v.sm/\Aq (v.lj.map JV.d)=true/\e = .returned (.agg #[Z x.d.call,Z x.d.a0,Z x.d.a1,Z x.d.a2,.slice x.p x.d.data.length x.c])/\Ow sA (inT ((pb,39,cS mo ((i:Nat):Int) inp (some aj) (((⟨some ax,xc,xl,xb⟩:JV)::rj).length) kj rd wr pv pn ln.length kn pp lp.length kp)::T)) w w' ((pb,39,v.cells)::(T++Tn))/\Ah (T++Tn) v.ok/\Ah (T++Tn) (fun w=>VP w x):=by
 refine Ao (args:=[pt pb,Z 0]) (m:=98) (n:=100) Tryz.func64 rfl (by kernel_rfl) (by kernel_rfl) fun J V=>?_;generalize inT ((pb,39,cS mo ((i:Nat):Int) inp (some aj) (((⟨some ax,xc,xl,xb⟩:JV)::rj).length) kj rd wr pv pn ln.length kn pp lp.length kp)::T)=M at *;have O:Ow sA M w w ([(pb,39,(cS mo ((i:Nat):Int) inp (some aj) (((⟨some ax,xc,xl,xb⟩:JV)::rj).length) kj rd wr pv pn ln.length kn pp lp.length kp))]++(T++([]))):=h0.to (by first | rfl | first | rfl | (simp only [TP,apd]));have hil_:i < xl.length:=(List.getElem?_eq_some_iff.1 hi).1;have hpos_ : 0 < ((⟨some ax,xc,xl,xb⟩:JV)::rj).length:=sU _;refine sr 1 (Mn [Z 0,Z 0,Z 0,Z 0,.slice none 0 0] 43 4 V O ?_);clear V O J; intro J w1 b1 V O;refine Ab (Aa (wp_seq (wp_block (Sa [(7,I false)] V ?_))));clear V J; intro J V;refine cF V (Sa [(12,I true)] V ?_);clear V J; intro J V;refine cT V (wp_seq ?_);have hS:=O;refine rP [(0,true),(1,true),(2,true),(3,true),(4,true),(5,true),(6,true),(7,true),(8,true),(9,true),(10,true),(11,true),(12,true),(13,true),(14,false),(15,true)] hS ?_;intro w2 ho; replace O:=O.st ho; clear ho
 refine Ke 14 [(15,pt pb),(28,.agg #[.slice (some ay) yd.words.length yc,Y yd.inp,Y yd.out,I yd.app])] V [.slice (some aj) (((⟨some ax,xc,xl,xb⟩:JV)::rj).length) kj,.slice (some ax) xl.length xc,Z ((i:Nat):Int),.agg #[.slice (some ay) yd.words.length yc,Y yd.inp,Y yd.out,I yd.app]] (cc (hS.s1 1 3 36 (.slice (some aj) (((⟨some ax,xc,xl,xb⟩:JV)::rj).length) kj)) (cc (⟨by omega,by omega⟩:(0:Int)<=0/\0 < ((((⟨some ax,xc,xl,xb⟩:JV)::rj).length:Nat):Int)) (cc (hS.sx (aj.add 0) 101 (.slice (some ax) xl.length xc) fun _ O=>(((Ah.at (A:=[_,_]) hG O.m).j.1).ld0 Ec (rfl:((⟨some ax,xc,xl,xb⟩:JV)::rj)[0]? = some ⟨some ax,xc,xl,xb⟩) (by rfl))) (cc (hS.s1 1 1 3 (Z ((i:Nat):Int))) (cc (⟨by omega,by omega⟩:(0:Int)<=((i:Nat):Int)/\((i:Nat):Int) < ((xl.length:Nat):Int)) (cc (hS.sx (ax.add (i*4)) 104 (.agg #[.slice (some ay) yd.words.length yc,Y yd.inp,Y yd.out,I yd.app]) fun _ O=>(((show Vw fC _ (.slice (some ax) xl.length xc) xl/\∀ y∈xl,VC _ y from (Ah.at (A:=[_,_]) hG O.m).j.2 _ sK).1).ldn Ey hi)) c0)))))) ?_;clear V J; intro J V;refine Av (mC (d:=(some 29)) V Tryz.func97 (((Sz pb mo ((i:Nat):Int) inp (some aj) kj ((⟨some ax,xc,xl,xb⟩:JV)::rj) rd wr pv pn kn ln pp kp lp ay yc yd z _ (O.b 1) (show Vw fT _ (.slice (some ay) yd.words.length yc) yd.words from (show Vw fC _ (.slice (some ax) xl.length xc) xl/\∀ y∈xl,VC _ y from (Ah.at (A:=[_,_]) hG O.m).j.2 _ sK).2 _ (List.mem_of_getElem? hi)) hz hzs his hos)).mono ?_));rintro en w3 ⟨pq,kq,lq,Tq0,Tq1,rfl,hdq,h1q,hVq,hW⟩;refine ⟨_,rfl,?_⟩
 obtain ⟨⟨qp,qc,qd⟩,rp,rfl⟩ : ∃ x r,lq=x::r:=by cases lq with | nil=>(rw [S2] at hdq; simp at hdq) | cons x r=>exact ⟨x,r,rfl⟩
 obtain ⟨ap,rfl⟩:=(One.vw h1q (A:=[]) (B:=Tq1) hW.m).pos (sU _);have hl12:=Lq (SV.d (⟨mo,((i:Nat):Int),inp,some aj,kj,((⟨some ax,xc,xl,xb⟩:JV)::rj),rd,wr,pv,pn,kn,ln,pp,kp,lp⟩:SV)) yd;rw [← hdq,List.length_map] at hl12;have hlq_ : 0 < ((⟨qp,qc,qd⟩:PV)::rp).length:=sU _;clear V J; intro J V;replace O:=Ow.join O hW; clear hW;replace O:Ow sA M w _ ([(b1,43,[Z 0,Z 0,Z 0,Z 0,.slice none 0 0]),(pb,39,(cS mo ((i:Nat):Int) inp (some aj) (((⟨some ax,xc,xl,xb⟩:JV)::rj).length) kj rd wr pv pn ln.length kn pp lp.length kp))]++(T++(Tq0++(Tq1++([]))))):=O.to (by first | rfl | (simp only [TP,apd]));refine ⟨(O.m.less (List.Sublist.append_left (List.Sublist.append_left (List.nil_sublist _) _) _)).o,?_⟩;refine Kd 1 [(5,.slice (some ap) (((⟨qp,qc,qd⟩:PV)::rp).length) kq)] V ?_;clear V J; intro J V;refine Ax (Aa (sr 4 (Ka 1 [(30,pt pb)] V ?_)));clear V J; intro J V;refine Mk 31 V O Tryz.func24 (M9 _) ?_;clear V O J; intro J w4 V O;refine Ka 1 [(32,pt pb)] V ?_;clear V J; intro J V;refine Ms 0 (cS 0 0 (⟨#[]⟩:ByteArray) none 0 0 (-1) (-1) (-1) none 0 0 none 0 0) 1 V O ?_;clear O; intro w5 O;refine Ab (Aa (sr 9 (Ka 5 [(34,pt pb),(35,.slice (some ap) (((⟨qp,qc,qd⟩:PV)::rp).length) kq),(37,pt pb)] V ?_)));clear V J; intro J V;refine Ms 0 [Z 6] 1 V O ?_;clear O; intro w6 O;refine Ka 2 [(39,pf pb 8)] V ?_;clear V J; intro J V;refine Ms 8 [.slice (some ap) (((⟨qp,qc,qd⟩:PV)::rp).length) kq] 1 V O ?_;clear O; intro w7 O;refine Ab (Aa ?_)
 replace O:Ow sA M w w7 ([(b1,43,[Z 0,Z 0,Z 0,Z 0,.slice none 0 0]),(pb,39,(cS 6 0 (⟨#[]⟩:ByteArray) none 0 0 (-1) (-1) (-1) none 0 0 (some ap) (((⟨qp,qc,qd⟩:PV)::rp).length) kq))]++(T++(Tq0++(Tq1++([]))))):=O;refine sr 4 (Kb 3 [(42,.agg #[Z qd.call,Z qd.a0,Z qd.a1,Z qd.a2,.slice qp qd.data.length qc])] V [.agg #[Z qd.call,Z qd.a0,Z qd.a1,Z qd.a2,.slice qp qd.data.length qc]] (cc (⟨by omega,by omega⟩:(0:Int)<=0/\0 < ((((⟨qp,qc,qd⟩:PV)::rp).length:Nat):Int)) (cc ((((Ah.at (A:=[_,_]) (Q:=fun w_=>PL w_ (.slice (some ap) ((⟨qp,qc,qd⟩:PV)::rp).length kq) ((⟨qp,qc,qd⟩:PV)::rp)) (Ah.and (h1q.holds.l.r) (hVq.l.r.r)) (O.tt:Ow sA M w _ ([(b1,43,[Z 0,Z 0,Z 0,Z 0,.slice none 0 0]),(pb,39,(cS 6 0 (⟨#[]⟩:ByteArray) none 0 0 (-1) (-1) (-1) none 0 0 (some ap) (((⟨qp,qc,qd⟩:PV)::rp).length) kq))]++(T++(Tq0++(Tq1++([])))++[]))).m).1).ldn De (rfl:(((⟨qp,qc,qd⟩:PV)::rp):List PV)[0]? = some ⟨qp,qc,qd⟩)):Ld sA w7 (ap.add 0) 43 (.agg #[Z qd.call,Z qd.a0,Z qd.a1,Z qd.a2,.slice qp qd.data.length qc])) c0)) ?_);clear V J; intro J V;refine Ms 0 [Z qd.call,Z qd.a0,Z qd.a1,Z qd.a2,.slice qp qd.data.length qc] 0 V O ?_;clear O; intro w8 O
 exact Ab (Aa (wp_ret (Ae (Ad (cR (cs:=[some (⟨b1,0,none⟩,43)]) (us:=[.agg #[Z qd.call,Z qd.a0,Z qd.a1,Z qd.a2,.slice qp qd.data.length qc]]) V [.agg #[Z qd.call,Z qd.a0,Z qd.a1,Z qd.a2,.slice qp qd.data.length qc]] ⟨(O.ln 0 0 43 [Z qd.call,Z qd.a0,Z qd.a1,Z qd.a2,.slice qp qd.data.length qc]),trivial⟩ (⟨(⟨6,0,⟨#[]⟩,none,0,([]:List JV),(-1),(-1),(-1),none,0,([]:List Int),some ap,kq,((⟨qp,qc,qd⟩:PV)::rp)⟩:SV),⟨qp,qc,qd⟩,(Tq0++(Tq1++([]))),(by have q_:C9 (SV.d (⟨mo,((i:Nat):Int),inp,some aj,kj,((⟨some ax,xc,xl,xb⟩:JV)::rj),rd,wr,pv,pn,kn,ln,pp,kp,lp⟩:SV))=yd:=(by show ((xl.map CV.d).getD (((i:Nat):Int)).toNat Fh)=yd; rw [Int.toNat_natCast]; exact K2 (by rw [List.getElem?_map,hi]; rfl)); unfold Gn; rw [if_neg (by decide),if_pos rfl,q_,← hdq]; rfl),⟨Nat.zero_le _,⟨Nat.zero_le _,fun y hy=>absurd hy sL⟩,Nat.zero_le _,(by show List.length (_::rp)<=_; omega),Nat.zero_le _,Nat.zero_le _,h1q.le⟩,rfl,rfl,(((Ow.subP (A:=[_,_]) O (.cons _ (.cons_cons _ .slnil)))).tt),((ok3 (T:=T++(Tq0++(Tq1++([])))) (x:=(⟨6,0,⟨#[]⟩,none,0,([]:List JV),(-1),(-1),(-1),none,0,([]:List Int),some ap,kq,((⟨qp,qc,qd⟩:PV)::rp)⟩:SV)) (fun _ _ _ _=>⟨.inl ⟨rfl,rfl⟩,fun x h=>absurd h sL⟩) (fun _ _ _ _=> .inl ⟨rfl,rfl⟩) (Ah.and (h1q.holds.l.r) (hVq.l.r.r))).tt),(show Ah (T++(Tq0++(Tq1++([])))) (fun w_=>VP w_ ⟨qp,qc,qd⟩) from ((hVq.mono fun _ h_=>h_ _ sK).l.r.r)).tt⟩))))))
end Go.Proofs.YtdljjajjonfjbaaGreatDoor
namespace Go.Proofs.Sx
open Go Go.RowKit
theorem Sf {l:List Value} {i:Nat} {vs x:List Value} (h:i+vs.length<=l.length):Do (x++l) (x.length+i) vs=x++Do l i vs:=by
 unfold Do
 rw [List.take_length_add_append,Nat.add_assoc,List.drop_length_add_append,sH,sH,sH]
theorem Kq {l r:List Value} {i:Nat} {vs:List Value} (h:i+vs.length<=l.length):Do (l++r) i vs=Do l i vs++r:=by
 unfold Do
 rw [List.take_append_of_le_length (by omega),List.drop_append_of_le_length h,sH,sH,sH]
theorem Jc {α:Type} {f : α->List Value} {sz:Nat} (E:Enc f sz) {k:Nat} {vc:List Value} {y : α} : ∀ (l:List α) (i:Nat) (x : α),l[i]? = some x->f y=Do (f x) k vc->k+vc.length<=sz->Do (l.flatMap f) (i*sz+k) vc=(l.set i y).flatMap f
 | [],i,x,h,_,_=>by simp at h
 | u::l,0,x,h,hy,hk=>by
  simp only [List.getElem?_cons_zero,Option.some.injEq] at h
  subst h
  rw [List.set_cons_zero,List.flatMap_cons,List.flatMap_cons,Nat.zero_mul,Nat.zero_add,Kq (by rw [E.len]; exact hk),hy]
 | u::l,i+1,x,h,hy,hk=>by
  rw [List.getElem?_cons_succ] at h
  have ih:=Jc E l i x h hy hk
  have hi:=(List.getElem?_eq_some_iff.1 h).1
  have hm:(i+1)*sz<=l.length*sz:=Nat.mul_le_mul_right _ hi
  have e1:(i+1)*sz=i*sz+sz:=Nat.succ_mul i sz
  rw [List.set_cons_succ,List.flatMap_cons,List.flatMap_cons,show (i+1)*sz+k=(f u).length+(i*sz+k) by rw [E.len]; omega,Sf (by rw [E.flen]; omega),ih]
theorem One.cutL {α:Type} {f : α->List Value} {e:TypeId} {sz:Nat} {p:Option Addr} {c:Nat} {l:List α} {T:OwL} (h:One f e sz p c l T) (i:Nat):One f e sz p c (l.take i) T:=by
 rcases h with ⟨rfl,rfl,rfl,rfl⟩ | ⟨b,r,rfl,h1,h2,h3,rfl⟩
 · exact .inl ⟨rfl,rfl,by simp,rfl⟩
 · refine .inr ⟨b,(l.drop i).flatMap f++r,rfl,by rw [List.length_take]; omega,h2,?_,?_⟩ <;> rw [← sH,← List.flatMap_append,List.take_append_drop]
   exact h3
section
variable {P:Program} {ops:Array Oper} {Q:Exit->Act->World->Prop} {n:Nat} {ds:List Deferred} {a:Act} {e:Env} {w:World} {K:Act->World->Prop} {j:Nat}
theorem mSE {α:Type} {f : α->List Value} {sz el:Nat} (E:Enc f sz) {X:Nat->Prop} {w₀:World} {A B T:OwL} {ad ad':Addr} {c off:Nat} {l l':List α} {vc:List Value} (V:Holds n ds a e) (O:Ow P X w₀ w (A++(T++B))) (h1:One f el sz (some ad) c l T)
 (hset:Do (l.flatMap f) off vc=l'.flatMap f) (hlen:l'.length=l.length) (hfit:off+vc.length<=l.length*sz) (had:ad'=ad.add off)
 (hK : ∀ w' T',Ow P X w₀ w' (A++(T'++B))->One f el sz (some ad) c l' T'->K a w')
 (hs:Gg P ops e j=some (ad',vc,vc.length):=by kernel_rfl) (hone:vc.all (·.oneCell')=true:=by kernel_rfl):wpOp P ops Q j K a w:=by
 rcases h1 with ⟨h,_⟩ | ⟨I,r,h,h2,h3,h4,rfl⟩
 · cases h
 cases h
 have hfl:=E.flen l
 have hm:Ow P X w₀ w ((I,el,l.flatMap f++r)::(A++B)):=(O.m.perm (by
  refine List.Perm.trans (List.perm_append_comm_assoc A _ B) ?_
  exact List.Perm.refl _)).o
 refine Rp V (vc:=vc) (b:=I) (off:=off) (t:=el) (l:=l.flatMap f++r) hs (by rw [had]; exact B4 _ _) rfl hone (hm.b 0 (by simp [Nat.blt_eq])) (by rw [Nat.ble_eq,sD,hfl]; omega) rfl fun w' hb ho=>?_
 have ht:=hm.turn 0 (l:=Do (l.flatMap f++r) off vc) ho hb (by simp)
 rw [Kq (by rw [hfl]; exact hfit),hset] at ht
 have ht:Ow P X w₀ w' ((I,el,l'.flatMap f++r)::(A++B)):=ht
 refine hK w' [(I,el,l'.flatMap f++r)] ((ht.m.perm ?_).o) (.inr ⟨I,r,rfl,by rw [hlen]; exact h2,h3,?_,rfl⟩)
 · refine List.Perm.trans ?_ (List.perm_append_comm_assoc A _ B).symm
   exact List.Perm.refl _
 · rw [sD,E.flen,hlen,← hfl,← sD]; exact h4
theorem kZ (V:Holds n ds a e) {ats:Array TypeId} {ty:TypeId} {vs:List Value} {d:Option Nat} {w':World} (hb:E5 ops e j=some (.clear,ats,ty,vs,d)) (hd:ltO d n=true)
 {v:Value} (hr:(Builtin.clear_ ats ty vs.toArray).run P w = .ok v w') (hK : ∀ a',Holds n ds a' (putE d v e)->K a' w'):wpOp P ops Q j K a w:=by
 unfold E5 at hb
 repeat' split at hb
 all_goals try (cases hb; done)
 rename_i o ho _ c hop _ b hcl _ vs' hvs
 simp only [Option.some.injEq,Prod.mk.injEq] at hb
 obtain ⟨rfl,rfl,rfl,rfl,rfl⟩:=hb
 refine D2 V ho ?_
 have hargs:c.args.map a.eval=vs'.toArray:=by
  have:=Lg V _ _ hvs
  apply Array.toList_inj.1
  simpa using this
 have hrun:(execOp a.eval o).run P w = .ok (.value v) w':=by
  unfold execOp
  simp only [hop,resolve,hcl,hargs,invoke,builtin,Sem.run_bind,Sem.run_pure,Result.andThen_ok,run_program,hr]
 unfold Oper.wp
 rw [hrun]
 exact hK _ (V.putE v hd)
theorem mCl {α:Type} {f : α->List Value} {el:Nat} (E:Enc f 1) {X:Nat->Prop} {w₀:World} {A B T:OwL} {ad ad':Addr} {c c' i m:Nat} {l:List α} {x0 : α} {z:Value} {t ty:TypeId} {d:Option Nat} (V:Holds n ds a e) (O:Ow P X w₀ w (A++(T++B))) (h1:One f el 1 (some ad) c l T)
 (hi:i < l.length) (hm:m=l.length - i) (had:ad'=ad.add i) (hz:f x0=[z])
 (hK : ∀ a' w' T',Holds n ds a' (putE d (.tuple #[]) e)->Ow P X w₀ w' (A++(T'++B))->One f el 1 (some ad) c (l.take i++List.replicate (l.length - i) x0) T'->K a' w')
 (he:E5 ops e j=some (.clear,#[t],ty,[.slice (some ad') m c'],d):=by kernel_rfl) (hd:ltO d n=true:=by kernel_rfl) (ht:P.underlying t=some (.slice el):=by kernel_rfl)
 (hi0:(P.info? el).map (fun i=>(i.zero,i.size))=some (some z,1):=by kernel_rfl) (hz1:z.cells=#[z]:=by rfl):wpOp P ops Q j K a w:=by
 subst hm had
 rcases h1 with ⟨h,_⟩ | ⟨I,r,h,h2,h3,h4,rfl⟩
 · cases h
 cases h
 have hfl:=E.flen l
 rw [Nat.mul_one] at hfl
 have hm:Ow P X w₀ w ((I,el,l.flatMap f++r)::(A++B)):=(O.m.perm (by
  refine List.Perm.trans (List.perm_append_comm_assoc A _ B) ?_
  exact List.Perm.refl _)).o
 have hB:Blk w I el (l.flatMap f++r):=hm.b 0 (by simp [Nat.blt_eq])
 have h1c:z.oneCell'=true:=E.one x0 z (by rw [hz]; exact sM.2 rfl)
 obtain ⟨hst,hB'⟩:=hB.store (P:=P) (off:=i) (vs:=List.replicate (l.length - i) z) (by rw [List.length_replicate,sD,hfl]; omega) (fun v hv=>by rw [List.eq_of_mem_replicate hv]; exact h1c)
 have hflat:(List.replicate (l.length - i) x0).flatMap f=List.replicate (l.length - i) z:=by
  generalize l.length - i=q
  induction q with
  | zero=>rfl
  | succ q ih=>rw [List.replicate_succ,List.flatMap_cons,ih,hz,List.replicate_succ]; rfl
 have hset:Do (l.flatMap f++r) i (List.replicate (l.length - i) z)=(l.take i++List.replicate (l.length - i) x0).flatMap f++r:=by
  rw [Kq (by rw [List.length_replicate,hfl]; omega),List.flatMap_append,hflat]
  unfold Do
  rw [List.length_replicate,List.drop_of_length_le (by rw [hfl]; omega),sN]
  congr 2
  have e:l.flatMap f=(l.take i).flatMap f++(l.drop i).flatMap f:=by rw [← List.flatMap_append,List.take_append_drop]
  have el':((l.take i).flatMap f).length=i:=by rw [E.flen,List.length_take,Nat.mul_one]; omega
  rw [e,List.take_append_of_le_length (by omega),List.take_of_length_le (by omega)]
 rw [hset] at hst hB'
 have hrun:(Builtin.clear_ #[t] ty #[.slice (some ((⟨I,0,none⟩:Addr).add i)) (l.length - i) c']).run P w = .ok (.tuple #[]) (w.setRow I ((l.take i++List.replicate (l.length - i) x0).flatMap f++r).toArray):=by
  rw [B4]
  cases hq:P.info? el with
  | none=>simp [hq] at hi0
  | some inf =>
   have hz0:inf.zero=some z/\inf.size=1:=by simpa [hq] using hi0
   have hzv : ∀ w,(zeroValue el).run P w = .ok z w:=fun w=>by simp [zeroValue,typeInfo,hq,hz0.1]
   have hzc:(Builtin.zeroCells z.cells (l.length - i)).toList=List.replicate (l.length - i) z:=by
    rw [hz1]
    simp [Builtin.zeroCells]
    apply List.ext_getElem
    · simp
    · intro i h1 h2
      simp [Nat.mod_one]
   obtain ⟨k,hk⟩ : ∃ k,l.length - i=k+1:=⟨l.length - i - 1,by omega⟩
   rw [hk] at hzc hst ⊢
   simp [Builtin.clear_,run_underlying ht,hzv,hzc,hst]
 refine kZ V he hd hrun fun a' hA'=>hK a' _ [(I,el,(l.take i++List.replicate (l.length - i) x0).flatMap f++r)] hA' ?_ (.inr ⟨I,r,rfl,by rw [sD,List.length_take,List.length_replicate]; omega,h3,?_,rfl⟩)
 · have hw:Ow P X w₀ (w.setRow I ((l.take i++List.replicate (l.length - i) x0).flatMap f++r).toArray) ((I,el,(l.take i++List.replicate (l.length - i) x0).flatMap f++r)::(A++B)) :=
    hm.turn 0 (Hy w _ _) hB' (by simp)
   refine (hw.m.perm ?_).o
   refine List.Perm.trans ?_ (List.perm_append_comm_assoc A _ B).symm
   exact List.Perm.refl _
 · rw [sD,E.flen,sD,List.length_take,List.length_replicate,Nat.mul_one] at *
   omega
end
end Go.Proofs.Sx
