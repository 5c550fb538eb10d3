import Derived.Test.YtdljjajjonfjbaaDoorReaders
import Derived.Test.YtdljjajjonfjbaaDoorSn
import Derived.Test.YtdljjajjonfjbaaDoorSz
import Derived.Lib.ConvBytes
import Derived.Laws.AppendOwn
set_option linter.unusedVariables false
set_option linter.unusedSimpArgs false
set_option maxRecDepth 10000
namespace Go.Proofs.YtdljjajjonfjbaaDoor
open Go Go.Shelf Go.RowKit Go.Proofs Go.Proofs.Sx
section
variable {d:CmdL}
theorem validC_yes (h1 : 1<=d.words.length/\d.words.length<=4) (hi:optB d.inp=true) (ho:optB d.out=true) (ha:d.app=true->¬ d.out.size=0) (hw:d.words.all isWordB=true):validC d=true:=by
 unfold validC
 rw [hw,decide_eq_true h1,hi,ho]
 cases hap:d.app with
 | false=>rfl
 | true=>rw [decide_eq_false (ha hap)]; rfl
variable {xp:Option Addr} {xc:Nat} {xl:List CV} {xb:Bool}
end
section
variable {α β:Type} {f : α->α->Bool}
end
section
variable {c d:CmdL}
variable {xp yp:Option Addr} {xc yc:Nat} {xl yl:List CV} {xb yb:Bool}
end
end Go.Proofs.YtdljjajjonfjbaaDoor
namespace Go.Proofs.Sx
open Go Go.RowKit
theorem mB {P:Program} {ops:Array Oper} {Q:Exit->Act->World->Prop} {n:Nat} {ds:List Deferred} {a:Act} {e:Env} {w:World} {K:Act->World->Prop} {i:Nat} {L:OwL} {X:Nat->Prop} {w₀:World} {t0 t el:TypeId} {s:ByteArray} {d:Nat}
    (hA:Holds n ds a e) (hO:Ow P X w₀ w L) (hsz:s.size<=maxLen) (hK : ∀ a' w' p c T,Holds n ds a' ((d,.slice p (sI s).length c)::e)->Ow P X w₀ w' (L++T)->One fB el 1 p c (sI s) T->K a' w')
    (he:convAt ops e i=some (t0,t,.string s,some d):=by kernel_rfl) (hd:Nat.blt d n=true:=by kernel_rfl) (h0:P.underlying t0=some .string:=by kernel_rfl) (ht:P.underlying t=some (.slice el):=by kernel_rfl) (hel:P.underlying el=some (.int .u8):=by kernel_rfl):wpOp P ops Q i K a w:=by
  unfold convAt at he
  repeat' split at he
  all_goals try (cases he; done)
  rename_i o ho _ src dst x hop _ v hv
  simp only [Option.some.injEq,Prod.mk.injEq] at he
  obtain ⟨rfl,rfl,rfl,hdst⟩:=he
  refine wpOp_of hA ho ?_
  have hc:=Lib.run_convert_string_bytes (P:=P) w src dst el s h0 ht hel
  have hrun:(execOp a.eval o).run P w = .ok (.value (.slice (some ⟨w.heap.size,0,none⟩) s.size (grownCap w s.size 0 el))) (Lib.bytesWorld w el s):=by
    unfold execOp
    simp only [hop,hA.eval hv,Sem.run_bind,Sem.run_pure,Result.andThen_ok,run_program,hc]
  unfold Oper.wp
  rw [hrun]
  have hcells:(Lib.bytesCells w el s).toList=(sI s).flatMap fB++List.replicate (grownCap w s.size 0 el - s.size) (.int .u8 0):=by
    rw [sI_flat]
    unfold Lib.bytesCells byteCells
    simp
  have hlen:(Lib.bytesCells w el s).toList.length=grownCap w s.size 0 el:=by
    rw [hcells,List.length_append,encB.flen,sI_len,List.length_replicate]
    have:=grownCap_ge w s.size 0 el
    omega
  have hT:OwM none' w (Lib.bytesWorld w el s) [(w.heap.size,el,(sI s).flatMap fB++List.replicate (grownCap w s.size 0 el - s.size) (.int .u8 0))]:=by
    refine ⟨⟨by (unfold Lib.bytesWorld; simp [World.freeze]) <;> rfl,by (unfold Lib.bytesWorld; simp [World.freeze]) <;> rfl,by (unfold Lib.bytesWorld; simp [World.freeze]) <;> rfl,by rw [Lib.bytesWorld_size]; omega,fun k hk _=>Lib.bytesWorld_at_old w el s k hk⟩,fun y hy=>?_,List.pairwise_singleton _ _,fun y hy=>?_⟩
    · rw [List.mem_singleton] at hy; subst hy
      refine ⟨((Lib.bytesCells w el s).size,(Lib.bytesCells w el s).size+1),?_,?_⟩
      · rw [Lib.bytesWorld_at_new,← hcells]
      · right
        rw [← hcells]; simp
    · rw [List.mem_singleton] at hy; subst hy; exact .inl (Nat.le_refl _)
  refine hK _ _ (some ⟨w.heap.size,0,none⟩) (grownCap w s.size 0 el) _ ?_ ((hO.m.join hT).o) (.inr ⟨w.heap.size,_,rfl,by rw [sI_len]; exact grownCap_ge w s.size 0 el,grownCap_le_maxLen w s.size 0 el hsz,by rw [← hcells,hlen,Nat.mul_one],rfl⟩)
  rw [hdst,sI_len]; exact hA.put _ (by simpa [Nat.blt_eq] using hd)
theorem permA {P:Program} {X:Nat->Prop} {w₀ w:World} {A A' B:OwL} (h:Ow P X w₀ w (A++B)) (p:A.Perm A'):Ow P X w₀ w (A'++B):=(h.m.perm (List.Perm.append_right B p)).o
theorem tree_let {P:Program} {ops:Array Oper} {Q:Exit->Act->World->Prop} {S:World->Prop} {t t1:PT} {a:Act} {w:World} (R:Act->World->Prop) (h1 : ∀ a w,R a w->wpTree P ops Q S t1 a w) (h2:(∀ a w,R a w->wpTree P ops Q S t1 a w)->wpTree P ops Q S t a w):wpTree P ops Q S t a w:=h2 h1
end Go.Proofs.Sx
namespace Go.Proofs.YtdljjajjonfjbaaDoor
open Go Go.RowKit Go.Proofs.Sx
structure CallL where
  call:Int
  a0:Int
  a1:Int
  a2:Int
  data:List Int
structure StL where
  mode:Int
  pos:Int
  inp:ByteArray
  jobs:List JobL
  rd:Int
  wr:Int
  pv:Int
  kids:List Int
  plan:List CallL
def callL (n a b:Int):CallL:=⟨n,a,b,0,[]⟩
def newS:StL:=⟨0,0,⟨#[]⟩,[],-1,-1,-1,[],[]⟩
def tellL:CallL:=⟨10,2,0,0,[63,10]⟩
def userB (t:Int):Bool:=decide (16<=t/\t < 32)
def argB (n:Int):Bool:=decide (-1<=n/\n<=1000)
def okC (c:CallL):Bool:=argB c.a0 && (argB c.a1 && (argB c.a2 && (decide (0<=c.call/\c.call < 20) && decide (c.data.length<=128))))
def kidsB (l:List Int):Nat->Bool
  | 0=>true
  | i+1=>kidsB l i && (userB (l.getD i 0) && !(l.take i).contains (l.getD i 0))
def listsB (l:List Int) (p:List CallL):Bool:=kidsB l l.length && (p.all okC && decide (p.length<=12))
def nCmd (l:List JobL):Nat:=match l with
  | []=>0
  | j::_=>j.cmds.length
def regB (n:Int):Bool:=decide (-1<=n/\n < 8)
def regsB (s:StL):Bool:=regB s.rd && (regB s.wr && regB s.pv)
def fitB (s:StL):Bool:=decide (0<=s.mode/\s.mode<=7) && (decide (s.inp.size<=300) && (validL s.jobs && (listsB s.kids s.plan && decide (0<=s.pos/\s.pos<=(nCmd s.jobs:Int)))))
def modeB (s:StL):Bool:=if s.mode=3\/s.mode=4 then decide (s.pos < (nCmd s.jobs:Int)) else if s.mode=5 then decide (0 < s.jobs.length) else true
def validS (s:StL):Bool:=regsB s && (fitB s && ((decide (0 < s.plan.length) == decide (s.mode=2\/s.mode=6)) && modeB s))
def longC (c:CmdL):Bool:=decide (1 < c.words.length)
def longJ (l:List CmdL):Bool:=l.any longC
def exitW:ByteArray:=⟨#[101,120,105,116]⟩
def cmd1 (l:List CmdL):CmdL:=l.getD 0 cmd0
def word1 (c:CmdL):ByteArray:=c.words.getD 0 ⟨#[]⟩
def isExit (l:List CmdL):Bool:=decide (l.length=1) && ((word1 (cmd1 l)).toList == exitW.toList)
def digB (l:List UInt8):Bool:=l.all fun c=>decide (48<=c.toNat/\c.toNat<=57)
def decV (l:List UInt8):Nat:=l.foldl (fun n c=>10*n+(c.toNat - 48)) 0
def codeW (ws:List ByteArray):Int:=match ws with
  | _::w::_=>if digB w.data.toList=true/\w.size<=3 then ((decV w.data.toList % 256:Nat):Int) else 1
  | _=>0
def closesL (l:List Int):List CallL:=(l.filter fun n=>decide (0<=n)).map fun n=>callL 8 n 0
def jobS (s:StL):StL×Option CallL :=
  match s.jobs with
  | []=>(s,none)
  | j::r =>
    if isExit j.cmds=true/\s.pos=0 then ({s with mode:=7},some (callL 0 (codeW (cmd1 j.cmds).words) 0))
    else if s.pos=0/\longJ j.cmds=true then ({s with jobs:=r,plan:=s.plan++[tellL]},none)
    else if s.pos=(j.cmds.length:Int) - 1 then ({s with mode:=4},some (callL 1 0 0))
    else if s.pos < (j.cmds.length:Int) then ({s with mode:=3},some (callL 11 0 0))
    else if j.bg=false/\0 < s.kids.length then ({s with mode:=5},some (callL 3 0 0))
    else ({s with jobs:=r,kids:=[],pos:=0,pv:=-1},none)
def lineS (s:StL) (n:Nat):StL:=match lineP false (s.inp.extract 0 n) with
  | .error _=>{s with inp:=s.inp.extract (n+1) s.inp.size,plan:=s.plan++[tellL]}
  | .ok l=>{s with inp:=s.inp.extract (n+1) s.inp.size,jobs:=l}
def nlI (s:ByteArray):Int:=Lib.indexByte s.data.toList 10
def procF:Nat->StL->StL×CallL
  | 0,s=>(s,callL 0 0 0)
  | k+1,s=>match s.plan with
    | c::_=>({s with mode:=2},c)
    | []=>match s.jobs with
      | _::_=>match jobS s with
        | (s',some c)=>(s',c)
        | (s',none)=>procF k s'
      | []=>if nlI s.inp < 0 then ({s with mode:=1},callL 9 0 80) else procF k (lineS s (nlI s.inp).toNat)
def meas (s:StL):Nat:=9*s.inp.size+s.jobs.length
def procS (s:StL):StL×CallL:=procF (meas s+2) s
def exitS (s:StL) (n:Int):StL×CallL:=({s with mode:=7},callL 0 n 0)
def readS (s:StL) (result:Int) (data:List Int):StL×CallL :=
  if 0 < result then procS {s with inp:=s.inp++bsI ((data.take (min result.toNat data.length)).take (300 - s.inp.size))}
  else if s.inp.size=0 then exitS s (if result=0 then 0 else 1)
  else procS {s with inp:=s.inp.extract 0 (min s.inp.size 299)++⟨#[10]⟩}
def upS (s:StL):StL×CallL:=procS {s with plan:=s.plan++closesL [s.pv,s.rd,s.wr]++[tellL],rd:=-1,wr:=-1,pv:=-1,pos:=(nCmd s.jobs:Int)}
def opens (nm:ByteArray) (fl fd:Int):List CallL:=[⟨7,fl,0,0,sI nm⟩,callL 12 (-1) fd,callL 8 (-1) 0]
def planL (s:StL) (c:CmdL):List CallL :=
  (if 0<=s.pv then [callL 12 s.pv 0,callL 8 s.pv 0] else [])++((if 0<=s.wr then [callL 12 s.wr 1,callL 8 s.wr 0,callL 8 s.rd 0] else []) ++
    ((if c.inp.size=0 then [] else opens c.inp 0 0)++((if c.app=true then opens c.out 5 1 else if c.out.size=0 then [] else opens c.out 3 1)++[⟨2,0,0,0,sI (word1 c)⟩])))
def cmdAt (s:StL):CmdL:=match s.jobs with
  | []=>cmd0
  | j::_=>j.cmds.getD s.pos.toNat cmd0
def headC (l:List CallL):CallL:=l.getD 0 (callL 0 0 0)
def kidsAdd (l:List Int) (t:Int):List Int:=if userB t=true/\l.contains t=false then l++[t] else l
def forkS (s:StL) (result:Int):StL×CallL :=
  if result < 0 then upS s
  else if result=0 then ({newS with mode:=6,plan:=planL s (cmdAt s)},headC (planL s (cmdAt s)))
  else procS {s with kids:=kidsAdd s.kids (result % 32),plan:=s.plan++closesL [s.pv,s.wr],pv:=s.rd,rd:=-1,wr:=-1,pos:=s.pos+1}
def fix1 (r:Int) (c:CallL):CallL:=if c.a0 = -1 then {c with a0:=r % 8} else c
def fixL (r:Int):List CallL->List CallL
  | a::b::l=>fix1 r a::fix1 r b::l
  | [a]=>[fix1 r a]
  | []=>[]
def or127 (l:List CallL):List CallL:=if l.length=0 then [callL 0 127 0] else l
def childP (l:List CallL) (result:Int):List CallL :=
  if result < 0/\(headC l).call≠10 then [tellL,callL 0 127 0]
  else or127 (if (headC l).call=7 then fixL result l.tail else l.tail)
def childS (s:StL) (result:Int):StL×CallL:=({s with plan:=childP s.plan result},headC (childP s.plan result))
def stepS (s:StL) (result:Int) (data:List Int):StL×CallL :=
  if s.mode=0 then procS s
  else if s.mode=1 then readS s result data
  else if s.mode=2 then procS {s with plan:=s.plan.tail}
  else if s.mode=3 then (if result < 0 then upS s else ({s with rd:=result / 256 % 8,wr:=result % 256 % 8,mode:=4},callL 1 0 0))
  else if s.mode=4 then forkS s result
  else if s.mode=5 then procS {s with kids:=if result < 0 then [] else s.kids.filter fun t=>!(t == result / 256)}
  else if s.mode=6 then childS s result
  else (s,callL 0 255 0)
def stepP (s:StL) (result:Int) (data:List Int):StL×CallL:=if validS s=true then stepS s result data else ({newS with mode:=7},callL 0 254 0)
def fN (x:Int):List Value:=[.int .i64 x]
theorem encN:Enc fN 1:=⟨fun _=>rfl,fun x v hv=>by simp only [fN,List.mem_singleton] at hv; subst hv; rfl⟩
structure PV where
  p:Option Addr
  c:Nat
  d:CallL
def fP (x:PV):List Value:=[.int .i64 x.d.call,.int .i64 x.d.a0,.int .i64 x.d.a1,.int .i64 x.d.a2,.slice x.p x.d.data.length x.c]
theorem encP:Enc fP 5:=⟨fun _=>rfl,fun x v hv=>by
  simp only [fP,List.mem_cons,List.not_mem_nil,or_false] at hv
  rcases hv with rfl | rfl | rfl | rfl | rfl <;> rfl⟩
def VP (w:World) (x:PV):Prop:=Vw fB w (.slice x.p x.d.data.length x.c) x.d.data/\U8s x.d.data
def PL (w:World) (v:Value) (l:List PV):Prop:=Vw fP w v l/\∀ x∈l,VP w x
structure SV where
  mo:Int
  po:Int
  inp:ByteArray
  pj:Option Addr
  cj:Nat
  lj:List JV
  rd:Int
  wr:Int
  pv:Int
  pc:Option Addr
  cc:Nat
  lc:List Int
  pp:Option Addr
  cp:Nat
  lp:List PV
def SV.d (x:SV):StL:=⟨x.mo,x.po,x.inp,x.lj.map JV.d,x.rd,x.wr,x.pv,x.lc,x.lp.map PV.d⟩
@[reducible] def cS (mo po:Int) (inp:ByteArray) (pj:Option Addr) (nj kj:Nat) (rd wr pv:Int) (pn:Option Addr) (nn kn:Nat) (pp:Option Addr) (np kp:Nat):List Value:=[.int .i64 mo,.int .i64 po,.string inp,.slice pj nj kj,.int .i64 rd,.int .i64 wr,.int .i64 pv,.slice pn nn kn,.slice pp np kp]
def SV.cells (x:SV):List Value:=cS x.mo x.po x.inp x.pj x.lj.length x.cj x.rd x.wr x.pv x.pc x.lc.length x.cc x.pp x.lp.length x.cp
structure SV.ok (x:SV) (w:World):Prop where
  j:VL w (.slice x.pj x.lj.length x.cj) x.lj
  k:Vw fN w (.slice x.pc x.lc.length x.cc) x.lc
  p:PL w (.slice x.pp x.lp.length x.cp) x.lp
structure SV.sm (x:SV):Prop where
  i:x.inp.size<=1000000
  j:smL 1000000 (x.lj.map JV.d)
  k:x.lc.length<=1000000
  p:x.lp.length<=1000000
  ck:x.lc.length<=x.cc
  cj:x.lj.length<=x.cj
  cp:x.lp.length<=x.cp
theorem VP.keep {w w':World} {x:PV} (h:VP w x) (k:Only none' w w'):VP w' x:=⟨h.1.keep k,h.2⟩
theorem PL.keep {w w':World} {v:Value} {l:List PV} (h:PL w v l) (k:Only none' w w'):PL w' v l:=⟨h.1.keep k,fun x hx=>(h.2 x hx).keep k⟩
theorem SV.ok.keep {x:SV} {w w':World} (h:x.ok w) (k:Only none' w w'):x.ok w':=⟨h.j.keep k,h.k.keep k,h.p.keep k⟩
def Holds' (T:OwL) (Q:World->Prop):Prop:=∀ (X:Nat->Prop) (w₀ w:World),OwM X w₀ w T->Q w
theorem Holds'.at {T A B:OwL} {Q:World->Prop} (h:Holds' T Q) {X:Nat->Prop} {w₀ w:World} (hO:OwM X w₀ w (A++(T++B))):Q w :=
  h X w₀ w (hO.less ((List.sublist_append_left T B).trans (List.sublist_append_right A _)))
theorem Holds'.mono {T:OwL} {Q R:World->Prop} (h:Holds' T Q) (hq : ∀ w,Q w->R w):Holds' T R:=fun X w₀ w hO=>hq w (h X w₀ w hO)
theorem Holds'.l {T T':OwL} {Q:World->Prop} (h:Holds' T Q):Holds' (T++T') Q:=fun X w₀ w hO=>h X w₀ w (hO.less (List.sublist_append_left T T'))
theorem Holds'.r {T T':OwL} {Q:World->Prop} (h:Holds' T' Q):Holds' (T++T') Q:=fun X w₀ w hO=>h X w₀ w (hO.less (List.sublist_append_right T T'))
theorem Holds'.and {T:OwL} {Q R:World->Prop} (h:Holds' T Q) (h':Holds' T R):Holds' T fun w=>Q w/\R w:=fun X w₀ w hO=>⟨h X w₀ w hO,h' X w₀ w hO⟩
theorem _root_.Go.Proofs.Sx.One.holds {α:Type} {f : α->List Value} {e:TypeId} {sz:Nat} {p:Option Addr} {c:Nat} {l:List α} {T:OwL} (h:One f e sz p c l T):Holds' T fun w=>Vw f w (.slice p l.length c) l:=fun X w₀ w hO =>
  h.vw (A:=[]) (B:=[]) (by simpa using hO)
theorem gD_of {α:Type} {l:List α} {i:Nat} {x d : α} (h:l[i]? = some x):l.getD i d=x:=by rw [List.getD_eq_getElem?_getD,h]; rfl
theorem _root_.Go.Proofs.Sx.Vw.tail {α:Type} {f : α->List Value} {sz:Nat} (E:Enc f sz) {w:World} {ad:Addr} {x : α} {r:List α} {m c c':Nat} (h:Vw f w (.slice (some ad) m c) (x::r)):Vw f w (.slice (some (ad.add sz)) r.length c') r:=by
  rcases h with ⟨h,_⟩ | ⟨ad',cap,h,hc⟩
  · cases h
  · cases h
    refine .inr ⟨_,c',rfl,fun j u hj=>?_⟩
    rw [Sx.add_add]
    refine hc (sz+j) u ?_
    rw [List.flatMap_cons,List.getElem?_append_right (by rw [E.len]; omega),E.len]
    simpa using hj
theorem _root_.Go.Proofs.Sx.Vw.nil_any {α:Type} {f : α->List Value} {w:World} {p:Option Addr} {m c:Nat} {x : α} (h:Vw f w (.slice p m c) [x]) (c':Nat):Vw f w (.slice p 0 c') []:=by
  rcases h with ⟨_,h⟩ | ⟨ad',cap,h,hc⟩
  · cases h
  · cases h
    exact .inr ⟨_,c',rfl,fun j u hj=>by simp at hj⟩
end Go.Proofs.YtdljjajjonfjbaaDoor
