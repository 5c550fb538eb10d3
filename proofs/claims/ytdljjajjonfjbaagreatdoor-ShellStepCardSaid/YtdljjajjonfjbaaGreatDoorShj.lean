import Derived.Test.YtdljjajjonfjbaaGreatDoorShg
import Derived.Test.YtdljjajjonfjbaaGreatDoorReaders
import Derived.Test.YtdljjajjonfjbaaGreatDoorParsc
import Derived.Test.YtdljjajjonfjbaaGreatDoorShb
import Derived.Lib.Join
set_option linter.unusedVariables false
set_option linter.unusedSimpArgs false
set_option maxRecDepth 10000
open Go.Value renaming slice->C,agg->D
open Option renaming some->E,none->F
open Go.Proofs.Tryz renaming prog->jP
open List renaming length_append->jR,length_cons->jS,length_nil->jT,length_map->jU,mem_cons_self->jX,not_mem_nil->jY,mem_singleton->jZ
open ByteArray renaming size_extract->kH
open Bool renaming and_eq_true->kK
namespace Go.Proofs.YtdljjajjonfjbaaGreatDoor
open Go Go.Shelf Go.RowKit Go.Proofs Go.Proofs.Sx
theorem N9 {N:Nat} {x:JV} {r:List JV} (h:smL N ((x::r).map JV.d)):smL N (r.map JV.d):=⟨by have:=h.1; simp only [List.map_cons,jS] at this; omega,fun y hy=>h.2 y (by rw [List.map_cons]; exact List.mem_cons_of_mem _ hy)⟩
theorem Ub {x:JV} {r:List JV} (h:As ((x::r).map JV.d)=true):As (r.map JV.d)=true:=by
 unfold As at h ⊢;rw [kK,List.all_map,jU,jS,List.all_cons,kK] at h;rw [kK,List.all_map,jU];exact ⟨h.1.2,jN (by have:=jL h.2; omega)⟩
theorem J2 {x:JV} {r:List JV} (h:As ((x::r).map JV.d)=true):(1<=x.cmds.length/\x.cmds.length<=4)/\∀ y∈x.cmds,Ax y.d=true:=by
 unfold As at h;rw [kK,List.all_map,List.all_cons,kK] at h;have h1:=h.1.1;simp only [Function.comp,B3,JV.d,jU,List.all_map,kK,decide_eq_true_eq,List.all_eq_true] at h1;exact h1
theorem E9 {d:CmdL} (h:Ax d=true):(1<=d.words.length/\d.words.length<=4)/\∀ u∈d.words,0 < u.size/\u.size<=60:=by
 unfold Ax at h;simp only [kK,decide_eq_true_eq,List.all_eq_true] at h;refine ⟨h.2.1,fun u hu=>?_⟩;have:=h.1 u hu;unfold Az at this;rw [kK] at this;have:=jL this.2;omega
section
variable {s:StL} {j:JobL} {r:List JobL}
theorem job_a (h:s.jobs=j::r) (h1:Bv j.cmds=true) (h2:s.pos=0):Dc s=({s with mode:=7},E (A3 0 (B0 (aS j.cmds).words) 0)):=by unfold Dc; rw [h]; simp only; rw [if_pos ⟨h1,h2⟩]
theorem job_b (h:s.jobs=j::r) (h1 : ¬ (Bv j.cmds=true/\s.pos=0)) (h2:s.pos=0/\Bw j.cmds=true):Dc s=({s with jobs:=r,plan:=s.plan++[Fa]},F):=by unfold Dc; rw [h]; simp only; rw [if_neg h1,if_pos h2]
theorem job_c (h:s.jobs=j::r) (h1 : ¬ (Bv j.cmds=true/\s.pos=0)) (h2 : ¬ (s.pos=0/\Bw j.cmds=true)) (h3:s.pos=(j.cmds.length:Int) - 1):Dc s=({s with mode:=4},E (A3 1 0 0)):=by unfold Dc; rw [h]; simp only; rw [if_neg h1,if_neg h2,if_pos h3]
theorem job_d (h:s.jobs=j::r) (h1 : ¬ (Bv j.cmds=true/\s.pos=0)) (h2 : ¬ (s.pos=0/\Bw j.cmds=true)) (h3 : ¬ s.pos=(j.cmds.length:Int) - 1) (h4:s.pos < (j.cmds.length:Int)):Dc s=({s with mode:=3},E (A3 11 0 0)):=by unfold Dc; rw [h]; simp only; rw [if_neg h1,if_neg h2,if_neg h3,if_pos h4]
theorem job_e (h:s.jobs=j::r) (h1 : ¬ (Bv j.cmds=true/\s.pos=0)) (h2 : ¬ (s.pos=0/\Bw j.cmds=true)) (h3 : ¬ s.pos=(j.cmds.length:Int) - 1) (h4 : ¬ s.pos < (j.cmds.length:Int)) (h5:j.bg=false/\0 < s.kids.length):Dc s=({s with mode:=5},E (A3 3 0 0)):=by unfold Dc; rw [h]; simp only; rw [if_neg h1,if_neg h2,if_neg h3,if_neg h4,if_pos h5]
theorem job_f (h:s.jobs=j::r) (h1 : ¬ (Bv j.cmds=true/\s.pos=0)) (h2 : ¬ (s.pos=0/\Bw j.cmds=true)) (h3 : ¬ s.pos=(j.cmds.length:Int) - 1) (h4 : ¬ s.pos < (j.cmds.length:Int)) (h5 : ¬ (j.bg=false/\0 < s.kids.length)):Dc s=({s with jobs:=r,kids:=[],pos:=0,pv:=-1},F):=by unfold Dc; rw [h]; simp only; rw [if_neg h1,if_neg h2,if_neg h3,if_neg h4,if_neg h5]
end
theorem Ou {p:Option Addr} {c:Nat} {d:CmdL} {r:List CV} {z:ByteArray} (hz:d.words[0]? = E z):Bv ((⟨p,c,d⟩::r:List CV).map CV.d)=(decide ((⟨p,c,d⟩::r:List CV).length=1) && (z.toList == Vh.toList)):=by
 unfold Bv;rw [jU];have:Jz (aS ((⟨p,c,d⟩::r:List CV).map CV.d))=z:=Lv hz;rw [this]
theorem M8 {a:Bool} {n:Int} (h:(a && (n == 0))=true):a=true/\n=0:=by rw [kK,beq_iff_eq] at h; exact h
theorem Lr {a:Bool} {n:Int} (h:(a && (n == 0))=false) : ¬ (a=true/\n=0):=fun q=>by rw [q.1,q.2] at h; cases h
theorem M7 {a:Bool} {n:Int} (h:((n == 0) && a)=true):n=0/\a=true:=by rw [kK,beq_iff_eq] at h; exact h
theorem Lq {a:Bool} {n:Int} (h:((n == 0) && a)=false) : ¬ (n=0/\a=true):=fun q=>by rw [q.1,q.2] at h; cases h
theorem fS {a:Bool} {n:Nat} (h:((!a) && (decide (((n:Nat):Int) > 0)))=true):a=false/\0 < n:=by rw [kK,Bool.not_eq_true',decide_eq_true_eq] at h; exact ⟨h.1,by omega⟩
theorem Y8 {a:Bool} {n:Nat} (h:((!a) && (decide (((n:Nat):Int) > 0)))=false) : ¬ (a=false/\0 < n):=fun q=>by rw [q.1,jN (by omega)] at h; cases h
theorem sj_a {mo po:Int} {inp:ByteArray} {aj:Addr} {kj:Nat} {ax:Addr} {xc:Nat} {ay:Addr} {yc:Nat} {yd:CmdL} {rc:List CV} {xb:Bool} {rj:List JV} {rd wr pv:Int} {pn:Option Addr} {kn:Nat} {ln:List Int} {pp:Option Addr} {kp:Nat} {lp:List PV} (h1:Bv ((⟨E ay,yc,yd⟩::rc).map CV.d)=true) (h2:po=0):Dc (SV.d (⟨mo,po,inp,E aj,kj,((⟨E ax,xc,(⟨E ay,yc,yd⟩::rc),xb⟩:JV)::rj),rd,wr,pv,pn,kn,ln,pp,kp,lp⟩:SV))=(SV.d (⟨7,po,inp,E aj,kj,((⟨E ax,xc,(⟨E ay,yc,yd⟩::rc),xb⟩:JV)::rj),rd,wr,pv,pn,kn,ln,pp,kp,lp⟩:SV),E (A3 0 (B0 yd.words) 0)):=job_a (s:=SV.d (⟨mo,po,inp,E aj,kj,((⟨E ax,xc,(⟨E ay,yc,yd⟩::rc),xb⟩:JV)::rj),rd,wr,pv,pn,kn,ln,pp,kp,lp⟩:SV)) rfl h1 h2
theorem gU {mo po:Int} {inp:ByteArray} {aj:Addr} {kj:Nat} {ax:Addr} {xc:Nat} {ay:Addr} {yc:Nat} {yd:CmdL} {rc:List CV} {xb:Bool} {rj:List JV} {rd wr pv:Int} {pn:Option Addr} {kn:Nat} {ln:List Int} {pp:Option Addr} {kp:Nat} {lp:List PV} (h1 : ¬ (Bv ((⟨E ay,yc,yd⟩::rc).map CV.d)=true/\po=0)) (h2:po=0/\Bw ((⟨E ay,yc,yd⟩::rc).map CV.d)=true):Dc (SV.d (⟨mo,po,inp,E aj,kj,((⟨E ax,xc,(⟨E ay,yc,yd⟩::rc),xb⟩:JV)::rj),rd,wr,pv,pn,kn,ln,pp,kp,lp⟩:SV))=({SV.d (⟨mo,po,inp,E aj,kj,((⟨E ax,xc,(⟨E ay,yc,yd⟩::rc),xb⟩:JV)::rj),rd,wr,pv,pn,kn,ln,pp,kp,lp⟩:SV) with jobs:=rj.map JV.d,plan:=(SV.d (⟨mo,po,inp,E aj,kj,((⟨E ax,xc,(⟨E ay,yc,yd⟩::rc),xb⟩:JV)::rj),rd,wr,pv,pn,kn,ln,pp,kp,lp⟩:SV)).plan++[Fa]},F):=job_b (s:=SV.d (⟨mo,po,inp,E aj,kj,((⟨E ax,xc,(⟨E ay,yc,yd⟩::rc),xb⟩:JV)::rj),rd,wr,pv,pn,kn,ln,pp,kp,lp⟩:SV)) rfl h1 h2
theorem sj_c {mo po:Int} {inp:ByteArray} {aj:Addr} {kj:Nat} {ax:Addr} {xc:Nat} {ay:Addr} {yc:Nat} {yd:CmdL} {rc:List CV} {xb:Bool} {rj:List JV} {rd wr pv:Int} {pn:Option Addr} {kn:Nat} {ln:List Int} {pp:Option Addr} {kp:Nat} {lp:List PV} (h1 : ¬ (Bv ((⟨E ay,yc,yd⟩::rc).map CV.d)=true/\po=0)) (h2 : ¬ (po=0/\Bw ((⟨E ay,yc,yd⟩::rc).map CV.d)=true)) (h3:po=(((⟨E ay,yc,yd⟩::rc).length:Nat):Int) - 1):Dc (SV.d (⟨mo,po,inp,E aj,kj,((⟨E ax,xc,(⟨E ay,yc,yd⟩::rc),xb⟩:JV)::rj),rd,wr,pv,pn,kn,ln,pp,kp,lp⟩:SV))=(SV.d (⟨4,po,inp,E aj,kj,((⟨E ax,xc,(⟨E ay,yc,yd⟩::rc),xb⟩:JV)::rj),rd,wr,pv,pn,kn,ln,pp,kp,lp⟩:SV),E (A3 1 0 0)):=job_c (s:=SV.d (⟨mo,po,inp,E aj,kj,((⟨E ax,xc,(⟨E ay,yc,yd⟩::rc),xb⟩:JV)::rj),rd,wr,pv,pn,kn,ln,pp,kp,lp⟩:SV)) rfl h1 h2 (by show po=((((⟨E ay,yc,yd⟩::rc).map CV.d).length:Nat):Int) - 1; rw [jU]; exact h3)
theorem sj_d {mo po:Int} {inp:ByteArray} {aj:Addr} {kj:Nat} {ax:Addr} {xc:Nat} {ay:Addr} {yc:Nat} {yd:CmdL} {rc:List CV} {xb:Bool} {rj:List JV} {rd wr pv:Int} {pn:Option Addr} {kn:Nat} {ln:List Int} {pp:Option Addr} {kp:Nat} {lp:List PV} (h1 : ¬ (Bv ((⟨E ay,yc,yd⟩::rc).map CV.d)=true/\po=0)) (h2 : ¬ (po=0/\Bw ((⟨E ay,yc,yd⟩::rc).map CV.d)=true)) (h3 : ¬ po=(((⟨E ay,yc,yd⟩::rc).length:Nat):Int) - 1) (h4:po < (((⟨E ay,yc,yd⟩::rc).length:Nat):Int)):Dc (SV.d (⟨mo,po,inp,E aj,kj,((⟨E ax,xc,(⟨E ay,yc,yd⟩::rc),xb⟩:JV)::rj),rd,wr,pv,pn,kn,ln,pp,kp,lp⟩:SV))=(SV.d (⟨3,po,inp,E aj,kj,((⟨E ax,xc,(⟨E ay,yc,yd⟩::rc),xb⟩:JV)::rj),rd,wr,pv,pn,kn,ln,pp,kp,lp⟩:SV),E (A3 11 0 0)):=job_d (s:=SV.d (⟨mo,po,inp,E aj,kj,((⟨E ax,xc,(⟨E ay,yc,yd⟩::rc),xb⟩:JV)::rj),rd,wr,pv,pn,kn,ln,pp,kp,lp⟩:SV)) rfl h1 h2 (by show ¬ po=((((⟨E ay,yc,yd⟩::rc).map CV.d).length:Nat):Int) - 1; rw [jU]; exact h3) (by show po < ((((⟨E ay,yc,yd⟩::rc).map CV.d).length:Nat):Int); rw [jU]; exact h4)
theorem sj_e {mo po:Int} {inp:ByteArray} {aj:Addr} {kj:Nat} {ax:Addr} {xc:Nat} {ay:Addr} {yc:Nat} {yd:CmdL} {rc:List CV} {xb:Bool} {rj:List JV} {rd wr pv:Int} {pn:Option Addr} {kn:Nat} {ln:List Int} {pp:Option Addr} {kp:Nat} {lp:List PV} (h1 : ¬ (Bv ((⟨E ay,yc,yd⟩::rc).map CV.d)=true/\po=0)) (h2 : ¬ (po=0/\Bw ((⟨E ay,yc,yd⟩::rc).map CV.d)=true)) (h3 : ¬ po=(((⟨E ay,yc,yd⟩::rc).length:Nat):Int) - 1) (h4 : ¬ po < (((⟨E ay,yc,yd⟩::rc).length:Nat):Int)) (h5:xb=false/\0 < ln.length):Dc (SV.d (⟨mo,po,inp,E aj,kj,((⟨E ax,xc,(⟨E ay,yc,yd⟩::rc),xb⟩:JV)::rj),rd,wr,pv,pn,kn,ln,pp,kp,lp⟩:SV))=(SV.d (⟨5,po,inp,E aj,kj,((⟨E ax,xc,(⟨E ay,yc,yd⟩::rc),xb⟩:JV)::rj),rd,wr,pv,pn,kn,ln,pp,kp,lp⟩:SV),E (A3 3 0 0)):=job_e (s:=SV.d (⟨mo,po,inp,E aj,kj,((⟨E ax,xc,(⟨E ay,yc,yd⟩::rc),xb⟩:JV)::rj),rd,wr,pv,pn,kn,ln,pp,kp,lp⟩:SV)) rfl h1 h2 (by show ¬ po=((((⟨E ay,yc,yd⟩::rc).map CV.d).length:Nat):Int) - 1; rw [jU]; exact h3) (by show ¬ po < ((((⟨E ay,yc,yd⟩::rc).map CV.d).length:Nat):Int); rw [jU]; exact h4) h5
theorem gT {mo po:Int} {inp:ByteArray} {aj:Addr} {kj:Nat} {ax:Addr} {xc:Nat} {ay:Addr} {yc:Nat} {yd:CmdL} {rc:List CV} {xb:Bool} {rj:List JV} {rd wr pv:Int} {pn:Option Addr} {kn:Nat} {ln:List Int} {pp:Option Addr} {kp:Nat} {lp:List PV} (h1 : ¬ (Bv ((⟨E ay,yc,yd⟩::rc).map CV.d)=true/\po=0)) (h2 : ¬ (po=0/\Bw ((⟨E ay,yc,yd⟩::rc).map CV.d)=true)) (h3 : ¬ po=(((⟨E ay,yc,yd⟩::rc).length:Nat):Int) - 1) (h4 : ¬ po < (((⟨E ay,yc,yd⟩::rc).length:Nat):Int)) (h5 : ¬ (xb=false/\0 < ln.length)):Dc (SV.d (⟨mo,po,inp,E aj,kj,((⟨E ax,xc,(⟨E ay,yc,yd⟩::rc),xb⟩:JV)::rj),rd,wr,pv,pn,kn,ln,pp,kp,lp⟩:SV))=({SV.d (⟨mo,po,inp,E aj,kj,((⟨E ax,xc,(⟨E ay,yc,yd⟩::rc),xb⟩:JV)::rj),rd,wr,pv,pn,kn,ln,pp,kp,lp⟩:SV) with jobs:=rj.map JV.d,kids:=[],pos:=0,pv:=-1},F):=job_f (s:=SV.d (⟨mo,po,inp,E aj,kj,((⟨E ax,xc,(⟨E ay,yc,yd⟩::rc),xb⟩:JV)::rj),rd,wr,pv,pn,kn,ln,pp,kp,lp⟩:SV)) rfl h1 h2 (by show ¬ po=((((⟨E ay,yc,yd⟩::rc).map CV.d).length:Nat):Int) - 1; rw [jU]; exact h3) (by show ¬ po < ((((⟨E ay,yc,yd⟩::rc).map CV.d).length:Nat):Int); rw [jU]; exact h4) h5
theorem Yf (pb:Nat) (mo po:Int) (inp:ByteArray) (aj:Addr) (kj:Nat) (ax:Addr) (xc:Nat) (ay:Addr) (yc:Nat) (yd:CmdL) (rc:List CV) (xb:Bool) (rj:List JV) (rd wr pv:Int) (pn:Option Addr) (kn:Nat) (ln:List Int) (pp:Option Addr) (kp:Nat) (lp:List PV) (T:OwL)  (w:World) (hG:Ah T (SV.ok (⟨mo,po,inp,E aj,kj,((⟨E ax,xc,(⟨E ay,yc,yd⟩::rc),xb⟩:JV)::rj),rd,wr,pv,pn,kn,ln,pp,kp,lp⟩:SV))) (h0:Ow jP (inT ((pb,39,cS mo po inp (E aj) (((⟨E ax,xc,(⟨E ay,yc,yd⟩::rc),xb⟩:JV)::rj).length) kj rd wr pv pn ln.length kn pp lp.length kp)::T)) w w ((pb,39,cS mo po inp (E aj) (((⟨E ax,xc,(⟨E ay,yc,yd⟩::rc),xb⟩:JV)::rj).length) kj rd wr pv pn ln.length kn pp lp.length kp)::T)) (hm:SV.sm (⟨mo,po,inp,E aj,kj,((⟨E ax,xc,(⟨E ay,yc,yd⟩::rc),xb⟩:JV)::rj),rd,wr,pv,pn,kn,ln,pp,kp,lp⟩:SV)) (hvl:As (((⟨E ax,xc,(⟨E ay,yc,yd⟩::rc),xb⟩:JV)::rj).map JV.d)=true) (hE : ∀ w',Only (inT ((pb,39,cS mo po inp (E aj) (((⟨E ax,xc,(⟨E ay,yc,yd⟩::rc),xb⟩:JV)::rj).length) kj rd wr pv pn ln.length kn pp lp.length kp)::T)) w w'->ErrOk w') (hp0:lp.length=0) :
 Calls jP 90 #[pt pb] w fun e w'=>∃ (v:SV) (c:CallL) (b:Bool) (Tn:OwL),Dc (SV.d (⟨mo,po,inp,E aj,kj,((⟨E ax,xc,(⟨E ay,yc,yd⟩::rc),xb⟩:JV)::rj),rd,wr,pv,pn,kn,ln,pp,kp,lp⟩:SV))=(v.d,if b=true then E c else F)/\c.data=[]/\v.sm/\e = .returned (.tuple #[D #[Z c.call,Z c.a0,Z c.a1,Z c.a2,C F 0 0],I b])/\Ow jP (inT ((pb,39,cS mo po inp (E aj) (((⟨E ax,xc,(⟨E ay,yc,yd⟩::rc),xb⟩:JV)::rj).length) kj rd wr pv pn ln.length kn pp lp.length kp)::T)) w w' ((pb,39,v.cells)::(T++Tn))/\Ah (T++Tn) v.ok:=by
 let a:=(C (E ax) ((⟨E ay,yc,yd⟩::rc).length) xc:Value);let f:=((⟨E ax,xc,(⟨E ay,yc,yd⟩::rc),xb⟩:JV)::rj);let g:=(C F 0 0:Value);let i:=(C (E ax) (⟨E ay,yc,yd⟩::rc).length xc:Value);let j:=[Z 0,Z 0,Z 0,Z 0,g];let l:=(C (E ay) yd.words.length yc:Value);let q:=(D #[Z 0,Z 0,Z 0,Z 0,g]:Value);let t:=(D #[C (E ax) ((⟨E ay,yc,yd⟩::rc).length) xc,I xb]:Value);let u:=(C (E aj) (((⟨E ax,xc,(⟨E ay,yc,yd⟩::rc),xb⟩:JV)::rj).length) kj:Value);let a1:=(D #[l,Y yd.inp,Y yd.out,I yd.app]:Value);let a3:=(⟨7,po,inp,E aj,kj,f,rd,wr,pv,pn,kn,ln,pp,kp,lp⟩:SV);let a5:=(⟨4,po,inp,E aj,kj,f,rd,wr,pv,pn,kn,ln,pp,kp,lp⟩:SV);let a6:=(⟨3,po,inp,E aj,kj,f,rd,wr,pv,pn,kn,ln,pp,kp,lp⟩:SV);let a7:=(⟨5,po,inp,E aj,kj,f,rd,wr,pv,pn,kn,ln,pp,kp,lp⟩:SV);let a9:=#[Z 0,Z (B0 yd.words),Z 0,Z 0,g];let b0:=[Z 0,Z (B0 yd.words),Z 0,Z 0,g];let b5:=[(3,I true)];let b6:=(3,I false);let b7:=#[Z 11,Z 0,Z 0,Z 0,g];let b8:=#[Z 1,Z 0,Z 0,Z 0,g];let b9:=[Z 11,Z 0,Z 0,Z 0,g];let c2:=#[Z 3,Z 0,Z 0,Z 0,g];let c3:=[Z 1,Z 0,Z 0,Z 0,g];let c4:=[Z 3,Z 0,Z 0,Z 0,g];refine Ak (args:=[pt pb]) (m:=112) (n:=113) Tryz.func90 rfl (by kernel_rfl) (by kernel_rfl) fun J V=>?_;generalize inT ((pb,39,cS mo po inp (E aj) (((⟨E ax,xc,(⟨E ay,yc,yd⟩::rc),xb⟩:JV)::rj).length) kj rd wr pv pn ln.length kn pp lp.length kp)::T)=M at *;have O:Ow jP M w w ([(pb,39,(cS mo po inp (E aj) (f.length) kj rd wr pv pn ln.length kn pp lp.length kp))]++(T++([]))):=h0.tt
 have hm_cj:f.length<=kj:=hm.cj;obtain ⟨hxl,hxv⟩:=J2 hvl;have hxl : 1<=(⟨E ay,yc,yd⟩::rc).length/\(⟨E ay,yc,yd⟩::rc).length<=4:=hxl;have hyv:Ax yd=true:=hxv ⟨E ay,yc,yd⟩ jX;obtain ⟨hwl,hws⟩:=E9 hyv;obtain ⟨z1,hx1⟩ : ∃ x,(yd.words)[0]? = E x:=⟨_,Av _ ⟨#[]⟩ oo⟩;have hpos_ : 0 < ((⟨E ax,xc,(⟨E ay,yc,yd⟩::rc),xb⟩:JV)::rj).length:=Nat.zero_lt_succ _;have hie:=Ou (p:=E ay) (c:=yc) (r:=rc) hx1;unfold Vh at hie;refine sr 2 (Mn j 43 2 V O fun J w1 b1 V O=>Ka 1 [b6] V fun J V=>Ab (Aa (sr 8 (Kb 6 [(11,t)] V [u,t] (cc (O.l1 1 3 36 (u)) (cc (oo:(0:Int)<=0/\0 < ((((⟨E ax,xc,(⟨E ay,yc,yd⟩::rc),xb⟩:JV)::rj).length:Nat):Int)) (cc ((((Ah.at (A:=[_,_]) hG O.m).j.1).ldn Bg (rfl:((⟨E ax,xc,(⟨E ay,yc,yd⟩::rc),xb⟩:JV)::rj)[0]? = E (⟨E ax,xc,(⟨E ay,yc,yd⟩::rc),xb⟩:JV))):Ld jP w1 (aj.add 0) 103 (t)) c0))) fun J V=>Mn [g,I false] 103 4 V O fun J w2 b2 V O=>let h:=([(b2,103,[a,I xb]),(b1,43,[Z 0,Z 0,Z 0,Z 0,g]),(pb,39,(cS mo po inp (E aj) (f.length) kj rd wr pv pn ln.length kn pp lp.length kp))]++(T++([])));let a8:=(b2,103,[a,I xb]);Ms 0 [a,I xb] 0 V O fun w3 O=>Ab (Aa (Sb [(5,Z (((⟨E ay,yc,yd⟩::rc).length:Nat):Int))] V [a] (cc (O.l1 0 0 101 (a)) c0) fun J V=>wp_seq (wp_block (sJ (fun J W=>Holds 113 [] J [(0,pt pb),(2,pt b1),b6,(4,pt b2),(5,Z (((⟨E ay,yc,yd⟩::rc).length:Nat):Int)),(26,I (Bv ((⟨E ay,yc,yd⟩::rc).map CV.d) && (po == 0)))]/\Ow jP M w W h/\True) ?_ ?_))))))))
 · rintro J w4 ⟨V,O,-⟩;rcases jK (Bv ((⟨E ay,yc,yd⟩::rc).map CV.d) && (po == 0)) with h1 | h1
   · rw [h1] at V;have hye:=M8 h1
     exact cT V (sr 4 (Ka 3 [(48,pt pb)] V fun J V=>Ms 0 [Z 7] 2 V O fun w5 O=>Ab (Aa (sr 9 (Kb 4 [(52,a1)] V [a,a1] (cc (O.l1 0 0 101 (a)) (cc (oo:(0:Int)<=0/\0 < (((⟨E ay,yc,yd⟩::rc).length:Nat):Int)) (cc ((((show Vw fC _ i (⟨E ay,yc,yd⟩::rc)/\∀ y∈(⟨E ay,yc,yd⟩::rc),VC _ y from (Ah.at (A:=[_,_,_]) hG O.m).j.2 _ jX).1).ldn Bm (rfl:((⟨E ay,yc,yd⟩::rc):List CV)[0]? = E ⟨E ay,yc,yd⟩)):Ld jP w5 (ax.add 0) 104 (a1)) c0))) fun J V=>Mk 53 V O Tryz.func106 (aO (E ay) yc yd _ (show Vw fT _ (l) yd.words from (show Vw fC _ i (⟨E ay,yc,yd⟩::rc)/\∀ y∈(⟨E ay,yc,yd⟩::rc),VC _ y from (Ah.at (A:=[_,_,_]) hG O.m).j.2 _ jX).2 _ jX) (hE _ O.only) (fun z hz=>⟨(hws z hz).1,by have:=(hws z hz).2; omega⟩)) fun J w6 V O=>Mv [Z (B0 yd.words)] 3 1 54 V O fun J w7 b3 V O=>Mk 55 V O Tryz.func28 (C5 0 (B0 yd.words) ⟨b3,0,F⟩ 1 _ ((O.b 0).vw (off:=0) (xs:=[B0 yd.words]) kR)) fun J w8 V O=>Ms 0 b0 2 V O fun w9 O=>Ka 1 b5 V fun J V=>Ab (Aa (wp_ret (Ad (Ac (cR (cs:=[E (⟨b1,0,F⟩,43),F]) (us:=[D a9,I true]) V [D a9] ⟨(O.ln 2 0 43 b0),trivial⟩ (⟨a3,A3 0 (B0 yd.words) 0,true,([]),sj_a hye.1 hye.2,rfl,⟨hm.i,hm.j,hm.k,hm.p,hm.ck,hm.cj,hm.cp⟩,rfl,(((Ow.subP (A:=[_,_,_,_]) O (.cons _ (.cons _ (.cons _ (.cons_cons _ .slnil)))))).tt),((ok3 (T:=T++([])) (x:=a3) ((hG.mono fun _ h_=>h_.j).l) ((hG.mono fun _ h_=>h_.k).l) ((hG.mono fun _ h_=>h_.p).l)).tt)⟩)))))))))))
   rw [h1] at V;have hne:=Lr h1;refine cF V (sJ (fun J W=>Holds 113 [] J [(0,pt pb),(2,pt b1),b6,(4,pt b2),(5,Z (((⟨E ay,yc,yd⟩::rc).length:Nat):Int)),(56,I ((po == 0) && Bw ((⟨E ay,yc,yd⟩::rc).map CV.d)))]/\Ow jP M w W h/\True) ?_ ?_)
   · rintro J w10 ⟨V,O,-⟩;rcases jK ((po == 0) && Bw ((⟨E ay,yc,yd⟩::rc).map CV.d)) with h2 | h2
     · rw [h2] at V;have hyl:=M7 h2;refine cT V (sr 2 (Ka 1 [(67,pt pb)] V fun J V=>Ae (mC (d:=(E 68)) V Tryz.func109 ((Nk pb mo po inp aj kj (⟨E ax,xc,(⟨E ay,yc,yd⟩::rc),xb⟩:JV) rj rd wr pv pn kn ln pp kp lp _ (Ow.self (A:=[_,_]) (O.tt)) hm_cj).mono ?_))));rintro en w11 ⟨rfl,p1,k1,hW,hcap1,hvt1⟩;let s:=cS mo po inp p1 rj.length k1 rd wr pv pn ln.length kn pp lp.length kp;refine ⟨_,rfl,?_⟩;clear V J; intro J V;replace O:=Ow.pass (A:=[_,_]) O hW; clear hW;refine Ab (Aa (rr 4 (Ka 1 [(69,pt pb)] V fun J V=>Ae (mC (d:=(E 70)) V Tryz.func96 ((Fk _).mono ?_)))));rintro en w12 ⟨p2,c1,T1,rfl,hT1,hW⟩;let k:=([Z 10,Z 2,Z 0,Z 0,C p2 (([63,10]:List Int).length) c1]:List Value);let o:=([⟨p2,c1,⟨10,2,0,0,[63,10]⟩⟩]:List PV);refine ⟨_,rfl,?_⟩;clear V J; intro J V;replace O:=Ow.join O hW; clear hW;replace O:Ow jP M w _ ([a8,(b1,43,j),(pb,39,(s))]++(T++(T1++([])))):=O.tt;refine Mv k 43 1 71 V O fun J w13 b4 V O=>Ae (mC (d:=(E 72)) V Tryz.func95 ((J9 pb mo po inp p1 k1 rj rd wr pv pn kn ln pp kp lp ⟨p2,c1,⟨10,2,0,0,[63,10]⟩⟩ ⟨b4,0,F⟩ 1 _ (Ow.self (A:=[_,_,_]) (O.tt)) (Uz (A:=[_,_,_]) (Q:=(fun w_=>Vw fP w_ (C pp lp.length kp) lp)) ((hG.mono fun _ h_=>h_.p.1).l) (O.tt:Ow jP M w _ (([(b4,43,k),a8,(b1,43,j)]++[(pb,39,s)])++((T++(T1++([])))++[])))) (fun w_ k_=>((Ra (A:=[_,_,_]) (O.tt:Ow jP M w _ (([(b4,43,k),a8,(b1,43,j)]++[(pb,39,s)])++((T++(T1++([])))++[]))) k_).b 0).vw (off:=0) (xs:=o) kR) oo).mono ?_))
       rintro en w14 ⟨rfl,p3,k2,T2,hT2,hW⟩;let a0:=cS mo po inp p1 rj.length k1 rd wr pv pn ln.length kn p3 ((lp++o).length) k2;let a4:=(⟨mo,po,inp,p1,k1,rj,rd,wr,pv,pn,kn,ln,p3,k2,lp++o⟩:SV);refine ⟨_,rfl,?_⟩;clear V J; intro J V;replace O:=Ow.pass2 (A:=[_,_,_]) O hW; clear hW;replace O:Ow jP M w w14 ([(b4,43,k),a8,(b1,43,j),(pb,39,(a0))]++(T++(T1++(T2++([]))))):=O.tt;refine Ab (Af (Aa (sr 3 (Ka 1 [(112,q)] V fun J V=>Ms 0 j 2 V O fun w15 O=>Ka 1 [] V fun J V=>Ab (Aa (wp_ret (cR (cs:=[E (⟨b1,0,F⟩,43),F]) (us:=[q,I false]) V [q] ⟨(O.ln 2 0 43 j),trivial⟩ ?_)))))));have heq_:SV.d (⟨mo,po,inp,p1,k1,rj,rd,wr,pv,pn,kn,ln,p3,k2,lp++([⟨p2,c1,⟨10,2,0,0,[63,10]⟩⟩]:List PV)⟩:SV) = {SV.d (⟨mo,po,inp,E aj,kj,((⟨E ax,xc,(⟨E ay,yc,yd⟩::rc),xb⟩:JV)::rj),rd,wr,pv,pn,kn,ln,pp,kp,lp⟩:SV) with jobs:=rj.map JV.d,plan:=(SV.d (⟨mo,po,inp,E aj,kj,((⟨E ax,xc,(⟨E ay,yc,yd⟩::rc),xb⟩:JV)::rj),rd,wr,pv,pn,kn,ln,pp,kp,lp⟩:SV)).plan++[Fa]}:=by unfold SV.d; simp only [List.map_append]; rfl
       exact ⟨a4,A3 0 0 0,false,(T1++(T2++([]))),(gU hne hyl).trans (congrArg (fun z=>(z,F)) heq_.symm),rfl,⟨hm.i,N9 hm.j,hm.k,(by show (lp++[_]).length<=_; rw [jR,hp0]; show 0+1<=_; omega),hm.ck,hcap1,hT2.le⟩,rfl,(show Ow jP M w _ ((pb,39,a0)::(T++(T1++(T2++([]))))) from ((Ow.subP (A:=[_,_,_,_]) O (.cons _ (.cons _ (.cons _ (.cons_cons _ .slnil)))))).tt),((ok3 (T:=T++(T1++(T2++([])))) (x:=a4) ((hG.mono fun w_ h_=>hvt1 w_ h_.j).l) ((hG.mono fun _ h_=>h_.k).l) (M3 (T:=T++(T1++(T2++([])))) (hT2.holds.l.r.r) ((hG.mono fun _ h_=>h_.p.2).l) (Cj (x:=⟨p2,c1,⟨10,2,0,0,[63,10]⟩⟩) (hT1.holds.l.r) Bx))).tt)⟩
     rw [h2] at V;have hnl:=Lq h2;refine cF V (Sb [(73,I (po == ((((⟨E ay,yc,yd⟩::rc).length:Nat):Int) - 1)))] V [Z po,I true] (cc (O.l1 2 1 3 (Z po)) (cc ((An oo oo):inK .i64 ((((⟨E ay,yc,yd⟩::rc).length:Nat):Int) - 1)) c0)) fun J V=>?_);rcases bC po ((((⟨E ay,yc,yd⟩::rc).length:Nat):Int) - 1) with ⟨h3,h3p⟩|⟨h3,h3p⟩
     · rw [h3] at V;exact cT V (sr 4 (Ka 3 [(83,pt pb)] V fun J V=>Ms 0 [Z 4] 2 V O fun w16 O=>Ab (Aa (sr 3 (Mk 84 V O Tryz.func28 (P4 1 _) fun J w17 V O=>Ms 0 c3 1 V O fun w18 O=>Ka 1 b5 V fun J V=>Ab (Aa (wp_ret (Ad (Ac (cR (cs:=[E (⟨b1,0,F⟩,43),F]) (us:=[D b8,I true]) V [D b8] ⟨(O.ln 1 0 43 c3),trivial⟩ (⟨a5,A3 1 0 0,true,([]),sj_c hne hnl oo,rfl,⟨hm.i,hm.j,hm.k,hm.p,hm.ck,hm.cj,hm.cp⟩,rfl,(show Ow jP M w _ ((pb,39,cS 4 po inp (E aj) (f.length) kj rd wr pv pn ln.length kn pp lp.length kp)::(T++([]))) from ((Ow.subP (A:=[_,_,_]) O (.cons _ (.cons _ (.cons_cons _ .slnil))))).tt),((ok3 (T:=T++([])) (x:=a5) ((hG.mono fun _ h_=>h_.j).l) ((hG.mono fun _ h_=>h_.k).l) ((hG.mono fun _ h_=>h_.p).l)).tt)⟩)))))))))))
     rw [h3] at V;refine cF V (Sb [(85,I (decide (po < (((⟨E ay,yc,yd⟩::rc).length:Nat):Int))))] V [Z po] (cc (O.l1 2 1 3 (Z po)) c0) fun J V=>?_);rcases dC (po < (((⟨E ay,yc,yd⟩::rc).length:Nat):Int)) with ⟨h4,h4p⟩|⟨h4,h4p⟩
     · rw [h4] at V;exact cT V (sr 4 (Ka 3 [(94,pt pb)] V fun J V=>Ms 0 [Z 3] 2 V O fun w19 O=>Ab (Aa (sr 3 (Mk 95 V O Tryz.func28 (P4 11 _) fun J w20 V O=>Ms 0 b9 1 V O fun w21 O=>Ka 1 b5 V fun J V=>Ab (Aa (wp_ret (Ad (Ac (cR (cs:=[E (⟨b1,0,F⟩,43),F]) (us:=[D b7,I true]) V [D b7] ⟨(O.ln 1 0 43 b9),trivial⟩ (⟨a6,A3 11 0 0,true,([]),sj_d hne hnl oo oo,rfl,⟨hm.i,hm.j,hm.k,hm.p,hm.ck,hm.cj,hm.cp⟩,rfl,(((Ow.subP (A:=[_,_,_]) O (.cons _ (.cons _ (.cons_cons _ .slnil))))).tt),((ok3 (T:=T++([])) (x:=a6) ((hG.mono fun _ h_=>h_.j).l) ((hG.mono fun _ h_=>h_.k).l) ((hG.mono fun _ h_=>h_.p).l)).tt)⟩)))))))))))
     rw [h4] at V;refine cF V (sJ (fun J W=>Holds 113 [] J [(0,pt pb),(2,pt b1),b6,(96,I ((!xb) && (decide (((ln.length:Nat):Int) > 0))))]/\Ow jP M w W h/\True) ?_ ?_)
     · rintro J w22 ⟨V,O,-⟩;rcases jK ((!xb) && (decide (((ln.length:Nat):Int) > 0))) with h5 | h5
       · rw [h5] at V;have hyw:=fS h5;exact cT V (sr 4 (Ka 3 [(110,pt pb)] V fun J V=>Ms 0 [Z 5] 2 V O fun w23 O=>Ab (Aa (sr 3 (Mk 111 V O Tryz.func28 (P4 3 _) fun J w24 V O=>Ms 0 c4 1 V O fun w25 O=>Ka 1 b5 V fun J V=>Ab (Aa (wp_ret (Ad (Ac (cR (cs:=[E (⟨b1,0,F⟩,43),F]) (us:=[D c2,I true]) V [D c2] ⟨(O.ln 1 0 43 c4),trivial⟩ (⟨a7,A3 3 0 0,true,([]),sj_e hne hnl oo oo hyw,rfl,⟨hm.i,hm.j,hm.k,hm.p,hm.ck,hm.cj,hm.cp⟩,rfl,(show Ow jP M w _ ((pb,39,cS 5 po inp (E aj) (f.length) kj rd wr pv pn ln.length kn pp lp.length kp)::(T++([]))) from ((Ow.subP (A:=[_,_,_]) O (.cons _ (.cons _ (.cons_cons _ .slnil))))).tt),((ok3 (T:=T++([])) (x:=a7) ((hG.mono fun _ h_=>h_.j).l) ((hG.mono fun _ h_=>h_.k).l) ((hG.mono fun _ h_=>h_.p).l)).tt)⟩)))))))))))
       rw [h5] at V;have hnw:=Y8 h5;refine cF V (sr 2 (Ka 1 [(15,pt pb)] V fun J V=>Ae (mC (d:=(E 16)) V Tryz.func109 ((Nk pb mo po inp aj kj (⟨E ax,xc,(⟨E ay,yc,yd⟩::rc),xb⟩:JV) rj rd wr pv pn kn ln pp kp lp _ (Ow.self (A:=[_,_]) (O.tt)) hm_cj).mono ?_))));rintro en w26 ⟨rfl,p4,k3,hW,hcap2,hvt2⟩;let a2:=(⟨mo,0,inp,p4,k3,rj,rd,wr,(-1),F,0,([]:List Int),pp,kp,lp⟩:SV);refine ⟨_,rfl,?_⟩;clear V J; intro J V;replace O:=Ow.pass (A:=[_,_]) O hW; clear hW;exact Ab (Aa (rr 12 (Ka 5 [(18,pt pb),(19,pt pb),(21,pf pb 7)] V fun J V=>Ms 7 [g] 2 V O fun w27 O=>Ka 2 [(23,pf pb 1)] V fun J V=>Ms 1 [Z 0] 2 V O fun w28 O=>Ka 2 [(25,pf pb 6)] V fun J V=>Ms 6 [Z (-1)] 2 V O fun w29 O=>Ab (Af (Aa (sr 3 (Ka 1 [(112,q)] V fun J V=>Ms 0 j 1 V O fun w30 O=>Ka 1 [] V fun J V=>Ab (Aa (wp_ret (cR (cs:=[E (⟨b1,0,F⟩,43),F]) (us:=[q,I false]) V [q] ⟨(O.ln 1 0 43 j),trivial⟩ (⟨a2,A3 0 0 0,false,([]),gT hne hnl oo oo hnw,rfl,⟨hm.i,N9 hm.j,Nat.zero_le _,hm.p,Nat.zero_le _,hcap2,hm.cp⟩,rfl,(((Ow.subP (A:=[_,_,_]) O (.cons _ (.cons _ (.cons_cons _ .slnil))))).tt),((ok3 (T:=T++([])) (x:=a2) ((hG.mono fun w_ h_=>hvt2 w_ h_.j).l) (fun _ _ _ _=> .inl ⟨rfl,rfl⟩) ((hG.mono fun _ h_=>h_.p).l)).tt)⟩)))))))))))
     refine rr 12 (Kb 4 [(99,I (!xb)),(100,I (!xb))] V [I xb] (cc (O.l1 0 1 4 (I xb)) c0) fun J V=>?_);rcases jK (xb) with h6 | h6
     · rw [h6] at V;exact Ka 8 [(96,I false)] V fun J V=>Ab (Aa (⟨(V.sub (e':=[(0,pt pb),(2,pt b1),(3,I false),(96,I false)]) [0,2,3,96] kR).cast (by (rw [show ((!xb) && (decide (((ln.length:Nat):Int) > 0)))=(false) from by (simp_all; done)]) <;> kernel_rfl),O,trivial⟩))
     rw [h6] at V;exact Kb 8 [(96,I (decide (((ln.length:Nat):Int) > 0)))] V [C pn ln.length kn] (cc (O.l1 2 7 33 (C pn ln.length kn)) c0) fun J V=>Ab (Aa (⟨(V.sub (e':=[(0,pt pb),(2,pt b1),(3,I false),(96,I (decide (((ln.length:Nat):Int) > 0)))]) [0,2,3,96] kR).cast (by (rw [show ((!xb) && (decide (((ln.length:Nat):Int) > 0)))=(decide (((ln.length:Nat):Int) > 0)) from by (simp_all; done)]) <;> kernel_rfl),O,trivial⟩))
   refine rr 11 (Kb 6 [(61,I (po == 0)),(62,I (po == 0))] V [Z po] (cc (O.l1 2 1 3 (Z po)) c0) fun J V=>?_);rcases bC po 0 with ⟨h7,h7p⟩|⟨h7,h7p⟩
   · rw [h7] at V;exact Kb 2 [(62,I true),(64,a)] V [a] (cc (O.l1 0 0 101 (a)) c0) fun J V=>Mk 65 V O Tryz.func107 (eG (E ax) xc (⟨E ay,yc,yd⟩::rc) _ (show Vw fC _ i (⟨E ay,yc,yd⟩::rc)/\∀ y∈(⟨E ay,yc,yd⟩::rc),VC _ y from (Ah.at (A:=[_,_,_]) hG O.m).j.2 _ jX).1 oo) fun J w31 V O=>Ka 2 [(56,I (Bw ((⟨E ay,yc,yd⟩::rc).map CV.d)))] V fun J V=>Ab (Aa (⟨(V.sub (e':=[(0,pt pb),(2,pt b1),(3,I false),(4,pt b2),(5,Z (((⟨E ay,yc,yd⟩::rc).length:Nat):Int)),(56,I (Bw ((⟨E ay,yc,yd⟩::rc).map CV.d)))]) [0,2,3,4,5,56] kR).cast (by (rw [show ((po == 0) && Bw ((⟨E ay,yc,yd⟩::rc).map CV.d))=(Bw ((⟨E ay,yc,yd⟩::rc).map CV.d)) from by (simp_all; done)]) <;> kernel_rfl),O.tt,trivial⟩))
   rw [h7] at V;exact Ka 5 [(56,I false)] V fun J V=>Ab (Aa (⟨(V.sub (e':=[(0,pt pb),(2,pt b1),(3,I false),(4,pt b2),(5,Z (((⟨E ay,yc,yd⟩::rc).length:Nat):Int)),(56,I false)]) [0,2,3,4,5,56] kR).cast (by (rw [show ((po == 0) && Bw ((⟨E ay,yc,yd⟩::rc).map CV.d))=(false) from by (simp_all; done)]) <;> kernel_rfl),O.tt,trivial⟩))
 refine rr 20 (Ka 3 [(28,I ((((⟨E ay,yc,yd⟩::rc).length:Nat):Int) == 1)),(29,I ((((⟨E ay,yc,yd⟩::rc).length:Nat):Int) == 1))] V fun J V=>?_);rcases bC (((⟨E ay,yc,yd⟩::rc).length:Nat):Int) 1 with ⟨h8,h8p⟩|⟨h8,h8p⟩
 · rw [h8] at V;refine Kb 10 [(37,I (z1.toList == (⟨#[101,120,105,116]⟩:ByteArray).toList)),(38,I (z1.toList == (⟨#[101,120,105,116]⟩:ByteArray).toList)),(39,I (z1.toList == (⟨#[101,120,105,116]⟩:ByteArray).toList))] V [a,l,Y z1] (cc (O.l1 0 0 101 (a)) (cc (⟨by omega,by omega⟩:(0:Int)<=0/\0 < (((⟨E ay,yc,yd⟩::rc).length:Nat):Int)) (cc ((((show Vw fC _ i (⟨E ay,yc,yd⟩::rc)/\∀ y∈(⟨E ay,yc,yd⟩::rc),VC _ y from (Ah.at (A:=[_,_,_]) hG O.m).j.2 _ jX).1).ld0 Bm (rfl:((⟨E ay,yc,yd⟩::rc):List CV)[0]? = E ⟨E ay,yc,yd⟩) (by rfl)):Ld jP w3 (ax.add 0) 30 (l)) (cc (⟨by omega,by omega⟩:(0:Int)<=0/\0 < ((yd.words.length:Nat):Int)) (cc ((((show Vw fT _ (l) yd.words from (show Vw fC _ i (⟨E ay,yc,yd⟩::rc)/\∀ y∈(⟨E ay,yc,yd⟩::rc),VC _ y from (Ah.at (A:=[_,_,_]) hG O.m).j.2 _ jX).2 _ jX)).ldT hx1):Ld jP w3 (ay.add 0) 9 (Y z1)) c0))))) fun J V=>?_;rcases jK (z1.toList == (⟨#[101,120,105,116]⟩:ByteArray).toList) with h9 | h9
   · rw [h9] at V;exact Kb 7 [(26,I (po == 0))] V [Z po] (cc (O.l1 2 1 3 (Z po)) c0) fun J V=>Ab (Aa (⟨(V.sub (e':=[(0,pt pb),(2,pt b1),(3,I false),(4,pt b2),(5,Z (((⟨E ay,yc,yd⟩::rc).length:Nat):Int)),(26,I (po == 0))]) [0,2,3,4,5,26] kR).cast (by (rw [show (Bv ((⟨E ay,yc,yd⟩::rc).map CV.d) && (po == 0))=(po == 0) from by (rw [hie,jN (show (⟨E ay,yc,yd⟩::rc).length=1 by omega),Bool.true_and]; simp_all; done)]) <;> kernel_rfl),O.tt,trivial⟩))
   rw [h9] at V;exact Ka 7 [(26,I false)] V fun J V=>Ab (Aa (⟨(V.sub (e':=[(0,pt pb),(2,pt b1),(3,I false),(4,pt b2),(5,Z (((⟨E ay,yc,yd⟩::rc).length:Nat):Int)),(26,I false)]) [0,2,3,4,5,26] kR).cast (by (rw [show (Bv ((⟨E ay,yc,yd⟩::rc).map CV.d) && (po == 0))=(false) from by (simp_all; done)]) <;> kernel_rfl),O.tt,trivial⟩))
 rw [h8] at V;exact Ka 17 [(26,I false)] V fun J V=>Ab (Aa (⟨(V.sub (e':=[(0,pt pb),(2,pt b1),(3,I false),(4,pt b2),(5,Z (((⟨E ay,yc,yd⟩::rc).length:Nat):Int)),(26,I false)]) [0,2,3,4,5,26] kR).cast (by (rw [show (Bv ((⟨E ay,yc,yd⟩::rc).map CV.d) && (po == 0))=(false) from by (rw [hie,jO (show ¬ (⟨E ay,yc,yd⟩::rc).length=1 by omega)]; rfl)]) <;> kernel_rfl),O.tt,trivial⟩))
theorem Kj {s:ByteArray} (h:Az s=true) : 1<=s.size/\s.size<=60:=by
 unfold Az at h
 rw [kK] at h
 exact jL h.2
theorem D0 {s:ByteArray} (h:Cm s=true):s.size<=60:=by
 unfold Cm at h
 rw [Bool.or_eq_true] at h
 rcases h with h | h
 · have:=jL h; omega
 exact (Kj h).2
theorem C8 {d:CmdL} (h:Ax d=true):(∀ u∈d.words,Az u=true)/\(1<=d.words.length/\d.words.length<=4)/\Cm d.inp=true/\Cm d.out=true/\(d.app=true->d.out.size≠0):=by
 unfold Ax at h
 simp only [kK,Bool.or_eq_true,Bool.not_eq_true',decide_eq_true_eq,decide_eq_false_iff_not,List.all_eq_true] at h
 refine ⟨h.1,h.2.1,h.2.2.1,h.2.2.2.1,fun ha=>?_⟩
 rcases h.2.2.2.2 with q | q
 · rw [ha] at q; cases q
 exact q
theorem iM {α β:Type} {f : α->β} {l:List α} {i:Nat} {x : α} (h:l[i]? = E x):(l.map f)[i]? = E (f x):=by rw [List.getElem?_map,h]; rfl
theorem O1 {l:List JV} (h:As (l.map JV.d)=true):l.length<=8/\∀ x∈l,(1<=x.cmds.length/\x.cmds.length<=4)/\∀ y∈x.cmds,Ax y.d=true:=by
 unfold As at h
 rw [kK,jU,List.all_map,List.all_eq_true] at h
 refine ⟨jL h.2,fun x hx=>?_⟩
 have h1:=h.1 x hx
 simp only [Function.comp,B3,JV.d,jU,List.all_map,kK,decide_eq_true_eq,List.all_eq_true] at h1
 exact h1
open Go Go.RowKit Go.Proofs.Sx
section
variable {s:ByteArray}
theorem Md (s:ByteArray) : ∀ (k:Nat) (c:CmdL) (n:Nat),D7 true s k c n=D7 false s k c n\/∃ x m,D7 false s k c n = .error (m,3)/\D7 true s k c n = .ok (x,m)/\(kd s m=2\/kd s m=3\/kd s m=4)
 | 0,c,n=> .inl rfl
 | k+1,c,n=>by
  by_cases h1:kd s n=1
  · by_cases hl:c.words.length=4
    · left; rw [Ga h1 hl,Ga h1 hl]
    · cases hw:Bs s n with
      | error e=>left; rw [Dt h1 hl hw,Dt h1 hl hw]
      | ok q=>obtain ⟨u,m⟩:=q; rw [D3 h1 hl hw,D3 h1 hl hw]; exact Md s k _ m
  · by_cases h2:kd s n=2\/kd s n=3\/kd s n=4
    · by_cases hd:(kd s n=2/\c.inp.size≠0)\/(kd s n≠2/\c.out.size≠0)
      · have hr:A9 s c n = .error (n,3):=by unfold A9; rw [if_pos hd]
        have hh:D7 false s (k+1) c n = .error (n,3):=Ei h2 Pw hr
        by_cases hl:c.words.length=0
        · left; rw [hh]; exact D4 h1 (fun q=>q.2 ⟨rfl,hd⟩) hl
        · right; exact ⟨c,n,hh,Fe h1 (fun q=>q.2 ⟨rfl,hd⟩) hl,h2⟩
      · have hs : ¬ (true=true/\((kd s n=2/\c.inp.size≠0)\/(kd s n≠2/\c.out.size≠0))):=fun q=>hd q.2
        cases hr:A9 s c n with
        | error e=>left; rw [Ei h2 hs hr,Ei h2 Pw hr]
        | ok q=>obtain ⟨u,m⟩:=q; rw [F9 h2 hs hr,F9 h2 Pw hr]; exact Md s k u m
    · by_cases hl:c.words.length=0
      · left; rw [D4 h1 (fun q=>h2 q.1) hl,D4 h1 (fun q=>h2 q.1) hl]
      · left; rw [Fe h1 (fun q=>h2 q.1) hl,Fe h1 (fun q=>h2 q.1) hl]
theorem U8 (s:ByteArray) : ∀ (k:Nat) (l:List CmdL) (n:Nat),Fx true s k l n=Fx false s k l n\/∃ x m,Fx false s k l n = .error (m,3)/\Fx true s k l n = .ok (x,m)/\(kd s m=2\/kd s m=3\/kd s m=4)
 | 0,l,n=> .inl rfl
 | k+1,l,n=>by
  by_cases h1:kd s n=7
  · by_cases hl:l.length=4/\Ce (kd s (nx s n))=true
    · left; rw [F3 h1 hl.1 hl.2,F3 h1 hl.1 hl.2]
    · rcases Md s (s.size+1) H8 (nx s n) with h | ⟨x,m,h2,h3,h4⟩
      · have h:D6 true s (nx s n)=D6 false s (nx s n):=h
        cases hc:D6 false s (nx s n) with
        | error e=>left; rw [Cu h1 hl (h.trans hc),Cu h1 hl hc]
        | ok q=>obtain ⟨c,m⟩:=q; rw [Cq h1 hl (h.trans hc),Cq h1 hl hc]; exact U8 s k _ m
      · right
        refine ⟨l++[x],m,Cu h1 hl h2,?_,h4⟩
        rw [Cq h1 hl h3]
        cases k with
        | zero=>rfl
        | succ k=>exact Et (by omega)
  · left; rw [Et h1,Et h1]
theorem Zq (s:ByteArray) (n:Nat):Dd true s n=Dd false s n\/∃ x m,Dd false s n = .error (m,3)/\Dd true s n = .ok (x,m)/\(kd s m=2\/kd s m=3\/kd s m=4):=by
 rcases Md s (s.size+1) H8 n with h | ⟨x,m,h2,h3,h4⟩
 · have h:D6 true s n=D6 false s n:=h
   unfold Dd
   rw [h]
   cases D6 false s n with
   | error e=>exact .inl rfl
   | ok q=>exact U8 s _ _ _
 · right
   refine ⟨[x],m,by unfold Dd; rw [show D6 false s n=_ from h2],?_,h4⟩
   unfold Dd; rw [show D6 true s n=_ from h3]
   exact Et (by omega)
theorem Rf (s:ByteArray) : ∀ (k:Nat) (l:List JobL) (n:Nat),Db true s k l n=Db false s k l n
 | 0,l,n=>rfl
 | k+1,l,n=>by
  by_cases hn:n < s.size
  · by_cases hl:l.length=8/\Ce (kd s n)=true
    · rw [F2 hn hl.1 hl.2,F2 hn hl.1 hl.2]
    · rcases Zq s n with h | ⟨x,m,h2,h3,h4⟩
      · cases hj:Dd false s n with
        | error e=>rw [Ds hn hl (h.trans hj),Ds hn hl hj]
        | ok q =>
         obtain ⟨cs,m⟩:=q
         by_cases k0:kd s m=0
         · rw [Ee hn hl (h.trans hj) k0,Ee hn hl hj k0]
         · by_cases k5:kd s m=5\/kd s m=6
           · rw [C0 hn hl (h.trans hj) k5,C0 hn hl hj k5]; exact Rf s k _ _
           · rw [Ef hn hl (h.trans hj) (by omega),Ef hn hl hj (by omega)]
      · rw [Ds hn hl h2,Ef hn hl h3 (by omega)]
  · rw [C1 hn,C1 hn]
theorem Nf (s:ByteArray):Cc true s=Cc false s:=Rf s _ _ _
theorem Uv {s:ByteArray} : ∀ k,(∀ i,i < k->A2 (sb s i)=true)->okW s k=true
 | 0,_=>rfl
 | k+1,h=>by simp only [okW]; rw [Uv k (fun i hi=>h i (by omega)),h k (by omega)]; rfl
theorem gJ {n:Nat} (hk:kd s n=1) (hl:tl s n<=60):Az (tk s n)=true:=by
 have h1:=Dx s n
 have h2:=Ek s n
 have h3:okW (tk s n) (tk s n).size=true:=Uv _ fun i hi=>by
  rw [Lk (by omega)]
  have:=Yk A2 s (s.size - n) n i (by have:Kz A2 s (s.size - n) n=wl s n:=rfl; omega)
  exact this.2
 rw [Gs h3]
 exact jN (by omega)
theorem N5 {n m:Nat} {v:ByteArray} (h:Bs s n = .ok (v,m)):Az v=true:=by
 unfold Bs at h
 split at h
 · cases h
 · split at h
   · cases h
   · cases h; exact gJ (by omega) (by omega)
def Qz (d:CmdL):Prop:=(∀ u∈d.words,Az u=true)/\d.words.length<=4/\Cm d.inp=true/\Cm d.out=true/\(d.app=true->d.out.size≠0)
theorem Su {d:CmdL} (h:Qz d) (h1:d.words.length≠0):Ax d=true :=
 Jh ⟨by omega,h.2.1⟩ h.2.2.1 h.2.2.2.1 h.2.2.2.2 (List.all_eq_true.2 h.1)
theorem Ut {v:ByteArray} (h:Az v=true):Cm v=true:=by unfold Cm; rw [h,Bool.or_true]
theorem So {c v:CmdL} {n m:Nat} (hp:Qz c) (h:A9 s c n = .ok (v,m)):Qz v:=by
 unfold A9 at h
 split at h
 · cases h
 · cases hw:Bs s (nx s n) with
   | error e=>rw [hw] at h; cases h
   | ok q =>
    obtain ⟨u,k⟩:=q
    rw [hw] at h
    have hu:=N5 hw
    have hz:=(Kj hu).1
    cases h
    split
    · exact ⟨hp.1,hp.2.1,Ut hu,hp.2.2.2.1,hp.2.2.2.2⟩
    · exact ⟨hp.1,hp.2.1,hp.2.2.1,Ut hu,fun _=>by show u.size≠0; omega⟩
theorem Jt : ∀ (k:Nat) (c:CmdL) (n:Nat) (v:CmdL) (m:Nat),Qz c->n<=s.size->s.size - n < k->D7 false s k c n = .ok (v,m)->Ax v=true
 | 0,_,n,_,_,_,_,hk,_=>by omega
 | k+1,c,n,v,m,hp,hn,hk,h=>by
  by_cases h1:kd s n=1
  · by_cases hl:c.words.length=4
    · rw [Ga h1 hl] at h; cases h
    · cases hw:Bs s n with
      | error e=>rw [Dt h1 hl hw] at h; cases h
      | ok q =>
       obtain ⟨u,m'⟩:=q
       rw [D3 h1 hl hw] at h
       obtain ⟨_,_,q3,q4,_⟩:=B6 hn hw
       refine Jt k ⟨c.words++[u],c.inp,c.out,c.app⟩ m' v m ⟨fun z hz=>?_,?_,hp.2.2⟩ q3 (by omega) h
       · rcases List.mem_append.1 hz with hz | hz
         · exact hp.1 z hz
         · rw [jZ] at hz; subst hz; exact N5 hw
       · have:=hp.2.1; simp only [jR,jS,jT]; omega
  · by_cases h2:kd s n=2\/kd s n=3\/kd s n=4
    · cases hr:A9 s c n with
      | error e=>rw [Ei h2 Pw hr] at h; cases h
      | ok q =>
       obtain ⟨u,m'⟩:=q
       rw [F9 h2 Pw hr] at h
       obtain ⟨_,q3,q4⟩:=K0 hn hr
       exact Jt k _ _ v m (So hp hr) q3 (by omega) h
    · by_cases hl:c.words.length=0
      · rw [D4 h1 (fun q=>h2 q.1) hl] at h; cases h
      · rw [Fe h1 (fun q=>h2 q.1) hl] at h
        cases h
        exact Su hp hl
theorem part0:Qz H8:=⟨fun u hu=>absurd hu jY,by decide,rfl,rfl,fun h=>by cases h⟩
theorem Nr {n m:Nat} {v:CmdL} (hn:n<=s.size) (h:D6 false s n = .ok (v,m)):Ax v=true:=Jt _ _ n v m part0 hn (by omega) h
theorem Ry {soft:Bool} {n:Nat} {q:CmdL×Nat} (h:D6 soft s n = .ok q):Ce (kd s n)=true:=by
 refine jN ?_
 rcases Classical.em (1<=kd s n/\kd s n<=4) with h1 | h1
 · exact h1
 · have:D6 soft s n = .error (n,3):=D4 (by omega) (fun q=>by omega) rfl
   rw [this] at h; cases h
theorem Gq : ∀ (k:Nat) (l:List CmdL) (n:Nat) (v:List CmdL) (m:Nat),(∀ c∈l,Ax c=true)->1<=l.length->l.length<=4->n<=s.size->Fx false s k l n = .ok (v,m)->(∀ c∈v,Ax c=true)/\1<=v.length/\v.length<=4
 | 0,l,n,v,m,h1,h2,h3,_,h=>by cases h; exact ⟨h1,h2,h3⟩
 | k+1,l,n,v,m,h1,h2,h3,hn,h=>by
  by_cases hk:kd s n=7
  · by_cases hl:l.length=4/\Ce (kd s (nx s n))=true
    · rw [F3 hk hl.1 hl.2] at h; cases h
    · cases hc:D6 false s (nx s n) with
      | error e=>rw [Cu hk hl hc] at h; cases h
      | ok q =>
       obtain ⟨c,m'⟩:=q
       rw [Cq hk hl hc] at h
       have hb:=Ry hc
       have hv:=Nr (Jd hn) hc
       have hm:m'<=s.size:=by
        have:=cmdF_le (s.size+1) H8 (nx s n) c m' (Jd hn) hc
        exact this
       refine Gq k _ _ v m (fun z hz=>?_) (by simp) ?_ hm h
       · rcases List.mem_append.1 hz with hz | hz
         · exact h1 z hz
         · rw [jZ] at hz; subst hz; exact hv
       · have:l.length≠4:=fun e=>hl ⟨e,hb⟩
         simp only [jR,jS,jT]; omega
  · rw [Et hk] at h; cases h; exact ⟨h1,h2,h3⟩
 where
  cmdF_le : ∀ (k:Nat) (c:CmdL) (n:Nat) (v:CmdL) (m:Nat),n<=s.size->D7 false s k c n = .ok (v,m)->m<=s.size
  | 0,c,n,v,m,hn,h=>by cases h; exact hn
  | k+1,c,n,v,m,hn,h=>by
   by_cases h1:kd s n=1
   · by_cases hl:c.words.length=4
     · rw [Ga h1 hl] at h; cases h
     · cases hw:Bs s n with
       | error e=>rw [Dt h1 hl hw] at h; cases h
       | ok q =>
        obtain ⟨u,m'⟩:=q
        rw [D3 h1 hl hw] at h
        exact cmdF_le k _ _ v m (B6 hn hw).2.2.1 h
   · by_cases h2:kd s n=2\/kd s n=3\/kd s n=4
     · cases hr:A9 s c n with
       | error e=>rw [Ei h2 Pw hr] at h; cases h
       | ok q =>
        obtain ⟨u,m'⟩:=q
        rw [F9 h2 Pw hr] at h
        exact cmdF_le k _ _ v m (K0 hn hr).2.1 h
     · by_cases hl:c.words.length=0
       · rw [D4 h1 (fun q=>h2 q.1) hl] at h; cases h
       · rw [Fe h1 (fun q=>h2 q.1) hl] at h; cases h; exact hn
theorem Va : ∀ (k:Nat) (l:List CmdL) (n:Nat) (v:List CmdL) (m:Nat),n<=s.size->Fx false s k l n = .ok (v,m)->m<=s.size
 | 0,l,n,v,m,hn,h=>by cases h; exact hn
 | k+1,l,n,v,m,hn,h=>by
  by_cases hk:kd s n=7
  · by_cases hl:l.length=4/\Ce (kd s (nx s n))=true
    · rw [F3 hk hl.1 hl.2] at h; cases h
    · cases hc:D6 false s (nx s n) with
      | error e=>rw [Cu hk hl hc] at h; cases h
      | ok q =>
       obtain ⟨c,m'⟩:=q
       rw [Cq hk hl hc] at h
       exact Va k _ _ v m (Gq.cmdF_le (s.size+1) H8 _ c m' (Jd hn) hc) h
  · rw [Et hk] at h; cases h; exact hn
theorem S6 {n m:Nat} {v:List CmdL} (hn:n<=s.size) (h:Dd false s n = .ok (v,m)):((∀ c∈v,Ax c=true)/\1<=v.length/\v.length<=4)/\m<=s.size/\Ce (kd s n)=true:=by
 unfold Dd at h
 cases hc:D6 false s n with
 | error e=>rw [hc] at h; cases h
 | ok q =>
  obtain ⟨c,m'⟩:=q
  rw [hc] at h
  have hm:=Gq.cmdF_le (s.size+1) H8 n c m' hn hc
  exact ⟨Gq _ _ _ v m (fun z hz=>by rw [jZ] at hz; subst hz; exact Nr hn hc) (by simp) (by simp) hm h,Va _ _ _ v m hm h,Ry hc⟩
theorem Xo {cs:List CmdL} {b:Bool} (h:(∀ c∈cs,Ax c=true)/\1<=cs.length/\cs.length<=4):B3 ⟨cs,b⟩=true:=by
 unfold B3
 rw [jN h.2,Bool.true_and]
 exact List.all_eq_true.2 h.1
theorem Ls : ∀ (k:Nat) (l:List JobL) (n:Nat) (v:List JobL),(∀ x∈l,B3 x=true)->l.length<=8->n<=s.size->Db false s k l n = .ok v->(∀ x∈v,B3 x=true)/\v.length<=8
 | 0,l,n,v,h1,h2,_,h=>by cases h; exact ⟨h1,h2⟩
 | k+1,l,n,v,h1,h2,hn,h=>by
  by_cases hlt:n < s.size
  · by_cases hl:l.length=8/\Ce (kd s n)=true
    · rw [F2 hlt hl.1 hl.2] at h; cases h
    · cases hj:Dd false s n with
      | error e=>rw [Ds hlt hl hj] at h; cases h
      | ok q =>
       obtain ⟨cs,m⟩:=q
       obtain ⟨q1,q2,q3⟩:=S6 hn hj
       have h8:l.length≠8:=fun e=>hl ⟨e,q3⟩
       have hall : ∀ b,∀ x∈l++[(⟨cs,b⟩:JobL)],B3 x=true:=fun b x hx=>by
        rcases List.mem_append.1 hx with hx | hx
        · exact h1 x hx
        · rw [jZ] at hx; subst hx; exact Xo q1
       have hlen : ∀ b,(l++[(⟨cs,b⟩:JobL)]).length<=8:=fun b=>by simp only [jR,jS,jT]; omega
       by_cases k0:kd s m=0
       · rw [Ee hlt hl hj k0] at h; cases h; exact ⟨hall _,hlen _⟩
       · by_cases k5:kd s m=5\/kd s m=6
         · rw [C0 hlt hl hj k5] at h
           exact Ls k _ _ v (hall _) (hlen _) (Jd q2) h
         · rw [Ef hlt hl hj (by omega)] at h; cases h
  · rw [C1 hlt] at h; cases h; exact ⟨h1,h2⟩
theorem Hn {v:List JobL} (h:Cc false s = .ok v):As v=true:=by
 obtain ⟨h1,h2⟩:=Ls _ _ _ v (fun x hx=>absurd hx jY) (by decide) (Mr (Nat.zero_le _)) h
 unfold As
 rw [jN h2,Bool.and_true]
 exact List.all_eq_true.2 h1
theorem Lj {l:List JobL} (h:As l=true):smL 1000000 l:=by
 unfold As at h
 rw [kK,List.all_eq_true] at h
 refine ⟨by have:=jL h.2; omega,fun x hx=>?_⟩
 have h1:=h.1 x hx
 unfold B3 at h1
 rw [kK,List.all_eq_true] at h1
 refine ⟨by have:=jL h1.1; omega,fun c hc=>?_⟩
 obtain ⟨q1,q2,q3,q4,_⟩:=C8 (h1.2 c hc)
 have:=D0 q3
 have:=D0 q4
 exact ⟨fun u hu=>by have:=(Kj (q1 u hu)).2; omega,by omega,by omega,by omega⟩
end
theorem P7 {s:ByteArray} {n:Nat} {e:Nat×Int} (h:Bs s n = .error e):e.2≠0:=by
 unfold Bs at h;split at h
 · cases h; simp
 split at h
 · cases h; simp
 cases h
theorem V8 {s:ByteArray} {c:CmdL} {n:Nat} {e:Nat×Int} (h:A9 s c n = .error e):e.2≠0:=by
 unfold A9 at h;split at h
 · cases h; simp
 cases hw:Bs s (nx s n) with
 | error e'=>rw [hw] at h; cases h; exact P7 hw
 | ok q=>rw [hw] at h; cases h
theorem Me {s:ByteArray} : ∀ (k:Nat) (c:CmdL) (n:Nat) (e:Nat×Int),D7 false s k c n = .error e->e.2≠0
 | 0,_,_,_,h=>by cases h
 | k+1,c,n,e,h=>by
  simp only [D7] at h;split at h
  · split at h
    · cases h; simp
    · cases hw:Bs s n with
      | error e'=>rw [hw] at h; cases h; exact P7 hw
      | ok q=>rw [hw] at h; exact Me k _ _ e h
  · split at h
    · cases hw:A9 s c n with
      | error e'=>rw [hw] at h; cases h; exact V8 hw
      | ok q=>rw [hw] at h; exact Me k _ _ e h
    · split at h
      · cases h; simp
      · cases h
theorem Vb {s:ByteArray} : ∀ (k:Nat) (l:List CmdL) (n:Nat) (e:Nat×Int),Fx false s k l n = .error e->e.2≠0
 | 0,_,_,_,h=>by cases h
 | k+1,l,n,e,h=>by
  simp only [Fx] at h;split at h
  · split at h
    · cases h; simp
    · cases hw:D6 false s (nx s n) with
      | error e'=>rw [hw] at h; cases h; exact Me _ _ _ _ hw
      | ok q=>rw [hw] at h; exact Vb k _ _ e h
  · cases h
theorem dO {s:ByteArray} {n:Nat} {e:Nat×Int} (h:Dd false s n = .error e):e.2≠0:=by
 unfold Dd at h;cases hw:D6 false s n with
 | error e'=>rw [hw] at h; cases h; exact Me _ _ _ _ hw
 | ok q=>rw [hw] at h; exact Vb _ _ _ e h
theorem Rh {s:ByteArray} : ∀ (k:Nat) (l:List JobL) (n:Nat) (e:Nat×Int),Db false s k l n = .error e->e.2≠0
 | 0,_,_,_,h=>by cases h
 | k+1,l,n,e,h=>by
  simp only [Db] at h;split at h
  · split at h
    · cases h; simp
    · cases hw:Dd false s n with
      | error e'=>rw [hw] at h; cases h; exact dO hw
      | ok q =>
       rw [hw] at h;simp only at h;split at h
       · cases h
       · split at h
         · exact Rh k _ _ e h
         · cases h; simp
  · cases h
theorem Rg {s:ByteArray} {a:Nat} {b:Int} (h:Cc false s = .error (a,b)):(b != 0)=true:=by rw [bne_iff_ne]; exact Rh _ _ _ _ h
theorem Sv {eJ eC:TypeId} {p:Option Addr} {k:Nat} {l:List JV} {T0 T1:OwL} (h0:One fJ eJ 2 p k l T0) (h1:InJ eC 9 l T1):Ah (T0++(T1++[])) fun w=>VL w (C p l.length k) l:=fun X w₀ w O =>
 ⟨h0.vw (A:=[]) (B:=T1++[]) O,InJ.view (A:=T0) (B:=[]) h1 O⟩
theorem Xd {sv:ByteArray} {a:Nat} {b:Int} (w:World) (hs:sv.size<=1000000) (hl:Cc false sv = .error (a,b)):Calls jP 111 #[Y sv] w fun e w'=>e = .returned (.tuple #[C F 0 0,Z ((a:Nat):Int),Z b])/\Only Ag w w':=by
 refine (Oi sv w hs).mono fun e w' h=>?_;rcases h with ⟨a',b',h1,h2,h3⟩ | ⟨p,k,l,T0,T1,h1,_⟩
 · rw [hl] at h1; cases h1; exact ⟨h2,h3⟩
 rw [hl] at h1; cases h1
theorem Y5 {sv:ByteArray} {js:List JobL} (w:World) (hs:sv.size<=1000000) (hl:Cc false sv = .ok js):Calls jP 111 #[Y sv] w fun e w'=>∃ p k l T0 T1,l.map JV.d=js/\e = .returned (.tuple #[C p l.length k,Z 0,Z 0])/\One fJ 103 2 p k l T0/\InJ 104 9 l T1/\Ow jP Ag w w' (T0++T1):=by
 refine (Oi sv w hs).mono fun e w' h=>?_;rcases h with ⟨a',b',h1,h2,h3⟩ | ⟨p,k,l,T0,T1,h1,h2,h3,h4,h5,_⟩
 · rw [hl] at h1; cases h1
 rw [hl] at h1;exact ⟨p,k,l,T0,T1,(Except.ok.inj h1).symm,h2,h3,h4,h5⟩
theorem Hq {s:ByteArray} (a b:Nat) (h:s.size<=1000000):(s.extract a b).size<=1000000:=by rw [kH]; omega
theorem Zj (pb:Nat) (mo po:Int) (inp:ByteArray) (pj:Option Addr) (kj:Nat) (lj:List JV) (rd wr pv:Int) (pn:Option Addr) (kn:Nat) (ln:List Int) (pp:Option Addr) (kp:Nat) (lp:List PV) (T:OwL) (n:Nat) (w:World) (hG:Ah T (SV.ok (⟨mo,po,inp,pj,kj,lj,rd,wr,pv,pn,kn,ln,pp,kp,lp⟩:SV))) (h0:Ow jP (inT ((pb,39,cS mo po inp pj lj.length kj rd wr pv pn ln.length kn pp lp.length kp)::T)) w w ((pb,39,cS mo po inp pj lj.length kj rd wr pv pn ln.length kn pp lp.length kp)::T)) (hm:SV.sm (⟨mo,po,inp,pj,kj,lj,rd,wr,pv,pn,kn,ln,pp,kp,lp⟩:SV)) (hvl:As (lj.map JV.d)=true) (hp0:lp.length=0) (hn:n < inp.size) {a:Nat} {b:Int} (hl:Cc false (inp.extract 0 n) = .error (a,b)) :
 Calls jP 92 #[pt pb,Z ((n:Nat):Int)] w fun e w'=>∃ (v:SV) (Tn:OwL),v.d=Dh (SV.d (⟨mo,po,inp,pj,kj,lj,rd,wr,pv,pn,kn,ln,pp,kp,lp⟩:SV)) n/\v.sm/\As (v.lj.map JV.d)=true/\e = .returned (.tuple #[])/\Ow jP (inT ((pb,39,cS mo po inp pj lj.length kj rd wr pv pn ln.length kn pp lp.length kp)::T)) w w' ((pb,39,v.cells)::(T++Tn))/\Ah (T++Tn) v.ok:=by
 let f:=cS mo po (inp.extract (n+1) inp.size) pj lj.length kj rd wr pv pn ln.length kn pp lp.length kp;refine Ak (args:=[pt pb,Z ((n:Nat):Int)]) (m:=38) (n:=40) Tryz.func92 rfl kR kR fun J V=>?_;generalize inT ((pb,39,cS mo po inp pj lj.length kj rd wr pv pn ln.length kn pp lp.length kp)::T)=M at *;have O:Ow jP M w w ([(pb,39,(cS mo po inp pj lj.length kj rd wr pv pn ln.length kn pp lp.length kp))]++(T++([]))):=h0.tt;have hm_i:inp.size<=1000000:=hm.i;refine Sb [(4,Y (inp.extract 0 n))] V [Y inp] (cc (O.l1 0 2 9 (Y inp)) (cc (⟨by omega,by omega,by omega⟩:(0:Int)<=0/\(0:Int)<=((n:Nat):Int)/\(((n:Nat):Int):Int)<=((inp.size:Nat):Int)) c0)) fun J V=>sr 11 (Kb 10 [(21,Y (inp.extract ((((n:Nat):Int)+1).toNat) inp.size)),(23,pf pb 2)] V [Y inp,I true] (cc (O.l1 0 2 9 (Y inp)) (cc ((An (by omega) (by omega)):inK .i64 (((n:Nat):Int)+1)) (cc (⟨by omega,by omega,by omega⟩:(0:Int)<=((n:Nat):Int)+1/\(((n:Nat):Int)+1:Int)<=((inp.size:Nat):Int)/\(((inp.size:Nat):Int):Int)<=((inp.size:Nat):Int)) c0))) fun J V=>?_);rw [show (inp.extract ((((n:Nat):Int)+1).toNat) inp.size)=(inp.extract (n+1) inp.size) from by rw [show (((n:Nat):Int)+1).toNat=n+1 by omega]] at V;refine Ms 2 [Y (inp.extract (n+1) inp.size)] 0 V O fun w1 O=>Ab (Aa (sr 9 (Ka 1 [(25,Y (inp.extract 0 n))] V fun J V=>Mk 26 V O Tryz.func111 (Xd (sv:=(inp.extract 0 n)) _ (Hq _ _ hm_i) hl) fun J w2 V O=>Ka 7 [(5,C F 0 0),(7,Z b)] V fun J V=>Ab (Aa (wp_seq (Sa [(31,I (b != 0))] V fun J V=>?_))))))
 rw [(Rg hl:(b != 0)=(true))] at V;refine cT V (sr 4 (Ka 1 [(32,pt pb)] V fun J V=>Ae (mC (d:=(E 33)) V Tryz.func96 ((Fk _).mono ?_))));rintro en w3 ⟨p1,c1,T1,rfl,hT1,hW⟩;let c:=([Z 10,Z 2,Z 0,Z 0,C p1 (([63,10]:List Int).length) c1]:List Value);let g:=([⟨p1,c1,⟨10,2,0,0,[63,10]⟩⟩]:List PV);refine ⟨_,rfl,?_⟩;clear V J; intro J V;replace O:=Ow.join O hW; clear hW;replace O:Ow jP M w _ ([(pb,39,(f))]++(T++(T1++([])))):=O.tt;refine Mv c 43 1 34 V O fun J w4 b1 V O=>Ae (mC (d:=(E 35)) V Tryz.func95 ((J9 pb mo po (inp.extract (n+1) inp.size) pj kj lj rd wr pv pn kn ln pp kp lp ⟨p1,c1,⟨10,2,0,0,[63,10]⟩⟩ ⟨b1,0,F⟩ 1 _ (Ow.self (A:=[_]) (O.tt)) (Uz (A:=[_]) (Q:=(fun w_=>Vw fP w_ (C pp lp.length kp) lp)) ((hG.mono fun _ h_=>h_.p.1).l) (O.tt:Ow jP M w _ (([(b1,43,c)]++[(pb,39,f)])++((T++(T1++([])))++[])))) (fun w_ k_=>((Ra (A:=[_]) (O.tt:Ow jP M w _ (([(b1,43,c)]++[(pb,39,f)])++((T++(T1++([])))++[]))) k_).b 0).vw (off:=0) (xs:=g) kR) oo).mono ?_));rintro en w5 ⟨rfl,p2,k1,T2,hT2,hW⟩;let h:=cS mo po (inp.extract (n+1) inp.size) pj lj.length kj rd wr pv pn ln.length kn p2 ((lp++g).length) k1;let i:=(⟨mo,po,inp.extract (n+1) inp.size,pj,kj,lj,rd,wr,pv,pn,kn,ln,p2,k1,lp++g⟩:SV);refine ⟨_,rfl,?_⟩;clear V J; intro J V;replace O:=Ow.pass2 (A:=[_]) O hW; clear hW;replace O:Ow jP M w w5 ([(b1,43,c),(pb,39,(h))]++(T++(T1++(T2++([]))))):=O.tt;refine Ab (Aa (wp_ret (Ac (cv [] V ?_))))
 have heq_:SV.d (⟨mo,po,inp.extract (n+1) inp.size,pj,kj,lj,rd,wr,pv,pn,kn,ln,p2,k1,lp++([⟨p1,c1,⟨10,2,0,0,[63,10]⟩⟩]:List PV)⟩:SV)=Dh (SV.d (⟨mo,po,inp,pj,kj,lj,rd,wr,pv,pn,kn,ln,pp,kp,lp⟩:SV)) n:=by unfold Dh; simp only [SV.d]; rw [hl,List.map_append]; rfl
 exact ⟨i,(T1++(T2++([]))),heq_,⟨Hq _ _ hm.i,hm.j,hm.k,(by show (lp++[_]).length<=_; rw [jR,hp0]; show 0+1<=_; omega),hm.ck,hm.cj,hT2.le⟩,hvl,rfl,(show Ow jP M w _ ((pb,39,h)::(T++(T1++(T2++([]))))) from ((Ow.subP (A:=[_,_]) O (.cons _ (.cons_cons _ .slnil)))).tt),((ok3 (T:=T++(T1++(T2++([])))) (x:=i) ((hG.mono fun _ h_=>h_.j).l) ((hG.mono fun _ h_=>h_.k).l) (M3 (T:=T++(T1++(T2++([])))) (hT2.holds.l.r.r) ((hG.mono fun _ h_=>h_.p.2).l) (Cj (x:=⟨p1,c1,⟨10,2,0,0,[63,10]⟩⟩) (hT1.holds.l.r) Bx))).tt)⟩
theorem dE (pb:Nat) (mo po:Int) (inp:ByteArray) (pj:Option Addr) (kj:Nat) (lj:List JV) (rd wr pv:Int) (pn:Option Addr) (kn:Nat) (ln:List Int) (pp:Option Addr) (kp:Nat) (lp:List PV) (T:OwL) (n:Nat) (w:World) (hG:Ah T (SV.ok (⟨mo,po,inp,pj,kj,lj,rd,wr,pv,pn,kn,ln,pp,kp,lp⟩:SV))) (h0:Ow jP (inT ((pb,39,cS mo po inp pj lj.length kj rd wr pv pn ln.length kn pp lp.length kp)::T)) w w ((pb,39,cS mo po inp pj lj.length kj rd wr pv pn ln.length kn pp lp.length kp)::T)) (hm:SV.sm (⟨mo,po,inp,pj,kj,lj,rd,wr,pv,pn,kn,ln,pp,kp,lp⟩:SV)) (hvl:As (lj.map JV.d)=true) (hp0:lp.length=0) (hn:n < inp.size) {js:List JobL} (hl:Cc false (inp.extract 0 n) = .ok js) :
 Calls jP 92 #[pt pb,Z ((n:Nat):Int)] w fun e w'=>∃ (v:SV) (Tn:OwL),v.d=Dh (SV.d (⟨mo,po,inp,pj,kj,lj,rd,wr,pv,pn,kn,ln,pp,kp,lp⟩:SV)) n/\v.sm/\As (v.lj.map JV.d)=true/\e = .returned (.tuple #[])/\Ow jP (inT ((pb,39,cS mo po inp pj lj.length kj rd wr pv pn ln.length kn pp lp.length kp)::T)) w w' ((pb,39,v.cells)::(T++Tn))/\Ah (T++Tn) v.ok:=by
 refine Ak (args:=[pt pb,Z ((n:Nat):Int)]) (m:=38) (n:=40) Tryz.func92 rfl kR kR fun J V=>?_;generalize inT ((pb,39,cS mo po inp pj lj.length kj rd wr pv pn ln.length kn pp lp.length kp)::T)=M at *;have O:Ow jP M w w ([(pb,39,(cS mo po inp pj lj.length kj rd wr pv pn ln.length kn pp lp.length kp))]++(T++([]))):=h0.tt;have hm_i:inp.size<=1000000:=hm.i;refine Sb [(4,Y (inp.extract 0 n))] V [Y inp] (cc (O.l1 0 2 9 (Y inp)) (cc (⟨by omega,by omega,by omega⟩:(0:Int)<=0/\(0:Int)<=((n:Nat):Int)/\(((n:Nat):Int):Int)<=((inp.size:Nat):Int)) c0)) fun J V=>sr 11 (Kb 10 [(21,Y (inp.extract ((((n:Nat):Int)+1).toNat) inp.size)),(23,pf pb 2)] V [Y inp,I true] (cc (O.l1 0 2 9 (Y inp)) (cc ((An (by omega) (by omega)):inK .i64 (((n:Nat):Int)+1)) (cc (⟨by omega,by omega,by omega⟩:(0:Int)<=((n:Nat):Int)+1/\(((n:Nat):Int)+1:Int)<=((inp.size:Nat):Int)/\(((inp.size:Nat):Int):Int)<=((inp.size:Nat):Int)) c0))) fun J V=>?_);rw [show (inp.extract ((((n:Nat):Int)+1).toNat) inp.size)=(inp.extract (n+1) inp.size) from by rw [show (((n:Nat):Int)+1).toNat=n+1 by omega]] at V;refine Ms 2 [Y (inp.extract (n+1) inp.size)] 0 V O fun w1 O=>Ab (Aa (sr 9 (Ka 1 [(25,Y (inp.extract 0 n))] V fun J V=>Ae (mC (d:=(E 26)) V Tryz.func111 ((Y5 (sv:=(inp.extract 0 n)) _ (Hq _ _ hm_i) hl).mono ?_)))));rintro en w2 ⟨p1,k1,l1,T1,T2,hj1,rfl,hT1,hT2,hW⟩;let a:=(⟨mo,po,inp.extract (n+1) inp.size,p1,k1,l1,rd,wr,pv,pn,kn,ln,pp,kp,lp⟩:SV);let b:=(C p1 l1.length k1:Value);refine ⟨_,rfl,?_⟩;clear V J; intro J V
 replace O:=Ow.join O hW; clear hW;replace O:Ow jP M w _ ([(pb,39,(cS mo po (inp.extract (n+1) inp.size) pj lj.length kj rd wr pv pn ln.length kn pp lp.length kp))]++(T++(T1++(T2++([]))))):=O.tt;refine Ka 7 [(5,b),(7,Z 0)] V fun J V=>Ab (Aa (wp_seq (Sa [(31,I false)] V fun J V=>cF V (wp_skip (Aa (rr 5 (Ka 4 [(37,b),(39,pf pb 3)] V fun J V=>Ms 3 [b] 0 V O fun w3 O=>Ab (Ew (cv [] V ?_)))))))));have heq_:SV.d (⟨mo,po,inp.extract (n+1) inp.size,p1,k1,l1,rd,wr,pv,pn,kn,ln,pp,kp,lp⟩:SV)=Dh (SV.d (⟨mo,po,inp,pj,kj,lj,rd,wr,pv,pn,kn,ln,pp,kp,lp⟩:SV)) n:=by unfold Dh; simp only [SV.d]; rw [hl,hj1]
 have hvj_:=Hn hl;exact ⟨a,(T1++(T2++([]))),heq_,⟨Hq _ _ hm.i,(by show smL 1000000 (l1.map JV.d); rw [hj1]; exact Lj hvj_),hm.k,hm.p,hm.ck,hT1.le,hm.cp⟩,(by show As (l1.map JV.d)=true; rw [hj1]; exact hvj_),rfl,(show Ow jP M w _ ((pb,39,cS mo po (inp.extract (n+1) inp.size) p1 l1.length k1 rd wr pv pn ln.length kn pp lp.length kp)::(T++(T1++(T2++([]))))) from (O).tt),((ok3 (T:=T++(T1++(T2++([])))) (x:=a) (Sv hT1 hT2).r ((hG.mono fun _ h_=>h_.k).l) ((hG.mono fun _ h_=>h_.p).l)).tt)⟩
theorem V0 (pb:Nat) (mo po:Int) (inp:ByteArray) (pj:Option Addr) (kj:Nat) (lj:List JV) (rd wr pv:Int) (pn:Option Addr) (kn:Nat) (ln:List Int) (pp:Option Addr) (kp:Nat) (lp:List PV) (T:OwL) (n:Nat) (w:World) (hG:Ah T (SV.ok (⟨mo,po,inp,pj,kj,lj,rd,wr,pv,pn,kn,ln,pp,kp,lp⟩:SV))) (h0:Ow jP (inT ((pb,39,cS mo po inp pj lj.length kj rd wr pv pn ln.length kn pp lp.length kp)::T)) w w ((pb,39,cS mo po inp pj lj.length kj rd wr pv pn ln.length kn pp lp.length kp)::T)) (hm:SV.sm (⟨mo,po,inp,pj,kj,lj,rd,wr,pv,pn,kn,ln,pp,kp,lp⟩:SV)) (hvl:As (lj.map JV.d)=true) (hp0:lp.length=0) (hn:n < inp.size):Calls jP 92 #[pt pb,Z ((n:Nat):Int)] w fun e w'=>∃ (v:SV) (Tn:OwL),v.d=Dh (SV.d (⟨mo,po,inp,pj,kj,lj,rd,wr,pv,pn,kn,ln,pp,kp,lp⟩:SV)) n/\v.sm/\As (v.lj.map JV.d)=true/\e = .returned (.tuple #[])/\Ow jP (inT ((pb,39,cS mo po inp pj lj.length kj rd wr pv pn ln.length kn pp lp.length kp)::T)) w w' ((pb,39,v.cells)::(T++Tn))/\Ah (T++Tn) v.ok:=by
 cases hl:Cc false (inp.extract 0 n) with
 | error q=>obtain ⟨a,b⟩:=q; exact Zj pb mo po inp pj kj lj rd wr pv pn kn ln pp kp lp T n w hG h0 hm hvl hp0 hn hl
 | ok js=>exact dE pb mo po inp pj kj lj rd wr pv pn kn ln pp kp lp T n w hG h0 hm hvl hp0 hn hl
theorem Jp {s:StL} (h:As s.jobs=true):As (Dc s).1.jobs=true:=by
 have tl : ∀ {j:JobL} {r:List JobL},s.jobs=j::r->As r=true:=fun {j r} e=>by
  rw [e] at h
  unfold As at h ⊢
  rw [kK,List.all_cons,kK] at h
  rw [kK]
  exact ⟨h.1.2,jN (by have:=jL h.2; rw [jS] at this; omega)⟩
 unfold Dc
 split
 · exact h
 · rename_i j r e
   repeat' split
   all_goals first | exact h | exact tl e
theorem E8 {s s':StL} (h:Dc s=(s',F)) (hj : 0 < s.jobs.length):K7 s'+1=K7 s:=by
 unfold Dc at h
 split at h
 · rename_i e; rw [e] at hj; simp at hj
 rename_i j r e
 repeat' split at h
 all_goals (cases h; try (unfold K7; rw [e]; simp only [jS]; omega))
theorem Gp {s:StL} {n:Nat} (h:n < s.inp.size) (hj:s.jobs.length=0) (hv:(Dh s n).jobs.length<=8):K7 (Dh s n)+1<=K7 s:=by
 have e:(Dh s n).inp=s.inp.extract (n+1) s.inp.size:=by unfold Dh; split <;> rfl
 unfold K7
 rw [e,kH,hj]
 omega
theorem Hb {l:List JobL} (h:As l=true):l.length<=8:=by
 unfold As at h
 rw [kK] at h
 exact jL h.2
section
variable {s s':StL} {c:CallL} {r:List CallL} {f:Nat}
theorem K5 (h:s.plan=c::r):Dg (f+1) s=({s with mode:=2},c):=by simp only [Dg]; rw [h]
theorem E5 (h:s.plan=[]) (hj : 0 < s.jobs.length) (hs:Dc s=(s',E c)):Dg (f+1) s=(s',c):=by
 simp only [Dg]
 rw [h]
 cases hq:s.jobs with
 | nil=>rw [hq] at hj; simp at hj
 | cons j r=>simp only; rw [hs]
theorem E6 (h:s.plan=[]) (hj : 0 < s.jobs.length) (hs:Dc s=(s',F)):Dg (f+1) s=Dg f s':=by
 simp only [Dg]
 rw [h]
 cases hq:s.jobs with
 | nil=>rw [hq] at hj; simp at hj
 | cons j r=>simp only; rw [hs]
theorem K4 (h:s.plan=[]) (hj:s.jobs=[]) (hn:nlI s.inp < 0):Dg (f+1) s=({s with mode:=1},A3 9 0 80):=by
 simp only [Dg]
 rw [h,hj]
 simp only
 rw [if_pos hn]
theorem Hz (h:s.plan=[]) (hj:s.jobs=[]) (hn : ¬ nlI s.inp < 0):Dg (f+1) s=Dg f (Dh s (nlI s.inp).toNat):=by
 simp only [Dg]
 rw [h,hj]
 simp only
 rw [if_neg hn]
end
theorem iP : ∀ (l:List UInt8) (c:UInt8),Lib.indexByte l c < 0\/Lib.indexByte l c < l.length:=by
 intro l c
 induction l with
 | nil=>left; simp [Lib.indexByte]
 | cons x r ih =>
  simp only [Lib.indexByte,jS]
  split
  · right; omega
  · split
    · left; omega
    · rcases ih with h | h
      · omega
      · right; omega
theorem Pq {s:ByteArray} (h : ¬ nlI s < 0):(nlI s).toNat < s.size:=by
 have:=iP s.data.toList 10
 rw [Bt] at this
 unfold nlI at h ⊢
 omega
theorem iQ : ∀ (l:List UInt8) (c:UInt8),-1<=Lib.indexByte l c:=by
 intro l c
 induction l with
 | nil=>simp [Lib.indexByte]
 | cons x r ih =>
  simp only [Lib.indexByte]
  split
  · omega
  · split
    · omega
    · omega
end Go.Proofs.YtdljjajjonfjbaaGreatDoor
