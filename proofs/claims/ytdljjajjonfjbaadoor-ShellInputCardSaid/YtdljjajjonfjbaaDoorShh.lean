import Derived.Test.YtdljjajjonfjbaaDoorShg
import Derived.Test.YtdljjajjonfjbaaDoorParsf
import Derived.Test.YtdljjajjonfjbaaDoorSn
set_option linter.unusedVariables false
set_option linter.unusedSimpArgs false
set_option maxRecDepth 10000
namespace Go.Proofs.YtdljjajjonfjbaaDoor
open Go Go.Shelf Go.RowKit Go.Proofs Go.Proofs.Sx
theorem sm_tl {N:Nat} {x:JV} {r:List JV} (h:smL N ((x::r).map JV.d)):smL N (r.map JV.d):=⟨by have:=h.1; simp only [List.map_cons,List.length_cons] at this; omega,fun y hy=>h.2 y (by rw [List.map_cons]; exact List.mem_cons_of_mem _ hy)⟩
theorem vl_hd {x:JV} {r:List JV} (h:validL ((x::r).map JV.d)=true):(1<=x.cmds.length/\x.cmds.length<=4)/\∀ y∈x.cmds,validC y.d=true:=by
 unfold validL at h
 rw [Bool.and_eq_true,List.all_map,List.all_cons,Bool.and_eq_true] at h
 have h1:=h.1.1
 simp only [Function.comp,validJ,JV.d,List.length_map,List.all_map,Bool.and_eq_true,decide_eq_true_eq,List.all_eq_true] at h1
 exact h1
theorem vc_words {d:CmdL} (h:validC d=true):(1<=d.words.length/\d.words.length<=4)/\∀ u∈d.words,0 < u.size/\u.size<=60:=by
 unfold validC at h
 simp only [Bool.and_eq_true,decide_eq_true_eq,List.all_eq_true] at h
 refine ⟨h.2.1,fun u hu=>?_⟩
 have:=h.1 u hu
 unfold isWordB at this
 rw [Bool.and_eq_true] at this
 have:=of_decide_eq_true this.2
 omega
section
variable {s:StL} {j:JobL} {r:List JobL}
theorem job_a (h:s.jobs=j::r) (h1:isExit j.cmds=true) (h2:s.pos=0):jobS s=({s with mode:=7},some (callL 0 (codeW (cmd1 j.cmds).words) 0)):=by unfold jobS; rw [h]; simp only; rw [if_pos ⟨h1,h2⟩]
theorem job_b (h:s.jobs=j::r) (h1 : ¬ (isExit j.cmds=true/\s.pos=0)) (h2:s.pos=0/\longJ j.cmds=true):jobS s=({s with jobs:=r,plan:=s.plan++[tellL]},none):=by unfold jobS; rw [h]; simp only; rw [if_neg h1,if_pos h2]
theorem job_c (h:s.jobs=j::r) (h1 : ¬ (isExit j.cmds=true/\s.pos=0)) (h2 : ¬ (s.pos=0/\longJ j.cmds=true)) (h3:s.pos=(j.cmds.length:Int) - 1):jobS s=({s with mode:=4},some (callL 1 0 0)):=by unfold jobS; rw [h]; simp only; rw [if_neg h1,if_neg h2,if_pos h3]
theorem job_d (h:s.jobs=j::r) (h1 : ¬ (isExit j.cmds=true/\s.pos=0)) (h2 : ¬ (s.pos=0/\longJ j.cmds=true)) (h3 : ¬ s.pos=(j.cmds.length:Int) - 1) (h4:s.pos < (j.cmds.length:Int)):jobS s=({s with mode:=3},some (callL 11 0 0)):=by unfold jobS; rw [h]; simp only; rw [if_neg h1,if_neg h2,if_neg h3,if_pos h4]
theorem job_e (h:s.jobs=j::r) (h1 : ¬ (isExit j.cmds=true/\s.pos=0)) (h2 : ¬ (s.pos=0/\longJ j.cmds=true)) (h3 : ¬ s.pos=(j.cmds.length:Int) - 1) (h4 : ¬ s.pos < (j.cmds.length:Int)) (h5:j.bg=false/\0 < s.kids.length):jobS s=({s with mode:=5},some (callL 3 0 0)):=by unfold jobS; rw [h]; simp only; rw [if_neg h1,if_neg h2,if_neg h3,if_neg h4,if_pos h5]
theorem job_f (h:s.jobs=j::r) (h1 : ¬ (isExit j.cmds=true/\s.pos=0)) (h2 : ¬ (s.pos=0/\longJ j.cmds=true)) (h3 : ¬ s.pos=(j.cmds.length:Int) - 1) (h4 : ¬ s.pos < (j.cmds.length:Int)) (h5 : ¬ (j.bg=false/\0 < s.kids.length)):jobS s=({s with jobs:=r,kids:=[],pos:=0,pv:=-1},none):=by unfold jobS; rw [h]; simp only; rw [if_neg h1,if_neg h2,if_neg h3,if_neg h4,if_neg h5]
end
theorem isExit_eq {p:Option Addr} {c:Nat} {d:CmdL} {r:List CV} {z:ByteArray} (hz:d.words[0]? = some z):isExit ((⟨p,c,d⟩::r:List CV).map CV.d)=(decide ((⟨p,c,d⟩::r:List CV).length=1) && (z.toList == exitW.toList)):=by
 unfold isExit
 rw [List.length_map]
 have:word1 (cmd1 ((⟨p,c,d⟩::r:List CV).map CV.d))=z:=gD_of hz
 rw [this]
theorem of_and_beq {a:Bool} {n:Int} (h:(a && (n == 0))=true):a=true/\n=0:=by rw [Bool.and_eq_true,beq_iff_eq] at h; exact h
theorem not_and_beq {a:Bool} {n:Int} (h:(a && (n == 0))=false) : ¬ (a=true/\n=0):=fun q=>by rw [q.1,q.2] at h; cases h
theorem of_beq_and {a:Bool} {n:Int} (h:((n == 0) && a)=true):n=0/\a=true:=by rw [Bool.and_eq_true,beq_iff_eq] at h; exact h
theorem not_beq_and {a:Bool} {n:Int} (h:((n == 0) && a)=false) : ¬ (n=0/\a=true):=fun q=>by rw [q.1,q.2] at h; cases h
theorem of_wt {a:Bool} {n:Nat} (h:((!a) && (decide (((n:Nat):Int) > 0)))=true):a=false/\0 < n:=by rw [Bool.and_eq_true,Bool.not_eq_true',decide_eq_true_eq] at h; exact ⟨h.1,by omega⟩
theorem not_wt {a:Bool} {n:Nat} (h:((!a) && (decide (((n:Nat):Int) > 0)))=false) : ¬ (a=false/\0 < n):=fun q=>by rw [q.1,decide_eq_true (by omega)] at h; cases h
theorem sj_a {mo po:Int} {inp:ByteArray} {aj:Addr} {kj:Nat} {ax:Addr} {xc:Nat} {ay:Addr} {yc:Nat} {yd:CmdL} {rc:List CV} {xb:Bool} {rj:List JV} {rd wr pv:Int} {pn:Option Addr} {kn:Nat} {ln:List Int} {pp:Option Addr} {kp:Nat} {lp:List PV} (h1:isExit ((⟨some ay,yc,yd⟩::rc).map CV.d)=true) (h2:po=0):jobS (SV.d (⟨mo,po,inp,some aj,kj,((⟨some ax,xc,(⟨some ay,yc,yd⟩::rc),xb⟩:JV)::rj),rd,wr,pv,pn,kn,ln,pp,kp,lp⟩:SV))=(SV.d (⟨7,po,inp,some aj,kj,((⟨some ax,xc,(⟨some ay,yc,yd⟩::rc),xb⟩:JV)::rj),rd,wr,pv,pn,kn,ln,pp,kp,lp⟩:SV),some (callL 0 (codeW yd.words) 0)):=job_a (s:=SV.d (⟨mo,po,inp,some aj,kj,((⟨some ax,xc,(⟨some ay,yc,yd⟩::rc),xb⟩:JV)::rj),rd,wr,pv,pn,kn,ln,pp,kp,lp⟩:SV)) rfl h1 h2
theorem sj_b {mo po:Int} {inp:ByteArray} {aj:Addr} {kj:Nat} {ax:Addr} {xc:Nat} {ay:Addr} {yc:Nat} {yd:CmdL} {rc:List CV} {xb:Bool} {rj:List JV} {rd wr pv:Int} {pn:Option Addr} {kn:Nat} {ln:List Int} {pp:Option Addr} {kp:Nat} {lp:List PV} (h1 : ¬ (isExit ((⟨some ay,yc,yd⟩::rc).map CV.d)=true/\po=0)) (h2:po=0/\longJ ((⟨some ay,yc,yd⟩::rc).map CV.d)=true):jobS (SV.d (⟨mo,po,inp,some aj,kj,((⟨some ax,xc,(⟨some ay,yc,yd⟩::rc),xb⟩:JV)::rj),rd,wr,pv,pn,kn,ln,pp,kp,lp⟩:SV))=({SV.d (⟨mo,po,inp,some aj,kj,((⟨some ax,xc,(⟨some ay,yc,yd⟩::rc),xb⟩:JV)::rj),rd,wr,pv,pn,kn,ln,pp,kp,lp⟩:SV) with jobs:=rj.map JV.d,plan:=(SV.d (⟨mo,po,inp,some aj,kj,((⟨some ax,xc,(⟨some ay,yc,yd⟩::rc),xb⟩:JV)::rj),rd,wr,pv,pn,kn,ln,pp,kp,lp⟩:SV)).plan++[tellL]},none):=job_b (s:=SV.d (⟨mo,po,inp,some aj,kj,((⟨some ax,xc,(⟨some ay,yc,yd⟩::rc),xb⟩:JV)::rj),rd,wr,pv,pn,kn,ln,pp,kp,lp⟩:SV)) rfl h1 h2
theorem sj_c {mo po:Int} {inp:ByteArray} {aj:Addr} {kj:Nat} {ax:Addr} {xc:Nat} {ay:Addr} {yc:Nat} {yd:CmdL} {rc:List CV} {xb:Bool} {rj:List JV} {rd wr pv:Int} {pn:Option Addr} {kn:Nat} {ln:List Int} {pp:Option Addr} {kp:Nat} {lp:List PV} (h1 : ¬ (isExit ((⟨some ay,yc,yd⟩::rc).map CV.d)=true/\po=0)) (h2 : ¬ (po=0/\longJ ((⟨some ay,yc,yd⟩::rc).map CV.d)=true)) (h3:po=(((⟨some ay,yc,yd⟩::rc).length:Nat):Int) - 1):jobS (SV.d (⟨mo,po,inp,some aj,kj,((⟨some ax,xc,(⟨some ay,yc,yd⟩::rc),xb⟩:JV)::rj),rd,wr,pv,pn,kn,ln,pp,kp,lp⟩:SV))=(SV.d (⟨4,po,inp,some aj,kj,((⟨some ax,xc,(⟨some ay,yc,yd⟩::rc),xb⟩:JV)::rj),rd,wr,pv,pn,kn,ln,pp,kp,lp⟩:SV),some (callL 1 0 0)):=job_c (s:=SV.d (⟨mo,po,inp,some aj,kj,((⟨some ax,xc,(⟨some ay,yc,yd⟩::rc),xb⟩:JV)::rj),rd,wr,pv,pn,kn,ln,pp,kp,lp⟩:SV)) rfl h1 h2 (by show po=((((⟨some ay,yc,yd⟩::rc).map CV.d).length:Nat):Int) - 1; rw [List.length_map]; exact h3)
theorem sj_d {mo po:Int} {inp:ByteArray} {aj:Addr} {kj:Nat} {ax:Addr} {xc:Nat} {ay:Addr} {yc:Nat} {yd:CmdL} {rc:List CV} {xb:Bool} {rj:List JV} {rd wr pv:Int} {pn:Option Addr} {kn:Nat} {ln:List Int} {pp:Option Addr} {kp:Nat} {lp:List PV} (h1 : ¬ (isExit ((⟨some ay,yc,yd⟩::rc).map CV.d)=true/\po=0)) (h2 : ¬ (po=0/\longJ ((⟨some ay,yc,yd⟩::rc).map CV.d)=true)) (h3 : ¬ po=(((⟨some ay,yc,yd⟩::rc).length:Nat):Int) - 1) (h4:po < (((⟨some ay,yc,yd⟩::rc).length:Nat):Int)):jobS (SV.d (⟨mo,po,inp,some aj,kj,((⟨some ax,xc,(⟨some ay,yc,yd⟩::rc),xb⟩:JV)::rj),rd,wr,pv,pn,kn,ln,pp,kp,lp⟩:SV))=(SV.d (⟨3,po,inp,some aj,kj,((⟨some ax,xc,(⟨some ay,yc,yd⟩::rc),xb⟩:JV)::rj),rd,wr,pv,pn,kn,ln,pp,kp,lp⟩:SV),some (callL 11 0 0)):=job_d (s:=SV.d (⟨mo,po,inp,some aj,kj,((⟨some ax,xc,(⟨some ay,yc,yd⟩::rc),xb⟩:JV)::rj),rd,wr,pv,pn,kn,ln,pp,kp,lp⟩:SV)) rfl h1 h2 (by show ¬ po=((((⟨some ay,yc,yd⟩::rc).map CV.d).length:Nat):Int) - 1; rw [List.length_map]; exact h3) (by show po < ((((⟨some ay,yc,yd⟩::rc).map CV.d).length:Nat):Int); rw [List.length_map]; exact h4)
theorem sj_e {mo po:Int} {inp:ByteArray} {aj:Addr} {kj:Nat} {ax:Addr} {xc:Nat} {ay:Addr} {yc:Nat} {yd:CmdL} {rc:List CV} {xb:Bool} {rj:List JV} {rd wr pv:Int} {pn:Option Addr} {kn:Nat} {ln:List Int} {pp:Option Addr} {kp:Nat} {lp:List PV} (h1 : ¬ (isExit ((⟨some ay,yc,yd⟩::rc).map CV.d)=true/\po=0)) (h2 : ¬ (po=0/\longJ ((⟨some ay,yc,yd⟩::rc).map CV.d)=true)) (h3 : ¬ po=(((⟨some ay,yc,yd⟩::rc).length:Nat):Int) - 1) (h4 : ¬ po < (((⟨some ay,yc,yd⟩::rc).length:Nat):Int)) (h5:xb=false/\0 < ln.length):jobS (SV.d (⟨mo,po,inp,some aj,kj,((⟨some ax,xc,(⟨some ay,yc,yd⟩::rc),xb⟩:JV)::rj),rd,wr,pv,pn,kn,ln,pp,kp,lp⟩:SV))=(SV.d (⟨5,po,inp,some aj,kj,((⟨some ax,xc,(⟨some ay,yc,yd⟩::rc),xb⟩:JV)::rj),rd,wr,pv,pn,kn,ln,pp,kp,lp⟩:SV),some (callL 3 0 0)):=job_e (s:=SV.d (⟨mo,po,inp,some aj,kj,((⟨some ax,xc,(⟨some ay,yc,yd⟩::rc),xb⟩:JV)::rj),rd,wr,pv,pn,kn,ln,pp,kp,lp⟩:SV)) rfl h1 h2 (by show ¬ po=((((⟨some ay,yc,yd⟩::rc).map CV.d).length:Nat):Int) - 1; rw [List.length_map]; exact h3) (by show ¬ po < ((((⟨some ay,yc,yd⟩::rc).map CV.d).length:Nat):Int); rw [List.length_map]; exact h4) h5
theorem sj_f {mo po:Int} {inp:ByteArray} {aj:Addr} {kj:Nat} {ax:Addr} {xc:Nat} {ay:Addr} {yc:Nat} {yd:CmdL} {rc:List CV} {xb:Bool} {rj:List JV} {rd wr pv:Int} {pn:Option Addr} {kn:Nat} {ln:List Int} {pp:Option Addr} {kp:Nat} {lp:List PV} (h1 : ¬ (isExit ((⟨some ay,yc,yd⟩::rc).map CV.d)=true/\po=0)) (h2 : ¬ (po=0/\longJ ((⟨some ay,yc,yd⟩::rc).map CV.d)=true)) (h3 : ¬ po=(((⟨some ay,yc,yd⟩::rc).length:Nat):Int) - 1) (h4 : ¬ po < (((⟨some ay,yc,yd⟩::rc).length:Nat):Int)) (h5 : ¬ (xb=false/\0 < ln.length)):jobS (SV.d (⟨mo,po,inp,some aj,kj,((⟨some ax,xc,(⟨some ay,yc,yd⟩::rc),xb⟩:JV)::rj),rd,wr,pv,pn,kn,ln,pp,kp,lp⟩:SV))=({SV.d (⟨mo,po,inp,some aj,kj,((⟨some ax,xc,(⟨some ay,yc,yd⟩::rc),xb⟩:JV)::rj),rd,wr,pv,pn,kn,ln,pp,kp,lp⟩:SV) with jobs:=rj.map JV.d,kids:=[],pos:=0,pv:=-1},none):=job_f (s:=SV.d (⟨mo,po,inp,some aj,kj,((⟨some ax,xc,(⟨some ay,yc,yd⟩::rc),xb⟩:JV)::rj),rd,wr,pv,pn,kn,ln,pp,kp,lp⟩:SV)) rfl h1 h2 (by show ¬ po=((((⟨some ay,yc,yd⟩::rc).map CV.d).length:Nat):Int) - 1; rw [List.length_map]; exact h3) (by show ¬ po < ((((⟨some ay,yc,yd⟩::rc).map CV.d).length:Nat):Int); rw [List.length_map]; exact h4) h5
theorem sjob_any (pb:Nat) (mo po:Int) (inp:ByteArray) (aj:Addr) (kj:Nat) (ax:Addr) (xc:Nat) (ay:Addr) (yc:Nat) (yd:CmdL) (rc:List CV) (xb:Bool) (rj:List JV) (rd wr pv:Int) (pn:Option Addr) (kn:Nat) (ln:List Int) (pp:Option Addr) (kp:Nat) (lp:List PV) (T:OwL)  (w:World) (hG:Holds' T (SV.ok (⟨mo,po,inp,some aj,kj,((⟨some ax,xc,(⟨some ay,yc,yd⟩::rc),xb⟩:JV)::rj),rd,wr,pv,pn,kn,ln,pp,kp,lp⟩:SV))) (h0:Ow Tryd.prog (inT ((pb,31,cS mo po inp (some aj) (((⟨some ax,xc,(⟨some ay,yc,yd⟩::rc),xb⟩:JV)::rj).length) kj rd wr pv pn ln.length kn pp lp.length kp)::T)) w w ((pb,31,cS mo po inp (some aj) (((⟨some ax,xc,(⟨some ay,yc,yd⟩::rc),xb⟩:JV)::rj).length) kj rd wr pv pn ln.length kn pp lp.length kp)::T)) (hm:SV.sm (⟨mo,po,inp,some aj,kj,((⟨some ax,xc,(⟨some ay,yc,yd⟩::rc),xb⟩:JV)::rj),rd,wr,pv,pn,kn,ln,pp,kp,lp⟩:SV)) (hvl:validL (((⟨some ax,xc,(⟨some ay,yc,yd⟩::rc),xb⟩:JV)::rj).map JV.d)=true) (hE : ∀ w',Only (inT ((pb,31,cS mo po inp (some aj) (((⟨some ax,xc,(⟨some ay,yc,yd⟩::rc),xb⟩:JV)::rj).length) kj rd wr pv pn ln.length kn pp lp.length kp)::T)) w w'->ErrOk w') (hp0:lp.length=0) :
    Calls Tryd.prog 39 #[pt pb] w fun e w'=>∃ (v:SV) (c:CallL) (b:Bool) (Tn:OwL),jobS (SV.d (⟨mo,po,inp,some aj,kj,((⟨some ax,xc,(⟨some ay,yc,yd⟩::rc),xb⟩:JV)::rj),rd,wr,pv,pn,kn,ln,pp,kp,lp⟩:SV))=(v.d,if b=true then some c else none)/\c.data=[]/\v.sm/\e = .returned (.tuple #[.agg #[i64 c.call,i64 c.a0,i64 c.a1,i64 c.a2,.slice none 0 0],bl b])/\Ow Tryd.prog (inT ((pb,31,cS mo po inp (some aj) (((⟨some ax,xc,(⟨some ay,yc,yd⟩::rc),xb⟩:JV)::rj).length) kj rd wr pv pn ln.length kn pp lp.length kp)::T)) w w' ((pb,31,v.cells)::(T++Tn))/\Holds' (T++Tn) v.ok:=by
 refine c_enter (args:=[pt pb]) (m:=112) (n:=113) Tryd.func39 rfl (by kernel_rfl) (by kernel_rfl) fun fr hA=>?_
 generalize inT ((pb,31,cS mo po inp (some aj) (((⟨some ax,xc,(⟨some ay,yc,yd⟩::rc),xb⟩:JV)::rj).length) kj rd wr pv pn ln.length kn pp lp.length kp)::T)=M at *
 have hO:Ow Tryd.prog M w w ([(pb,31,(cS mo po inp (some aj) (((⟨some ax,xc,(⟨some ay,yc,yd⟩::rc),xb⟩:JV)::rj).length) kj rd wr pv pn ln.length kn pp lp.length kp))]++(T++([]))):=h0.to (by first | rfl | first | rfl | (simp only [TP,apd]))
 have hm_cj:((⟨some ax,xc,(⟨some ay,yc,yd⟩::rc),xb⟩:JV)::rj).length<=kj:=hm.cj
 have hm_jl:((⟨some ax,xc,(⟨some ay,yc,yd⟩::rc),xb⟩:JV)::rj).length<=1000000:=smL.len hm.j
 obtain ⟨hxl,hxv⟩:=vl_hd hvl
 have hxl : 1<=(⟨some ay,yc,yd⟩::rc).length/\(⟨some ay,yc,yd⟩::rc).length<=4:=hxl
 have hyv:validC yd=true:=hxv ⟨some ay,yc,yd⟩ List.mem_cons_self
 obtain ⟨hwl,hws⟩:=vc_words hyv
 obtain ⟨z1,hx1⟩ : ∃ x,(yd.words)[0]? = some x:=⟨_,getD_at _ ⟨#[]⟩ (by first | omega | exact Nat.zero_lt_succ _)⟩
 have hpos_ : 0 < ((⟨some ax,xc,(⟨some ay,yc,yd⟩::rc),xb⟩:JV)::rj).length:=Nat.zero_lt_succ _
 have hie:=isExit_eq (p:=some ay) (c:=yc) (r:=rc) hx1
 unfold exitW at hie
 refine sr 2 ?_
 refine Mn [i64 0,i64 0,i64 0,i64 0,.slice none 0 0] 35 2 hA hO fun fr w1 b1 hA hO=>?_
 refine Ka 1 [(3,bl false)] hA fun fr hA=>?_
 refine end_ops ?_
 refine then_normal ?_
 refine sr 8 ?_
 refine Kb 6 [(11,.agg #[.slice (some ax) ((⟨some ay,yc,yd⟩::rc).length) xc,bl xb])] hA [.slice (some aj) (((⟨some ax,xc,(⟨some ay,yc,yd⟩::rc),xb⟩:JV)::rj).length) kj,.agg #[.slice (some ax) ((⟨some ay,yc,yd⟩::rc).length) xc,bl xb]] (cc (hO.l1 1 3 27 (.slice (some aj) (((⟨some ax,xc,(⟨some ay,yc,yd⟩::rc),xb⟩:JV)::rj).length) kj)) (cc (⟨by omega,by omega⟩:(0:Int)<=0/\0 < ((((⟨some ax,xc,(⟨some ay,yc,yd⟩::rc),xb⟩:JV)::rj).length:Nat):Int)) (cc ((((Holds'.at (A:=[_,_]) hG hO.m).j.1).ldn encJ (rfl:((⟨some ax,xc,(⟨some ay,yc,yd⟩::rc),xb⟩:JV)::rj)[0]? = some (⟨some ax,xc,(⟨some ay,yc,yd⟩::rc),xb⟩:JV))):Ld Tryd.prog w1 (aj.add 0) 64 (.agg #[.slice (some ax) ((⟨some ay,yc,yd⟩::rc).length) xc,bl xb])) c0))) fun fr hA=>?_
 refine Mn [.slice none 0 0,bl false] 64 4 hA hO fun fr w2 b2 hA hO=>?_
 refine Ms 0 [.slice (some ax) ((⟨some ay,yc,yd⟩::rc).length) xc,bl xb] 0 hA hO fun w3 hO=>?_
 refine end_ops ?_
 refine then_normal ?_
 refine Sb [(5,i64 (((⟨some ay,yc,yd⟩::rc).length:Nat):Int))] hA [.slice (some ax) ((⟨some ay,yc,yd⟩::rc).length) xc] (cc (hO.l1 0 0 62 (.slice (some ax) ((⟨some ay,yc,yd⟩::rc).length) xc)) c0) fun fr hA=>?_
 refine wp_seq ?_
 refine wp_block ?_
 refine sJ (fun fr W=>Holds 113 [] fr [(0,pt pb),(2,pt b1),(3,bl false),(4,pt b2),(5,i64 (((⟨some ay,yc,yd⟩::rc).length:Nat):Int)),(26,bl (isExit ((⟨some ay,yc,yd⟩::rc).map CV.d) && (po == 0)))]/\Ow Tryd.prog M w W ([(b2,64,[.slice (some ax) ((⟨some ay,yc,yd⟩::rc).length) xc,bl xb]),(b1,35,[i64 0,i64 0,i64 0,i64 0,.slice none 0 0]),(pb,31,(cS mo po inp (some aj) (((⟨some ax,xc,(⟨some ay,yc,yd⟩::rc),xb⟩:JV)::rj).length) kj rd wr pv pn ln.length kn pp lp.length kp))]++(T++([])))/\True) ?_ ?_
 · rintro fr w4 ⟨hA,hO,-⟩
   rcases Bool.eq_false_or_eq_true (isExit ((⟨some ay,yc,yd⟩::rc).map CV.d) && (po == 0)) with h1 | h1
   · rw [h1] at hA
     have hye:=of_and_beq h1
     refine cT hA ?_
     refine sr 4 ?_
     refine Ka 3 [(48,pt pb)] hA fun fr hA=>?_
     refine Ms 0 [i64 7] 2 hA hO fun w5 hO=>?_
     refine end_ops ?_
     refine then_normal ?_
     refine sr 9 ?_
     refine Kb 4 [(52,.agg #[.slice (some ay) yd.words.length yc,str yd.inp,str yd.out,bl yd.app])] hA [.slice (some ax) ((⟨some ay,yc,yd⟩::rc).length) xc,.agg #[.slice (some ay) yd.words.length yc,str yd.inp,str yd.out,bl yd.app]] (cc (hO.l1 0 0 62 (.slice (some ax) ((⟨some ay,yc,yd⟩::rc).length) xc)) (cc (⟨by omega,by omega⟩:(0:Int)<=0/\0 < (((⟨some ay,yc,yd⟩::rc).length:Nat):Int)) (cc ((((show Vw fC _ (.slice (some ax) (⟨some ay,yc,yd⟩::rc).length xc) (⟨some ay,yc,yd⟩::rc)/\∀ y∈(⟨some ay,yc,yd⟩::rc),VC _ y from (Holds'.at (A:=[_,_,_]) hG hO.m).j.2 _ List.mem_cons_self).1).ldn encC (rfl:((⟨some ay,yc,yd⟩::rc):List CV)[0]? = some ⟨some ay,yc,yd⟩)):Ld Tryd.prog w5 (ax.add 0) 66 (.agg #[.slice (some ay) yd.words.length yc,str yd.inp,str yd.out,bl yd.app])) c0))) fun fr hA=>?_
     refine Mk 53 hA hO Tryd.func50 (code_any (some ay) yc yd _ (show Vw fT _ (.slice (some ay) yd.words.length yc) yd.words from (show Vw fC _ (.slice (some ax) (⟨some ay,yc,yd⟩::rc).length xc) (⟨some ay,yc,yd⟩::rc)/\∀ y∈(⟨some ay,yc,yd⟩::rc),VC _ y from (Holds'.at (A:=[_,_,_]) hG hO.m).j.2 _ List.mem_cons_self).2 _ List.mem_cons_self) (hE _ hO.only) (fun z hz=>⟨(hws z hz).1,by have:=(hws z hz).2; omega⟩)) fun fr w6 hA hO=>?_
     refine Mv [i64 (codeW yd.words)] 3 1 54 hA hO fun fr w7 b3 hA hO=>?_
     refine Mk 55 hA hO Tryd.func12 (call_1 0 (codeW yd.words) ⟨b3,0,none⟩ 1 _ ((hO.b 0).vw (off:=0) (xs:=[codeW yd.words]) (by kernel_rfl))) fun fr w8 hA hO=>?_
     refine Ms 0 [i64 0,i64 (codeW yd.words),i64 0,i64 0,.slice none 0 0] 2 hA hO fun w9 hO=>?_
     refine Ka 1 [(3,bl true)] hA fun fr hA=>?_
     refine end_ops ?_
     refine then_normal ?_
     refine wp_ret ?_
     refine inBlock_ret ?_
     refine then_ret ?_
     refine cR (cs:=[some (⟨b1,0,none⟩,35),none]) (us:=[.agg #[i64 0,i64 (codeW yd.words),i64 0,i64 0,.slice none 0 0],bl true]) hA [.agg #[i64 0,i64 (codeW yd.words),i64 0,i64 0,.slice none 0 0]] ⟨(hO.ln 2 0 35 [i64 0,i64 (codeW yd.words),i64 0,i64 0,.slice none 0 0]),trivial⟩ ?_
     replace hO:Ow Tryd.prog M w w9 ([(b3,3,[i64 (codeW yd.words)]),(b2,64,[.slice (some ax) ((⟨some ay,yc,yd⟩::rc).length) xc,bl xb]),(b1,35,[i64 0,i64 (codeW yd.words),i64 0,i64 0,.slice none 0 0]),(pb,31,(cS 7 po inp (some aj) (((⟨some ax,xc,(⟨some ay,yc,yd⟩::rc),xb⟩:JV)::rj).length) kj rd wr pv pn ln.length kn pp lp.length kp))]++(T++([]))):=hO
     exact ⟨(⟨7,po,inp,some aj,kj,((⟨some ax,xc,(⟨some ay,yc,yd⟩::rc),xb⟩:JV)::rj),rd,wr,pv,pn,kn,ln,pp,kp,lp⟩:SV),callL 0 (codeW yd.words) 0,true,([]),sj_a hye.1 hye.2,rfl,⟨hm.i,hm.j,hm.k,hm.p,hm.ck,hm.cj,hm.cp⟩,rfl,(show Ow Tryd.prog M w _ ((pb,31,cS 7 po inp (some aj) (((⟨some ax,xc,(⟨some ay,yc,yd⟩::rc),xb⟩:JV)::rj).length) kj rd wr pv pn ln.length kn pp lp.length kp)::(T++([]))) from ((Ow.subP (A:=[_,_,_,_]) hO (.cons _ (.cons _ (.cons _ (.cons_cons _ .slnil)))))).tt),((ok3 (T:=T++([])) (x:=(⟨7,po,inp,some aj,kj,((⟨some ax,xc,(⟨some ay,yc,yd⟩::rc),xb⟩:JV)::rj),rd,wr,pv,pn,kn,ln,pp,kp,lp⟩:SV)) ((hG.mono fun _ h_=>h_.j).l) ((hG.mono fun _ h_=>h_.k).l) ((hG.mono fun _ h_=>h_.p).l)).tt)⟩
   rw [h1] at hA
   have hne:=not_and_beq h1
   refine cF hA ?_
   refine sJ (fun fr W=>Holds 113 [] fr [(0,pt pb),(2,pt b1),(3,bl false),(4,pt b2),(5,i64 (((⟨some ay,yc,yd⟩::rc).length:Nat):Int)),(56,bl ((po == 0) && longJ ((⟨some ay,yc,yd⟩::rc).map CV.d)))]/\Ow Tryd.prog M w W ([(b2,64,[.slice (some ax) ((⟨some ay,yc,yd⟩::rc).length) xc,bl xb]),(b1,35,[i64 0,i64 0,i64 0,i64 0,.slice none 0 0]),(pb,31,(cS mo po inp (some aj) (((⟨some ax,xc,(⟨some ay,yc,yd⟩::rc),xb⟩:JV)::rj).length) kj rd wr pv pn ln.length kn pp lp.length kp))]++(T++([])))/\True) ?_ ?_
   · rintro fr w10 ⟨hA,hO,-⟩
     rcases Bool.eq_false_or_eq_true ((po == 0) && longJ ((⟨some ay,yc,yd⟩::rc).map CV.d)) with h2 | h2
     · rw [h2] at hA
       have hyl:=of_beq_and h2
       refine cT hA ?_
       refine sr 2 ?_
       refine Ka 1 [(67,pt pb)] hA fun fr hA=>?_
       replace hO:Ow Tryd.prog M w w10 ([(b2,64,[.slice (some ax) ((⟨some ay,yc,yd⟩::rc).length) xc,bl xb]),(b1,35,[i64 0,i64 0,i64 0,i64 0,.slice none 0 0]),(pb,31,(cS mo po inp (some aj) (((⟨some ax,xc,(⟨some ay,yc,yd⟩::rc),xb⟩:JV)::rj).length) kj rd wr pv pn ln.length kn pp lp.length kp))]++(T++([]))):=hO
       refine wpOps_cons' (mC (d:=(some 68)) hA Tryd.func53 ((finish_any pb mo po inp aj kj (⟨some ax,xc,(⟨some ay,yc,yd⟩::rc),xb⟩:JV) rj rd wr pv pn kn ln pp kp lp _ (Ow.self (A:=[_,_]) (hO.tt)) hm_cj).mono ?_))
       rintro en w11 ⟨rfl,p1,k1,hW,hcap1,hvt1⟩
       refine ⟨_,rfl,?_⟩
       clear hA fr; intro fr hA
       replace hO:=Ow.pass (A:=[_,_]) hO hW; clear hW
       replace hO:Ow Tryd.prog M w w11 ([(b2,64,[.slice (some ax) ((⟨some ay,yc,yd⟩::rc).length) xc,bl xb]),(b1,35,[i64 0,i64 0,i64 0,i64 0,.slice none 0 0]),(pb,31,(cS mo po inp p1 rj.length k1 rd wr pv pn ln.length kn pp lp.length kp))]++(T++([]))):=hO.to (by first | rfl | (simp only [TP,apd]))
       refine end_ops ?_
       refine then_normal ?_
       refine rr 4 ?_
       refine Ka 1 [(69,pt pb)] hA fun fr hA=>?_
       replace hO:Ow Tryd.prog M w w11 ([(b2,64,[.slice (some ax) ((⟨some ay,yc,yd⟩::rc).length) xc,bl xb]),(b1,35,[i64 0,i64 0,i64 0,i64 0,.slice none 0 0]),(pb,31,(cS mo po inp p1 rj.length k1 rd wr pv pn ln.length kn pp lp.length kp))]++(T++([]))):=hO
       refine wpOps_cons' (mC (d:=(some 70)) hA Tryd.func45 ((telling_any _).mono ?_))
       rintro en w12 ⟨p2,c1,T1,rfl,hT1,hW⟩
       refine ⟨_,rfl,?_⟩
       clear hA fr; intro fr hA
       replace hO:=Ow.join hO hW; clear hW
       replace hO:Ow Tryd.prog M w _ ([(b2,64,[.slice (some ax) ((⟨some ay,yc,yd⟩::rc).length) xc,bl xb]),(b1,35,[i64 0,i64 0,i64 0,i64 0,.slice none 0 0]),(pb,31,(cS mo po inp p1 rj.length k1 rd wr pv pn ln.length kn pp lp.length kp))]++(T++(T1++([])))):=hO.to (by first | rfl | (simp only [TP,apd]))
       refine Mv [i64 10,i64 2,i64 0,i64 0,.slice p2 (([63,10]:List Int).length) c1] 35 1 71 hA hO fun fr w13 b4 hA hO=>?_
       replace hO:Ow Tryd.prog M w w13 ([(b4,35,[i64 10,i64 2,i64 0,i64 0,.slice p2 (([63,10]:List Int).length) c1]),(b2,64,[.slice (some ax) ((⟨some ay,yc,yd⟩::rc).length) xc,bl xb]),(b1,35,[i64 0,i64 0,i64 0,i64 0,.slice none 0 0]),(pb,31,(cS mo po inp p1 rj.length k1 rd wr pv pn ln.length kn pp lp.length kp))]++(T++(T1++([])))):=hO
       refine wpOps_cons' (mC (d:=(some 72)) hA Tryd.func44 ((plan_any pb mo po inp p1 k1 rj rd wr pv pn kn ln pp kp lp ⟨p2,c1,⟨10,2,0,0,[63,10]⟩⟩ ⟨b4,0,none⟩ 1 _ (Ow.self (A:=[_,_,_]) (hO.tt)) (mkeep (A:=[_,_,_]) (Q:=(fun w_=>Vw fP w_ (.slice pp lp.length kp) lp)) ((hG.mono fun _ h_=>h_.p.1).l) (hO.tt:Ow Tryd.prog M w _ (([(b4,35,[i64 10,i64 2,i64 0,i64 0,.slice p2 (([63,10]:List Int).length) c1]),(b2,64,[.slice (some ax) ((⟨some ay,yc,yd⟩::rc).length) xc,bl xb]),(b1,35,[i64 0,i64 0,i64 0,i64 0,.slice none 0 0])]++[(pb,31,cS mo po inp p1 rj.length k1 rd wr pv pn ln.length kn pp lp.length kp)])++((T++(T1++([])))++[])))) (fun w_ k_=>((mrest (A:=[_,_,_]) (hO.tt:Ow Tryd.prog M w _ (([(b4,35,[i64 10,i64 2,i64 0,i64 0,.slice p2 (([63,10]:List Int).length) c1]),(b2,64,[.slice (some ax) ((⟨some ay,yc,yd⟩::rc).length) xc,bl xb]),(b1,35,[i64 0,i64 0,i64 0,i64 0,.slice none 0 0])]++[(pb,31,cS mo po inp p1 rj.length k1 rd wr pv pn ln.length kn pp lp.length kp)])++((T++(T1++([])))++[]))) k_).b 0).vw (off:=0) (xs:=([⟨p2,c1,⟨10,2,0,0,[63,10]⟩⟩]:List PV)) (by kernel_rfl)) (by omega)).mono ?_))
       rintro en w14 ⟨rfl,p3,k2,T2,hT2,hW⟩
       refine ⟨_,rfl,?_⟩
       clear hA fr; intro fr hA
       replace hO:=Ow.pass2 (A:=[_,_,_]) hO hW; clear hW
       replace hO:Ow Tryd.prog M w w14 ([(b4,35,[i64 10,i64 2,i64 0,i64 0,.slice p2 (([63,10]:List Int).length) c1]),(b2,64,[.slice (some ax) ((⟨some ay,yc,yd⟩::rc).length) xc,bl xb]),(b1,35,[i64 0,i64 0,i64 0,i64 0,.slice none 0 0]),(pb,31,(cS mo po inp p1 rj.length k1 rd wr pv pn ln.length kn p3 ((lp++([⟨p2,c1,⟨10,2,0,0,[63,10]⟩⟩]:List PV)).length) k2))]++(T++(T1++(T2++([]))))):=hO.to (by first | rfl | (simp only [TP,apd]))
       refine end_ops ?_
       refine inBlock_normal ?_
       refine then_normal ?_
       refine sr 3 ?_
       refine Ka 1 [(112,.agg #[i64 0,i64 0,i64 0,i64 0,.slice none 0 0])] hA fun fr hA=>?_
       refine Ms 0 [i64 0,i64 0,i64 0,i64 0,.slice none 0 0] 2 hA hO fun w15 hO=>?_
       refine Ka 1 [] hA fun fr hA=>?_
       refine end_ops ?_
       refine then_normal ?_
       refine wp_ret ?_
       refine cR (cs:=[some (⟨b1,0,none⟩,35),none]) (us:=[.agg #[i64 0,i64 0,i64 0,i64 0,.slice none 0 0],bl false]) hA [.agg #[i64 0,i64 0,i64 0,i64 0,.slice none 0 0]] ⟨(hO.ln 2 0 35 [i64 0,i64 0,i64 0,i64 0,.slice none 0 0]),trivial⟩ ?_
       have heq_:SV.d (⟨mo,po,inp,p1,k1,rj,rd,wr,pv,pn,kn,ln,p3,k2,lp++([⟨p2,c1,⟨10,2,0,0,[63,10]⟩⟩]:List PV)⟩:SV) = {SV.d (⟨mo,po,inp,some aj,kj,((⟨some ax,xc,(⟨some ay,yc,yd⟩::rc),xb⟩:JV)::rj),rd,wr,pv,pn,kn,ln,pp,kp,lp⟩:SV) with jobs:=rj.map JV.d,plan:=(SV.d (⟨mo,po,inp,some aj,kj,((⟨some ax,xc,(⟨some ay,yc,yd⟩::rc),xb⟩:JV)::rj),rd,wr,pv,pn,kn,ln,pp,kp,lp⟩:SV)).plan++[tellL]}:=by unfold SV.d; simp only [List.map_append]; rfl
       replace hO:Ow Tryd.prog M w w15 ([(b4,35,[i64 10,i64 2,i64 0,i64 0,.slice p2 (([63,10]:List Int).length) c1]),(b2,64,[.slice (some ax) ((⟨some ay,yc,yd⟩::rc).length) xc,bl xb]),(b1,35,[i64 0,i64 0,i64 0,i64 0,.slice none 0 0]),(pb,31,(cS mo po inp p1 rj.length k1 rd wr pv pn ln.length kn p3 ((lp++([⟨p2,c1,⟨10,2,0,0,[63,10]⟩⟩]:List PV)).length) k2))]++(T++(T1++(T2++([]))))):=hO
       exact ⟨(⟨mo,po,inp,p1,k1,rj,rd,wr,pv,pn,kn,ln,p3,k2,lp++([⟨p2,c1,⟨10,2,0,0,[63,10]⟩⟩]:List PV)⟩:SV),callL 0 0 0,false,(T1++(T2++([]))),(sj_b hne hyl).trans (congrArg (fun z=>(z,none)) heq_.symm),rfl,⟨hm.i,sm_tl hm.j,hm.k,(by show (lp++[_]).length<=_; rw [List.length_append,hp0]; show 0+1<=_; omega),hm.ck,hcap1,hT2.le⟩,rfl,(show Ow Tryd.prog M w _ ((pb,31,cS mo po inp p1 rj.length k1 rd wr pv pn ln.length kn p3 ((lp++([⟨p2,c1,⟨10,2,0,0,[63,10]⟩⟩]:List PV)).length) k2)::(T++(T1++(T2++([]))))) from ((Ow.subP (A:=[_,_,_,_]) hO (.cons _ (.cons _ (.cons _ (.cons_cons _ .slnil)))))).tt),((ok3 (T:=T++(T1++(T2++([])))) (x:=(⟨mo,po,inp,p1,k1,rj,rd,wr,pv,pn,kn,ln,p3,k2,lp++([⟨p2,c1,⟨10,2,0,0,[63,10]⟩⟩]:List PV)⟩:SV)) ((hG.mono fun w_ h_=>hvt1 w_ h_.j).l) ((hG.mono fun _ h_=>h_.k).l) (pl_app (T:=T++(T1++(T2++([])))) (hT2.holds.l.r.r) ((hG.mono fun _ h_=>h_.p.2).l) (vp_one (x:=⟨p2,c1,⟨10,2,0,0,[63,10]⟩⟩) (hT1.holds.l.r) tell_u8))).tt)⟩
     rw [h2] at hA
     have hnl:=not_beq_and h2
     refine cF hA ?_
     refine Sb [(73,bl (po == ((((⟨some ay,yc,yd⟩::rc).length:Nat):Int) - 1)))] hA [i64 po,bl true] (cc (hO.l1 2 1 3 (i64 po)) (cc ((inK_i64 (by omega) (by omega)):inK .i64 ((((⟨some ay,yc,yd⟩::rc).length:Nat):Int) - 1)) c0)) fun fr hA=>?_
     rcases Bool.eq_false_or_eq_true (po == ((((⟨some ay,yc,yd⟩::rc).length:Nat):Int) - 1)) with h3 | h3
     · rw [h3] at hA
       have h3p:=eq_of_beq h3
       refine cT hA ?_
       refine sr 4 ?_
       refine Ka 3 [(83,pt pb)] hA fun fr hA=>?_
       refine Ms 0 [i64 4] 2 hA hO fun w16 hO=>?_
       refine end_ops ?_
       refine then_normal ?_
       refine sr 3 ?_
       refine Mk 84 hA hO Tryd.func12 (call_0 1 _) fun fr w17 hA hO=>?_
       refine Ms 0 [i64 1,i64 0,i64 0,i64 0,.slice none 0 0] 1 hA hO fun w18 hO=>?_
       refine Ka 1 [(3,bl true)] hA fun fr hA=>?_
       refine end_ops ?_
       refine then_normal ?_
       refine wp_ret ?_
       refine inBlock_ret ?_
       refine then_ret ?_
       refine cR (cs:=[some (⟨b1,0,none⟩,35),none]) (us:=[.agg #[i64 1,i64 0,i64 0,i64 0,.slice none 0 0],bl true]) hA [.agg #[i64 1,i64 0,i64 0,i64 0,.slice none 0 0]] ⟨(hO.ln 1 0 35 [i64 1,i64 0,i64 0,i64 0,.slice none 0 0]),trivial⟩ ?_
       replace hO:Ow Tryd.prog M w w18 ([(b2,64,[.slice (some ax) ((⟨some ay,yc,yd⟩::rc).length) xc,bl xb]),(b1,35,[i64 1,i64 0,i64 0,i64 0,.slice none 0 0]),(pb,31,(cS 4 po inp (some aj) (((⟨some ax,xc,(⟨some ay,yc,yd⟩::rc),xb⟩:JV)::rj).length) kj rd wr pv pn ln.length kn pp lp.length kp))]++(T++([]))):=hO
       exact ⟨(⟨4,po,inp,some aj,kj,((⟨some ax,xc,(⟨some ay,yc,yd⟩::rc),xb⟩:JV)::rj),rd,wr,pv,pn,kn,ln,pp,kp,lp⟩:SV),callL 1 0 0,true,([]),sj_c hne hnl (by omega),rfl,⟨hm.i,hm.j,hm.k,hm.p,hm.ck,hm.cj,hm.cp⟩,rfl,(show Ow Tryd.prog M w _ ((pb,31,cS 4 po inp (some aj) (((⟨some ax,xc,(⟨some ay,yc,yd⟩::rc),xb⟩:JV)::rj).length) kj rd wr pv pn ln.length kn pp lp.length kp)::(T++([]))) from ((Ow.subP (A:=[_,_,_]) hO (.cons _ (.cons _ (.cons_cons _ .slnil))))).tt),((ok3 (T:=T++([])) (x:=(⟨4,po,inp,some aj,kj,((⟨some ax,xc,(⟨some ay,yc,yd⟩::rc),xb⟩:JV)::rj),rd,wr,pv,pn,kn,ln,pp,kp,lp⟩:SV)) ((hG.mono fun _ h_=>h_.j).l) ((hG.mono fun _ h_=>h_.k).l) ((hG.mono fun _ h_=>h_.p).l)).tt)⟩
     rw [h3] at hA
     have h3p:=ne_of_beq_false h3
     refine cF hA ?_
     refine Sb [(85,bl (decide (po < (((⟨some ay,yc,yd⟩::rc).length:Nat):Int))))] hA [i64 po] (cc (hO.l1 2 1 3 (i64 po)) c0) fun fr hA=>?_
     rcases Bool.eq_false_or_eq_true (decide (po < (((⟨some ay,yc,yd⟩::rc).length:Nat):Int))) with h4 | h4
     · rw [h4] at hA
       have h4p:=of_decide_eq_true h4
       refine cT hA ?_
       refine sr 4 ?_
       refine Ka 3 [(94,pt pb)] hA fun fr hA=>?_
       refine Ms 0 [i64 3] 2 hA hO fun w19 hO=>?_
       refine end_ops ?_
       refine then_normal ?_
       refine sr 3 ?_
       refine Mk 95 hA hO Tryd.func12 (call_0 11 _) fun fr w20 hA hO=>?_
       refine Ms 0 [i64 11,i64 0,i64 0,i64 0,.slice none 0 0] 1 hA hO fun w21 hO=>?_
       refine Ka 1 [(3,bl true)] hA fun fr hA=>?_
       refine end_ops ?_
       refine then_normal ?_
       refine wp_ret ?_
       refine inBlock_ret ?_
       refine then_ret ?_
       refine cR (cs:=[some (⟨b1,0,none⟩,35),none]) (us:=[.agg #[i64 11,i64 0,i64 0,i64 0,.slice none 0 0],bl true]) hA [.agg #[i64 11,i64 0,i64 0,i64 0,.slice none 0 0]] ⟨(hO.ln 1 0 35 [i64 11,i64 0,i64 0,i64 0,.slice none 0 0]),trivial⟩ ?_
       replace hO:Ow Tryd.prog M w w21 ([(b2,64,[.slice (some ax) ((⟨some ay,yc,yd⟩::rc).length) xc,bl xb]),(b1,35,[i64 11,i64 0,i64 0,i64 0,.slice none 0 0]),(pb,31,(cS 3 po inp (some aj) (((⟨some ax,xc,(⟨some ay,yc,yd⟩::rc),xb⟩:JV)::rj).length) kj rd wr pv pn ln.length kn pp lp.length kp))]++(T++([]))):=hO
       exact ⟨(⟨3,po,inp,some aj,kj,((⟨some ax,xc,(⟨some ay,yc,yd⟩::rc),xb⟩:JV)::rj),rd,wr,pv,pn,kn,ln,pp,kp,lp⟩:SV),callL 11 0 0,true,([]),sj_d hne hnl (by omega) (by omega),rfl,⟨hm.i,hm.j,hm.k,hm.p,hm.ck,hm.cj,hm.cp⟩,rfl,(show Ow Tryd.prog M w _ ((pb,31,cS 3 po inp (some aj) (((⟨some ax,xc,(⟨some ay,yc,yd⟩::rc),xb⟩:JV)::rj).length) kj rd wr pv pn ln.length kn pp lp.length kp)::(T++([]))) from ((Ow.subP (A:=[_,_,_]) hO (.cons _ (.cons _ (.cons_cons _ .slnil))))).tt),((ok3 (T:=T++([])) (x:=(⟨3,po,inp,some aj,kj,((⟨some ax,xc,(⟨some ay,yc,yd⟩::rc),xb⟩:JV)::rj),rd,wr,pv,pn,kn,ln,pp,kp,lp⟩:SV)) ((hG.mono fun _ h_=>h_.j).l) ((hG.mono fun _ h_=>h_.k).l) ((hG.mono fun _ h_=>h_.p).l)).tt)⟩
     rw [h4] at hA
     have h4p:=of_decide_eq_false h4
     refine cF hA ?_
     refine sJ (fun fr W=>Holds 113 [] fr [(0,pt pb),(2,pt b1),(3,bl false),(96,bl ((!xb) && (decide (((ln.length:Nat):Int) > 0))))]/\Ow Tryd.prog M w W ([(b2,64,[.slice (some ax) ((⟨some ay,yc,yd⟩::rc).length) xc,bl xb]),(b1,35,[i64 0,i64 0,i64 0,i64 0,.slice none 0 0]),(pb,31,(cS mo po inp (some aj) (((⟨some ax,xc,(⟨some ay,yc,yd⟩::rc),xb⟩:JV)::rj).length) kj rd wr pv pn ln.length kn pp lp.length kp))]++(T++([])))/\True) ?_ ?_
     · rintro fr w22 ⟨hA,hO,-⟩
       rcases Bool.eq_false_or_eq_true ((!xb) && (decide (((ln.length:Nat):Int) > 0))) with h5 | h5
       · rw [h5] at hA
         have hyw:=of_wt h5
         refine cT hA ?_
         refine sr 4 ?_
         refine Ka 3 [(110,pt pb)] hA fun fr hA=>?_
         refine Ms 0 [i64 5] 2 hA hO fun w23 hO=>?_
         refine end_ops ?_
         refine then_normal ?_
         refine sr 3 ?_
         refine Mk 111 hA hO Tryd.func12 (call_0 3 _) fun fr w24 hA hO=>?_
         refine Ms 0 [i64 3,i64 0,i64 0,i64 0,.slice none 0 0] 1 hA hO fun w25 hO=>?_
         refine Ka 1 [(3,bl true)] hA fun fr hA=>?_
         refine end_ops ?_
         refine then_normal ?_
         refine wp_ret ?_
         refine inBlock_ret ?_
         refine then_ret ?_
         refine cR (cs:=[some (⟨b1,0,none⟩,35),none]) (us:=[.agg #[i64 3,i64 0,i64 0,i64 0,.slice none 0 0],bl true]) hA [.agg #[i64 3,i64 0,i64 0,i64 0,.slice none 0 0]] ⟨(hO.ln 1 0 35 [i64 3,i64 0,i64 0,i64 0,.slice none 0 0]),trivial⟩ ?_
         replace hO:Ow Tryd.prog M w w25 ([(b2,64,[.slice (some ax) ((⟨some ay,yc,yd⟩::rc).length) xc,bl xb]),(b1,35,[i64 3,i64 0,i64 0,i64 0,.slice none 0 0]),(pb,31,(cS 5 po inp (some aj) (((⟨some ax,xc,(⟨some ay,yc,yd⟩::rc),xb⟩:JV)::rj).length) kj rd wr pv pn ln.length kn pp lp.length kp))]++(T++([]))):=hO
         exact ⟨(⟨5,po,inp,some aj,kj,((⟨some ax,xc,(⟨some ay,yc,yd⟩::rc),xb⟩:JV)::rj),rd,wr,pv,pn,kn,ln,pp,kp,lp⟩:SV),callL 3 0 0,true,([]),sj_e hne hnl (by omega) (by omega) hyw,rfl,⟨hm.i,hm.j,hm.k,hm.p,hm.ck,hm.cj,hm.cp⟩,rfl,(show Ow Tryd.prog M w _ ((pb,31,cS 5 po inp (some aj) (((⟨some ax,xc,(⟨some ay,yc,yd⟩::rc),xb⟩:JV)::rj).length) kj rd wr pv pn ln.length kn pp lp.length kp)::(T++([]))) from ((Ow.subP (A:=[_,_,_]) hO (.cons _ (.cons _ (.cons_cons _ .slnil))))).tt),((ok3 (T:=T++([])) (x:=(⟨5,po,inp,some aj,kj,((⟨some ax,xc,(⟨some ay,yc,yd⟩::rc),xb⟩:JV)::rj),rd,wr,pv,pn,kn,ln,pp,kp,lp⟩:SV)) ((hG.mono fun _ h_=>h_.j).l) ((hG.mono fun _ h_=>h_.k).l) ((hG.mono fun _ h_=>h_.p).l)).tt)⟩
       rw [h5] at hA
       have hnw:=not_wt h5
       refine cF hA ?_
       refine sr 2 ?_
       refine Ka 1 [(15,pt pb)] hA fun fr hA=>?_
       replace hO:Ow Tryd.prog M w w22 ([(b2,64,[.slice (some ax) ((⟨some ay,yc,yd⟩::rc).length) xc,bl xb]),(b1,35,[i64 0,i64 0,i64 0,i64 0,.slice none 0 0]),(pb,31,(cS mo po inp (some aj) (((⟨some ax,xc,(⟨some ay,yc,yd⟩::rc),xb⟩:JV)::rj).length) kj rd wr pv pn ln.length kn pp lp.length kp))]++(T++([]))):=hO
       refine wpOps_cons' (mC (d:=(some 16)) hA Tryd.func53 ((finish_any pb mo po inp aj kj (⟨some ax,xc,(⟨some ay,yc,yd⟩::rc),xb⟩:JV) rj rd wr pv pn kn ln pp kp lp _ (Ow.self (A:=[_,_]) (hO.tt)) hm_cj).mono ?_))
       rintro en w26 ⟨rfl,p4,k3,hW,hcap2,hvt2⟩
       refine ⟨_,rfl,?_⟩
       clear hA fr; intro fr hA
       replace hO:=Ow.pass (A:=[_,_]) hO hW; clear hW
       replace hO:Ow Tryd.prog M w w26 ([(b2,64,[.slice (some ax) ((⟨some ay,yc,yd⟩::rc).length) xc,bl xb]),(b1,35,[i64 0,i64 0,i64 0,i64 0,.slice none 0 0]),(pb,31,(cS mo po inp p4 rj.length k3 rd wr pv pn ln.length kn pp lp.length kp))]++(T++([]))):=hO.to (by first | rfl | (simp only [TP,apd]))
       refine end_ops ?_
       refine then_normal ?_
       refine rr 12 ?_
       refine Ka 5 [(18,pt pb),(19,pt pb),(21,pf pb 7)] hA fun fr hA=>?_
       refine Ms 7 [.slice none 0 0] 2 hA hO fun w27 hO=>?_
       refine Ka 2 [(23,pf pb 1)] hA fun fr hA=>?_
       refine Ms 1 [i64 0] 2 hA hO fun w28 hO=>?_
       refine Ka 2 [(25,pf pb 6)] hA fun fr hA=>?_
       refine Ms 6 [i64 (-1)] 2 hA hO fun w29 hO=>?_
       refine end_ops ?_
       refine inBlock_normal ?_
       refine then_normal ?_
       refine sr 3 ?_
       refine Ka 1 [(112,.agg #[i64 0,i64 0,i64 0,i64 0,.slice none 0 0])] hA fun fr hA=>?_
       refine Ms 0 [i64 0,i64 0,i64 0,i64 0,.slice none 0 0] 1 hA hO fun w30 hO=>?_
       refine Ka 1 [] hA fun fr hA=>?_
       refine end_ops ?_
       refine then_normal ?_
       refine wp_ret ?_
       refine cR (cs:=[some (⟨b1,0,none⟩,35),none]) (us:=[.agg #[i64 0,i64 0,i64 0,i64 0,.slice none 0 0],bl false]) hA [.agg #[i64 0,i64 0,i64 0,i64 0,.slice none 0 0]] ⟨(hO.ln 1 0 35 [i64 0,i64 0,i64 0,i64 0,.slice none 0 0]),trivial⟩ ?_
       replace hO:Ow Tryd.prog M w w30 ([(b2,64,[.slice (some ax) ((⟨some ay,yc,yd⟩::rc).length) xc,bl xb]),(b1,35,[i64 0,i64 0,i64 0,i64 0,.slice none 0 0]),(pb,31,(cS mo 0 inp p4 rj.length k3 rd wr (-1) none 0 0 pp lp.length kp))]++(T++([]))):=hO
       exact ⟨(⟨mo,0,inp,p4,k3,rj,rd,wr,(-1),none,0,([]:List Int),pp,kp,lp⟩:SV),callL 0 0 0,false,([]),sj_f hne hnl (by omega) (by omega) hnw,rfl,⟨hm.i,sm_tl hm.j,Nat.zero_le _,hm.p,Nat.zero_le _,hcap2,hm.cp⟩,rfl,(show Ow Tryd.prog M w _ ((pb,31,cS mo 0 inp p4 rj.length k3 rd wr (-1) none 0 0 pp lp.length kp)::(T++([]))) from ((Ow.subP (A:=[_,_,_]) hO (.cons _ (.cons _ (.cons_cons _ .slnil))))).tt),((ok3 (T:=T++([])) (x:=(⟨mo,0,inp,p4,k3,rj,rd,wr,(-1),none,0,([]:List Int),pp,kp,lp⟩:SV)) ((hG.mono fun w_ h_=>hvt2 w_ h_.j).l) (fun _ _ _ _=> .inl ⟨rfl,rfl⟩) ((hG.mono fun _ h_=>h_.p).l)).tt)⟩
     refine rr 12 ?_
     refine Kb 4 [(99,bl (!xb)),(100,bl (!xb))] hA [bl xb] (cc (hO.l1 0 1 4 (bl xb)) c0) fun fr hA=>?_
     rcases Bool.eq_false_or_eq_true (xb) with h6 | h6
     · rw [h6] at hA
       refine Ka 8 [(96,bl false)] hA fun fr hA=>?_
       refine end_ops ?_
       refine then_normal ?_
       exact ⟨(hA.sub (e':=[(0,pt pb),(2,pt b1),(3,bl false),(96,bl false)]) [0,2,3,96] (by kernel_rfl)).cast (by (rw [show ((!xb) && (decide (((ln.length:Nat):Int) > 0)))=(false) from by first | (rw [hie,decide_eq_false (show ¬ (⟨some ay,yc,yd⟩::rc).length=1 by omega)]; rfl) | (rw [hie,decide_eq_true (show (⟨some ay,yc,yd⟩::rc).length=1 by omega),Bool.true_and]; simp_all; done) | (simp_all; done)]) <;> kernel_rfl),hO,trivial⟩
     rw [h6] at hA
     refine Kb 8 [(96,bl (decide (((ln.length:Nat):Int) > 0)))] hA [.slice pn ln.length kn] (cc (hO.l1 2 7 28 (.slice pn ln.length kn)) c0) fun fr hA=>?_
     refine end_ops ?_
     refine then_normal ?_
     exact ⟨(hA.sub (e':=[(0,pt pb),(2,pt b1),(3,bl false),(96,bl (decide (((ln.length:Nat):Int) > 0)))]) [0,2,3,96] (by kernel_rfl)).cast (by (rw [show ((!xb) && (decide (((ln.length:Nat):Int) > 0)))=(decide (((ln.length:Nat):Int) > 0)) from by first | (rw [hie,decide_eq_false (show ¬ (⟨some ay,yc,yd⟩::rc).length=1 by omega)]; rfl) | (rw [hie,decide_eq_true (show (⟨some ay,yc,yd⟩::rc).length=1 by omega),Bool.true_and]; simp_all; done) | (simp_all; done)]) <;> kernel_rfl),hO,trivial⟩
   refine rr 11 ?_
   refine Kb 6 [(61,bl (po == 0)),(62,bl (po == 0))] hA [i64 po] (cc (hO.l1 2 1 3 (i64 po)) c0) fun fr hA=>?_
   rcases Bool.eq_false_or_eq_true (po == 0) with h7 | h7
   · rw [h7] at hA
     have h7p:=eq_of_beq h7
     refine Kb 2 [(62,bl true),(64,.slice (some ax) ((⟨some ay,yc,yd⟩::rc).length) xc)] hA [.slice (some ax) ((⟨some ay,yc,yd⟩::rc).length) xc] (cc (hO.l1 0 0 62 (.slice (some ax) ((⟨some ay,yc,yd⟩::rc).length) xc)) c0) fun fr hA=>?_
     refine Mk 65 hA hO Tryd.func51 (ctc_any (some ax) xc (⟨some ay,yc,yd⟩::rc) _ (show Vw fC _ (.slice (some ax) (⟨some ay,yc,yd⟩::rc).length xc) (⟨some ay,yc,yd⟩::rc)/\∀ y∈(⟨some ay,yc,yd⟩::rc),VC _ y from (Holds'.at (A:=[_,_,_]) hG hO.m).j.2 _ List.mem_cons_self).1 (by omega)) fun fr w31 hA hO=>?_
     refine Ka 2 [(56,bl (longJ ((⟨some ay,yc,yd⟩::rc).map CV.d)))] hA fun fr hA=>?_
     refine end_ops ?_
     refine then_normal ?_
     exact ⟨(hA.sub (e':=[(0,pt pb),(2,pt b1),(3,bl false),(4,pt b2),(5,i64 (((⟨some ay,yc,yd⟩::rc).length:Nat):Int)),(56,bl (longJ ((⟨some ay,yc,yd⟩::rc).map CV.d)))]) [0,2,3,4,5,56] (by kernel_rfl)).cast (by (rw [show ((po == 0) && longJ ((⟨some ay,yc,yd⟩::rc).map CV.d))=(longJ ((⟨some ay,yc,yd⟩::rc).map CV.d)) from by first | (rw [hie,decide_eq_false (show ¬ (⟨some ay,yc,yd⟩::rc).length=1 by omega)]; rfl) | (rw [hie,decide_eq_true (show (⟨some ay,yc,yd⟩::rc).length=1 by omega),Bool.true_and]; simp_all; done) | (simp_all; done)]) <;> kernel_rfl),hO,trivial⟩
   rw [h7] at hA
   have h7p:=ne_of_beq_false h7
   refine Ka 5 [(56,bl false)] hA fun fr hA=>?_
   refine end_ops ?_
   refine then_normal ?_
   exact ⟨(hA.sub (e':=[(0,pt pb),(2,pt b1),(3,bl false),(4,pt b2),(5,i64 (((⟨some ay,yc,yd⟩::rc).length:Nat):Int)),(56,bl false)]) [0,2,3,4,5,56] (by kernel_rfl)).cast (by (rw [show ((po == 0) && longJ ((⟨some ay,yc,yd⟩::rc).map CV.d))=(false) from by first | (rw [hie,decide_eq_false (show ¬ (⟨some ay,yc,yd⟩::rc).length=1 by omega)]; rfl) | (rw [hie,decide_eq_true (show (⟨some ay,yc,yd⟩::rc).length=1 by omega),Bool.true_and]; simp_all; done) | (simp_all; done)]) <;> kernel_rfl),hO,trivial⟩
 refine rr 20 ?_
 refine Ka 3 [(28,bl ((((⟨some ay,yc,yd⟩::rc).length:Nat):Int) == 1)),(29,bl ((((⟨some ay,yc,yd⟩::rc).length:Nat):Int) == 1))] hA fun fr hA=>?_
 rcases Bool.eq_false_or_eq_true ((((⟨some ay,yc,yd⟩::rc).length:Nat):Int) == 1) with h8 | h8
 · rw [h8] at hA
   have h8p:=eq_of_beq h8
   refine Kb 10 [(37,bl (z1.toList == (⟨#[101,120,105,116]⟩:ByteArray).toList)),(38,bl (z1.toList == (⟨#[101,120,105,116]⟩:ByteArray).toList)),(39,bl (z1.toList == (⟨#[101,120,105,116]⟩:ByteArray).toList))] hA [.slice (some ax) ((⟨some ay,yc,yd⟩::rc).length) xc,.slice (some ay) yd.words.length yc,str z1] (cc (hO.l1 0 0 62 (.slice (some ax) ((⟨some ay,yc,yd⟩::rc).length) xc)) (cc (⟨by omega,by omega⟩:(0:Int)<=0/\0 < (((⟨some ay,yc,yd⟩::rc).length:Nat):Int)) (cc ((((show Vw fC _ (.slice (some ax) (⟨some ay,yc,yd⟩::rc).length xc) (⟨some ay,yc,yd⟩::rc)/\∀ y∈(⟨some ay,yc,yd⟩::rc),VC _ y from (Holds'.at (A:=[_,_,_]) hG hO.m).j.2 _ List.mem_cons_self).1).ld0 encC (rfl:((⟨some ay,yc,yd⟩::rc):List CV)[0]? = some ⟨some ay,yc,yd⟩) (by rfl)):Ld Tryd.prog w3 (ax.add 0) 25 (.slice (some ay) yd.words.length yc)) (cc (⟨by omega,by omega⟩:(0:Int)<=0/\0 < ((yd.words.length:Nat):Int)) (cc ((((show Vw fT _ (.slice (some ay) yd.words.length yc) yd.words from (show Vw fC _ (.slice (some ax) (⟨some ay,yc,yd⟩::rc).length xc) (⟨some ay,yc,yd⟩::rc)/\∀ y∈(⟨some ay,yc,yd⟩::rc),VC _ y from (Holds'.at (A:=[_,_,_]) hG hO.m).j.2 _ List.mem_cons_self).2 _ List.mem_cons_self)).ldT hx1):Ld Tryd.prog w3 (ay.add 0) 9 (str z1)) c0))))) fun fr hA=>?_
   rcases Bool.eq_false_or_eq_true (z1.toList == (⟨#[101,120,105,116]⟩:ByteArray).toList) with h9 | h9
   · rw [h9] at hA
     refine Kb 7 [(26,bl (po == 0))] hA [i64 po] (cc (hO.l1 2 1 3 (i64 po)) c0) fun fr hA=>?_
     refine end_ops ?_
     refine then_normal ?_
     exact ⟨(hA.sub (e':=[(0,pt pb),(2,pt b1),(3,bl false),(4,pt b2),(5,i64 (((⟨some ay,yc,yd⟩::rc).length:Nat):Int)),(26,bl (po == 0))]) [0,2,3,4,5,26] (by kernel_rfl)).cast (by (rw [show (isExit ((⟨some ay,yc,yd⟩::rc).map CV.d) && (po == 0))=(po == 0) from by first | (rw [hie,decide_eq_false (show ¬ (⟨some ay,yc,yd⟩::rc).length=1 by omega)]; rfl) | (rw [hie,decide_eq_true (show (⟨some ay,yc,yd⟩::rc).length=1 by omega),Bool.true_and]; simp_all; done) | (simp_all; done)]) <;> kernel_rfl),hO,trivial⟩
   rw [h9] at hA
   refine Ka 7 [(26,bl false)] hA fun fr hA=>?_
   refine end_ops ?_
   refine then_normal ?_
   exact ⟨(hA.sub (e':=[(0,pt pb),(2,pt b1),(3,bl false),(4,pt b2),(5,i64 (((⟨some ay,yc,yd⟩::rc).length:Nat):Int)),(26,bl false)]) [0,2,3,4,5,26] (by kernel_rfl)).cast (by (rw [show (isExit ((⟨some ay,yc,yd⟩::rc).map CV.d) && (po == 0))=(false) from by first | (rw [hie,decide_eq_false (show ¬ (⟨some ay,yc,yd⟩::rc).length=1 by omega)]; rfl) | (rw [hie,decide_eq_true (show (⟨some ay,yc,yd⟩::rc).length=1 by omega),Bool.true_and]; simp_all; done) | (simp_all; done)]) <;> kernel_rfl),hO,trivial⟩
 rw [h8] at hA
 have h8p:=ne_of_beq_false h8
 refine Ka 17 [(26,bl false)] hA fun fr hA=>?_
 refine end_ops ?_
 refine then_normal ?_
 exact ⟨(hA.sub (e':=[(0,pt pb),(2,pt b1),(3,bl false),(4,pt b2),(5,i64 (((⟨some ay,yc,yd⟩::rc).length:Nat):Int)),(26,bl false)]) [0,2,3,4,5,26] (by kernel_rfl)).cast (by (rw [show (isExit ((⟨some ay,yc,yd⟩::rc).map CV.d) && (po == 0))=(false) from by first | (rw [hie,decide_eq_false (show ¬ (⟨some ay,yc,yd⟩::rc).length=1 by omega)]; rfl) | (rw [hie,decide_eq_true (show (⟨some ay,yc,yd⟩::rc).length=1 by omega),Bool.true_and]; simp_all; done) | (simp_all; done)]) <;> kernel_rfl),hO,trivial⟩
end Go.Proofs.YtdljjajjonfjbaaDoor
