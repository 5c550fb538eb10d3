import Derived.Test.YtdljjajjonfjbaaGreatDoorStd
import Derived.Test.YtdljjajjonfjbaaGreatDoorShj
import Derived.Test.YtdljjajjonfjbaaGreatDoorParsc
set_option linter.unusedVariables false
set_option linter.unusedSimpArgs false
set_option maxRecDepth 10000
open Go.Value renaming slice->C,agg->D
open Option renaming some->E,none->F
open Go.Proofs.Tryz renaming prog->jP
open List renaming length_cons->jS,mem_cons_self->jX,append_nil->kC
open Nat renaming zero_lt_succ->kJ
namespace Go.Proofs.YtdljjajjonfjbaaGreatDoor
open Go Go.Shelf Go.RowKit Go.Proofs Go.Proofs.Sx
set_option maxHeartbeats 4000000 in
theorem bZ (B:World->Prop) (mo po:Int) (inp:ByteArray) (aj:Addr) (kj:Nat) (ax:Addr) (xc:Nat) (ay:Addr) (yc:Nat) (yd:CmdL) (rc:List CV) (xb:Bool) (rj:List JV) (rd wr pv:Int) (pn:Option Addr) (kn:Nat) (ln:List Int) (pp:Option Addr) (kp:Nat) (f:Nat) (T:OwL) (w:World) (hs:SV.ok (⟨mo,po,inp,E aj,kj,((⟨E ax,xc,(⟨E ay,yc,yd⟩::rc),xb⟩:JV)::rj),rd,wr,pv,pn,kn,ln,pp,kp,[]⟩:SV) w) (hm:SV.sm (⟨mo,po,inp,E aj,kj,((⟨E ax,xc,(⟨E ay,yc,yd⟩::rc),xb⟩:JV)::rj),rd,wr,pv,pn,kn,ln,pp,kp,[]⟩:SV)) (hG:Ao B T (SV.ok (⟨mo,po,inp,E aj,kj,((⟨E ax,xc,(⟨E ay,yc,yd⟩::rc),xb⟩:JV)::rj),rd,wr,pv,pn,kn,ln,pp,kp,[]⟩:SV))) (hvl:As (((⟨E ax,xc,(⟨E ay,yc,yd⟩::rc),xb⟩:JV)::rj).map JV.d)=true) (IH:OnP f) (hf:K7 (SV.d (⟨mo,po,inp,E aj,kj,((⟨E ax,xc,(⟨E ay,yc,yd⟩::rc),xb⟩:JV)::rj),rd,wr,pv,pn,kn,ln,pp,kp,[]⟩:SV))+2<=f+1) :
 Calls jP 40 #[D #[Z mo,Z po,Y inp,C (E aj) (((⟨E ax,xc,(⟨E ay,yc,yd⟩::rc),xb⟩:JV)::rj).length) kj,Z rd,Z wr,Z pv,C pn ln.length kn,C pp (([]:List PV).length) kp]] w fun e w'=>Ex B T w (Dg (f+1) (SV.d (⟨mo,po,inp,E aj,kj,((⟨E ax,xc,(⟨E ay,yc,yd⟩::rc),xb⟩:JV)::rj),rd,wr,pv,pn,kn,ln,pp,kp,[]⟩:SV))) e w':=by
 refine Ak (args:=[D #[Z mo,Z po,Y inp,C (E aj) (((⟨E ax,xc,(⟨E ay,yc,yd⟩::rc),xb⟩:JV)::rj).length) kj,Z rd,Z wr,Z pv,C pn ln.length kn,C pp (([]:List PV).length) kp]]) (m:=153) (n:=154) Tryz.func40 rfl (by kernel_rfl) (by kernel_rfl) fun J V=>?_
 have O:=Ow.nil jP Ag w
 have hm_cj:((⟨E ax,xc,(⟨E ay,yc,yd⟩::rc),xb⟩:JV)::rj).length<=kj:=hm.cj
 have hm_cj2:rj.length+1<=kj:=hm_cj
 have hm_jl:((⟨E ax,xc,(⟨E ay,yc,yd⟩::rc),xb⟩:JV)::rj).length<=1000000:=smL.len hm.j
 obtain ⟨hxl,hxv⟩:=J2 hvl
 have hxl : 1<=(⟨E ay,yc,yd⟩::rc).length/\(⟨E ay,yc,yd⟩::rc).length<=4:=hxl
 have hyv:Ax yd=true:=hxv ⟨E ay,yc,yd⟩ jX
 obtain ⟨hwl,hws⟩:=E9 hyv
 obtain ⟨z1,hx1⟩ : ∃ x,(yd.words)[0]? = E x:=⟨_,Av _ ⟨#[]⟩ (by omega)⟩
 have hpos_ : 0 < ((⟨E ax,xc,(⟨E ay,yc,yd⟩::rc),xb⟩:JV)::rj).length:=kJ _
 have hpos3_:(1:Int)<=((((⟨E ax,xc,(⟨E ay,yc,yd⟩::rc),xb⟩:JV)::rj).length:Nat):Int):=by rw [jS]; omega
 have hie:=Ou (p:=E ay) (c:=yc) (r:=rc) hx1
 unfold Vh at hie
 refine sr 3 ?_
 refine Mn (cS mo po inp (E aj) (((⟨E ax,xc,(⟨E ay,yc,yd⟩::rc),xb⟩:JV)::rj).length) kj rd wr pv pn ln.length kn pp (([]:List PV).length) kp) 54 1 V O fun J w1 b1 V O=>?_
 refine Mn (cS 0 0 (⟨#[]⟩:ByteArray) F 0 0 0 0 0 F 0 0 F 0 0) 54 2 V O fun J w2 b2 V O=>?_
 refine Mn [Z 0,Z 0,Z 0,Z 0,C F 0 0] 59 3 V O fun J w3 b3 V O=>?_
 refine Ab ?_
 refine Aa ?_
 refine wp_seq ?_
 refine Sb [(13,I (decide (((([]:List PV).length:Nat):Int) > 0)))] V [C pp (([]:List PV).length) kp] (cc (O.l1 2 8 52 (C pp (([]:List PV).length) kp)) c0) fun J V=>?_
 rw [(rfl:(decide (((([]:List PV).length:Nat):Int) > 0))=false)] at V
 refine cF V ?_
 refine wp_skip ?_
 refine Aa ?_
 refine wp_seq ?_
 refine Sb [(23,I (((((⟨E ax,xc,(⟨E ay,yc,yd⟩::rc),xb⟩:JV)::rj).length:Nat):Int) == 0))] V [C (E aj) (((⟨E ax,xc,(⟨E ay,yc,yd⟩::rc),xb⟩:JV)::rj).length) kj] (cc (O.l1 2 3 22 (C (E aj) (((⟨E ax,xc,(⟨E ay,yc,yd⟩::rc),xb⟩:JV)::rj).length) kj)) c0) fun J V=>?_
 rw [((beq_eq_false_iff_ne.2 (by simp only [jS]; omega)):(((((⟨E ax,xc,(⟨E ay,yc,yd⟩::rc),xb⟩:JV)::rj).length:Nat):Int) == 0)=false)] at V
 refine cF V ?_
 refine wp_skip ?_
 refine Aa ?_
 refine sr 6 ?_
 refine Kb 4 [(63,D #[C (E ax) ((⟨E ay,yc,yd⟩::rc).length) xc,I xb])] V [C (E aj) (((⟨E ax,xc,(⟨E ay,yc,yd⟩::rc),xb⟩:JV)::rj).length) kj,D #[C (E ax) ((⟨E ay,yc,yd⟩::rc).length) xc,I xb]] (cc (O.l1 2 3 22 (C (E aj) (((⟨E ax,xc,(⟨E ay,yc,yd⟩::rc),xb⟩:JV)::rj).length) kj)) (cc (⟨by omega,by omega⟩:(0:Int)<=0/\0 < ((((⟨E ax,xc,(⟨E ay,yc,yd⟩::rc),xb⟩:JV)::rj).length:Nat):Int)) (cc ((((hs.keep O.only).j.1).ldn Bg (rfl:((⟨E ax,xc,(⟨E ay,yc,yd⟩::rc),xb⟩:JV)::rj)[0]? = E (⟨E ax,xc,(⟨E ay,yc,yd⟩::rc),xb⟩:JV))):Ld jP w3 (aj.add 0) 71 (D #[C (E ax) ((⟨E ay,yc,yd⟩::rc).length) xc,I xb])) c0))) fun J V=>?_
 refine Mn [C F 0 0,I false] 71 8 V O fun J w4 b4 V O=>?_
 refine Ms 0 [C (E ax) ((⟨E ay,yc,yd⟩::rc).length) xc,I xb] 0 V O fun w5 O=>?_
 refine Ab ?_
 refine Aa ?_
 refine Sb [(9,Z (((⟨E ay,yc,yd⟩::rc).length:Nat):Int))] V [C (E ax) ((⟨E ay,yc,yd⟩::rc).length) xc] (cc (O.l1 0 0 69 (C (E ax) ((⟨E ay,yc,yd⟩::rc).length) xc)) c0) fun J V=>?_
 refine wp_seq ?_
 refine wp_block ?_
 refine sJ (fun J W=>Holds 154 [] J [(1,pt b1),(2,pt b2),(3,pt b3),(8,pt b4),(9,Z (((⟨E ay,yc,yd⟩::rc).length:Nat):Int)),(67,I (Bv ((⟨E ay,yc,yd⟩::rc).map CV.d) && (po == 0)))]/\Ow jP Ag w W [(b4,71,[C (E ax) ((⟨E ay,yc,yd⟩::rc).length) xc,I xb]),(b3,59,[Z 0,Z 0,Z 0,Z 0,C F 0 0]),(b2,54,(cS 0 0 (⟨#[]⟩:ByteArray) F 0 0 0 0 0 F 0 0 F 0 0)),(b1,54,(cS mo po inp (E aj) (((⟨E ax,xc,(⟨E ay,yc,yd⟩::rc),xb⟩:JV)::rj).length) kj rd wr pv pn ln.length kn pp (([]:List PV).length) kp))]/\True) ?_ ?_
 ·
  rintro J w6 ⟨V,O,-⟩
  rcases jK (Bv ((⟨E ay,yc,yd⟩::rc).map CV.d) && (po == 0)) with h1 | h1
  ·
   rw [h1] at V
   have hye:=M8 h1
   refine cT V ?_
   refine sr 2 ?_
   refine Ka 1 [(85,pt b1)] V fun J V=>?_
   refine Ms 0 [Z 7] 3 V O fun w7 O=>?_
   refine Ab ?_
   refine Aa ?_
   refine wp_seq ?_
   have hS:=O.pk [0,3]
   refine rP [(0,true),(1,true),(2,true),(3,true),(4,true),(5,true),(6,false),(7,false),(8,false),(9,false)] hS ?_
   intro w8 ho; replace O:=O.st ho; clear ho
   refine Ke 6 [(86,D #[Z 7,Z po,Y inp,C (E aj) (((⟨E ax,xc,(⟨E ay,yc,yd⟩::rc),xb⟩:JV)::rj).length) kj,Z rd,Z wr,Z pv,C pn ln.length kn,C pp (([]:List PV).length) kp]),(91,C (E ay) yd.words.length yc)] V [D #[Z 7,Z po,Y inp,C (E aj) (((⟨E ax,xc,(⟨E ay,yc,yd⟩::rc),xb⟩:JV)::rj).length) kj,Z rd,Z wr,Z pv,C pn ln.length kn,C pp (([]:List PV).length) kp],C (E ax) ((⟨E ay,yc,yd⟩::rc).length) xc,C (E ay) yd.words.length yc] (cc (hS.sn 1 0 54 (cS 7 po inp (E aj) (((⟨E ax,xc,(⟨E ay,yc,yd⟩::rc),xb⟩:JV)::rj).length) kj rd wr pv pn ln.length kn pp (([]:List PV).length) kp)) (cc (hS.s1 0 0 69 (C (E ax) ((⟨E ay,yc,yd⟩::rc).length) xc)) (cc (⟨by omega,by omega⟩:(0:Int)<=0/\0 < (((⟨E ay,yc,yd⟩::rc).length:Nat):Int)) (cc (hS.sx (ax.add 0) 30 (C (E ay) yd.words.length yc) fun _ O=>(((show Vw fC _ (C (E ax) (⟨E ay,yc,yd⟩::rc).length xc) (⟨E ay,yc,yd⟩::rc)/\∀ y∈(⟨E ay,yc,yd⟩::rc),VC _ y from (hs.keep O.only).j.2 _ jX).1).ld0 Bm (rfl:((⟨E ay,yc,yd⟩::rc):List CV)[0]? = E ⟨E ay,yc,yd⟩) (by rfl))) c0)))) fun J V=>?_
   refine Am (mK (d:=(E 92)) V O Tryz.func77 (Xb (E ay) yc yd.words _ (show Vw fT _ (C (E ay) yd.words.length yc) yd.words from (show Vw fC _ (C (E ax) (⟨E ay,yc,yd⟩::rc).length xc) (⟨E ay,yc,yd⟩::rc)/\∀ y∈(⟨E ay,yc,yd⟩::rc),VC _ y from (hs.keep O.only).j.2 _ jX).2 _ jX) (by omega) (fun z_ h_=>by have:=(hws z_ h_).2; omega)) fun J w9 V O=>?_)
   refine ⟨(O.sub [0,3]),?_⟩
   refine Am (mK (d:=(E 93)) V O Tryz.func35 (Bp 0 (B0 yd.words) _) fun J w10 V O=>?_)
   refine ⟨(O.sub [0,3]),?_⟩
   refine Am (mS (off:=0) (vc:=(cS 7 po inp (E aj) (((⟨E ax,xc,(⟨E ay,yc,yd⟩::rc),xb⟩:JV)::rj).length) kj rd wr pv pn ln.length kn pp (([]:List PV).length) kp)) 2 V O fun w11 O=>?_)
   refine ⟨(O.sub [0,3]),?_⟩
   refine Am (mS (off:=0) (vc:=[Z 0,Z (B0 yd.words),Z 0,Z 0,C F 0 0]) 1 V O fun w12 O=>?_)
   refine ⟨(O.sub [0,3]),?_⟩
   refine Ar ?_
   refine Aa ?_
   refine wp_ret ?_
   refine Ad ?_
   refine Ac ?_
   refine cR (cs:=[E (⟨b2,0,F⟩,54),E (⟨b3,0,F⟩,59)]) (us:=[D #[Z 7,Z po,Y inp,C (E aj) (((⟨E ax,xc,(⟨E ay,yc,yd⟩::rc),xb⟩:JV)::rj).length) kj,Z rd,Z wr,Z pv,C pn ln.length kn,C pp (([]:List PV).length) kp],D #[Z 0,Z (B0 yd.words),Z 0,Z 0,C F 0 0]]) V [D #[Z 7,Z po,Y inp,C (E aj) (((⟨E ax,xc,(⟨E ay,yc,yd⟩::rc),xb⟩:JV)::rj).length) kj,Z rd,Z wr,Z pv,C pn ln.length kn,C pp (([]:List PV).length) kp],D #[Z 0,Z (B0 yd.words),Z 0,Z 0,C F 0 0]] ⟨(O.ln 2 0 54 (cS 7 po inp (E aj) (((⟨E ax,xc,(⟨E ay,yc,yd⟩::rc),xb⟩:JV)::rj).length) kj rd wr pv pn ln.length kn pp (([]:List PV).length) kp)),(O.ln 1 0 59 [Z 0,Z (B0 yd.words),Z 0,Z 0,C F 0 0]),trivial⟩ ?_
   exact ⟨(⟨7,po,inp,E aj,kj,((⟨E ax,xc,(⟨E ay,yc,yd⟩::rc),xb⟩:JV)::rj),rd,wr,pv,pn,kn,ln,pp,kp,[]⟩:SV),⟨F,0,⟨0,B0 yd.words,0,0,[]⟩⟩,[],(E5 (s:=SV.d (⟨mo,po,inp,E aj,kj,((⟨E ax,xc,(⟨E ay,yc,yd⟩::rc),xb⟩:JV)::rj),rd,wr,pv,pn,kn,ln,pp,kp,[]⟩:SV)) rfl (kJ _) (sj_a hye.1 hye.2)),rfl,((O.sub [])),okB (Ao.old hG fun _ h_=>h_.j) (Ao.old hG fun _ h_=>h_.k) (Ao.old hG fun _ h_=>h_.p),(B2 _ _ _ _)⟩
  rw [h1] at V
  have hne:=Lr h1
  refine cF V ?_
  refine sJ (fun J W=>Holds 154 [] J [(1,pt b1),(2,pt b2),(3,pt b3),(8,pt b4),(9,Z (((⟨E ay,yc,yd⟩::rc).length:Nat):Int)),(94,I ((po == 0) && Bw ((⟨E ay,yc,yd⟩::rc).map CV.d)))]/\Ow jP Ag w W [(b4,71,[C (E ax) ((⟨E ay,yc,yd⟩::rc).length) xc,I xb]),(b3,59,[Z 0,Z 0,Z 0,Z 0,C F 0 0]),(b2,54,(cS 0 0 (⟨#[]⟩:ByteArray) F 0 0 0 0 0 F 0 0 F 0 0)),(b1,54,(cS mo po inp (E aj) (((⟨E ax,xc,(⟨E ay,yc,yd⟩::rc),xb⟩:JV)::rj).length) kj rd wr pv pn ln.length kn pp (([]:List PV).length) kp))]/\True) ?_ ?_
  ·
   rintro J w13 ⟨V,O,-⟩
   rcases jK ((po == 0) && Bw ((⟨E ay,yc,yd⟩::rc).map CV.d)) with h2 | h2
   ·
    rw [h2] at V
    have hyl:=M7 h2
    refine cT V ?_
    rcases Nat.lt_or_ge 1 kj with hk1 | hk1
    ·
     refine sJ (fun J W=>∃ (j1:Nat) (pJ1:Option Addr) (cJ1:Nat) (TJ1:OwL),Holds 154 [] J [(1,pt b1),(2,pt b2),(3,pt b3)]/\Ow jP Ag w W ([(j1,59,[Z 10,Z 2,Z 0,Z 0,C pJ1 (([63,10]).length) cJ1]),(b4,71,[C (E ax) ((⟨E ay,yc,yd⟩::rc).length) xc,I xb]),(b3,59,[Z 0,Z 0,Z 0,Z 0,C F 0 0]),(b2,54,(cS 0 0 (⟨#[]⟩:ByteArray) F 0 0 0 0 0 F 0 0 F 0 0)),(b1,54,(cS mo po inp (E (aj.add 2)) rj.length (kj - 1) rd wr pv pn ln.length kn (E ⟨j1,0,F⟩) 1 1))]++(TJ1++([])))/\One fB 5 1 pJ1 cJ1 ([63,10]) TJ1/\True) ?_ ?_
     ·
      rintro J w14 ⟨j1,pJ1,cJ1,TJ1,V,O,hTJ1,-⟩
      refine sr 6 ?_
      refine Kb 1 [(109,D #[Z mo,Z po,Y inp,C (E (aj.add 2)) rj.length (kj - 1),Z rd,Z wr,Z pv,C pn ln.length kn,C (E ⟨j1,0,F⟩) 1 1])] V [D #[Z mo,Z po,Y inp,C (E (aj.add 2)) rj.length (kj - 1),Z rd,Z wr,Z pv,C pn ln.length kn,C (E ⟨j1,0,F⟩) 1 1]] (cc (O.ln 4 0 54 (cS mo po inp (E (aj.add 2)) rj.length (kj - 1) rd wr pv pn ln.length kn (E ⟨j1,0,F⟩) 1 1)) c0) fun J V=>?_
      have hT1:One fP 59 5 (E ⟨j1,0,F⟩) 1 ([⟨pJ1,cJ1,⟨10,2,0,0,[63,10]⟩⟩]:List PV) [(j1,59,[Z 10,Z 2,Z 0,Z 0,C pJ1 (([63,10]).length) cJ1])]:=One.ofBlk (r:=[]) (by kernel_rfl) (by simp) (by decide) (by kernel_rfl)
      replace O:=Ow.move (A:=[]) O
      replace O:Ow jP Ag w w14 ([(b4,71,[C (E ax) ((⟨E ay,yc,yd⟩::rc).length) xc,I xb]),(b3,59,[Z 0,Z 0,Z 0,Z 0,C F 0 0]),(b2,54,(cS 0 0 (⟨#[]⟩:ByteArray) F 0 0 0 0 0 F 0 0 F 0 0)),(b1,54,(cS mo po inp (E (aj.add 2)) rj.length (kj - 1) rd wr pv pn ln.length kn (E ⟨j1,0,F⟩) 1 1))]++([(j1,59,[Z 10,Z 2,Z 0,Z 0,C pJ1 (([63,10]).length) cJ1])]++(TJ1++([])))):=O.tt
      have heq_:Dc (SV.d (⟨mo,po,inp,E aj,kj,((⟨E ax,xc,(⟨E ay,yc,yd⟩::rc),xb⟩:JV)::rj),rd,wr,pv,pn,kn,ln,pp,kp,[]⟩:SV))=(SV.d (⟨mo,po,inp,E (aj.add 2),(kj - 1),rj,rd,wr,pv,pn,kn,ln,E ⟨j1,0,F⟩,1,([⟨pJ1,cJ1,⟨10,2,0,0,[63,10]⟩⟩]:List PV)⟩:SV),F):=gU hne hyl
      refine Ae (mC (d:=(E 110)) V Tryz.func40 ((IH B (⟨mo,po,inp,E (aj.add 2),(kj - 1),rj,rd,wr,pv,pn,kn,ln,E ⟨j1,0,F⟩,1,([⟨pJ1,cJ1,⟨10,2,0,0,[63,10]⟩⟩]:List PV)⟩:SV) (T++([(j1,59,[Z 10,Z 2,Z 0,Z 0,C pJ1 (([63,10]).length) cJ1])]++(TJ1++([])))) _ ⟨(J0 (hs.keep O.only).j),(hs.keep O.only).k,(Ah.at (A:=[_,_,_,_]) (Ah.and (hT1.holds.l) (Cj (hTJ1.holds.l.r) Bx)) (O.tt:Ow jP Ag w _ ([(b4,71,[C (E ax) ((⟨E ay,yc,yd⟩::rc).length) xc,I xb]),(b3,59,[Z 0,Z 0,Z 0,Z 0,C F 0 0]),(b2,54,(cS 0 0 (⟨#[]⟩:ByteArray) F 0 0 0 0 0 F 0 0 F 0 0)),(b1,54,(cS mo po inp (E (aj.add 2)) rj.length (kj - 1) rd wr pv pn ln.length kn (E ⟨j1,0,F⟩) 1 1))]++([(j1,59,[Z 10,Z 2,Z 0,Z 0,C pJ1 (([63,10]).length) cJ1])]++(TJ1++([]))++[]))).m)⟩ ⟨hm.i,N9 hm.j,hm.k,Nat.le_of_ble_eq_true rfl,hm.ck,(by show rj.length<=kj - 1; omega),Nat.le_of_ble_eq_true rfl⟩ (Ub hvl) (okB (Ao.old hG fun _ h_=>J0 h_.j) (Ao.old hG fun _ h_=>h_.k) (Ao.new (Ah.and (hT1.holds.l) (Cj (hTJ1.holds.l.r) Bx)))) (by have q_:=E8 heq_ (kJ _); omega)).mono ?_))
      rintro en w15 ⟨v1,x1,T2,hq1,rfl,hW1,hG1,hX1⟩
      refine ⟨_,rfl,?_⟩
      clear V J; intro J V
      replace O:=O.j2 hW1; clear hW1
      refine Ka 2 [(111,D #[Z v1.mo,Z v1.po,Y v1.inp,C v1.pj v1.lj.length v1.cj,Z v1.rd,Z v1.wr,Z v1.pv,C v1.pc v1.lc.length v1.cc,C v1.pp v1.lp.length v1.cp]),(112,D #[Z x1.d.call,Z x1.d.a0,Z x1.d.a1,Z x1.d.a2,C x1.p x1.d.data.length x1.c])] V fun J V=>?_
      refine Ms 0 (cS v1.mo v1.po v1.inp v1.pj v1.lj.length v1.cj v1.rd v1.wr v1.pv v1.pc v1.lc.length v1.cc v1.pp v1.lp.length v1.cp) 2 V O fun w16 O=>?_
      refine Ms 0 [Z x1.d.call,Z x1.d.a0,Z x1.d.a1,Z x1.d.a2,C x1.p x1.d.data.length x1.c] 1 V O fun w17 O=>?_
      refine Ab ?_
      refine Aa ?_
      refine wp_ret ?_
      refine Ad ?_
      refine Ac ?_
      refine cR (cs:=[E (⟨b2,0,F⟩,54),E (⟨b3,0,F⟩,59)]) (us:=[D #[Z v1.mo,Z v1.po,Y v1.inp,C v1.pj v1.lj.length v1.cj,Z v1.rd,Z v1.wr,Z v1.pv,C v1.pc v1.lc.length v1.cc,C v1.pp v1.lp.length v1.cp],D #[Z x1.d.call,Z x1.d.a0,Z x1.d.a1,Z x1.d.a2,C x1.p x1.d.data.length x1.c]]) V [D #[Z v1.mo,Z v1.po,Y v1.inp,C v1.pj v1.lj.length v1.cj,Z v1.rd,Z v1.wr,Z v1.pv,C v1.pc v1.lc.length v1.cc,C v1.pp v1.lp.length v1.cp],D #[Z x1.d.call,Z x1.d.a0,Z x1.d.a1,Z x1.d.a2,C x1.p x1.d.data.length x1.c]] ⟨(O.ln 2 0 54 (cS v1.mo v1.po v1.inp v1.pj v1.lj.length v1.cj v1.rd v1.wr v1.pv v1.pc v1.lc.length v1.cc v1.pp v1.lp.length v1.cp)),(O.ln 1 0 59 [Z x1.d.call,Z x1.d.a0,Z x1.d.a1,Z x1.d.a2,C x1.p x1.d.data.length x1.c]),trivial⟩ ?_
      exact ⟨v1,x1,[(j1,59,[Z 10,Z 2,Z 0,Z 0,C pJ1 (([63,10]).length) cJ1])]++(TJ1++(T2++([]))),((E6 (s:=SV.d (⟨mo,po,inp,E aj,kj,((⟨E ax,xc,(⟨E ay,yc,yd⟩::rc),xb⟩:JV)::rj),rd,wr,pv,pn,kn,ln,pp,kp,[]⟩:SV)) rfl (kJ _) heq_).trans hq1),rfl,(((Ow.subP (A:=[_,_,_,_]) O (.cons _ (.cons _ (.cons _ (.cons _ .slnil)))))).tt),hG1.tt,hX1.tt⟩
     have hS:Ow jP Ag w _ [(b4,71,[C (E ax) ((⟨E ay,yc,yd⟩::rc).length) xc,I xb]),(b3,59,[Z 0,Z 0,Z 0,Z 0,C F 0 0]),(b2,54,(cS 0 0 (⟨#[]⟩:ByteArray) F 0 0 0 0 0 F 0 0 F 0 0))]:=O.sub [0,1,2]
     refine rT (.q 0 (.m 1 (.q 2 (.q 5 (.m 3 (.m 4 (.m 6 (.q 7 (mm [8])) .non) (.m 6 (.m 4 (.q 7 (mm [8])) .non) .non)) .non))) (.m 3 (.m 1 (.q 2 (.q 5 (.m 4 (.m 6 (.q 7 (mm [8])) .non) (.m 6 (.m 4 (.q 7 (mm [8])) .non) .non)))) (.m 4 (.m 1 (.q 2 (.q 5 (.m 6 (.q 7 (mm [8])) .non))) .non) .non)) .non))) hS ?_
     intro w18 ho; replace O:=O.st ho; clear ho
     refine Kt [0] [(102,pf b1 3)] V [] c0 fun J V=>?_
     refine Ap ?_ ?_
     ·
      refine (Qc [(103,C (E aj) (((⟨E ax,xc,(⟨E ay,yc,yd⟩::rc),xb⟩:JV)::rj).length) kj)] V [C (E aj) (((⟨E ax,xc,(⟨E ay,yc,yd⟩::rc),xb⟩:JV)::rj).length) kj] (cc (O.l1 3 3 22 (C (E aj) (((⟨E ax,xc,(⟨E ay,yc,yd⟩::rc),xb⟩:JV)::rj).length) kj)) c0) fun J V=>?_)
      refine ⟨(O.sub [0,1,2]),?_⟩
      refine Kt [2,5] [(104,C (E (De (aj:Addr) 2 1)) ((((⟨E ax,xc,(⟨E ay,yc,yd⟩::rc),xb⟩:JV)::rj).length) - (1)) ((kj) - (1))),(107,pf b1 3)] V [I true] (cc (⟨by omega,hpos3_,by omega,by omega,by omega⟩:(0:Int)<=1/\(1:Int)<=((((⟨E ax,xc,(⟨E ay,yc,yd⟩::rc),xb⟩:JV)::rj).length:Nat):Int)/\((((⟨E ax,xc,(⟨E ay,yc,yd⟩::rc),xb⟩:JV)::rj).length:Nat):Int)<=((kj:Nat):Int)/\((kj:Nat):Int)<=((kj:Nat):Int)/\(1:Int) < ((kj:Nat):Int)) c0) fun J V=>?_
      rw [show De aj 2 1=((aj.add 2):Addr) from Hv _] at V
      rw [show ((((⟨E ax,xc,(⟨E ay,yc,yd⟩::rc),xb⟩:JV)::rj).length) - (1))=rj.length from rfl] at V
      rw [show ((kj) - (1))=(kj - 1) from rfl] at V
      refine tm ?_
      refine (mC (d:=(E 105)) V Tryz.func73 ((Dz _).mono ?_))
      rintro en w19 ⟨p1,c1,T3,rfl,hT3,hW⟩
      refine ⟨_,rfl,?_⟩
      clear V J; intro J V
      replace O:Ow jP Ag w _ ([(b4,71,[C (E ax) ((⟨E ay,yc,yd⟩::rc).length) xc,I xb]),(b3,59,[Z 0,Z 0,Z 0,Z 0,C F 0 0]),(b2,54,(cS 0 0 (⟨#[]⟩:ByteArray) F 0 0 0 0 0 F 0 0 F 0 0)),(b1,54,(cS mo po inp (E aj) (((⟨E ax,xc,(⟨E ay,yc,yd⟩::rc),xb⟩:JV)::rj).length) kj rd wr pv pn ln.length kn pp (([]:List PV).length) kp))]++[]):=O.to (kC _).symm
      replace O:=O.j0 hW; clear hW
      refine ⟨(O.sub [0,1,2]),?_⟩
      refine Ap ?_ ?_
      ·
       refine (mN (l:=[Z 10,Z 2,Z 0,Z 0,C p1 (([63,10]:List Int).length) c1]) (t:=59) (v:=fun b=> C (E ⟨b,0,F⟩) 1 1) (d:=106) V O fun J w20 b5 V O=>?_)
       refine ⟨(O.sub [1,2,3]),?_⟩
       refine tm ?_
       refine (mS (off:=3) (vc:=[C (E (aj.add 2)) rj.length (kj - 1)]) 4 V O fun w21 O=>?_)
       refine ⟨(O.sub [1,2,3]),?_⟩
       refine Kt [7] [(108,pf b1 8)] V [] c0 fun J V=>?_
       refine tm ?_
       refine (mS (off:=8) (vc:=[C (E ⟨b5,0,F⟩) 1 1]) 4 V O fun w22 O=>?_)
       refine ⟨(O.sub [1,2,3]),?_⟩
       refine Aq ?_
       refine Aa ?_
       exact ⟨b5,p1,c1,T3,V.sb,O,hT3,trivial⟩
      refine tm ?_
      refine (mS (off:=3) (vc:=[C (E (aj.add 2)) rj.length (kj - 1)]) 3 V O fun w23 O=>?_)
      refine ⟨(O.sub [0,1,2]),?_⟩
      refine tm ?_
      refine (mN (l:=[Z 10,Z 2,Z 0,Z 0,C p1 (([63,10]:List Int).length) c1]) (t:=59) (v:=fun b=> C (E ⟨b,0,F⟩) 1 1) (d:=106) V O fun J w24 b6 V O=>?_)
      refine ⟨(O.sub [1,2,3]),?_⟩
      refine Kt [7] [(108,pf b1 8)] V [] c0 fun J V=>?_
      refine tm ?_
      refine (mS (off:=8) (vc:=[C (E ⟨b6,0,F⟩) 1 1]) 4 V O fun w25 O=>?_)
      refine ⟨(O.sub [1,2,3]),?_⟩
      refine Aq ?_
      refine Aa ?_
      exact ⟨b6,p1,c1,T3,V.sb,O,hT3,trivial⟩
     refine tm ?_
     refine (mC (d:=(E 105)) V Tryz.func73 ((Dz _).mono ?_))
     rintro en w26 ⟨p2,c2,T4,rfl,hT4,hW⟩
     refine ⟨_,rfl,?_⟩
     clear V J; intro J V
     replace O:Ow jP Ag w _ ([(b4,71,[C (E ax) ((⟨E ay,yc,yd⟩::rc).length) xc,I xb]),(b3,59,[Z 0,Z 0,Z 0,Z 0,C F 0 0]),(b2,54,(cS 0 0 (⟨#[]⟩:ByteArray) F 0 0 0 0 0 F 0 0 F 0 0)),(b1,54,(cS mo po inp (E aj) (((⟨E ax,xc,(⟨E ay,yc,yd⟩::rc),xb⟩:JV)::rj).length) kj rd wr pv pn ln.length kn pp (([]:List PV).length) kp))]++[]):=O.to (kC _).symm
     replace O:=O.j0 hW; clear hW
     refine ⟨(O.sub [0,1,2]),?_⟩
     refine Ap ?_ ?_
     ·
      refine (Qc [(103,C (E aj) (((⟨E ax,xc,(⟨E ay,yc,yd⟩::rc),xb⟩:JV)::rj).length) kj)] V [C (E aj) (((⟨E ax,xc,(⟨E ay,yc,yd⟩::rc),xb⟩:JV)::rj).length) kj] (cc (O.l1 3 3 22 (C (E aj) (((⟨E ax,xc,(⟨E ay,yc,yd⟩::rc),xb⟩:JV)::rj).length) kj)) c0) fun J V=>?_)
      refine ⟨(O.sub [0,1,2]),?_⟩
      refine Kt [2,5] [(104,C (E (De (aj:Addr) 2 1)) ((((⟨E ax,xc,(⟨E ay,yc,yd⟩::rc),xb⟩:JV)::rj).length) - (1)) ((kj) - (1))),(107,pf b1 3)] V [I true] (cc (⟨by omega,hpos3_,by omega,by omega,by omega⟩:(0:Int)<=1/\(1:Int)<=((((⟨E ax,xc,(⟨E ay,yc,yd⟩::rc),xb⟩:JV)::rj).length:Nat):Int)/\((((⟨E ax,xc,(⟨E ay,yc,yd⟩::rc),xb⟩:JV)::rj).length:Nat):Int)<=((kj:Nat):Int)/\((kj:Nat):Int)<=((kj:Nat):Int)/\(1:Int) < ((kj:Nat):Int)) c0) fun J V=>?_
      rw [show De aj 2 1=((aj.add 2):Addr) from Hv _] at V
      rw [show ((((⟨E ax,xc,(⟨E ay,yc,yd⟩::rc),xb⟩:JV)::rj).length) - (1))=rj.length from rfl] at V
      rw [show ((kj) - (1))=(kj - 1) from rfl] at V
      refine Ap ?_ ?_
      ·
       refine (mN (l:=[Z 10,Z 2,Z 0,Z 0,C p2 (([63,10]:List Int).length) c2]) (t:=59) (v:=fun b=> C (E ⟨b,0,F⟩) 1 1) (d:=106) V O fun J w27 b7 V O=>?_)
       refine ⟨(O.sub [1,2,3]),?_⟩
       refine tm ?_
       refine (mS (off:=3) (vc:=[C (E (aj.add 2)) rj.length (kj - 1)]) 4 V O fun w28 O=>?_)
       refine ⟨(O.sub [1,2,3]),?_⟩
       refine Kt [7] [(108,pf b1 8)] V [] c0 fun J V=>?_
       refine tm ?_
       refine (mS (off:=8) (vc:=[C (E ⟨b7,0,F⟩) 1 1]) 4 V O fun w29 O=>?_)
       refine ⟨(O.sub [1,2,3]),?_⟩
       refine Aq ?_
       refine Aa ?_
       exact ⟨b7,p2,c2,T4,V.sb,O,hT4,trivial⟩
      refine tm ?_
      refine (mS (off:=3) (vc:=[C (E (aj.add 2)) rj.length (kj - 1)]) 3 V O fun w30 O=>?_)
      refine ⟨(O.sub [0,1,2]),?_⟩
      refine tm ?_
      refine (mN (l:=[Z 10,Z 2,Z 0,Z 0,C p2 (([63,10]:List Int).length) c2]) (t:=59) (v:=fun b=> C (E ⟨b,0,F⟩) 1 1) (d:=106) V O fun J w31 b8 V O=>?_)
      refine ⟨(O.sub [1,2,3]),?_⟩
      refine Kt [7] [(108,pf b1 8)] V [] c0 fun J V=>?_
      refine tm ?_
      refine (mS (off:=8) (vc:=[C (E ⟨b8,0,F⟩) 1 1]) 4 V O fun w32 O=>?_)
      refine ⟨(O.sub [1,2,3]),?_⟩
      refine Aq ?_
      refine Aa ?_
      exact ⟨b8,p2,c2,T4,V.sb,O,hT4,trivial⟩
     refine tm ?_
     refine (mN (l:=[Z 10,Z 2,Z 0,Z 0,C p2 (([63,10]:List Int).length) c2]) (t:=59) (v:=fun b=> C (E ⟨b,0,F⟩) 1 1) (d:=106) V O fun J w33 b9 V O=>?_)
     refine ⟨(O.sub [1,2,3]),?_⟩
     refine tm ?_
     refine (Qc [(103,C (E aj) (((⟨E ax,xc,(⟨E ay,yc,yd⟩::rc),xb⟩:JV)::rj).length) kj)] V [C (E aj) (((⟨E ax,xc,(⟨E ay,yc,yd⟩::rc),xb⟩:JV)::rj).length) kj] (cc (O.l1 4 3 22 (C (E aj) (((⟨E ax,xc,(⟨E ay,yc,yd⟩::rc),xb⟩:JV)::rj).length) kj)) c0) fun J V=>?_)
     refine ⟨(O.sub [1,2,3]),?_⟩
     refine Kt [2,5] [(104,C (E (De (aj:Addr) 2 1)) ((((⟨E ax,xc,(⟨E ay,yc,yd⟩::rc),xb⟩:JV)::rj).length) - (1)) ((kj) - (1))),(107,pf b1 3)] V [I true] (cc (⟨by omega,hpos3_,by omega,by omega,by omega⟩:(0:Int)<=1/\(1:Int)<=((((⟨E ax,xc,(⟨E ay,yc,yd⟩::rc),xb⟩:JV)::rj).length:Nat):Int)/\((((⟨E ax,xc,(⟨E ay,yc,yd⟩::rc),xb⟩:JV)::rj).length:Nat):Int)<=((kj:Nat):Int)/\((kj:Nat):Int)<=((kj:Nat):Int)/\(1:Int) < ((kj:Nat):Int)) c0) fun J V=>?_
     rw [show De aj 2 1=((aj.add 2):Addr) from Hv _] at V
     rw [show ((((⟨E ax,xc,(⟨E ay,yc,yd⟩::rc),xb⟩:JV)::rj).length) - (1))=rj.length from rfl] at V
     rw [show ((kj) - (1))=(kj - 1) from rfl] at V
     refine tm ?_
     refine (mS (off:=3) (vc:=[C (E (aj.add 2)) rj.length (kj - 1)]) 4 V O fun w34 O=>?_)
     refine ⟨(O.sub [1,2,3]),?_⟩
     refine Kt [7] [(108,pf b1 8)] V [] c0 fun J V=>?_
     refine tm ?_
     refine (mS (off:=8) (vc:=[C (E ⟨b9,0,F⟩) 1 1]) 4 V O fun w35 O=>?_)
     refine ⟨(O.sub [1,2,3]),?_⟩
     refine Aq ?_
     refine Aa ?_
     exact ⟨b9,p2,c2,T4,V.sb,O,hT4,trivial⟩
    have hrj0:rj.length=0:=by omega
    have hkj1:kj=1:=by omega
    refine sJ (fun J W=>∃ (j2:Nat) (pJ2:Option Addr) (cJ2:Nat) (TJ2:OwL),Holds 154 [] J [(1,pt b1),(2,pt b2),(3,pt b3)]/\Ow jP Ag w W ([(j2,59,[Z 10,Z 2,Z 0,Z 0,C pJ2 (([63,10]).length) cJ2]),(b4,71,[C (E ax) ((⟨E ay,yc,yd⟩::rc).length) xc,I xb]),(b3,59,[Z 0,Z 0,Z 0,Z 0,C F 0 0]),(b2,54,(cS 0 0 (⟨#[]⟩:ByteArray) F 0 0 0 0 0 F 0 0 F 0 0)),(b1,54,(cS mo po inp (E aj) rj.length (kj - 1) rd wr pv pn ln.length kn (E ⟨j2,0,F⟩) 1 1))]++(TJ2++([])))/\One fB 5 1 pJ2 cJ2 ([63,10]) TJ2/\True) ?_ ?_
    ·
     rintro J w36 ⟨j2,pJ2,cJ2,TJ2,V,O,hTJ2,-⟩
     refine sr 6 ?_
     refine Kb 1 [(109,D #[Z mo,Z po,Y inp,C (E aj) rj.length (kj - 1),Z rd,Z wr,Z pv,C pn ln.length kn,C (E ⟨j2,0,F⟩) 1 1])] V [D #[Z mo,Z po,Y inp,C (E aj) rj.length (kj - 1),Z rd,Z wr,Z pv,C pn ln.length kn,C (E ⟨j2,0,F⟩) 1 1]] (cc (O.ln 4 0 54 (cS mo po inp (E aj) rj.length (kj - 1) rd wr pv pn ln.length kn (E ⟨j2,0,F⟩) 1 1)) c0) fun J V=>?_
     have hT5:One fP 59 5 (E ⟨j2,0,F⟩) 1 ([⟨pJ2,cJ2,⟨10,2,0,0,[63,10]⟩⟩]:List PV) [(j2,59,[Z 10,Z 2,Z 0,Z 0,C pJ2 (([63,10]).length) cJ2])]:=One.ofBlk (r:=[]) (by kernel_rfl) (by simp) (by decide) (by kernel_rfl)
     replace O:=Ow.move (A:=[]) O
     replace O:Ow jP Ag w w36 ([(b4,71,[C (E ax) ((⟨E ay,yc,yd⟩::rc).length) xc,I xb]),(b3,59,[Z 0,Z 0,Z 0,Z 0,C F 0 0]),(b2,54,(cS 0 0 (⟨#[]⟩:ByteArray) F 0 0 0 0 0 F 0 0 F 0 0)),(b1,54,(cS mo po inp (E aj) rj.length (kj - 1) rd wr pv pn ln.length kn (E ⟨j2,0,F⟩) 1 1))]++([(j2,59,[Z 10,Z 2,Z 0,Z 0,C pJ2 (([63,10]).length) cJ2])]++(TJ2++([])))):=O.tt
     have heq_:Dc (SV.d (⟨mo,po,inp,E aj,kj,((⟨E ax,xc,(⟨E ay,yc,yd⟩::rc),xb⟩:JV)::rj),rd,wr,pv,pn,kn,ln,pp,kp,[]⟩:SV))=(SV.d (⟨mo,po,inp,E aj,(kj - 1),rj,rd,wr,pv,pn,kn,ln,E ⟨j2,0,F⟩,1,([⟨pJ2,cJ2,⟨10,2,0,0,[63,10]⟩⟩]:List PV)⟩:SV),F):=gU hne hyl
     refine Ae (mC (d:=(E 110)) V Tryz.func40 ((IH B (⟨mo,po,inp,E aj,(kj - 1),rj,rd,wr,pv,pn,kn,ln,E ⟨j2,0,F⟩,1,([⟨pJ2,cJ2,⟨10,2,0,0,[63,10]⟩⟩]:List PV)⟩:SV) (T++([(j2,59,[Z 10,Z 2,Z 0,Z 0,C pJ2 (([63,10]).length) cJ2])]++(TJ2++([])))) _ ⟨(J1 hrj0 (hs.keep O.only).j),(hs.keep O.only).k,(Ah.at (A:=[_,_,_,_]) (Ah.and (hT5.holds.l) (Cj (hTJ2.holds.l.r) Bx)) (O.tt:Ow jP Ag w _ ([(b4,71,[C (E ax) ((⟨E ay,yc,yd⟩::rc).length) xc,I xb]),(b3,59,[Z 0,Z 0,Z 0,Z 0,C F 0 0]),(b2,54,(cS 0 0 (⟨#[]⟩:ByteArray) F 0 0 0 0 0 F 0 0 F 0 0)),(b1,54,(cS mo po inp (E aj) rj.length (kj - 1) rd wr pv pn ln.length kn (E ⟨j2,0,F⟩) 1 1))]++([(j2,59,[Z 10,Z 2,Z 0,Z 0,C pJ2 (([63,10]).length) cJ2])]++(TJ2++([]))++[]))).m)⟩ ⟨hm.i,N9 hm.j,hm.k,Nat.le_of_ble_eq_true rfl,hm.ck,(by show rj.length<=kj - 1; omega),Nat.le_of_ble_eq_true rfl⟩ (Ub hvl) (okB (Ao.old hG fun _ h_=>J1 hrj0 h_.j) (Ao.old hG fun _ h_=>h_.k) (Ao.new (Ah.and (hT5.holds.l) (Cj (hTJ2.holds.l.r) Bx)))) (by have q_:=E8 heq_ (kJ _); omega)).mono ?_))
     rintro en w37 ⟨v2,x2,T6,hq2,rfl,hW2,hG2,hX2⟩
     refine ⟨_,rfl,?_⟩
     clear V J; intro J V
     replace O:=O.j2 hW2; clear hW2
     refine Ka 2 [(111,D #[Z v2.mo,Z v2.po,Y v2.inp,C v2.pj v2.lj.length v2.cj,Z v2.rd,Z v2.wr,Z v2.pv,C v2.pc v2.lc.length v2.cc,C v2.pp v2.lp.length v2.cp]),(112,D #[Z x2.d.call,Z x2.d.a0,Z x2.d.a1,Z x2.d.a2,C x2.p x2.d.data.length x2.c])] V fun J V=>?_
     refine Ms 0 (cS v2.mo v2.po v2.inp v2.pj v2.lj.length v2.cj v2.rd v2.wr v2.pv v2.pc v2.lc.length v2.cc v2.pp v2.lp.length v2.cp) 2 V O fun w38 O=>?_
     refine Ms 0 [Z x2.d.call,Z x2.d.a0,Z x2.d.a1,Z x2.d.a2,C x2.p x2.d.data.length x2.c] 1 V O fun w39 O=>?_
     refine Ab ?_
     refine Aa ?_
     refine wp_ret ?_
     refine Ad ?_
     refine Ac ?_
     refine cR (cs:=[E (⟨b2,0,F⟩,54),E (⟨b3,0,F⟩,59)]) (us:=[D #[Z v2.mo,Z v2.po,Y v2.inp,C v2.pj v2.lj.length v2.cj,Z v2.rd,Z v2.wr,Z v2.pv,C v2.pc v2.lc.length v2.cc,C v2.pp v2.lp.length v2.cp],D #[Z x2.d.call,Z x2.d.a0,Z x2.d.a1,Z x2.d.a2,C x2.p x2.d.data.length x2.c]]) V [D #[Z v2.mo,Z v2.po,Y v2.inp,C v2.pj v2.lj.length v2.cj,Z v2.rd,Z v2.wr,Z v2.pv,C v2.pc v2.lc.length v2.cc,C v2.pp v2.lp.length v2.cp],D #[Z x2.d.call,Z x2.d.a0,Z x2.d.a1,Z x2.d.a2,C x2.p x2.d.data.length x2.c]] ⟨(O.ln 2 0 54 (cS v2.mo v2.po v2.inp v2.pj v2.lj.length v2.cj v2.rd v2.wr v2.pv v2.pc v2.lc.length v2.cc v2.pp v2.lp.length v2.cp)),(O.ln 1 0 59 [Z x2.d.call,Z x2.d.a0,Z x2.d.a1,Z x2.d.a2,C x2.p x2.d.data.length x2.c]),trivial⟩ ?_
     exact ⟨v2,x2,[(j2,59,[Z 10,Z 2,Z 0,Z 0,C pJ2 (([63,10]).length) cJ2])]++(TJ2++(T6++([]))),((E6 (s:=SV.d (⟨mo,po,inp,E aj,kj,((⟨E ax,xc,(⟨E ay,yc,yd⟩::rc),xb⟩:JV)::rj),rd,wr,pv,pn,kn,ln,pp,kp,[]⟩:SV)) rfl (kJ _) heq_).trans hq2),rfl,(((Ow.subP (A:=[_,_,_,_]) O (.cons _ (.cons _ (.cons _ (.cons _ .slnil)))))).tt),hG2.tt,hX2.tt⟩
    have hS:Ow jP Ag w _ [(b4,71,[C (E ax) ((⟨E ay,yc,yd⟩::rc).length) xc,I xb]),(b3,59,[Z 0,Z 0,Z 0,Z 0,C F 0 0]),(b2,54,(cS 0 0 (⟨#[]⟩:ByteArray) F 0 0 0 0 0 F 0 0 F 0 0))]:=O.sub [0,1,2]
    refine rT (.q 0 (.m 1 (.q 2 (.q 5 (.m 3 (.m 4 (.m 6 (.q 7 (mm [8])) .non) (.m 6 (.m 4 (.q 7 (mm [8])) .non) .non)) .non))) (.m 3 (.m 1 (.q 2 (.q 5 (.m 4 (.m 6 (.q 7 (mm [8])) .non) (.m 6 (.m 4 (.q 7 (mm [8])) .non) .non)))) (.m 4 (.m 1 (.q 2 (.q 5 (.m 6 (.q 7 (mm [8])) .non))) .non) .non)) .non))) hS ?_
    intro w40 ho; replace O:=O.st ho; clear ho
    refine Kt [0] [(102,pf b1 3)] V [] c0 fun J V=>?_
    refine Ap ?_ ?_
    ·
     refine (Qc [(103,C (E aj) (((⟨E ax,xc,(⟨E ay,yc,yd⟩::rc),xb⟩:JV)::rj).length) kj)] V [C (E aj) (((⟨E ax,xc,(⟨E ay,yc,yd⟩::rc),xb⟩:JV)::rj).length) kj] (cc (O.l1 3 3 22 (C (E aj) (((⟨E ax,xc,(⟨E ay,yc,yd⟩::rc),xb⟩:JV)::rj).length) kj)) c0) fun J V=>?_)
     refine ⟨(O.sub [0,1,2]),?_⟩
     refine Kt [2,5] [(104,C (E aj) ((((⟨E ax,xc,(⟨E ay,yc,yd⟩::rc),xb⟩:JV)::rj).length) - (1)) ((kj) - (1))),(107,pf b1 3)] V [I false] (cc (⟨by omega,hpos3_,by omega,by omega,by omega⟩:(0:Int)<=1/\(1:Int)<=((((⟨E ax,xc,(⟨E ay,yc,yd⟩::rc),xb⟩:JV)::rj).length:Nat):Int)/\((((⟨E ax,xc,(⟨E ay,yc,yd⟩::rc),xb⟩:JV)::rj).length:Nat):Int)<=((kj:Nat):Int)/\((kj:Nat):Int)<=((kj:Nat):Int)/\((1:Int)=((kj:Nat):Int)\/(1:Int)=0)) c0) fun J V=>?_
     rw [show ((((⟨E ax,xc,(⟨E ay,yc,yd⟩::rc),xb⟩:JV)::rj).length) - (1))=rj.length from rfl] at V
     rw [show ((kj) - (1))=(kj - 1) from rfl] at V
     refine tm ?_
     refine (mC (d:=(E 105)) V Tryz.func73 ((Dz _).mono ?_))
     rintro en w41 ⟨p3,c3,T7,rfl,hT7,hW⟩
     refine ⟨_,rfl,?_⟩
     clear V J; intro J V
     replace O:Ow jP Ag w _ ([(b4,71,[C (E ax) ((⟨E ay,yc,yd⟩::rc).length) xc,I xb]),(b3,59,[Z 0,Z 0,Z 0,Z 0,C F 0 0]),(b2,54,(cS 0 0 (⟨#[]⟩:ByteArray) F 0 0 0 0 0 F 0 0 F 0 0)),(b1,54,(cS mo po inp (E aj) (((⟨E ax,xc,(⟨E ay,yc,yd⟩::rc),xb⟩:JV)::rj).length) kj rd wr pv pn ln.length kn pp (([]:List PV).length) kp))]++[]):=O.to (kC _).symm
     replace O:=O.j0 hW; clear hW
     refine ⟨(O.sub [0,1,2]),?_⟩
     refine Ap ?_ ?_
     ·
      refine (mN (l:=[Z 10,Z 2,Z 0,Z 0,C p3 (([63,10]:List Int).length) c3]) (t:=59) (v:=fun b=> C (E ⟨b,0,F⟩) 1 1) (d:=106) V O fun J w42 b10 V O=>?_)
      refine ⟨(O.sub [1,2,3]),?_⟩
      refine tm ?_
      refine (mS (off:=3) (vc:=[C (E aj) rj.length (kj - 1)]) 4 V O fun w43 O=>?_)
      refine ⟨(O.sub [1,2,3]),?_⟩
      refine Kt [7] [(108,pf b1 8)] V [] c0 fun J V=>?_
      refine tm ?_
      refine (mS (off:=8) (vc:=[C (E ⟨b10,0,F⟩) 1 1]) 4 V O fun w44 O=>?_)
      refine ⟨(O.sub [1,2,3]),?_⟩
      refine Aq ?_
      refine Aa ?_
      exact ⟨b10,p3,c3,T7,V.sb,O,hT7,trivial⟩
     refine tm ?_
     refine (mS (off:=3) (vc:=[C (E aj) rj.length (kj - 1)]) 3 V O fun w45 O=>?_)
     refine ⟨(O.sub [0,1,2]),?_⟩
     refine tm ?_
     refine (mN (l:=[Z 10,Z 2,Z 0,Z 0,C p3 (([63,10]:List Int).length) c3]) (t:=59) (v:=fun b=> C (E ⟨b,0,F⟩) 1 1) (d:=106) V O fun J w46 b11 V O=>?_)
     refine ⟨(O.sub [1,2,3]),?_⟩
     refine Kt [7] [(108,pf b1 8)] V [] c0 fun J V=>?_
     refine tm ?_
     refine (mS (off:=8) (vc:=[C (E ⟨b11,0,F⟩) 1 1]) 4 V O fun w47 O=>?_)
     refine ⟨(O.sub [1,2,3]),?_⟩
     refine Aq ?_
     refine Aa ?_
     exact ⟨b11,p3,c3,T7,V.sb,O,hT7,trivial⟩
    refine tm ?_
    refine (mC (d:=(E 105)) V Tryz.func73 ((Dz _).mono ?_))
    rintro en w48 ⟨p4,c4,T8,rfl,hT8,hW⟩
    refine ⟨_,rfl,?_⟩
    clear V J; intro J V
    replace O:Ow jP Ag w _ ([(b4,71,[C (E ax) ((⟨E ay,yc,yd⟩::rc).length) xc,I xb]),(b3,59,[Z 0,Z 0,Z 0,Z 0,C F 0 0]),(b2,54,(cS 0 0 (⟨#[]⟩:ByteArray) F 0 0 0 0 0 F 0 0 F 0 0)),(b1,54,(cS mo po inp (E aj) (((⟨E ax,xc,(⟨E ay,yc,yd⟩::rc),xb⟩:JV)::rj).length) kj rd wr pv pn ln.length kn pp (([]:List PV).length) kp))]++[]):=O.to (kC _).symm
    replace O:=O.j0 hW; clear hW
    refine ⟨(O.sub [0,1,2]),?_⟩
    refine Ap ?_ ?_
    ·
     refine (Qc [(103,C (E aj) (((⟨E ax,xc,(⟨E ay,yc,yd⟩::rc),xb⟩:JV)::rj).length) kj)] V [C (E aj) (((⟨E ax,xc,(⟨E ay,yc,yd⟩::rc),xb⟩:JV)::rj).length) kj] (cc (O.l1 3 3 22 (C (E aj) (((⟨E ax,xc,(⟨E ay,yc,yd⟩::rc),xb⟩:JV)::rj).length) kj)) c0) fun J V=>?_)
     refine ⟨(O.sub [0,1,2]),?_⟩
     refine Kt [2,5] [(104,C (E aj) ((((⟨E ax,xc,(⟨E ay,yc,yd⟩::rc),xb⟩:JV)::rj).length) - (1)) ((kj) - (1))),(107,pf b1 3)] V [I false] (cc (⟨by omega,hpos3_,by omega,by omega,by omega⟩:(0:Int)<=1/\(1:Int)<=((((⟨E ax,xc,(⟨E ay,yc,yd⟩::rc),xb⟩:JV)::rj).length:Nat):Int)/\((((⟨E ax,xc,(⟨E ay,yc,yd⟩::rc),xb⟩:JV)::rj).length:Nat):Int)<=((kj:Nat):Int)/\((kj:Nat):Int)<=((kj:Nat):Int)/\((1:Int)=((kj:Nat):Int)\/(1:Int)=0)) c0) fun J V=>?_
     rw [show ((((⟨E ax,xc,(⟨E ay,yc,yd⟩::rc),xb⟩:JV)::rj).length) - (1))=rj.length from rfl] at V
     rw [show ((kj) - (1))=(kj - 1) from rfl] at V
     refine Ap ?_ ?_
     ·
      refine (mN (l:=[Z 10,Z 2,Z 0,Z 0,C p4 (([63,10]:List Int).length) c4]) (t:=59) (v:=fun b=> C (E ⟨b,0,F⟩) 1 1) (d:=106) V O fun J w49 b12 V O=>?_)
      refine ⟨(O.sub [1,2,3]),?_⟩
      refine tm ?_
      refine (mS (off:=3) (vc:=[C (E aj) rj.length (kj - 1)]) 4 V O fun w50 O=>?_)
      refine ⟨(O.sub [1,2,3]),?_⟩
      refine Kt [7] [(108,pf b1 8)] V [] c0 fun J V=>?_
      refine tm ?_
      refine (mS (off:=8) (vc:=[C (E ⟨b12,0,F⟩) 1 1]) 4 V O fun w51 O=>?_)
      refine ⟨(O.sub [1,2,3]),?_⟩
      refine Aq ?_
      refine Aa ?_
      exact ⟨b12,p4,c4,T8,V.sb,O,hT8,trivial⟩
     refine tm ?_
     refine (mS (off:=3) (vc:=[C (E aj) rj.length (kj - 1)]) 3 V O fun w52 O=>?_)
     refine ⟨(O.sub [0,1,2]),?_⟩
     refine tm ?_
     refine (mN (l:=[Z 10,Z 2,Z 0,Z 0,C p4 (([63,10]:List Int).length) c4]) (t:=59) (v:=fun b=> C (E ⟨b,0,F⟩) 1 1) (d:=106) V O fun J w53 b13 V O=>?_)
     refine ⟨(O.sub [1,2,3]),?_⟩
     refine Kt [7] [(108,pf b1 8)] V [] c0 fun J V=>?_
     refine tm ?_
     refine (mS (off:=8) (vc:=[C (E ⟨b13,0,F⟩) 1 1]) 4 V O fun w54 O=>?_)
     refine ⟨(O.sub [1,2,3]),?_⟩
     refine Aq ?_
     refine Aa ?_
     exact ⟨b13,p4,c4,T8,V.sb,O,hT8,trivial⟩
    refine tm ?_
    refine (mN (l:=[Z 10,Z 2,Z 0,Z 0,C p4 (([63,10]:List Int).length) c4]) (t:=59) (v:=fun b=> C (E ⟨b,0,F⟩) 1 1) (d:=106) V O fun J w55 b14 V O=>?_)
    refine ⟨(O.sub [1,2,3]),?_⟩
    refine tm ?_
    refine (Qc [(103,C (E aj) (((⟨E ax,xc,(⟨E ay,yc,yd⟩::rc),xb⟩:JV)::rj).length) kj)] V [C (E aj) (((⟨E ax,xc,(⟨E ay,yc,yd⟩::rc),xb⟩:JV)::rj).length) kj] (cc (O.l1 4 3 22 (C (E aj) (((⟨E ax,xc,(⟨E ay,yc,yd⟩::rc),xb⟩:JV)::rj).length) kj)) c0) fun J V=>?_)
    refine ⟨(O.sub [1,2,3]),?_⟩
    refine Kt [2,5] [(104,C (E aj) ((((⟨E ax,xc,(⟨E ay,yc,yd⟩::rc),xb⟩:JV)::rj).length) - (1)) ((kj) - (1))),(107,pf b1 3)] V [I false] (cc (⟨by omega,hpos3_,by omega,by omega,by omega⟩:(0:Int)<=1/\(1:Int)<=((((⟨E ax,xc,(⟨E ay,yc,yd⟩::rc),xb⟩:JV)::rj).length:Nat):Int)/\((((⟨E ax,xc,(⟨E ay,yc,yd⟩::rc),xb⟩:JV)::rj).length:Nat):Int)<=((kj:Nat):Int)/\((kj:Nat):Int)<=((kj:Nat):Int)/\((1:Int)=((kj:Nat):Int)\/(1:Int)=0)) c0) fun J V=>?_
    rw [show ((((⟨E ax,xc,(⟨E ay,yc,yd⟩::rc),xb⟩:JV)::rj).length) - (1))=rj.length from rfl] at V
    rw [show ((kj) - (1))=(kj - 1) from rfl] at V
    refine tm ?_
    refine (mS (off:=3) (vc:=[C (E aj) rj.length (kj - 1)]) 4 V O fun w56 O=>?_)
    refine ⟨(O.sub [1,2,3]),?_⟩
    refine Kt [7] [(108,pf b1 8)] V [] c0 fun J V=>?_
    refine tm ?_
    refine (mS (off:=8) (vc:=[C (E ⟨b14,0,F⟩) 1 1]) 4 V O fun w57 O=>?_)
    refine ⟨(O.sub [1,2,3]),?_⟩
    refine Aq ?_
    refine Aa ?_
    exact ⟨b14,p4,c4,T8,V.sb,O,hT8,trivial⟩
   rw [h2] at V
   have hnl:=Lq h2
   refine cF V ?_
   refine Sb [(113,I (po == ((((⟨E ay,yc,yd⟩::rc).length:Nat):Int) - 1)))] V [Z po,I true] (cc (O.l1 3 1 3 (Z po)) (cc ((An (by omega) (by omega)):inK .i64 ((((⟨E ay,yc,yd⟩::rc).length:Nat):Int) - 1)) c0)) fun J V=>?_
   rcases bC po ((((⟨E ay,yc,yd⟩::rc).length:Nat):Int) - 1) with ⟨h3,h3p⟩|⟨h3,h3p⟩
   ·
    rw [h3] at V
    refine cT V ?_
    refine sr 2 ?_
    refine Ka 1 [(119,pt b1)] V fun J V=>?_
    refine Ms 0 [Z 4] 3 V O fun w58 O=>?_
    refine Ab ?_
    refine Aa ?_
    refine sr 4 ?_
    refine Kb 2 [(120,D #[Z 4,Z po,Y inp,C (E aj) (((⟨E ax,xc,(⟨E ay,yc,yd⟩::rc),xb⟩:JV)::rj).length) kj,Z rd,Z wr,Z pv,C pn ln.length kn,C pp (([]:List PV).length) kp]),(121,D #[Z 1,Z 0,Z 0,Z 0,C F 0 0])] V [D #[Z 4,Z po,Y inp,C (E aj) (((⟨E ax,xc,(⟨E ay,yc,yd⟩::rc),xb⟩:JV)::rj).length) kj,Z rd,Z wr,Z pv,C pn ln.length kn,C pp (([]:List PV).length) kp]] (cc (O.ln 3 0 54 (cS 4 po inp (E aj) (((⟨E ax,xc,(⟨E ay,yc,yd⟩::rc),xb⟩:JV)::rj).length) kj rd wr pv pn ln.length kn pp (([]:List PV).length) kp)) c0) fun J V=>?_
    refine Ms 0 (cS 4 po inp (E aj) (((⟨E ax,xc,(⟨E ay,yc,yd⟩::rc),xb⟩:JV)::rj).length) kj rd wr pv pn ln.length kn pp (([]:List PV).length) kp) 2 V O fun w59 O=>?_
    refine Ms 0 [Z 1,Z 0,Z 0,Z 0,C F 0 0] 1 V O fun w60 O=>?_
    refine Ab ?_
    refine Aa ?_
    refine wp_ret ?_
    refine Ad ?_
    refine Ac ?_
    refine cR (cs:=[E (⟨b2,0,F⟩,54),E (⟨b3,0,F⟩,59)]) (us:=[D #[Z 4,Z po,Y inp,C (E aj) (((⟨E ax,xc,(⟨E ay,yc,yd⟩::rc),xb⟩:JV)::rj).length) kj,Z rd,Z wr,Z pv,C pn ln.length kn,C pp (([]:List PV).length) kp],D #[Z 1,Z 0,Z 0,Z 0,C F 0 0]]) V [D #[Z 4,Z po,Y inp,C (E aj) (((⟨E ax,xc,(⟨E ay,yc,yd⟩::rc),xb⟩:JV)::rj).length) kj,Z rd,Z wr,Z pv,C pn ln.length kn,C pp (([]:List PV).length) kp],D #[Z 1,Z 0,Z 0,Z 0,C F 0 0]] ⟨(O.ln 2 0 54 (cS 4 po inp (E aj) (((⟨E ax,xc,(⟨E ay,yc,yd⟩::rc),xb⟩:JV)::rj).length) kj rd wr pv pn ln.length kn pp (([]:List PV).length) kp)),(O.ln 1 0 59 [Z 1,Z 0,Z 0,Z 0,C F 0 0]),trivial⟩ ?_
    exact ⟨(⟨4,po,inp,E aj,kj,((⟨E ax,xc,(⟨E ay,yc,yd⟩::rc),xb⟩:JV)::rj),rd,wr,pv,pn,kn,ln,pp,kp,[]⟩:SV),⟨F,0,⟨1,0,0,0,[]⟩⟩,[],(E5 (s:=SV.d (⟨mo,po,inp,E aj,kj,((⟨E ax,xc,(⟨E ay,yc,yd⟩::rc),xb⟩:JV)::rj),rd,wr,pv,pn,kn,ln,pp,kp,[]⟩:SV)) rfl (kJ _) (sj_c hne hnl (by omega))),rfl,((O.sub [])),okB (Ao.old hG fun _ h_=>h_.j) (Ao.old hG fun _ h_=>h_.k) (Ao.old hG fun _ h_=>h_.p),(B2 _ _ _ _)⟩
   rw [h3] at V
   refine cF V ?_
   refine Sb [(122,I (decide (po < (((⟨E ay,yc,yd⟩::rc).length:Nat):Int))))] V [Z po] (cc (O.l1 3 1 3 (Z po)) c0) fun J V=>?_
   rcases dC (po < (((⟨E ay,yc,yd⟩::rc).length:Nat):Int)) with ⟨h4,h4p⟩|⟨h4,h4p⟩
   ·
    rw [h4] at V
    refine cT V ?_
    refine sr 2 ?_
    refine Ka 1 [(127,pt b1)] V fun J V=>?_
    refine Ms 0 [Z 3] 3 V O fun w61 O=>?_
    refine Ab ?_
    refine Aa ?_
    refine sr 4 ?_
    refine Kb 2 [(128,D #[Z 3,Z po,Y inp,C (E aj) (((⟨E ax,xc,(⟨E ay,yc,yd⟩::rc),xb⟩:JV)::rj).length) kj,Z rd,Z wr,Z pv,C pn ln.length kn,C pp (([]:List PV).length) kp]),(129,D #[Z 11,Z 0,Z 0,Z 0,C F 0 0])] V [D #[Z 3,Z po,Y inp,C (E aj) (((⟨E ax,xc,(⟨E ay,yc,yd⟩::rc),xb⟩:JV)::rj).length) kj,Z rd,Z wr,Z pv,C pn ln.length kn,C pp (([]:List PV).length) kp]] (cc (O.ln 3 0 54 (cS 3 po inp (E aj) (((⟨E ax,xc,(⟨E ay,yc,yd⟩::rc),xb⟩:JV)::rj).length) kj rd wr pv pn ln.length kn pp (([]:List PV).length) kp)) c0) fun J V=>?_
    refine Ms 0 (cS 3 po inp (E aj) (((⟨E ax,xc,(⟨E ay,yc,yd⟩::rc),xb⟩:JV)::rj).length) kj rd wr pv pn ln.length kn pp (([]:List PV).length) kp) 2 V O fun w62 O=>?_
    refine Ms 0 [Z 11,Z 0,Z 0,Z 0,C F 0 0] 1 V O fun w63 O=>?_
    refine Ab ?_
    refine Aa ?_
    refine wp_ret ?_
    refine Ad ?_
    refine Ac ?_
    refine cR (cs:=[E (⟨b2,0,F⟩,54),E (⟨b3,0,F⟩,59)]) (us:=[D #[Z 3,Z po,Y inp,C (E aj) (((⟨E ax,xc,(⟨E ay,yc,yd⟩::rc),xb⟩:JV)::rj).length) kj,Z rd,Z wr,Z pv,C pn ln.length kn,C pp (([]:List PV).length) kp],D #[Z 11,Z 0,Z 0,Z 0,C F 0 0]]) V [D #[Z 3,Z po,Y inp,C (E aj) (((⟨E ax,xc,(⟨E ay,yc,yd⟩::rc),xb⟩:JV)::rj).length) kj,Z rd,Z wr,Z pv,C pn ln.length kn,C pp (([]:List PV).length) kp],D #[Z 11,Z 0,Z 0,Z 0,C F 0 0]] ⟨(O.ln 2 0 54 (cS 3 po inp (E aj) (((⟨E ax,xc,(⟨E ay,yc,yd⟩::rc),xb⟩:JV)::rj).length) kj rd wr pv pn ln.length kn pp (([]:List PV).length) kp)),(O.ln 1 0 59 [Z 11,Z 0,Z 0,Z 0,C F 0 0]),trivial⟩ ?_
    exact ⟨(⟨3,po,inp,E aj,kj,((⟨E ax,xc,(⟨E ay,yc,yd⟩::rc),xb⟩:JV)::rj),rd,wr,pv,pn,kn,ln,pp,kp,[]⟩:SV),⟨F,0,⟨11,0,0,0,[]⟩⟩,[],(E5 (s:=SV.d (⟨mo,po,inp,E aj,kj,((⟨E ax,xc,(⟨E ay,yc,yd⟩::rc),xb⟩:JV)::rj),rd,wr,pv,pn,kn,ln,pp,kp,[]⟩:SV)) rfl (kJ _) (sj_d hne hnl (by omega) (by omega))),rfl,((O.sub [])),okB (Ao.old hG fun _ h_=>h_.j) (Ao.old hG fun _ h_=>h_.k) (Ao.old hG fun _ h_=>h_.p),(B2 _ _ _ _)⟩
   rw [h4] at V
   refine cF V ?_
   refine sJ (fun J W=>Holds 154 [] J [(1,pt b1),(2,pt b2),(3,pt b3),(130,I ((!xb) && (decide (((ln.length:Nat):Int) > 0))))]/\Ow jP Ag w W [(b4,71,[C (E ax) ((⟨E ay,yc,yd⟩::rc).length) xc,I xb]),(b3,59,[Z 0,Z 0,Z 0,Z 0,C F 0 0]),(b2,54,(cS 0 0 (⟨#[]⟩:ByteArray) F 0 0 0 0 0 F 0 0 F 0 0)),(b1,54,(cS mo po inp (E aj) (((⟨E ax,xc,(⟨E ay,yc,yd⟩::rc),xb⟩:JV)::rj).length) kj rd wr pv pn ln.length kn pp (([]:List PV).length) kp))]/\True) ?_ ?_
   ·
    rintro J w64 ⟨V,O,-⟩
    rcases jK ((!xb) && (decide (((ln.length:Nat):Int) > 0))) with h5 | h5
    ·
     rw [h5] at V
     have hyw:=fS h5
     refine cT V ?_
     refine sr 2 ?_
     refine Ka 1 [(140,pt b1)] V fun J V=>?_
     refine Ms 0 [Z 5] 3 V O fun w65 O=>?_
     refine Ab ?_
     refine Aa ?_
     refine sr 4 ?_
     refine Kb 2 [(141,D #[Z 5,Z po,Y inp,C (E aj) (((⟨E ax,xc,(⟨E ay,yc,yd⟩::rc),xb⟩:JV)::rj).length) kj,Z rd,Z wr,Z pv,C pn ln.length kn,C pp (([]:List PV).length) kp]),(142,D #[Z 3,Z 0,Z 0,Z 0,C F 0 0])] V [D #[Z 5,Z po,Y inp,C (E aj) (((⟨E ax,xc,(⟨E ay,yc,yd⟩::rc),xb⟩:JV)::rj).length) kj,Z rd,Z wr,Z pv,C pn ln.length kn,C pp (([]:List PV).length) kp]] (cc (O.ln 3 0 54 (cS 5 po inp (E aj) (((⟨E ax,xc,(⟨E ay,yc,yd⟩::rc),xb⟩:JV)::rj).length) kj rd wr pv pn ln.length kn pp (([]:List PV).length) kp)) c0) fun J V=>?_
     refine Ms 0 (cS 5 po inp (E aj) (((⟨E ax,xc,(⟨E ay,yc,yd⟩::rc),xb⟩:JV)::rj).length) kj rd wr pv pn ln.length kn pp (([]:List PV).length) kp) 2 V O fun w66 O=>?_
     refine Ms 0 [Z 3,Z 0,Z 0,Z 0,C F 0 0] 1 V O fun w67 O=>?_
     refine Ab ?_
     refine Aa ?_
     refine wp_ret ?_
     refine Ad ?_
     refine Ac ?_
     refine cR (cs:=[E (⟨b2,0,F⟩,54),E (⟨b3,0,F⟩,59)]) (us:=[D #[Z 5,Z po,Y inp,C (E aj) (((⟨E ax,xc,(⟨E ay,yc,yd⟩::rc),xb⟩:JV)::rj).length) kj,Z rd,Z wr,Z pv,C pn ln.length kn,C pp (([]:List PV).length) kp],D #[Z 3,Z 0,Z 0,Z 0,C F 0 0]]) V [D #[Z 5,Z po,Y inp,C (E aj) (((⟨E ax,xc,(⟨E ay,yc,yd⟩::rc),xb⟩:JV)::rj).length) kj,Z rd,Z wr,Z pv,C pn ln.length kn,C pp (([]:List PV).length) kp],D #[Z 3,Z 0,Z 0,Z 0,C F 0 0]] ⟨(O.ln 2 0 54 (cS 5 po inp (E aj) (((⟨E ax,xc,(⟨E ay,yc,yd⟩::rc),xb⟩:JV)::rj).length) kj rd wr pv pn ln.length kn pp (([]:List PV).length) kp)),(O.ln 1 0 59 [Z 3,Z 0,Z 0,Z 0,C F 0 0]),trivial⟩ ?_
     exact ⟨(⟨5,po,inp,E aj,kj,((⟨E ax,xc,(⟨E ay,yc,yd⟩::rc),xb⟩:JV)::rj),rd,wr,pv,pn,kn,ln,pp,kp,[]⟩:SV),⟨F,0,⟨3,0,0,0,[]⟩⟩,[],(E5 (s:=SV.d (⟨mo,po,inp,E aj,kj,((⟨E ax,xc,(⟨E ay,yc,yd⟩::rc),xb⟩:JV)::rj),rd,wr,pv,pn,kn,ln,pp,kp,[]⟩:SV)) rfl (kJ _) (sj_e hne hnl (by omega) (by omega) hyw)),rfl,((O.sub [])),okB (Ao.old hG fun _ h_=>h_.j) (Ao.old hG fun _ h_=>h_.k) (Ao.old hG fun _ h_=>h_.p),(B2 _ _ _ _)⟩
    rw [h5] at V
    have hnw:=Y8 h5
    refine cF V ?_
    refine wp_skip ?_
    refine Af ?_
    refine Aa ?_
    rcases Nat.lt_or_ge 1 kj with hk1 | hk1
    ·
     refine sr 11 ?_
     refine Kb 4 [(145,C (E (De (aj:Addr) 2 1)) ((((⟨E ax,xc,(⟨E ay,yc,yd⟩::rc),xb⟩:JV)::rj).length) - (1)) ((kj) - (1))),(146,pf b1 3)] V [C (E aj) (((⟨E ax,xc,(⟨E ay,yc,yd⟩::rc),xb⟩:JV)::rj).length) kj,I true] (cc (O.l1 3 3 22 (C (E aj) (((⟨E ax,xc,(⟨E ay,yc,yd⟩::rc),xb⟩:JV)::rj).length) kj)) (cc (⟨by omega,hpos3_,by omega,by omega,by omega⟩:(0:Int)<=1/\(1:Int)<=((((⟨E ax,xc,(⟨E ay,yc,yd⟩::rc),xb⟩:JV)::rj).length:Nat):Int)/\((((⟨E ax,xc,(⟨E ay,yc,yd⟩::rc),xb⟩:JV)::rj).length:Nat):Int)<=((kj:Nat):Int)/\((kj:Nat):Int)<=((kj:Nat):Int)/\(1:Int) < ((kj:Nat):Int)) c0)) fun J V=>?_
     rw [show De aj 2 1=((aj.add 2):Addr) from Hv _] at V
     rw [show ((((⟨E ax,xc,(⟨E ay,yc,yd⟩::rc),xb⟩:JV)::rj).length) - (1))=rj.length from rfl] at V
     rw [show ((kj) - (1))=(kj - 1) from rfl] at V
     refine Ms 3 [C (E (aj.add 2)) rj.length (kj - 1)] 3 V O fun w68 O=>?_
     refine Ka 1 [(147,pf b1 7)] V fun J V=>?_
     refine Ms 7 [C F 0 0] 3 V O fun w69 O=>?_
     refine Ka 1 [(148,pf b1 1)] V fun J V=>?_
     refine Ms 1 [Z 0] 3 V O fun w70 O=>?_
     refine Ka 1 [(149,pf b1 6)] V fun J V=>?_
     refine Ms 6 [Z (-1)] 3 V O fun w71 O=>?_
     refine Ab ?_
     refine Aa ?_
     refine sr 6 ?_
     refine Kb 1 [(150,D #[Z mo,Z 0,Y inp,C (E (aj.add 2)) rj.length (kj - 1),Z rd,Z wr,Z (-1),C F 0 0,C pp (([]:List PV).length) kp])] V [D #[Z mo,Z 0,Y inp,C (E (aj.add 2)) rj.length (kj - 1),Z rd,Z wr,Z (-1),C F 0 0,C pp (([]:List PV).length) kp]] (cc (O.ln 3 0 54 (cS mo 0 inp (E (aj.add 2)) rj.length (kj - 1) rd wr (-1) F 0 0 pp (([]:List PV).length) kp)) c0) fun J V=>?_
     have heq_:Dc (SV.d (⟨mo,po,inp,E aj,kj,((⟨E ax,xc,(⟨E ay,yc,yd⟩::rc),xb⟩:JV)::rj),rd,wr,pv,pn,kn,ln,pp,kp,[]⟩:SV))=(SV.d (⟨mo,0,inp,E (aj.add 2),(kj - 1),rj,rd,wr,(-1),F,0,[],pp,kp,[]⟩:SV),F):=gT hne hnl (by omega) (by omega) hnw
     refine Ae (mC (d:=(E 151)) V Tryz.func40 ((IH B (⟨mo,0,inp,E (aj.add 2),(kj - 1),rj,rd,wr,(-1),F,0,[],pp,kp,[]⟩:SV) (T++([])) _ ⟨(J0 (hs.keep O.only).j),(.inl ⟨rfl,rfl⟩),(hs.keep O.only).p⟩ ⟨hm.i,N9 hm.j,Nat.zero_le _,Nat.le_of_ble_eq_true rfl,Nat.zero_le _,(by show rj.length<=kj - 1; omega),hm.cp⟩ (Ub hvl) (okB (Ao.old hG fun _ h_=>J0 h_.j) (Ao.all fun _=> .inl ⟨rfl,rfl⟩) (Ao.old hG fun _ h_=>h_.p)) (by have q_:=E8 heq_ (kJ _); omega)).mono ?_))
     rintro en w72 ⟨v3,x3,T9,hq3,rfl,hW3,hG3,hX3⟩
     refine ⟨_,rfl,?_⟩
     clear V J; intro J V
     replace O:Ow jP Ag w _ ([(b4,71,[C (E ax) ((⟨E ay,yc,yd⟩::rc).length) xc,I xb]),(b3,59,[Z 0,Z 0,Z 0,Z 0,C F 0 0]),(b2,54,(cS 0 0 (⟨#[]⟩:ByteArray) F 0 0 0 0 0 F 0 0 F 0 0)),(b1,54,(cS mo 0 inp (E (aj.add 2)) rj.length (kj - 1) rd wr (-1) F 0 0 pp (([]:List PV).length) kp))]++[]):=O.to (kC _).symm
     replace O:=O.j0 hW3; clear hW3
     refine Ka 2 [(152,D #[Z v3.mo,Z v3.po,Y v3.inp,C v3.pj v3.lj.length v3.cj,Z v3.rd,Z v3.wr,Z v3.pv,C v3.pc v3.lc.length v3.cc,C v3.pp v3.lp.length v3.cp]),(153,D #[Z x3.d.call,Z x3.d.a0,Z x3.d.a1,Z x3.d.a2,C x3.p x3.d.data.length x3.c])] V fun J V=>?_
     refine Ms 0 (cS v3.mo v3.po v3.inp v3.pj v3.lj.length v3.cj v3.rd v3.wr v3.pv v3.pc v3.lc.length v3.cc v3.pp v3.lp.length v3.cp) 2 V O fun w73 O=>?_
     refine Ms 0 [Z x3.d.call,Z x3.d.a0,Z x3.d.a1,Z x3.d.a2,C x3.p x3.d.data.length x3.c] 1 V O fun w74 O=>?_
     refine Ab ?_
     refine Aa ?_
     refine wp_ret ?_
     refine cR (cs:=[E (⟨b2,0,F⟩,54),E (⟨b3,0,F⟩,59)]) (us:=[D #[Z v3.mo,Z v3.po,Y v3.inp,C v3.pj v3.lj.length v3.cj,Z v3.rd,Z v3.wr,Z v3.pv,C v3.pc v3.lc.length v3.cc,C v3.pp v3.lp.length v3.cp],D #[Z x3.d.call,Z x3.d.a0,Z x3.d.a1,Z x3.d.a2,C x3.p x3.d.data.length x3.c]]) V [D #[Z v3.mo,Z v3.po,Y v3.inp,C v3.pj v3.lj.length v3.cj,Z v3.rd,Z v3.wr,Z v3.pv,C v3.pc v3.lc.length v3.cc,C v3.pp v3.lp.length v3.cp],D #[Z x3.d.call,Z x3.d.a0,Z x3.d.a1,Z x3.d.a2,C x3.p x3.d.data.length x3.c]] ⟨(O.ln 2 0 54 (cS v3.mo v3.po v3.inp v3.pj v3.lj.length v3.cj v3.rd v3.wr v3.pv v3.pc v3.lc.length v3.cc v3.pp v3.lp.length v3.cp)),(O.ln 1 0 59 [Z x3.d.call,Z x3.d.a0,Z x3.d.a1,Z x3.d.a2,C x3.p x3.d.data.length x3.c]),trivial⟩ ?_
     exact ⟨v3,x3,T9++([]),((E6 (s:=SV.d (⟨mo,po,inp,E aj,kj,((⟨E ax,xc,(⟨E ay,yc,yd⟩::rc),xb⟩:JV)::rj),rd,wr,pv,pn,kn,ln,pp,kp,[]⟩:SV)) rfl (kJ _) heq_).trans hq3),rfl,(((Ow.subP (A:=[_,_,_,_]) O (.cons _ (.cons _ (.cons _ (.cons _ .slnil)))))).tt),hG3.tt,hX3.tt⟩
    have hrj0:rj.length=0:=by omega
    have hkj1:kj=1:=by omega
    refine sr 11 ?_
    refine Kb 4 [(145,C (E aj) ((((⟨E ax,xc,(⟨E ay,yc,yd⟩::rc),xb⟩:JV)::rj).length) - (1)) ((kj) - (1))),(146,pf b1 3)] V [C (E aj) (((⟨E ax,xc,(⟨E ay,yc,yd⟩::rc),xb⟩:JV)::rj).length) kj,I false] (cc (O.l1 3 3 22 (C (E aj) (((⟨E ax,xc,(⟨E ay,yc,yd⟩::rc),xb⟩:JV)::rj).length) kj)) (cc (⟨by omega,hpos3_,by omega,by omega,by omega⟩:(0:Int)<=1/\(1:Int)<=((((⟨E ax,xc,(⟨E ay,yc,yd⟩::rc),xb⟩:JV)::rj).length:Nat):Int)/\((((⟨E ax,xc,(⟨E ay,yc,yd⟩::rc),xb⟩:JV)::rj).length:Nat):Int)<=((kj:Nat):Int)/\((kj:Nat):Int)<=((kj:Nat):Int)/\((1:Int)=((kj:Nat):Int)\/(1:Int)=0)) c0)) fun J V=>?_
    rw [show ((((⟨E ax,xc,(⟨E ay,yc,yd⟩::rc),xb⟩:JV)::rj).length) - (1))=rj.length from rfl] at V
    rw [show ((kj) - (1))=(kj - 1) from rfl] at V
    refine Ms 3 [C (E aj) rj.length (kj - 1)] 3 V O fun w75 O=>?_
    refine Ka 1 [(147,pf b1 7)] V fun J V=>?_
    refine Ms 7 [C F 0 0] 3 V O fun w76 O=>?_
    refine Ka 1 [(148,pf b1 1)] V fun J V=>?_
    refine Ms 1 [Z 0] 3 V O fun w77 O=>?_
    refine Ka 1 [(149,pf b1 6)] V fun J V=>?_
    refine Ms 6 [Z (-1)] 3 V O fun w78 O=>?_
    refine Ab ?_
    refine Aa ?_
    refine sr 6 ?_
    refine Kb 1 [(150,D #[Z mo,Z 0,Y inp,C (E aj) rj.length (kj - 1),Z rd,Z wr,Z (-1),C F 0 0,C pp (([]:List PV).length) kp])] V [D #[Z mo,Z 0,Y inp,C (E aj) rj.length (kj - 1),Z rd,Z wr,Z (-1),C F 0 0,C pp (([]:List PV).length) kp]] (cc (O.ln 3 0 54 (cS mo 0 inp (E aj) rj.length (kj - 1) rd wr (-1) F 0 0 pp (([]:List PV).length) kp)) c0) fun J V=>?_
    have heq_:Dc (SV.d (⟨mo,po,inp,E aj,kj,((⟨E ax,xc,(⟨E ay,yc,yd⟩::rc),xb⟩:JV)::rj),rd,wr,pv,pn,kn,ln,pp,kp,[]⟩:SV))=(SV.d (⟨mo,0,inp,E aj,(kj - 1),rj,rd,wr,(-1),F,0,[],pp,kp,[]⟩:SV),F):=gT hne hnl (by omega) (by omega) hnw
    refine Ae (mC (d:=(E 151)) V Tryz.func40 ((IH B (⟨mo,0,inp,E aj,(kj - 1),rj,rd,wr,(-1),F,0,[],pp,kp,[]⟩:SV) (T++([])) _ ⟨(J1 hrj0 (hs.keep O.only).j),(.inl ⟨rfl,rfl⟩),(hs.keep O.only).p⟩ ⟨hm.i,N9 hm.j,Nat.zero_le _,Nat.le_of_ble_eq_true rfl,Nat.zero_le _,(by show rj.length<=kj - 1; omega),hm.cp⟩ (Ub hvl) (okB (Ao.old hG fun _ h_=>J1 hrj0 h_.j) (Ao.all fun _=> .inl ⟨rfl,rfl⟩) (Ao.old hG fun _ h_=>h_.p)) (by have q_:=E8 heq_ (kJ _); omega)).mono ?_))
    rintro en w79 ⟨v4,x4,T10,hq4,rfl,hW4,hG4,hX4⟩
    refine ⟨_,rfl,?_⟩
    clear V J; intro J V
    replace O:Ow jP Ag w _ ([(b4,71,[C (E ax) ((⟨E ay,yc,yd⟩::rc).length) xc,I xb]),(b3,59,[Z 0,Z 0,Z 0,Z 0,C F 0 0]),(b2,54,(cS 0 0 (⟨#[]⟩:ByteArray) F 0 0 0 0 0 F 0 0 F 0 0)),(b1,54,(cS mo 0 inp (E aj) rj.length (kj - 1) rd wr (-1) F 0 0 pp (([]:List PV).length) kp))]++[]):=O.to (kC _).symm
    replace O:=O.j0 hW4; clear hW4
    refine Ka 2 [(152,D #[Z v4.mo,Z v4.po,Y v4.inp,C v4.pj v4.lj.length v4.cj,Z v4.rd,Z v4.wr,Z v4.pv,C v4.pc v4.lc.length v4.cc,C v4.pp v4.lp.length v4.cp]),(153,D #[Z x4.d.call,Z x4.d.a0,Z x4.d.a1,Z x4.d.a2,C x4.p x4.d.data.length x4.c])] V fun J V=>?_
    refine Ms 0 (cS v4.mo v4.po v4.inp v4.pj v4.lj.length v4.cj v4.rd v4.wr v4.pv v4.pc v4.lc.length v4.cc v4.pp v4.lp.length v4.cp) 2 V O fun w80 O=>?_
    refine Ms 0 [Z x4.d.call,Z x4.d.a0,Z x4.d.a1,Z x4.d.a2,C x4.p x4.d.data.length x4.c] 1 V O fun w81 O=>?_
    refine Ab ?_
    refine Aa ?_
    refine wp_ret ?_
    refine cR (cs:=[E (⟨b2,0,F⟩,54),E (⟨b3,0,F⟩,59)]) (us:=[D #[Z v4.mo,Z v4.po,Y v4.inp,C v4.pj v4.lj.length v4.cj,Z v4.rd,Z v4.wr,Z v4.pv,C v4.pc v4.lc.length v4.cc,C v4.pp v4.lp.length v4.cp],D #[Z x4.d.call,Z x4.d.a0,Z x4.d.a1,Z x4.d.a2,C x4.p x4.d.data.length x4.c]]) V [D #[Z v4.mo,Z v4.po,Y v4.inp,C v4.pj v4.lj.length v4.cj,Z v4.rd,Z v4.wr,Z v4.pv,C v4.pc v4.lc.length v4.cc,C v4.pp v4.lp.length v4.cp],D #[Z x4.d.call,Z x4.d.a0,Z x4.d.a1,Z x4.d.a2,C x4.p x4.d.data.length x4.c]] ⟨(O.ln 2 0 54 (cS v4.mo v4.po v4.inp v4.pj v4.lj.length v4.cj v4.rd v4.wr v4.pv v4.pc v4.lc.length v4.cc v4.pp v4.lp.length v4.cp)),(O.ln 1 0 59 [Z x4.d.call,Z x4.d.a0,Z x4.d.a1,Z x4.d.a2,C x4.p x4.d.data.length x4.c]),trivial⟩ ?_
    exact ⟨v4,x4,T10++([]),((E6 (s:=SV.d (⟨mo,po,inp,E aj,kj,((⟨E ax,xc,(⟨E ay,yc,yd⟩::rc),xb⟩:JV)::rj),rd,wr,pv,pn,kn,ln,pp,kp,[]⟩:SV)) rfl (kJ _) heq_).trans hq4),rfl,(((Ow.subP (A:=[_,_,_,_]) O (.cons _ (.cons _ (.cons _ (.cons _ .slnil)))))).tt),hG4.tt,hX4.tt⟩
   refine rr 10 ?_
   refine Kb 4 [(133,I (!xb)),(134,I (!xb))] V [I xb] (cc (O.l1 0 1 4 (I xb)) c0) fun J V=>?_
   rcases jK (xb) with h6 | h6
   ·
    rw [h6] at V
    refine Ka 6 [(130,I false)] V fun J V=>?_
    refine Ab ?_
    refine Aa ?_
    exact ⟨(V.sub (e':=[(1,pt b1),(2,pt b2),(3,pt b3),(130,I false)]) [1,2,3,130] (by kernel_rfl)).cast (by (rw [show ((!xb) && (decide (((ln.length:Nat):Int) > 0)))=(false) from by (simp_all; done)]) <;> kernel_rfl),O.to,trivial⟩
   rw [h6] at V
   refine Kb 6 [(130,I (decide (((ln.length:Nat):Int) > 0)))] V [C pn ln.length kn] (cc (O.l1 3 7 33 (C pn ln.length kn)) c0) fun J V=>?_
   refine Ab ?_
   refine Aa ?_
   exact ⟨(V.sub (e':=[(1,pt b1),(2,pt b2),(3,pt b3),(130,I (decide (((ln.length:Nat):Int) > 0)))]) [1,2,3,130] (by kernel_rfl)).cast (by (rw [show ((!xb) && (decide (((ln.length:Nat):Int) > 0)))=(decide (((ln.length:Nat):Int) > 0)) from by (simp_all; done)]) <;> kernel_rfl),O.to,trivial⟩
  refine rr 8 ?_
  refine Kb 4 [(97,I (po == 0)),(98,I (po == 0))] V [Z po] (cc (O.l1 3 1 3 (Z po)) c0) fun J V=>?_
  rcases bC po 0 with ⟨h7,h7p⟩|⟨h7,h7p⟩
  ·
   rw [h7] at V
   refine Kb 1 [(98,I true),(99,D #[C (E ax) ((⟨E ay,yc,yd⟩::rc).length) xc,I xb])] V [D #[C (E ax) ((⟨E ay,yc,yd⟩::rc).length) xc,I xb]] (cc (O.ln 0 0 71 [C (E ax) ((⟨E ay,yc,yd⟩::rc).length) xc,I xb]) c0) fun J V=>?_
   refine Mk 100 V O Tryz.func78 (V5 (E ax) xc (⟨E ay,yc,yd⟩::rc) xb _ (show Vw fC _ (C (E ax) (⟨E ay,yc,yd⟩::rc).length xc) (⟨E ay,yc,yd⟩::rc)/\∀ y∈(⟨E ay,yc,yd⟩::rc),VC _ y from (hs.keep O.only).j.2 _ jX) (by omega)) fun J w82 V O=>?_
   refine Ka 2 [(94,I (Bw ((⟨E ay,yc,yd⟩::rc).map CV.d)))] V fun J V=>?_
   refine Ab ?_
   refine Aa ?_
   exact ⟨(V.sub (e':=[(1,pt b1),(2,pt b2),(3,pt b3),(8,pt b4),(9,Z (((⟨E ay,yc,yd⟩::rc).length:Nat):Int)),(94,I (Bw ((⟨E ay,yc,yd⟩::rc).map CV.d)))]) [1,2,3,8,9,94] (by kernel_rfl)).cast (by (rw [show ((po == 0) && Bw ((⟨E ay,yc,yd⟩::rc).map CV.d))=(Bw ((⟨E ay,yc,yd⟩::rc).map CV.d)) from by (simp_all; done)]) <;> kernel_rfl),O.to,trivial⟩
  rw [h7] at V
  refine Ka 4 [(94,I false)] V fun J V=>?_
  refine Ab ?_
  refine Aa ?_
  exact ⟨(V.sub (e':=[(1,pt b1),(2,pt b2),(3,pt b3),(8,pt b4),(9,Z (((⟨E ay,yc,yd⟩::rc).length:Nat):Int)),(94,I false)]) [1,2,3,8,9,94] (by kernel_rfl)).cast (by (rw [show ((po == 0) && Bw ((⟨E ay,yc,yd⟩::rc).map CV.d))=(false) from by (simp_all; done)]) <;> kernel_rfl),O.to,trivial⟩
 refine rr 18 ?_
 refine Kb 4 [(70,I (po == 0)),(71,I (po == 0))] V [Z po] (cc (O.l1 3 1 3 (Z po)) c0) fun J V=>?_
 rcases bC po 0 with ⟨h8,h8p⟩|⟨h8,h8p⟩
 ·
  rw [h8] at V
  refine Ka 4 [(73,I ((((⟨E ay,yc,yd⟩::rc).length:Nat):Int) == 1)),(74,I ((((⟨E ay,yc,yd⟩::rc).length:Nat):Int) == 1)),(75,I ((((⟨E ay,yc,yd⟩::rc).length:Nat):Int) == 1))] V fun J V=>?_
  rcases bC (((⟨E ay,yc,yd⟩::rc).length:Nat):Int) 1 with ⟨h9,h9p⟩|⟨h9,h9p⟩
  ·
   rw [h9] at V
   refine Kb 10 [(67,I (z1.toList == (⟨#[101,120,105,116]⟩:ByteArray).toList))] V [C (E ax) ((⟨E ay,yc,yd⟩::rc).length) xc,C (E ay) yd.words.length yc,Y z1] (cc (O.l1 0 0 69 (C (E ax) ((⟨E ay,yc,yd⟩::rc).length) xc)) (cc (⟨by omega,by omega⟩:(0:Int)<=0/\0 < (((⟨E ay,yc,yd⟩::rc).length:Nat):Int)) (cc ((((show Vw fC _ (C (E ax) (⟨E ay,yc,yd⟩::rc).length xc) (⟨E ay,yc,yd⟩::rc)/\∀ y∈(⟨E ay,yc,yd⟩::rc),VC _ y from (hs.keep O.only).j.2 _ jX).1).ld0 Bm (rfl:((⟨E ay,yc,yd⟩::rc):List CV)[0]? = E ⟨E ay,yc,yd⟩) (by rfl)):Ld jP w5 (ax.add 0) 30 (C (E ay) yd.words.length yc)) (cc (⟨by omega,by omega⟩:(0:Int)<=0/\0 < ((yd.words.length:Nat):Int)) (cc ((((show Vw fT _ (C (E ay) yd.words.length yc) yd.words from (show Vw fC _ (C (E ax) (⟨E ay,yc,yd⟩::rc).length xc) (⟨E ay,yc,yd⟩::rc)/\∀ y∈(⟨E ay,yc,yd⟩::rc),VC _ y from (hs.keep O.only).j.2 _ jX).2 _ jX)).ldT hx1):Ld jP w5 (ay.add 0) 9 (Y z1)) c0))))) fun J V=>?_
   refine Ab ?_
   refine Aa ?_
   exact ⟨(V.sub (e':=[(1,pt b1),(2,pt b2),(3,pt b3),(8,pt b4),(9,Z (((⟨E ay,yc,yd⟩::rc).length:Nat):Int)),(67,I (z1.toList == (⟨#[101,120,105,116]⟩:ByteArray).toList))]) [1,2,3,8,9,67] (by kernel_rfl)).cast (by (rw [show (Bv ((⟨E ay,yc,yd⟩::rc).map CV.d) && (po == 0))=(z1.toList == (⟨#[101,120,105,116]⟩:ByteArray).toList) from by (rw [hie,jN (show (⟨E ay,yc,yd⟩::rc).length=1 by omega),Bool.true_and]; simp_all; done)]) <;> kernel_rfl),O.to,trivial⟩
  rw [h9] at V
  refine Ka 10 [(67,I false)] V fun J V=>?_
  refine Ab ?_
  refine Aa ?_
  exact ⟨(V.sub (e':=[(1,pt b1),(2,pt b2),(3,pt b3),(8,pt b4),(9,Z (((⟨E ay,yc,yd⟩::rc).length:Nat):Int)),(67,I false)]) [1,2,3,8,9,67] (by kernel_rfl)).cast (by (rw [show (Bv ((⟨E ay,yc,yd⟩::rc).map CV.d) && (po == 0))=(false) from by (rw [hie,jO (show ¬ (⟨E ay,yc,yd⟩::rc).length=1 by omega)]; rfl)]) <;> kernel_rfl),O.to,trivial⟩
 rw [h8] at V
 refine Ka 14 [(67,I false)] V fun J V=>?_
 refine Ab ?_
 refine Aa ?_
 exact ⟨(V.sub (e':=[(1,pt b1),(2,pt b2),(3,pt b3),(8,pt b4),(9,Z (((⟨E ay,yc,yd⟩::rc).length:Nat):Int)),(67,I false)]) [1,2,3,8,9,67] (by kernel_rfl)).cast (by (rw [show (Bv ((⟨E ay,yc,yd⟩::rc).map CV.d) && (po == 0))=(false) from by (simp_all; done)]) <;> kernel_rfl),O.to,trivial⟩
theorem Pe : ∀ f,OnP f
 | 0=>fun B v T w _ _ _ _ hf=>absurd hf (by omega)
 | f+1=>fun B v T w hs hm hvl hG hf=>by
  obtain ⟨mo,po,inp,pj,kj,lj,rd,wr,pv,pn,kn,ln,pp,kp,lp⟩:=v
  cases lp with
  | cons x rp =>
   obtain ⟨qp,qc,qd⟩:=x
   obtain ⟨ap,rfl⟩:=hs.p.1.pos (kJ _)
   exact Yt B mo po inp pj kj lj rd wr pv pn kn ln ap kp qp qc qd rp f T w hs hm hG
  | nil =>
   cases lj with
   | nil=>exact Yu B mo po inp pj kj rd wr pv pn kn ln pp kp f T w hs hm hG (Pe f) hf
   | cons x rj =>
    obtain ⟨xp,xc,xl,xb⟩:=x
    obtain ⟨hxl,hxv⟩:=J2 hvl
    cases xl with
    | nil=>exact absurd hxl.1 (show ¬ 1<=0 by decide)
    | cons y rc =>
     obtain ⟨yp,yc,yd⟩:=y
     obtain ⟨hwl,hws⟩:=E9 (hxv _ jX)
     obtain ⟨aj,rfl⟩:=hs.j.1.pos (kJ _)
     obtain ⟨ax,rfl⟩:=(hs.j.2 _ jX).1.pos (kJ _)
     obtain ⟨ay,rfl⟩:=((hs.j.2 _ jX).2 _ jX).pos hwl.1
     exact bZ B mo po inp aj kj ax xc ay yc yd rc xb rj rd wr pv pn kn ln pp kp f T w hs hm hG hvl (Pe f) hf
theorem D9 (B:World->Prop) (v:SV) (T:OwL) (w:World) (hs:v.ok w) (hm:v.sm) (hvl:As (v.lj.map JV.d)=true) (hG:Ao B T v.ok):Calls jP 40 #[cSt v] w (Ex B T w (By v.d)):=Pe _ B v T w hs hm hvl hG (Nat.le_refl _)
end Go.Proofs.YtdljjajjonfjbaaGreatDoor
