import Derived.Test.YtdljjajjonfjbaaGreatDoorSht
import Derived.Test.YtdljjajjonfjbaaGreatDoorStb
import Derived.Test.YtdljjajjonfjbaaGreatDoorParsc
import Derived.Test.YtdljjajjonfjbaaGreatDoorShr
set_option linter.unusedVariables false
set_option linter.unusedSimpArgs false
set_option maxRecDepth 10000
set_option maxHeartbeats 4000000
open Go.Value renaming slice->C,agg->D
open Option renaming some->F,none->G
open Go.Proofs.Tryz renaming prog->jP
open List renaming length_append->jR,length_cons->jS,length_map->jU,append_assoc->jV,not_mem_nil->jY,append_nil->kC
namespace Go.Proofs.YtdljjajjonfjbaaGreatDoor
open Go Go.Shelf Go.RowKit Go.Proofs Go.Proofs.Sx
theorem Yd (pb:Nat) (mo po:Int) (inp:ByteArray) (pj:Option Addr) (kj:Nat) (lj:List JV) (rd wr pv:Int) (pn:Option Addr) (kn:Nat) (ln:List Int) (pp:Option Addr) (kp:Nat) (lp:List PV) (T:OwL) (result:Int) (dp:Option Addr) (cd:Nat) (dl:List Int) (w:World) (hG:Ah T (SV.ok (⟨mo,po,inp,pj,kj,lj,rd,wr,pv,pn,kn,ln,pp,kp,lp⟩:SV))) (h0:Ow jP (inT ((pb,39,cS mo po inp pj lj.length kj rd wr pv pn ln.length kn pp lp.length kp)::T)) w w ((pb,39,cS mo po inp pj lj.length kj rd wr pv pn ln.length kn pp lp.length kp)::T)) (hm:SV.sm (⟨mo,po,inp,pj,kj,lj,rd,wr,pv,pn,kn,ln,pp,kp,lp⟩:SV)) (hv:Ba (SV.d (⟨mo,po,inp,pj,kj,lj,rd,wr,pv,pn,kn,ln,pp,kp,lp⟩:SV))=true) (hE : ∀ w',Only (inT ((pb,39,cS mo po inp pj lj.length kj rd wr pv pn ln.length kn pp lp.length kp)::T)) w w'->ErrOk w') (hrn : -9223372036854775808<=result) (hrx:result<=9223372036854775807) (hvd : ∀ w',Only (inT ((pb,39,cS mo po inp pj lj.length kj rd wr pv pn ln.length kn pp lp.length kp)::T)) w w'->Vw fB w' (C dp dl.length cd) dl) (hud:U8s dl) (hdl:dl.length<=1000000) (hcd:dl.length<=cd):Calls jP 30 #[pt pb,Z result,C dp dl.length cd] w fun e w'=>∃ (v:SV) (x:PV) (Tn:OwL),Bi (SV.d (⟨mo,po,inp,pj,kj,lj,rd,wr,pv,pn,kn,ln,pp,kp,lp⟩:SV)) result dl=(v.d,x.d)/\v.sm/\As (v.lj.map JV.d)=true/\e = .returned (D #[Z x.d.call,Z x.d.a0,Z x.d.a1,Z x.d.a2,C x.p x.d.data.length x.c])/\Ow jP (inT ((pb,39,cS mo po inp pj lj.length kj rd wr pv pn ln.length kn pp lp.length kp)::T)) w w' ((pb,39,v.cells)::(T++Tn))/\Ah (T++Tn) v.ok/\Ah (T++Tn) (fun w=>VP w x):=by
 obtain ⟨hb,hmo,hpl,hps,hjb⟩:=(Dv _).1 hv;have hvl:As (lj.map JV.d)=true:=hb.jobs;have hkn:ln.length<=1000:=by have:ln.length<=16:=hb.kids.len; omega
 have hlen:lp.length<=12:=by have:(lp.map PV.d).length<=12:=hb.len; rwa [jU] at this
 have hpl' : 0 < lp.length↔(mo=2\/mo=6):=by have : 0 < (lp.map PV.d).length↔(mo=2\/mo=6):=hpl; rwa [jU] at this
 have hp0 : ¬ (mo=2\/mo=6)->lp.length=0:=fun q=>by
  rcases Nat.eq_zero_or_pos lp.length with e | e
  · exact e
  · exact absurd (hpl'.1 e) q
 have hmo' : 0<=mo/\mo<=7:=hmo;have hin:inp.size<=300:=hb.inp;rcases (show mo=0\/mo=1\/mo=2\/mo=3\/mo=4\/mo=5\/mo=6\/mo=7 by omega) with h | h | h | h | h | h | h | h
 · exact gS pb mo po inp pj kj lj rd wr pv pn kn ln pp kp lp T result dp cd dl w hG h0 hm hvl hE h hrn hrx
 · exact gR pb mo po inp pj kj lj rd wr pv pn kn ln pp kp lp T result dp cd dl w hG h0 hm hvl hE h hrn hrx (hp0 oo) hin hvd hud hdl hcd
 · have hok:=iH hG h0;cases lp with
   | nil=>exact absurd (hpl'.2 (.inl h)) (by simp)
   | cons x rp =>
    obtain ⟨qp,qc,qd⟩:=x;obtain ⟨ap,rfl⟩:=hok.p.1.pos (Nat.zero_lt_succ _);exact bR pb mo po inp pj kj lj rd wr pv pn kn ln ap kp qp qc qd rp T result dp cd dl w hG h0 hm hvl hE h hrn hrx (by rw [jS] at hlen; omega)
 · exact gQ pb mo po inp pj kj lj rd wr pv pn kn ln pp kp lp T result dp cd dl w hG h0 hm hvl hE h hrn hrx (hp0 oo)
 · exact gP pb mo po inp pj kj lj rd wr pv pn kn ln pp kp lp T result dp cd dl w hG h0 hm hvl hE h hrn hrx (hp0 oo) ⟨hb.pos.1,hps (.inr h)⟩ hkn
 · exact gO pb mo po inp pj kj lj rd wr pv pn kn ln pp kp lp T result dp cd dl w hG h0 hm hvl hE h hrn hrx hkn
 · exact gN pb mo po inp pj kj lj rd wr pv pn kn ln pp kp lp T result dp cd dl w hG h0 hm hvl hE h hrn hrx (hpl'.2 (.inr h)) hlen
 · exact gM pb mo po inp pj kj lj rd wr pv pn kn ln pp kp lp T result dp cd dl w hG h0 hm hvl hE h hrn hrx
theorem Y6 {c:CallL} (h:okC c=true):c.data.length<=128:=by
 rw [Cp] at h;exact (jL h).2.2.2.2
theorem cX {lp:List PV} (h : ∀ c∈lp.map PV.d,okC c=true) : ∀ x∈lp,x.d.data.length<=1000000:=fun x hx=>by
 have:=Y6 (h _ (List.mem_map.2 ⟨x,hx,rfl⟩));omega
theorem bL (mo po:Int) (inp:ByteArray) (pj:Option Addr) (kj:Nat) (lj:List JV) (rd wr pv:Int) (pn:Option Addr) (kn:Nat) (ln:List Int) (pp:Option Addr) (kp:Nat) (lp:List PV) (result:Int) (dp:Option Addr) (cd:Nat) (dl:List Int) (w:World) (hs:SV.ok (⟨mo,po,inp,pj,kj,lj,rd,wr,pv,pn,kn,ln,pp,kp,lp⟩:SV) w) (hm:SV.sm (⟨mo,po,inp,pj,kj,lj,rd,wr,pv,pn,kn,ln,pp,kp,lp⟩:SV)) (hvd:Vw fB w (C dp dl.length cd) dl) (hud:U8s dl) (hdl:dl.length<=1000000) (hcd:dl.length<=cd) (hE:ErrOk w) (hrn : -9223372036854775808<=result) (hrx:result<=9223372036854775807) :
 Calls jP 16 #[D #[Z mo,Z po,Y inp,C pj lj.length kj,Z rd,Z wr,Z pv,C pn ln.length kn,C pp lp.length kp],Z result,C dp dl.length cd] w fun e w'=>∃ (v:SV) (x:PV) (T:OwL),A4 (SV.d (⟨mo,po,inp,pj,kj,lj,rd,wr,pv,pn,kn,ln,pp,kp,lp⟩:SV)) result dl=(v.d,x.d)/\v.sm/\e = .returned (.tuple #[D #[Z v.mo,Z v.po,Y v.inp,C v.pj v.lj.length v.cj,Z v.rd,Z v.wr,Z v.pv,C v.pc v.lc.length v.cc,C v.pp v.lp.length v.cp],D #[Z x.d.call,Z x.d.a0,Z x.d.a1,Z x.d.a2,C x.p x.d.data.length x.c]])/\Ow jP Ag w w' T/\Ah T v.ok/\Ah T (fun w=>VP w x):=by
 let f:=(D #[Z mo,Z po,Y inp,C pj lj.length kj,Z rd,Z wr,Z pv,C pn ln.length kn,C pp lp.length kp]:Value);let j:=(C G 0 0:Value);let o:=(cS mo po inp pj lj.length kj rd wr pv pn ln.length kn pp lp.length kp);let p:=(cS 7 0 (⟨#[]⟩:ByteArray) G 0 0 (-1) (-1) (-1) G 0 0 G 0 0);let r:=(cS 0 0 (⟨#[]⟩:ByteArray) G 0 0 0 0 0 G 0 0 G 0 0);let s:=(⟨mo,po,inp,pj,kj,lj,rd,wr,pv,pn,kn,ln,pp,kp,lp⟩:SV);let z:=[Z 0,Z 0,Z 0,Z 0,j];let a0:=#[Z 0,Z 254,Z 0,Z 0,j];let a1:=[Z 0,Z 254,Z 0,Z 0,j];refine Ak (args:=[f,Z result,C dp dl.length cd]) (m:=25) (n:=28) Tryz.func16 rfl kR kR fun J V=>?_;have O:=Ow.nil jP Ag w;refine sr 3 (Mn o 39 3 V O fun J w1 pb V O=>Mn r 39 6 V O fun J w2 b1 V O=>Mn z 43 7 V O fun J w3 b2 V O=>let c:=([(b2,43,[Z 0,Z 0,Z 0,Z 0,C G 0 0]),(b1,39,(cS 0 0 (⟨#[]⟩:ByteArray) G 0 0 0 0 0 G 0 0 G 0 0))]:OwL);Ab (Aa (wp_seq (sr 3 (Kb 1 [(9,f)] V [f] (cc (O.ln 2 0 39 o) c0) fun J V=>Mk 10 V O Tryz.func22 (Ji mo po inp pj kj lj rd wr pv pn kn ln pp kp lp _ (hs.keep O.only) hm) fun J w4 V O=>Ka 1 [(11,I (!(Ba (SV.d s))))] V fun J V=>Ab (Aa ?_))))));rcases jK (Ba (SV.d (⟨mo,po,inp,pj,kj,lj,rd,wr,pv,pn,kn,ln,pp,kp,lp⟩:SV))) with h1 | h1
 · rw [h1] at V;have hbv:=((Dv _).1 h1).1;refine cF V (wp_skip (Aa (sr 3 (Kb 1 [(17,f)] V [f] (cc (O.ln 2 0 39 o) c0) fun J V=>Ae (mC (d:=(F 18)) V Tryz.func29 ((Tj mo po inp pj kj lj rd wr pv pn kn ln pp kp lp _ (hs.keep O.only) hm hbv.jobs (cX hbv.plan)).mono ?_))))));rintro en w5 ⟨⟨mo2,po2,inp2,pj2,kj2,lj2,rd2,wr2,pv2,pn2,kn2,ln2,pp2,kp2,lp2⟩,T0,hd2,hsm2,rfl,hW,hG0⟩;let i:=cS mo2 po2 inp2 pj2 lj2.length kj2 rd2 wr2 pv2 pn2 ln2.length kn2 pp2 lp2.length kp2;refine ⟨_,rfl,?_⟩;clear V J; intro J V;replace O:Ow jP Ag w _ ([(b2,43,z),(b1,39,r),(pb,39,o)]++[]):=O.to (kC _).symm;replace O:=O.j0 hW; clear hW;refine Ms 0 (i) 2 V O fun w6 O=>Ab (Aa (sr 5 (Ka 2 [(19,Z result),(20,C dp dl.length cd)] V fun J V=>Ae (mC (d:=(F 21)) V Tryz.func30 ((Yd pb mo2 po2 inp2 pj2 kj2 lj2 rd2 wr2 pv2 pn2 kn2 ln2 pp2 kp2 lp2 T0 result dp cd dl _ hG0 (Cb (A:=[_,_]) (O.tt:Ow jP Ag w _ ((c++[(pb,39,i)])++(T0++[])))) hsm2 (by rw [hd2]; assumption) (fun w_ k_=>hE.keep (Ow.pan (A:=[_,_]) ((O.tt:Ow jP Ag w _ ((c++[(pb,39,i)])++(T0++[]))).tt) k_)) hrn hrx (fun w_ k_=>hvd.keep (Ow.pan (A:=[_,_]) ((O.tt:Ow jP Ag w _ ((c++[(pb,39,i)])++(T0++[]))).tt) k_)) hud hdl hcd).mono ?_)))));rintro en w7 ⟨⟨mo3,po3,inp3,pj3,kj3,lj3,rd3,wr3,pv3,pn3,kn3,ln3,pp3,kp3,lp3⟩,⟨xp3,xc3,xd3⟩,Tn3,hr3,hsm3,hvl3,rfl,hW,hG3,hx3⟩;let h:=cS mo3 po3 inp3 pj3 lj3.length kj3 rd3 wr3 pv3 pn3 ln3.length kn3 pp3 lp3.length kp3
   let q:=(⟨mo3,po3,inp3,pj3,kj3,lj3,rd3,wr3,pv3,pn3,kn3,ln3,pp3,kp3,lp3⟩:SV);let u:=(C xp3 xd3.data.length xc3:Value);refine ⟨_,rfl,?_⟩;clear V J; intro J V;replace O:=Ch (A:=c) (B:=[]) (T:=T0) (Tn:=Tn3) (x':=(pb,39,h)) (O.tt:Ow jP Ag w _ ((c++[(pb,39,i)])++(T0++[]))) hW; clear hW;replace O:Ow jP Ag w _ ([(b2,43,z),(b1,39,r),(pb,39,(h))]++((T0++Tn3)++([]))):=O.tt;refine Mn z 43 8 V O fun J w8 b3 V O=>let a:=([(b3,43,[Z xd3.call,Z xd3.a0,Z xd3.a1,Z xd3.a2,C xp3 xd3.data.length xc3]),(b2,43,[Z 0,Z 0,Z 0,Z 0,C G 0 0]),(b1,39,(cS 0 0 (⟨#[]⟩:ByteArray) G 0 0 0 0 0 G 0 0 G 0 0)),(pb,39,(cS mo3 po3 inp3 pj3 lj3.length kj3 rd3 wr3 pv3 pn3 ln3.length kn3 pp3 lp3.length kp3))]:OwL);Ms 0 [Z xd3.call,Z xd3.a0,Z xd3.a1,Z xd3.a2,u] 0 V O fun w9 O=>Ab (Aa (sr 5 (Kb 2 [(23,u)] V [u] (cc (O.l1 0 4 41 (u)) c0) fun J V=>?_)));have hgd:=Ng (SV.d s) result dl;rw [show A4 (SV.d (⟨mo,po,inp,pj,kj,lj,rd,wr,pv,pn,kn,ln,pp,kp,lp⟩:SV)) result dl=(SV.d (⟨mo3,po3,inp3,pj3,kj3,lj3,rd3,wr3,pv3,pn3,kn3,ln3,pp3,kp3,lp3⟩:SV),xd3) from (by unfold A4; rw [if_pos aM,← hd2]; exact hr3)] at hgd;have hdl3:xd3.data.length<=128:=Y6 hgd.2;have hud3:U8s xd3.data:=(Ah.at (A:=[_,_,_,_]) (hx3.tt) (O.tt:Ow jP Ag w _ (a++((T0++Tn3)++([])++[]))).m).2;replace O:=O.cn
   refine Ae (mC (d:=(F 24)) V Tryz.func31 ((Nv xp3 xc3 xd3.data _ (Ah.at (A:=[_,_,_,_]) (hx3.tt) (O.tt:Ow jP Ag w _ (a++((T0++Tn3)++([])++[]))).m).1 oo (Ah.at (A:=[_,_,_,_]) (hx3.tt) (O.tt:Ow jP Ag w _ (a++((T0++Tn3)++([])++[]))).m).2).mono ?_));rintro en w10 ⟨p1,c1,T1,rfl,hT1,hW⟩;let g:=([D #[Z mo3,Z po3,Y inp3,C pj3 lj3.length kj3,Z rd3,Z wr3,Z pv3,C pn3 ln3.length kn3,C pp3 lp3.length kp3],D #[Z xd3.call,Z xd3.a0,Z xd3.a1,Z xd3.a2,C p1 xd3.data.length c1]]:List Value);let k:=([Z xd3.call,Z xd3.a0,Z xd3.a1,Z xd3.a2,C p1 xd3.data.length c1]:List Value);refine ⟨_,rfl,?_⟩;clear V J; intro J V;replace O:=Ow.join O hW; clear hW;replace O:Ow jP Ag w _ (a++((T0++Tn3)++(T1++([])))):=O.tt;refine Ka 1 [(25,pf b3 4)] V fun J V=>Ms 4 [C p1 xd3.data.length c1] 0 V O fun w11 O=>Ab (Aa (wp_seq ?_));have hS:Ow jP Ag w _ [(b3,43,k),(pb,39,(h))]:=O.sub [0,3];refine rP [(0,true),(1,true),(2,false),(3,false)] hS ?_;intro w12 ho; replace O:=O.st ho; clear ho;refine Ke 2 [(26,D #[Z mo3,Z po3,Y inp3,C pj3 lj3.length kj3,Z rd3,Z wr3,Z pv3,C pn3 ln3.length kn3,C pp3 lp3.length kp3]),(27,D #[Z xd3.call,Z xd3.a0,Z xd3.a1,Z xd3.a2,C p1 xd3.data.length c1])] V g (cc (hS.sn 1 0 39 (h)) (cc (hS.sn 0 0 43 k) c0)) fun J V=>Am (mS (off:=0) (vc:=(h)) 2 V O fun w13 O=>⟨(O.sub [0,3]),?_⟩);refine Am (mS (off:=0) (vc:=k) 1 V O fun w14 O=>⟨(O.sub [0,3]),?_⟩)
   refine Ar (Aa (wp_ret (cR (cs:=[F (⟨b1,0,G⟩,39),F (⟨b2,0,G⟩,43)]) (us:=g) V g ⟨(O.ln 2 0 39 (h)),(O.ln 1 0 43 k),trivial⟩ ?_)));have hok0:Ah ((T0++Tn3)++(T1++([]))) (SV.ok q):=(Ah.l (T':=T1++([])) hG3).tt;have hvx0:Ah ((T0++Tn3)++(T1++([]))) (fun w_=>VP w_ ⟨p1,c1,xd3⟩):=((hT1.holds.l.r).mono fun _ h_=>⟨h_,hud3⟩);have hst0:A4 (SV.d s) result dl=(SV.d q,xd3):=by unfold A4; rw [if_pos aM,← hd2]; exact hr3
   exact ⟨q,⟨p1,c1,xd3⟩,_,hst0,hsm3,rfl,((Ow.subP (A:=[_,_,_,_]) O (.cons _ (.cons _ (.cons _ (.cons _ .slnil)))))).to (List.nil_append _),hok0,hvx0⟩
 rw [h1] at V;refine cT V (sr 2 (Mk 12 V O Tryz.func24 (Pr _) fun J w15 V O=>Ms 0 (cS 0 0 (⟨#[]⟩:ByteArray) G 0 0 (-1) (-1) (-1) G 0 0 G 0 0) 2 V O fun w16 O=>Ab (Aa (sr 2 (Ka 1 [(13,pt pb)] V fun J V=>Ms 0 [Z 7] 2 V O fun w17 O=>Ab (Aa (wp_seq ?_)))))));have hS:=O.pk [2];refine rP [(0,true),(1,false),(2,false),(3,false),(4,false)] hS ?_;intro w18 ho; replace O:=O.st ho; clear ho;refine Ke 1 [(14,D #[Z 7,Z 0,Y (⟨#[]⟩),j,Z (-1),Z (-1),Z (-1),j,j])] V [D #[Z 7,Z 0,Y (⟨#[]⟩),j,Z (-1),Z (-1),Z (-1),j,j]] (cc (hS.sn 0 0 39 p) c0) fun J V=>Am (mN (l:=[Z 254]) (t:=3) (v:=fun b=> C (F ⟨b,0,G⟩) 1 1) (d:=15) V O fun J w19 b4 V O=>⟨(O.sub [3]),?_⟩);refine Am (mK (d:=(F 16)) V O Tryz.func28 (C5 0 254 ⟨b4,0,G⟩ 1 _ ((O.b 0).vw (off:=0) (xs:=[254]) kR)) fun J w20 V O=>⟨(O.sub [3]),?_⟩);refine Am (mS (off:=0) (vc:=p) 2 V O fun w21 O=>⟨(O.sub [3]),?_⟩);refine Am (mS (off:=0) (vc:=a1) 1 V O fun w22 O=>⟨(O.sub [3]),?_⟩)
 exact Ar (Aa (wp_ret (Ac (cR (cs:=[F (⟨b1,0,G⟩,39),F (⟨b2,0,G⟩,43)]) (us:=[D #[Z 7,Z 0,Y (⟨#[]⟩),j,Z (-1),Z (-1),Z (-1),j,j],D a0]) V [D #[Z 7,Z 0,Y (⟨#[]⟩),j,Z (-1),Z (-1),Z (-1),j,j],D a0] ⟨(O.ln 2 0 39 p),(O.ln 1 0 43 a1),trivial⟩ (⟨(⟨7,0,⟨#[]⟩,G,0,[],-1,-1,-1,G,0,[],G,0,[]⟩:SV),⟨G,0,A3 0 254 0⟩,[],(by unfold A4; rw [if_neg (by rw [h1]; decide)]; rfl),⟨dD,⟨dD,fun y hy=>absurd hy jY⟩,dD,dD,dD,dD,dD⟩,rfl,(O.sub []),(fun _ _ _ _=>⟨⟨.inl ⟨rfl,rfl⟩,fun y hy=>absurd hy jY⟩,.inl ⟨rfl,rfl⟩,⟨.inl ⟨rfl,rfl⟩,fun y hy=>absurd hy jY⟩⟩),(fun _ _ _ _=>⟨.inl ⟨rfl,rfl⟩,fun y hy=>absurd hy jY⟩)⟩)))))
open Go Go.RowKit Go.Proofs.Sx
structure F8 where
 f0:ByteArray
 f1:ByteArray
 f2:ByteArray
 f3:ByteArray
 f4:ByteArray
 f5:ByteArray
 f6:ByteArray
 f7:ByteArray
def F8.at (f:F8):Nat->ByteArray
 | 0=>f.f0 | 1=>f.f1 | 2=>f.f2 | 3=>f.f3 | 4=>f.f4 | 5=>f.f5 | 6=>f.f6 | _=>f.f7
def F8.set (f:F8) (i:Nat) (v:ByteArray):F8:=match i with
 | 0=>{f with f0:=v} | 1=>{f with f1:=v} | 2=>{f with f2:=v} | 3=>{f with f3:=v} | 4=>{f with f4:=v} | 5=>{f with f5:=v} | 6=>{f with f6:=v} | _=>{f with f7:=v}
structure RunL where
 path:ByteArray
 fl:F8
structure WL where
 st:StL
 x:CallL
 fl:F8
 inp:List ByteArray
 fails:List Int
 pipes:Int
 tasks:Int
 alive:List Int
 runs:List RunL
 waited:List Int
 told:Int
 exit:Int
 leak:Bool
 ok:Bool
def gC (w:WL):Bool:=match w.fails with
 | []=>false
 | f::_=>f == 1
def C3 (w:WL):WL:={w with fails:=w.fails.tail}
def Jg (f:F8):Int :=
 if f.f0.size=0 then 0 else if f.f1.size=0 then 1 else if f.f2.size=0 then 2 else if f.f3.size=0 then 3 else if f.f4.size=0 then 4 else if f.f5.size=0 then 5 else if f.f6.size=0 then 6 else if f.f7.size=0 then 7 else -1
def plainB (f:F8):Bool:=decide (f.f0.size≠0/\f.f1.size≠0/\f.f2.size≠0/\f.f3.size=0/\f.f4.size=0/\f.f5.size=0/\f.f6.size=0/\f.f7.size=0)
def inB (n:Int):Bool:=decide (0<=n/\n < 8)
def fileN:ByteArray:=⟨#[102,105,108,101,32]⟩
def spN:ByteArray:=⟨#[32]⟩
def nameF (x:CallL):ByteArray:=fileN++Utf8.encode (48+x.a0.tmod 10)++spN++bsI x.data
def Dj (x:CallL) (f:F8):Int×Bool×F8×Int :=
 if x.call=8 then (if inB x.a0=true/\(f.at x.a0.toNat).size≠0 then (0,true,f.set x.a0.toNat ⟨#[]⟩,0) else (-8,true,f,0))
 else if x.call=12 then (if inB x.a0=true/\inB x.a1=true/\(f.at x.a0.toNat).size≠0 then (0,true,f.set x.a1.toNat (f.at x.a0.toNat),0) else (-8,true,f,0))
 else if x.call=7 then (if Jg f < 0 then (-6,true,f,0) else (Jg f,true,f.set (Jg f).toNat (nameF x),0))
 else if x.call=10 then ((x.data.length:Int),true,f,1)
 else (0,false,f,0)
def G3:Nat->StL->CallL->F8->WL->WL
 | 0,_,_,_,w=>{w with ok:=false}
 | k+1,s,x,f,w =>
  if x.call=0 then w
  else if gC w=true then G3 k (A4 s (-13) []).1 (A4 s (-13) []).2 f (C3 w)
  else if x.call=2 then {C3 w with runs:=w.runs++[⟨bsI x.data,f⟩]}
  else G3 k (A4 s (Dj x f).1 []).1 (A4 s (Dj x f).1 []).2 (Dj x f).2.2.1 {C3 w with told:=w.told+(Dj x f).2.2.2,ok:=w.ok && (Dj x f).2.1}
def aU (s:StL) (f:F8) (w:WL):WL:=G3 40 (A4 s 0 []).1 (A4 s 0 []).2 f w
def goW (w:WL) (r:Int) (d:List Int):WL:={w with st:=(A4 w.st r d).1,x:=(A4 w.st r d).2}
def Ri (w:WL):WL:={w with leak:=w.leak || !plainB w.fl}
def chP (c:UInt8) (n:Int):ByteArray:=(⟨#[c]⟩:ByteArray)++Utf8.encode (97+n % 26)
def mid (f:F8):F8:=if 0<=Jg f then f.set (Jg f).toNat ⟨#[114]⟩ else f
def fQ (w:WL):WL :=
 if 0<=Jg (mid w.fl) then goW {w with pipes:=w.pipes+1,fl:=(w.fl.set (Jg w.fl).toNat (chP 114 (w.pipes+1))).set (Jg (mid w.fl)).toNat (chP 119 (w.pipes+1))} (256*Jg w.fl+Jg (mid w.fl)) []
 else goW w (-13) []
def gA (w:WL):WL:=goW (aU w.st w.fl {w with waited:=w.waited++[w.tasks - (w.alive.length:Int)],tasks:=w.tasks+1,alive:=w.alive++[16+(w.tasks+1)]}) (16+(w.tasks+1)) []
def fF (w:WL):WL :=
 if w.x.call=0 then {w with exit:=w.x.a0}
 else if w.x.call=9 then (match w.inp with
  | []=>goW (Ri w) 0 []
  | c::r=>goW {Ri w with inp:=r} (c.size:Int) (sI c))
 else if w.x.call=3 then (match w.alive with
  | []=>goW (Ri w) (-8) []
  | a::r=>goW {Ri w with alive:=r} (256*a) [])
 else if w.x.call=8\/w.x.call=10 then goW {w with fl:=(Dj w.x w.fl).2.2.1,told:=w.told+(Dj w.x w.fl).2.2.2,ok:=w.ok && (Dj w.x w.fl).2.1} (Dj w.x w.fl).1 []
 else if gC w=true then goW (C3 w) (-13) []
 else if w.x.call=11 then fQ (C3 w)
 else if w.x.call=1 then (if w.tasks < 15 then gA (C3 w) else goW (C3 w) (-13) [])
 else goW {C3 w with ok:=false} (-13) []
theorem Nm (x:CallL) (f:F8) : 0<=(Dj x f).2.2.2/\(Dj x f).2.2.2<=1:=by
 unfold Dj
 repeat' split
 all_goals (first | exact (show (0:Int)<=0/\(0:Int)<=1 by decide) | exact (show (0:Int)<=1/\(1:Int)<=1 by decide))
structure sameC (w w':WL):Prop where
 st:w'.st=w.st
 x:w'.x=w.x
 fl:w'.fl=w.fl
 inp:w'.inp=w.inp
 pipes:w'.pipes=w.pipes
 tasks:w'.tasks=w.tasks
 alive:w'.alive=w.alive
 waited:w'.waited=w.waited
 exit:w'.exit=w.exit
 leak:w'.leak=w.leak
theorem sameC.refl (w:WL):sameC w w:=⟨rfl,rfl,rfl,rfl,rfl,rfl,rfl,rfl,rfl,rfl⟩
theorem sameC.trans {a b c:WL} (h:sameC a b) (k:sameC b c):sameC a c:=⟨k.st.trans h.st,k.x.trans h.x,k.fl.trans h.fl,k.inp.trans h.inp,k.pipes.trans h.pipes,k.tasks.trans h.tasks,k.alive.trans h.alive,k.waited.trans h.waited,k.exit.trans h.exit,k.leak.trans h.leak⟩
theorem Jv : ∀ (k:Nat) (s:StL) (x:CallL) (f:F8) (w:WL),sameC w (G3 k s x f w)
 | 0,_,_,_,w=>⟨rfl,rfl,rfl,rfl,rfl,rfl,rfl,rfl,rfl,rfl⟩
 | k+1,s,x,f,w=>by
  simp only [G3]
  split
  · exact sameC.refl w
  split
  · exact (show sameC w (C3 w) from ⟨rfl,rfl,rfl,rfl,rfl,rfl,rfl,rfl,rfl,rfl⟩).trans (Jv k _ _ f (C3 w))
  split
  · exact ⟨rfl,rfl,rfl,rfl,rfl,rfl,rfl,rfl,rfl,rfl⟩
  · exact (show sameC w {C3 w with told:=w.told+(Dj x f).2.2.2,ok:=w.ok && (Dj x f).2.1} from ⟨rfl,rfl,rfl,rfl,rfl,rfl,rfl,rfl,rfl,rfl⟩).trans (Jv k _ _ _ _)
theorem Ju : ∀ (k:Nat) (s:StL) (x:CallL) (f:F8) (w:WL),w.told<=(G3 k s x f w).told/\(G3 k s x f w).told<=w.told+k/\(G3 k s x f w).runs.length<=w.runs.length+1
 | 0,_,_,_,w=>⟨Int.le_refl _,by show w.told<=w.told+0; omega,Nat.le_succ _⟩
 | k+1,s,x,f,w=>by
  simp only [G3]
  split
  · exact ⟨Int.le_refl _,by omega,Nat.le_succ _⟩
  split
  · have:=Ju k (A4 s (-13) []).1 (A4 s (-13) []).2 f (C3 w)
    simp only [C3] at this ⊢
    omega
  split
  · refine ⟨Int.le_refl _,by show w.told<=_; omega,?_⟩
    show (w.runs++[_]).length<=_
    rw [jR]; exact Nat.le_refl _
  · have:=Ju k (A4 s (Dj x f).1 []).1 (A4 s (Dj x f).1 []).2 (Dj x f).2.2.1 {C3 w with told:=w.told+(Dj x f).2.2.2,ok:=w.ok && (Dj x f).2.1}
    have h1:=Nm x f
    simp only [C3] at this ⊢
    omega
structure smW (n:Nat) (w:WL):Prop where
 told : 0<=w.told/\w.told<=50*n
 pipes : 0<=w.pipes/\w.pipes<=n
 tasks : 0<=w.tasks/\w.tasks<=15
 alive:w.alive.length<=n
 av : ∀ t∈w.alive,0<=t/\t<=32
 runs:w.runs.length<=n
 waited:w.waited.length<=n
theorem smW.go {n:Nat} {w:WL} (h:smW n w) (r:Int) (d:List Int):smW n (goW w r d):=⟨h.told,h.pipes,h.tasks,h.alive,h.av,h.runs,h.waited⟩
theorem smW.up {n:Nat} {w:WL} (h:smW n w):smW (n+1) w:=⟨by have:=h.told; omega,by have:=h.pipes; omega,h.tasks,Nat.le_succ_of_le h.alive,h.av,Nat.le_succ_of_le h.runs,Nat.le_succ_of_le h.waited⟩
theorem smW.lk {n:Nat} {w:WL} (h:smW n w):smW n (Ri w):=⟨h.told,h.pipes,h.tasks,h.alive,h.av,h.runs,h.waited⟩
theorem smW.ft {n:Nat} {w:WL} (h:smW n w):smW n (C3 w):=⟨h.told,h.pipes,h.tasks,h.alive,h.av,h.runs,h.waited⟩
theorem smW.step {n:Nat} {w:WL} (h:smW n w):smW (n+1) (fF w):=by
 have hu:=h.up
 unfold fF
 split
 · exact ⟨hu.told,hu.pipes,hu.tasks,hu.alive,hu.av,hu.runs,hu.waited⟩
 split
 · split
   · exact hu.lk.go _ _
   · refine smW.go ?_ _ _
     exact ⟨hu.told,hu.pipes,hu.tasks,hu.alive,hu.av,hu.runs,hu.waited⟩
 split
 · split
   · exact hu.lk.go _ _
   · rename_i a r e
     have h1:=hu.alive
     have h2:=hu.av
     rw [e] at h1 h2
     refine smW.go ?_ _ _
     exact ⟨hu.told,hu.pipes,hu.tasks,Nat.le_of_succ_le h1,fun t ht=>h2 t (List.mem_cons_of_mem _ ht),hu.runs,hu.waited⟩
 split
 · have h1:=Nm w.x w.fl
   have h2:=h.told
   refine smW.go ?_ _ _
   exact ⟨by show 0<=w.told+(Dj w.x w.fl).2.2.2/\w.told+(Dj w.x w.fl).2.2.2<=_; omega,hu.pipes,hu.tasks,hu.alive,hu.av,hu.runs,hu.waited⟩
 split
 · exact hu.ft.go _ _
 split
 · unfold fQ
   split
   · have h2:=h.pipes
     refine smW.go ?_ _ _
     exact ⟨hu.told,by show 0<=w.pipes+1/\w.pipes+1<=_; omega,hu.tasks,hu.alive,hu.av,hu.runs,hu.waited⟩
   · exact hu.ft.go _ _
 split
 · split
   · rename_i ht
     unfold gA
     refine smW.go ?_ _ _
     unfold aU
     generalize hq:({C3 w with waited:=_,tasks:=_,alive:=_}:WL)=w1
     have hs:=Jv 40 (A4 (C3 w).st 0 []).1 (A4 (C3 w).st 0 []).2 (C3 w).fl w1
     have hc:=Ju 40 (A4 (C3 w).st 0 []).1 (A4 (C3 w).st 0 []).2 (C3 w).fl w1
     have e1:w1.told=w.told:=by rw [← hq]; rfl
     have e2:w1.runs=w.runs:=by rw [← hq]; rfl
     have h2:=h.told
     have h3:=h.tasks
     have h4:=h.runs
     rw [e1,e2] at hc
     refine ⟨by omega,?_,?_,?_,?_,by omega,?_⟩
     · rw [hs.pipes,← hq]; exact hu.pipes
     · rw [hs.tasks,← hq]; show 0<=w.tasks+1/\w.tasks+1<=15; omega
     · rw [hs.alive,← hq]; show (w.alive++[_]).length<=_; rw [jR]; exact Nat.succ_le_succ h.alive
     · rw [hs.alive,← hq]
       intro t hm
       rcases List.mem_append.1 hm with hm | hm
       · exact h.av t hm
       · have:t=16+(w.tasks+1):=List.mem_singleton.1 hm
         rw [this]; omega
     · rw [hs.waited,← hq]; show (w.waited++[_]).length<=_; rw [jR]; exact Nat.succ_le_succ h.waited
   · exact hu.ft.go _ _
 · refine smW.go ?_ _ _
   exact ⟨hu.told,hu.pipes,hu.tasks,hu.alive,hu.av,hu.runs,hu.waited⟩
end Go.Proofs.YtdljjajjonfjbaaGreatDoor
namespace Go.Proofs.Sx
open Go Go.RowKit
def P6 {α:Type} (f : α->List Value) (e:TypeId) (sz:Nat) (p:Option Addr) (c:Nat) (l:List α) (T:OwL):Prop :=
 (p=G/\c=0/\l=[]/\T=[])\/∃ b pre r z,p=F ⟨b,pre.length,G⟩/\l.length<=c/\c<=maxLen/\(l.flatMap f++r).length=c*sz/\T=[(b,e,pre++((l.flatMap f++r)++z))]
section
variable {α:Type} {f : α->List Value} {e:TypeId} {sz:Nat} {p:Option Addr} {c:Nat} {l:List α} {T:OwL} {P:Program} {X:Nat->Prop} {w₀ w w':World}
theorem One.off (h:One f e sz p c l T):P6 f e sz p c l T:=by
 rcases h with ⟨rfl,rfl,rfl,rfl⟩ | ⟨b,r,rfl,h1,h2,h3,rfl⟩
 · exact .inl ⟨rfl,rfl,rfl,rfl⟩
 · exact .inr ⟨b,[],r,[],rfl,h1,h2,h3,by simp⟩
theorem P6.le (h:P6 f e sz p c l T):l.length<=c:=by
 rcases h with ⟨_,rfl,rfl,_⟩ | ⟨_,_,_,_,_,h,_⟩
 · exact Nat.le_refl _
 · exact h
theorem P6.vw (h:P6 f e sz p c l T) {A B:OwL} (O:OwM X w₀ w (A++(T++B))):Vw f w (C p l.length c) l:=by
 rcases h with ⟨rfl,rfl,rfl,rfl⟩ | ⟨b,pre,r,z,rfl,_,_,_,rfl⟩
 · exact .inl ⟨rfl,rfl⟩
 · refine .inr ⟨_,c,rfl,fun j u hj=>?_⟩
   rw [Er]
   have hB:=O.blk (b,e,pre++((l.flatMap f++r)++z)) (by simp)
   refine hB.cell ?_
   have hl:=(List.getElem?_eq_some_iff.1 hj).1
   rw [List.getElem?_append_right (by omega),Nat.add_sub_cancel_left,jV,List.getElem?_append_left hl]
   exact hj
theorem P6.tl {x : α} {ad:Addr} (E:Enc f sz) (h:P6 f e sz (F ad) c (x::l) T) (hc : 1 < c):P6 f e sz (F (ad.add sz)) (c - 1) l T:=by
 rcases h with ⟨h,_⟩ | ⟨b,pre,r,z,h,h1,h2,h3,rfl⟩
 · cases h
 · cases h
   rw [jS] at h1
   refine .inr ⟨b,pre++f x,r,z,?_,by omega,by omega,?_,?_⟩
   · rw [Er,jR,E.len]
   · rw [List.flatMap_cons,jV,jR,E.len] at h3
     have:(c - 1)*sz=c*sz - sz:=by rw [Nat.mul_comm,Nat.mul_sub_one,Nat.mul_comm]
     omega
   · rw [List.flatMap_cons]; simp
end
end Go.Proofs.Sx
namespace Go.Proofs.YtdljjajjonfjbaaGreatDoor
open Go Go.RowKit Go.Proofs.Sx
def fl8 (f:F8):List Value:=[.string f.f0,.string f.f1,.string f.f2,.string f.f3,.string f.f4,.string f.f5,.string f.f6,.string f.f7]
def fR (x:RunL):List Value:= .string x.path::fl8 x.fl
structure WV where
 sv:SV
 x:PV
 fl:F8
 ip:Option Addr
 ic:Nat
 il:List ByteArray
 fp:Option Addr
 fc:Nat
 ff:List Int
 pipes:Int
 tasks:Int
 ap:Option Addr
 ac:Nat
 al:List Int
 rp:Option Addr
 rc:Nat
 rl:List RunL
 wp:Option Addr
 wk:Nat
 wl:List Int
 told:Int
 exit:Int
 leak:Bool
 ok:Bool
def WV.d (a:WV):WL:=⟨a.sv.d,a.x.d,a.fl,a.il,a.ff,a.pipes,a.tasks,a.al,a.rl,a.wl,a.told,a.exit,a.leak,a.ok⟩
theorem Ty (v:SV) (result:Int) (dp:Option Addr) (cd:Nat) (dl:List Int) (w:World) (hs:v.ok w) (hm:v.sm) (hvd:Vw fB w (C dp dl.length cd) dl) (hud:U8s dl) (hdl:dl.length<=1000000) (hcd:dl.length<=cd) (hE:ErrOk w) (hrn : -9223372036854775808<=result) (hrx:result<=9223372036854775807) :
 Calls jP 16 #[D #[Z v.mo,Z v.po,Y v.inp,C v.pj v.lj.length v.cj,Z v.rd,Z v.wr,Z v.pv,C v.pc v.lc.length v.cc,C v.pp v.lp.length v.cp],Z result,C dp dl.length cd] w fun e w'=>∃ (u:SV) (x:PV) (T:OwL),u.d=(A4 v.d result dl).1/\x.d=(A4 v.d result dl).2/\u.sm/\e = .returned (.tuple #[D #[Z u.mo,Z u.po,Y u.inp,C u.pj u.lj.length u.cj,Z u.rd,Z u.wr,Z u.pv,C u.pc u.lc.length u.cc,C u.pp u.lp.length u.cp],D #[Z x.d.call,Z x.d.a0,Z x.d.a1,Z x.d.a2,C x.p x.d.data.length x.c]])/\Ow jP Ag w w' T/\Ah T u.ok/\Ah T (fun w=>VP w x) :=
 (bL v.mo v.po v.inp v.pj v.cj v.lj v.rd v.wr v.pv v.pc v.cc v.lc v.pp v.cp v.lp result dp cd dl w hs hm hvd hud hdl hcd hE hrn hrx).mono fun e w' ⟨u,x,T,h1,h2,h3,h4,h5,h6⟩=>⟨u,x,T,(congrArg Prod.fst h1).symm,(congrArg Prod.snd h1).symm,h2,h3,h4,h5,h6⟩
theorem bK (v:SV) (result:Int) (w:World) (hs:v.ok w) (hm:v.sm) (hE:ErrOk w) (hrn : -9223372036854775808<=result) (hrx:result<=9223372036854775807) :
 Calls jP 16 #[D #[Z v.mo,Z v.po,Y v.inp,C v.pj v.lj.length v.cj,Z v.rd,Z v.wr,Z v.pv,C v.pc v.lc.length v.cc,C v.pp v.lp.length v.cp],Z result,C G 0 0] w fun e w'=>∃ (u:SV) (x:PV) (T:OwL),u.d=(A4 v.d result []).1/\x.d=(A4 v.d result []).2/\u.sm/\e = .returned (.tuple #[D #[Z u.mo,Z u.po,Y u.inp,C u.pj u.lj.length u.cj,Z u.rd,Z u.wr,Z u.pv,C u.pc u.lc.length u.cc,C u.pp u.lp.length u.cp],D #[Z x.d.call,Z x.d.a0,Z x.d.a1,Z x.d.a2,C x.p x.d.data.length x.c]])/\Ow jP Ag w w' T/\Ah T u.ok/\Ah T (fun w=>VP w x) :=
 Ty v result G 0 [] w hs hm (.inl ⟨rfl,rfl⟩) (fun x h=>absurd h jY) (Nat.zero_le _) (Nat.le_refl _) hE hrn hrx
structure WOk (a:WV) (TR TA TW TS:OwL):Prop where
 sm:a.sv.sm
 xl:a.x.d.data.length<=128
 r:One fR 50 9 a.rp a.rc a.rl TR
 al:P6 fN 3 1 a.ap a.ac a.al TA
 wl:One fN 3 1 a.wp a.wk a.wl TW
 s:Ah TS (fun w=>SV.ok a.sv w/\VP w a.x)
 ic:a.il.length<=a.ic
 fc:a.ff.length<=a.fc
structure WX (w:World) (a:WV):Prop where
 e:ErrOk w
 i:Vw fT w (C a.ip a.il.length a.ic) a.il
 f:Vw fB w (C a.fp a.ff.length a.fc) a.ff
def nSV:SV:=(⟨0,0,⟨#[]⟩,G,0,[],-1,-1,-1,G,0,[],G,0,[]⟩:SV)
theorem nSV_d:nSV.d=Sw:=rfl
theorem iL (w:World):nSV.ok w:=⟨⟨.inl ⟨rfl,rfl⟩,fun y hy=>absurd hy jY⟩,.inl ⟨rfl,rfl⟩,⟨.inl ⟨rfl,rfl⟩,fun y hy=>absurd hy jY⟩⟩
theorem iK:nSV.sm:=⟨by decide,⟨by decide,fun y hy=>absurd hy jY⟩,by decide,by decide,by decide,by decide,by decide⟩
def awS1:StL:={Sw with mode:=1}
def awS2:StL:=⟨3,0,⟨#[]⟩,[⟨[⟨[⟨#[97]⟩],⟨#[]⟩,⟨#[]⟩,false⟩,⟨[⟨#[98]⟩],⟨#[]⟩,⟨#[]⟩,false⟩],false⟩],-1,-1,-1,[],[]⟩
theorem aw_1:A4 Sw 0 []=(awS1,A3 9 0 80):=by kernel_rfl
theorem aw_2:A4 awS1 6 ([97,32,124,32,98,10]:List Int)=(awS2,A3 11 0 0):=by kernel_rfl
theorem aw_3:(A4 awS2 772 []).2=A3 1 0 0:=by kernel_rfl
theorem X1 (w:World) (hE:ErrOk w) :
 Calls jP 7 #[] w fun e w'=>e = .returned (.bool true)/\Only Ag w w':=by
 let j:=(cS 0 0 (⟨#[]⟩:ByteArray) G 0 0 0 0 0 G 0 0 G 0 0);let p:=([Z 0,Z 0,Z 0,Z 0,C G 0 0]:List Value);refine Ak (args:=[]) (m:=47) (n:=47) Tryz.func7 rfl kR kR fun J V=>?_;have O:=Ow.nil jP Ag w;refine Sa [(0,I false)] V fun J V=>sr 9 (Mk 8 V O Tryz.func24 (Pr _) fun J w1 V O=>Ae (mC (d:=(F 9)) V Tryz.func16 ((bK nSV 0 _ (iL _) iK (hE.keep O.only) oo oo).mono ?_)));rintro en w2 ⟨u1,xa1,TA1,hu1,hxa1,hsm1,rfl,hW_,hG1,hXX1⟩;let f:=(cS u1.mo u1.po u1.inp u1.pj u1.lj.length u1.cj u1.rd u1.wr u1.pv u1.pc u1.lc.length u1.cc u1.pp u1.lp.length u1.cp);let h:=(D #[Z u1.mo,Z u1.po,Y u1.inp,C u1.pj u1.lj.length u1.cj,Z u1.rd,Z u1.wr,Z u1.pv,C u1.pc u1.lc.length u1.cc,C u1.pp u1.lp.length u1.cp]:Value);let i:=([Z xa1.d.call,Z xa1.d.a0,Z xa1.d.a1,Z xa1.d.a2,C xa1.p xa1.d.data.length xa1.c]:List Value);let r:=#[Z xa1.d.a0,Z xa1.d.a1,Z xa1.d.a2];refine ⟨_,rfl,?_⟩;clear V J; intro J V;replace O:Ow jP Ag w _ ([]++[]):=O.to (kC _).symm;replace O:=O.j0 hW_; clear hW_;have hPTA1:Ah TA1 (fun w_=>SV.ok u1 w_/\VP w_ xa1):=Ah.and hG1 hXX1;rw [nSV_d,aw_1] at hu1 hxa1
 refine Ka 3 [(10,h),(11,D #[Z xa1.d.call,Z xa1.d.a0,Z xa1.d.a1,Z xa1.d.a2,C xa1.p xa1.d.data.length xa1.c])] V fun J V=>Mn j 39 1 V O fun J w3 b1 V O=>Mn p 43 2 V O fun J w4 b2 V O=>Ms 0 f 1 V O fun w5 O=>Ms 0 i 0 V O fun w6 O=>Ab (Aa (sr 11 (Kb 1 [(13,h)] V [h] (cc (O.ln 1 0 39 f) c0) fun J V=>Mv [u8 97,u8 32,u8 124,u8 32,u8 98,u8 10] 5 6 14 V O fun J w7 b3 V O=>let q:=(b3,5,[u8 97,u8 32,u8 124,u8 32,u8 98,u8 10]);Ae (mV (L:=([q,(b2,43,i),(b1,39,f)]++(TA1++([])))) (t:=41) (el:=5) (off:=0) (m:=6) (c:=6) (d:=15) 0 V O fun J w8 V O=>Ae (mC (d:=(F 16)) V Tryz.func16 ((Ty u1 6 (F ⟨b3,0,G⟩) 6 ([97,32,124,32,98,10]:List Int) _ (Ah.at (A:=[_,_,_]) hPTA1 O.m).1 hsm1 (show Vw fB _ (C (F ⟨b3,0,G⟩) ([97,32,124,32,98,10]:List Int).length 6) ([97,32,124,32,98,10]:List Int) from (O.b 0).vw (off:=0) (xs:=([97,32,124,32,98,10]:List Int)) kR) (U8s.cons (Gv dD dD) (U8s.cons (Gv dD dD) (U8s.cons (Gv dD dD) (U8s.cons (Gv dD dD) (U8s.cons (Gv dD dD) (U8s.cons (Gv dD dD) U8s.nil)))))) dD dD (hE.keep O.only) oo oo).mono ?_))))));rintro en w9 ⟨u2,xa2,TA2,hu2,hxa2,hsm2,rfl,hW_,hG2,hXX2⟩;let b:=(D #[Z u2.mo,Z u2.po,Y u2.inp,C u2.pj u2.lj.length u2.cj,Z u2.rd,Z u2.wr,Z u2.pv,C u2.pc u2.lc.length u2.cc,C u2.pp u2.lp.length u2.cp]:Value)
 let g:=(cS u2.mo u2.po u2.inp u2.pj u2.lj.length u2.cj u2.rd u2.wr u2.pv u2.pc u2.lc.length u2.cc u2.pp u2.lp.length u2.cp);let l:=([Z xa2.d.call,Z xa2.d.a0,Z xa2.d.a1,Z xa2.d.a2,C xa2.p xa2.d.data.length xa2.c]:List Value);refine ⟨_,rfl,?_⟩;clear V J; intro J V;replace O:=O.j1 hW_; clear hW_;have hPTA2:Ah TA2 (fun w_=>SV.ok u2 w_/\VP w_ xa2):=Ah.and hG2 hXX2;rw [hu1,aw_2] at hu2 hxa2;refine Ka 3 [(17,b),(18,D #[Z xa2.d.call,Z xa2.d.a0,Z xa2.d.a1,Z xa2.d.a2,C xa2.p xa2.d.data.length xa2.c])] V fun J V=>Mn j 39 3 V O fun J w10 b4 V O=>Mn p 43 4 V O fun J w11 b5 V O=>let a:=([(b5,43,[Z xa2.d.call,Z xa2.d.a0,Z xa2.d.a1,Z xa2.d.a2,C xa2.p xa2.d.data.length xa2.c]),(b4,39,(cS u2.mo u2.po u2.inp u2.pj u2.lj.length u2.cj u2.rd u2.wr u2.pv u2.pc u2.lc.length u2.cc u2.pp u2.lp.length u2.cp)),(b3,5,[u8 97,u8 32,u8 124,u8 32,u8 98,u8 10]),(b2,43,[Z xa1.d.call,Z xa1.d.a0,Z xa1.d.a1,Z xa1.d.a2,C xa1.p xa1.d.data.length xa1.c]),(b1,39,(cS u1.mo u1.po u1.inp u1.pj u1.lj.length u1.cj u1.rd u1.wr u1.pv u1.pc u1.lc.length u1.cc u1.pp u1.lp.length u1.cp))]:OwL);Ms 0 g 1 V O fun w12 O=>Ms 0 l 0 V O fun w13 O=>Ab (Aa (sr 9 (Kb 1 [(20,b)] V [b] (cc (O.ln 1 0 39 g) c0) fun J V=>?_)));replace O:Ow jP Ag w w13 (a++(TA1++(TA2++([])))):=O;refine Ae (mC (d:=(F 21)) V Tryz.func16 ((bK u2 772 _ (Ah.at hPTA2 (O.tt:Ow jP Ag w _ ((a++(TA1++([])))++(TA2++([])))).m).1 hsm2 (hE.keep O.only) oo oo).mono ?_))
 rintro en w14 ⟨u3,xa3,TA3,hu3,hxa3,hsm3,rfl,hW_,hG3,hXX3⟩;let k:=(cS u3.mo u3.po u3.inp u3.pj u3.lj.length u3.cj u3.rd u3.wr u3.pv u3.pc u3.lc.length u3.cc u3.pp u3.lp.length u3.cp);let o:=([Z xa3.d.call,Z xa3.d.a0,Z xa3.d.a1,Z xa3.d.a2,C xa3.p xa3.d.data.length xa3.c]:List Value);refine ⟨_,rfl,?_⟩;clear V J; intro J V;replace O:=Ow.join O hW_; clear hW_;replace O:Ow jP Ag w _ (a++(TA1++(TA2++(TA3++([]))))):=O.tt;rw [hu2,aw_3] at hxa3;refine Ka 3 [(22,D #[Z u3.mo,Z u3.po,Y u3.inp,C u3.pj u3.lj.length u3.cj,Z u3.rd,Z u3.wr,Z u3.pv,C u3.pc u3.lc.length u3.cc,C u3.pp u3.lp.length u3.cp]),(23,D #[Z xa3.d.call,Z xa3.d.a0,Z xa3.d.a1,Z xa3.d.a2,C xa3.p xa3.d.data.length xa3.c])] V fun J V=>Mn j 39 5 V O fun J w15 b6 V O=>Mn p 43 6 V O fun J w16 b7 V O=>Ms 0 k 1 V O fun w17 O=>Ms 0 o 0 V O fun w18 O=>Ab (Aa (sr 24 (Kb 4 [(26,I (xa1.d.call == 9)),(27,I (xa1.d.call == 9))] V [Z xa1.d.call] (cc (O.l1 5 0 3 (Z xa1.d.call)) c0) fun J V=>?_)));rw [((by rw [hxa1]; rfl):(xa1.d.call == 9)=true)] at V
 refine Kb 6 [(31,I ((xa1.d.a0 == 0) && ((xa1.d.a1 == 80) && ((xa1.d.a2 == 0) && true)))),(32,I ((xa1.d.a0 == 0) && ((xa1.d.a1 == 80) && ((xa1.d.a2 == 0) && true)))),(33,I ((xa1.d.a0 == 0) && ((xa1.d.a1 == 80) && ((xa1.d.a2 == 0) && true))))] V [D r,I ((xa1.d.a0 == 0) && ((xa1.d.a1 == 80) && ((xa1.d.a2 == 0) && true)))] (cc (O.ln 5 1 40 [Z xa1.d.a0,Z xa1.d.a1,Z xa1.d.a2]) (cc ((Lf kR kR):EqG jP 40 (D r) (D #[Z 0,Z 80,Z 0]) ((xa1.d.a0 == 0) && ((xa1.d.a1 == 80) && ((xa1.d.a2 == 0) && true)))) c0)) fun J V=>?_;rw [((by rw [hxa1]; rfl):((xa1.d.a0 == 0) && ((xa1.d.a1 == 80) && ((xa1.d.a2 == 0) && true)))=true)] at V;refine Kb 5 [(36,I (xa2.d.call == 11)),(37,I (xa2.d.call == 11)),(38,I (xa2.d.call == 11))] V [Z xa2.d.call] (cc (O.l1 2 0 3 (Z xa2.d.call)) c0) fun J V=>?_;rw [((by rw [hxa2]; rfl):(xa2.d.call == 11)=true)] at V;refine Kb 5 [(41,I (xa3.d.call == 1)),(42,I (xa3.d.call == 1)),(43,I (xa3.d.call == 1))] V [Z xa3.d.call] (cc (O.l1 0 0 3 (Z xa3.d.call)) c0) fun J V=>?_;rw [((by rw [hxa3]; rfl):(xa3.d.call == 1)=true)] at V
 exact Kb 1 [(43,I true),(44,b)] V [b] (cc (O.ln 3 0 39 g) c0) fun J V=>Mk 45 V O Tryz.func22 (rs (Ji u2.mo u2.po u2.inp u2.pj u2.cj u2.lj u2.rd u2.wr u2.pv u2.pc u2.cc u2.lc u2.pp u2.cp u2.lp _ (Ah.at hPTA2 (O.tt:Ow jP Ag w _ (([(b7,43,o),(b6,39,k),(b5,43,l),(b4,39,g),q,(b2,43,i),(b1,39,f)]++(TA1++([])))++(TA2++(TA3++([]))))).m).1 hsm2) (congrArg Value.bool (show Ba u2.d=true by rw [hu2]; kernel_rfl))) fun J w19 V O=>Ka 2 [(0,I true)] V fun J V=>Ab (Aa (wp_ret (cv [I true] V (⟨rfl,O.only⟩))))
theorem F5 {α:Type} {f : α->α->Bool} (h : ∀ x,f x x=true) : ∀ l:List α,eqA f l l=true
 | []=>rfl
 | x::r=>by simp only [eqA]; rw [h x,F5 h r]; rfl
theorem F0 (s:ByteArray):Cx s s=true:=beq_self_eq_true _
theorem Z8 (l:List JobL):eqL l l=true:=F5 (fun x=>by unfold eqJ; rw [F5 (fun c=>by unfold eqC; rw [F0,F0,F5 F0,beq_self_eq_true]; rfl),beq_self_eq_true]; rfl) l
theorem Lw (c:CallL):A6 c c=true:=by unfold A6; simp only [beq_self_eq_true,F0,Bool.and_true]
theorem Oy (s:StL):Cw s s=true:=by unfold Cw; simp only [beq_self_eq_true,F0,Z8,F5 Lw,F5 (f:=eqI) (fun x=>beq_self_eq_true x),Bool.and_true]
theorem sm_of {a b:SV} (h:a.d=b.d) (hm:a.sm):smL 1000000 (b.lj.map JV.d)/\b.lc.length<=1000000/\b.lp.length<=1000000:=by
 have h1:a.lj.map JV.d=b.lj.map JV.d:=congrArg StL.jobs h;have h2:a.lc=b.lc:=congrArg StL.kids h;have h3:(a.lp.map PV.d).length=(b.lp.map PV.d).length:=congrArg (fun s=>s.plan.length) h;rw [jU,jU] at h3;exact ⟨h1 ▸ hm.j,h2 ▸ hm.k,h3 ▸ hm.p⟩
theorem Yc (v0:SV) (result:Int) (dp:Option Addr) (cd:Nat) (dl:List Int) (w:World) (hE:ErrOk w) (hs:v0.ok w) (hc:v0.lc.length<=v0.cc/\v0.lj.length<=v0.cj/\v0.lp.length<=v0.cp) (hj1:smL 1000000000000000000 (v0.lj.map JV.d)) (hp1:v0.lp.length<=1000000000000000000) (hrn : -9223372036854775808<=result) (hrx:result<=9223372036854775807) (hvd:Vw fB w (C dp dl.length cd) dl) (hud:U8s dl) (hcd:dl.length<=cd) :
 Calls jP 6 #[D #[Z v0.mo,Z v0.po,Y v0.inp,C v0.pj v0.lj.length v0.cj,Z v0.rd,Z v0.wr,Z v0.pv,C v0.pc v0.lc.length v0.cc,C v0.pp v0.lp.length v0.cp],Z result,C dp dl.length cd] w fun e w'=>e = .returned (.bool true)/\Only Ag w w':=by
 let b:=(D #[Z v0.mo,Z v0.po,Y v0.inp,C v0.pj v0.lj.length v0.cj,Z v0.rd,Z v0.wr,Z v0.pv,C v0.pc v0.lc.length v0.cc,C v0.pp v0.lp.length v0.cp]:Value);let f:=(cS v0.mo v0.po v0.inp v0.pj v0.lj.length v0.cj v0.rd v0.wr v0.pv v0.pc v0.lc.length v0.cc v0.pp v0.lp.length v0.cp);let o:=(6,I false);let q:=(cS 0 0 (⟨#[]⟩:ByteArray) G 0 0 0 0 0 G 0 0 G 0 0);let r:=([Z 0,Z 0,Z 0,Z 0,C G 0 0]:List Value);let s:=(C dp dl.length cd:Value);refine Ak (args:=[b,Z result,s]) (m:=61) (n:=64) Tryz.func6 rfl kR kR fun J V=>?_;have O:=Ow.nil jP Ag w;have hG0:Ao (fun w_=>Only Ag w w_) [] v0.ok:=fun _ _ _ _ b_=>hs.keep b_;refine sr 2 (Mn f 54 3 V O fun J w1 b1 V O=>Ka 1 [o] V fun J V=>Ab (Aa (wp_seq (sr 2 (Ae (mC (d:=(F 11)) V Tryz.func7 ((X1 _ (hE.keep O.only)).mono ?_)))))));rintro en w2 ⟨rfl,ho⟩;refine ⟨_,rfl,?_⟩;clear V J; intro J V;replace O:=O.st ho; clear ho;refine Ka 1 [(12,I false)] V fun J V=>Ab (Aa (cF V (wp_skip (Aa (wp_seq (sr 8 (Kb 1 [(13,b)] V [b] (cc (O.ln 0 0 54 f) c0) fun J V=>Ae (mC (d:=(F 14)) V Tryz.func15 ((gV v0 _ (hs.keep O.only) hj1 hp1).mono ?_)))))))));rintro en w3 ⟨r1,rfl,hr1,ho⟩;refine ⟨_,rfl,?_⟩;clear V J; intro J V;replace O:=O.st ho; clear ho;refine Ka 2 [(15,I (!r1)),(16,I (!r1))] V fun J V=>?_;rcases jK (r1) with h1 | h1
 · rw [h1] at V;obtain ⟨hf1,hf2,hf3,hf4⟩:=hr1 h1;have hm:v0.sm:=⟨oo,dZ hf2,oo,oo,hc.1,hc.2.1,hc.2.2⟩;refine Ka 4 [(20,I (decide (((dl.length:Nat):Int) > 400)))] V fun J V=>Ab (Aa ?_);rcases dC (((dl.length:Nat):Int) > 400) with ⟨h2,h2p⟩|⟨h2,h2p⟩
   · rw [h2] at V;exact cT V (Sa [(6,I true)] V fun J V=>wp_ret (Ac (cv [I true] V (⟨rfl,O.only⟩))))
   rw [h2] at V;refine cF V (wp_skip (Aa (sr 12 (Kb 1 [(22,b)] V [b] (cc (O.ln 0 0 54 f) c0) fun J V=>Ae (mC (d:=(F 23)) V Tryz.func17 ((Oj (fun w_=>Only Ag w w_) v0 [] _ (hs.keep O.only) hm hG0).mono ?_))))));rintro en w4 ⟨o1,To1,hdo1,hsmo1,rfl,hW,hGo1⟩;refine ⟨_,rfl,?_⟩;clear V J; intro J V;replace O:Ow jP Ag w _ ([(b1,54,f)]++[]):=O.to (kC _).symm;replace O:=Ow.join O hW; clear hW;refine Ka 2 [(24,Z result),(25,s)] V fun J V=>Ae (mC (d:=(F 26)) V Tryz.func16 ((Ty o1 result dp cd dl _ ((Ah.at (A:=[_]) (Ah.sub (hGo1.tt) (List.Sublist.append (List.Sublist.refl _) (List.nil_sublist _))) (O.tt:Ow jP Ag w _ ([(b1,54,f)]++(To1++([])++[]))).m) O.only) hsmo1 (hvd.keep O.only) hud oo hcd (hE.keep O.only) hrn hrx).mono ?_));rintro en w5 ⟨a1,xa1,Ta1,hda1,hxa1,hsma1,rfl,hW,hGa1,hXa1⟩;let c:=(D #[Z a1.mo,Z a1.po,Y a1.inp,C a1.pj a1.lj.length a1.cj,Z a1.rd,Z a1.wr,Z a1.pv,C a1.pc a1.lc.length a1.cc,C a1.pp a1.lp.length a1.cp]:Value);let g:=(cS a1.mo a1.po a1.inp a1.pj a1.lj.length a1.cj a1.rd a1.wr a1.pv a1.pc a1.lc.length a1.cc a1.pp a1.lp.length a1.cp);let i:=([Z xa1.d.call,Z xa1.d.a0,Z xa1.d.a1,Z xa1.d.a2,C xa1.p xa1.d.data.length xa1.c]:List Value);let k:=(D #[Z xa1.d.call,Z xa1.d.a0,Z xa1.d.a1,Z xa1.d.a2,C xa1.p xa1.d.data.length xa1.c]:Value);refine ⟨_,rfl,?_⟩;clear V J; intro J V;replace O:=Ow.join O hW; clear hW;replace O:Ow jP Ag w _ ([(b1,54,f)]++(To1++(Ta1++([])))):=O.tt;rw [hdo1] at hda1 hxa1
   refine Ka 3 [(27,c),(28,k)] V fun J V=>Mn q 39 7 V O fun J w6 b2 V O=>Mn r 43 8 V O fun J w7 b3 V O=>let t:=[(b3,43,i),(b2,39,g),(b1,54,f)];Ms 0 g 1 V O fun w8 O=>Ms 0 i 0 V O fun w9 O=>Ab (Aa (sr 11 (Kb 3 [(30,b),(31,Z result),(32,s)] V [b] (cc (O.ln 2 0 54 f) c0) fun J V=>?_)));replace O:Ow jP Ag w w9 (t++(To1++(Ta1++([])))):=O;refine Ae (mC (d:=(F 33)) V Tryz.func18 ((bV (fun w_=>Only Ag w w_) v0 result dp cd dl [] _ (hs.keep O.only) hm hG0 hrn hrx (hvd.keep O.only) hud oo hcd).mono ?_));rintro en w10 ⟨z1,xz1,Tz1,hqz1,rfl,hW,hGz1,hXz1⟩;let h:=(D #[Z z1.mo,Z z1.po,Y z1.inp,C z1.pj z1.lj.length z1.cj,Z z1.rd,Z z1.wr,Z z1.pv,C z1.pc z1.lc.length z1.cc,C z1.pp z1.lp.length z1.cp]:Value);let j:=(cS z1.mo z1.po z1.inp z1.pj z1.lj.length z1.cj z1.rd z1.wr z1.pv z1.pc z1.lc.length z1.cc z1.pp z1.lp.length z1.cp);let l:=(D #[Z xz1.d.call,Z xz1.d.a0,Z xz1.d.a1,Z xz1.d.a2,C xz1.p xz1.d.data.length xz1.c]:Value);let p:=([Z xz1.d.call,Z xz1.d.a0,Z xz1.d.a1,Z xz1.d.a2,C xz1.p xz1.d.data.length xz1.c]:List Value);refine ⟨_,rfl,?_⟩;clear V J; intro J V;replace O:=Ow.join O hW; clear hW;replace O:Ow jP Ag w _ (t++(To1++(Ta1++(Tz1++([]))))):=O.tt;have hdz1:z1.d=a1.d:=by rw [hda1,hqz1]
   have hxz1:xz1.d=xa1.d:=by rw [hxa1,hqz1]
   have hsz1:=sm_of hdz1.symm hsma1;refine Ka 3 [(34,h),(35,l)] V fun J V=>Mn q 54 9 V O fun J w11 b4 V O=>Mn r 59 10 V O fun J w12 b5 V O=>let a:=([(b5,59,[Z xz1.d.call,Z xz1.d.a0,Z xz1.d.a1,Z xz1.d.a2,C xz1.p xz1.d.data.length xz1.c]),(b4,54,(cS z1.mo z1.po z1.inp z1.pj z1.lj.length z1.cj z1.rd z1.wr z1.pv z1.pc z1.lc.length z1.cc z1.pp z1.lp.length z1.cp)),(b3,43,[Z xa1.d.call,Z xa1.d.a0,Z xa1.d.a1,Z xa1.d.a2,C xa1.p xa1.d.data.length xa1.c]),(b2,39,(cS a1.mo a1.po a1.inp a1.pj a1.lj.length a1.cj a1.rd a1.wr a1.pv a1.pc a1.lc.length a1.cc a1.pp a1.lp.length a1.cp)),(b1,54,(cS v0.mo v0.po v0.inp v0.pj v0.lj.length v0.cj v0.rd v0.wr v0.pv v0.pc v0.lc.length v0.cc v0.pp v0.lp.length v0.cp))]:OwL);Ms 0 j 1 V O fun w13 O=>Ms 0 p 0 V O fun w14 O=>Ab (Aa (wp_seq ?_));have hS:=O;refine rP [(0,true),(2,true),(1,false),(3,false),(4,true),(5,true),(6,true),(7,false),(8,true),(9,true),(10,true),(11,false),(12,true),(13,true),(14,true),(15,true),(18,true),(19,true),(16,false),(17,false),(20,false),(21,true),(22,true),(23,true),(24,true),(25,true),(26,false),(27,true),(28,true)] hS ?_;intro w15 ho; replace O:=O.st ho; clear ho;refine ckF 2 (e':=[(3,pt b1),o,(7,pt b2),(8,pt b3),(9,pt b4),(10,pt b5),(36,c),(38,h)]) V [c,h] (cc (hS.sn 3 0 39 g) (cc (hS.sn 1 0 54 j) c0)) (O) fun J V=>?_;replace O:Ow jP Ag w w15 (a++(To1++(Ta1++(Tz1++([]))))):=O
   refine Am (mC (d:=(F 37)) V Tryz.func20 ((O5 (fun w_=>Only Ag w w_) a1 Ta1 _ (Ah.at (A:=[_,_,_,_,_]) (Ah.sub (hGa1.to (kC _).symm) ((List.Sublist.append (List.Sublist.refl _) (List.nil_sublist _)).trans (List.sublist_append_right _ _))) (O.tt:Ow jP Ag w _ (a++(To1++(Ta1++(Tz1++([])))++[]))).m) hsma1 (hGa1.mono fun _ h_ _=>h_)).mono ?_));rintro en w16 ⟨c1,Tc1,hdc1,hsmc1,rfl,hW,hGc1⟩;refine ⟨_,rfl,?_⟩;clear V J; intro J V;replace O:=Ow.join O hW; clear hW;replace O:Ow jP Ag w _ (a++(To1++(Ta1++(Tz1++(Tc1++([])))))):=O.tt;refine ⟨(O.m.less (List.Sublist.append_left (List.Sublist.append_left (List.Sublist.append_left (List.Sublist.append_left (List.nil_sublist _) _) _) _) _)).o,?_⟩
   refine Am (mK (d:=(F 39)) V O Tryz.func19 (Ob c1 z1 _ ((Ah.at (A:=[_,_,_,_,_]) (Ah.sub (hGc1.tt) ((List.Sublist.append (List.Sublist.refl _) ((List.Sublist.append (List.Sublist.refl _) (List.nil_sublist _)).trans (List.sublist_append_right _ _))).trans (List.sublist_append_right _ _))) (O.tt:Ow jP Ag w _ (a++(To1++(Ta1++(Tz1++(Tc1++([]))))++[]))).m) O.only) ((Ah.at (A:=[_,_,_,_,_]) (Ah.sub (hGz1.tt) (((List.Sublist.append (List.Sublist.refl _) (List.nil_sublist _)).trans (List.sublist_append_right _ _)).trans (List.sublist_append_right _ _))) (O.tt:Ow jP Ag w _ (a++(To1++(Ta1++(Tz1++(Tc1++([]))))++[]))).m) O.only) hsmc1.j hsmc1.k hsmc1.p) fun J w17 V O=>⟨(O.m.less (List.Sublist.append_left (List.Sublist.append_left (List.Sublist.append_left (List.Sublist.append_left (List.nil_sublist _) _) _) _) _)).o,?_⟩);refine ckF 1 (e':=[(3,pt b1),o,(7,pt b2),(8,pt b3),(9,pt b4),(10,pt b5),(39,I (Cw c1.d z1.d)),(40,I (Cw c1.d z1.d))]) V [] c0 ((O.m.less (List.Sublist.append_left (List.Sublist.append_left (List.Sublist.append_left (List.Sublist.append_left (List.nil_sublist _) _) _) _) _)).o) fun J V=>?_;rw [((by rw [hdc1,hdz1]; exact Oy _):(Cw c1.d z1.d)=true)] at V
   refine ckF 2 (e':=[(3,pt b1),o,(7,pt b2),(9,pt b4),(40,I true),(41,k),(42,l)]) V [k,l] (cc (hS.sn 2 0 43 i) (cc (hS.sn 0 0 59 p) c0)) ((O.m.less (List.Sublist.append_left (List.Sublist.append_left (List.Sublist.append_left (List.Sublist.append_left (List.nil_sublist _) _) _) _) _)).o) fun J V=>Am (mK (d:=(F 43)) V O Tryz.func21 (Jb xa1.p xz1.p xa1.c xz1.c xa1.d xz1.d _ (Ah.at (A:=[_,_,_,_,_]) (Ah.sub (hXa1.to (kC _).symm) ((List.Sublist.append (List.Sublist.refl _) (List.nil_sublist _)).trans (List.sublist_append_right _ _))) (O.tt:Ow jP Ag w _ (a++(To1++(Ta1++(Tz1++(Tc1++([]))))++[]))).m).1 ((Ah.at (A:=[_,_,_,_,_]) (Ah.sub (hXz1.tt) (((List.Sublist.append (List.Sublist.refl _) (List.nil_sublist _)).trans (List.sublist_append_right _ _)).trans (List.sublist_append_right _ _))) (O.tt:Ow jP Ag w _ (a++(To1++(Ta1++(Tz1++(Tc1++([]))))++[]))).m) O.only).1 (Ah.at (A:=[_,_,_,_,_]) (Ah.sub (hXa1.to (kC _).symm) ((List.Sublist.append (List.Sublist.refl _) (List.nil_sublist _)).trans (List.sublist_append_right _ _))) (O.tt:Ow jP Ag w _ (a++(To1++(Ta1++(Tz1++(Tc1++([]))))++[]))).m).2 ((Ah.at (A:=[_,_,_,_,_]) (Ah.sub (hXz1.tt) (((List.Sublist.append (List.Sublist.refl _) (List.nil_sublist _)).trans (List.sublist_append_right _ _)).trans (List.sublist_append_right _ _))) (O.tt:Ow jP Ag w _ (a++(To1++(Ta1++(Tz1++(Tc1++([]))))++[]))).m) O.only).2) fun J w18 V O=>⟨(O.m.less (List.Sublist.append_left (List.Sublist.append_left (List.Sublist.append_left (List.Sublist.append_left (List.nil_sublist _) _) _) _) _)).o,?_⟩)
   refine ckF 2 (e':=[(3,pt b1),o,(7,pt b2),(9,pt b4),(43,I (A6 xa1.d xz1.d)),(44,I (A6 xa1.d xz1.d)),(45,I (A6 xa1.d xz1.d))]) V [] c0 ((O.m.less (List.Sublist.append_left (List.Sublist.append_left (List.Sublist.append_left (List.Sublist.append_left (List.nil_sublist _) _) _) _) _)).o) fun J V=>?_;rw [((by rw [hxz1]; exact Lw _):(A6 xa1.d xz1.d)=true)] at V;refine ckF 1 (e':=[(3,pt b1),o,(7,pt b2),(9,pt b4),(45,I true),(46,c)]) V [c] (cc (hS.sn 3 0 39 g) c0) ((O.m.less (List.Sublist.append_left (List.Sublist.append_left (List.Sublist.append_left (List.Sublist.append_left (List.nil_sublist _) _) _) _) _)).o) fun J V=>Am (mK (d:=(F 47)) V O Tryz.func22 (Ji a1.mo a1.po a1.inp a1.pj a1.cj a1.lj a1.rd a1.wr a1.pv a1.pc a1.cc a1.lc a1.pp a1.cp a1.lp _ (Ah.at (A:=[_,_,_,_,_]) (Ah.sub (hGa1.to (kC _).symm) ((List.Sublist.append (List.Sublist.refl _) (List.nil_sublist _)).trans (List.sublist_append_right _ _))) (O.tt:Ow jP Ag w _ (a++(To1++(Ta1++(Tz1++(Tc1++([]))))++[]))).m) hsma1) fun J w19 V O=>⟨(O.m.less (List.Sublist.append_left (List.Sublist.append_left (List.Sublist.append_left (List.Sublist.append_left (List.nil_sublist _) _) _) _) _)).o,?_⟩);refine ckF 2 (e':=[(3,pt b1),o,(7,pt b2),(9,pt b4),(47,I (Ba a1.d)),(48,I (Ba a1.d)),(49,I (Ba a1.d))]) V [] c0 ((O.m.less (List.Sublist.append_left (List.Sublist.append_left (List.Sublist.append_left (List.Sublist.append_left (List.nil_sublist _) _) _) _) _)).o) fun J V=>?_
   rw [((by rw [hda1]; exact (Ng v0.d result dl).1):(Ba a1.d)=true)] at V;refine ckF 4 (e':=[o,(7,pt b2),(49,I true),(50,c),(51,b),(54,h),(55,b)]) V [c,b,h,b] (cc (hS.sn 3 0 39 g) (cc (hS.sn 4 0 54 f) (cc (hS.sn 1 0 54 j) (cc (hS.sn 4 0 54 f) c0)))) ((O.m.less (List.Sublist.append_left (List.Sublist.append_left (List.Sublist.append_left (List.Sublist.append_left (List.nil_sublist _) _) _) _) _)).o) fun J V=>Am (mC (d:=(F 52)) V Tryz.func17 ((Oj (fun w_=>Only Ag w w_) v0 [] _ (hs.keep O.only) hm hG0).mono ?_));rintro en w20 ⟨o2,To2,hdo2,hsmo2,rfl,hW,hGo2⟩;refine ⟨_,rfl,?_⟩;clear V J; intro J V;replace O:=Ow.join O hW; clear hW;replace O:Ow jP Ag w _ (a++(To1++(Ta1++(Tz1++(Tc1++(To2++([]))))))):=O.tt;refine ⟨(O.m.less (List.Sublist.append_left (List.Sublist.append_left (List.Sublist.append_left (List.Sublist.append_left (List.nil_sublist _) _) _) _) _)).o,?_⟩
   refine Am (mK (d:=(F 53)) V O Tryz.func23 (Qe a1 o2 _ (Ah.at (A:=[_,_,_,_,_]) (Ah.sub (hGa1.to (kC _).symm) ((List.Sublist.append (List.Sublist.refl _) (List.nil_sublist _)).trans (List.sublist_append_right _ _))) (O.tt:Ow jP Ag w _ (a++(To1++(Ta1++(Tz1++(Tc1++(To2++([])))))++[]))).m) ((Ah.at (A:=[_,_,_,_,_]) (Ah.sub (hGo2.tt) (((((List.Sublist.append (List.Sublist.refl _) (List.nil_sublist _)).trans (List.sublist_append_right _ _)).trans (List.sublist_append_right _ _)).trans (List.sublist_append_right _ _)).trans (List.sublist_append_right _ _))) (O.tt:Ow jP Ag w _ (a++(To1++(Ta1++(Tz1++(Tc1++(To2++([])))))++[]))).m) O.only) hsma1.j hsma1.k hsma1.p) fun J w21 V O=>⟨(O.m.less (List.Sublist.append_left (List.Sublist.append_left (List.Sublist.append_left (List.Sublist.append_left (List.nil_sublist _) _) _) _) _)).o,?_⟩);refine Am (mK (d:=(F 56)) V O Tryz.func19 (Ob z1 v0 _ ((Ah.at (A:=[_,_,_,_,_]) (Ah.sub (hGz1.tt) (((List.Sublist.append (List.Sublist.refl _) (List.nil_sublist _)).trans (List.sublist_append_right _ _)).trans (List.sublist_append_right _ _))) (O.tt:Ow jP Ag w _ (a++(To1++(Ta1++(Tz1++(Tc1++(To2++([])))))++[]))).m) O.only) (hs.keep O.only) hsz1.1 hsz1.2.1 hsz1.2.2) fun J w22 V O=>⟨(O.m.less (List.Sublist.append_left (List.Sublist.append_left (List.Sublist.append_left (List.Sublist.append_left (List.nil_sublist _) _) _) _) _)).o,?_⟩)
   refine ckF 3 (e':=[o,(7,pt b2),(57,I ((Cw a1.d o2.d) == (Cw z1.d v0.d))),(58,I ((Cw a1.d o2.d) == (Cw z1.d v0.d))),(59,I ((Cw a1.d o2.d) == (Cw z1.d v0.d)))]) V [] c0 ((O.m.less (List.Sublist.append_left (List.Sublist.append_left (List.Sublist.append_left (List.Sublist.append_left (List.nil_sublist _) _) _) _) _)).o) fun J V=>?_;rw [((by rw [hdo2,hdz1]; exact beq_self_eq_true _):((Cw a1.d o2.d) == (Cw z1.d v0.d))=true)] at V;refine ckF 2 (e':=[o,(59,I true),(60,c),(61,c)]) V [c,c] (cc (hS.sn 3 0 39 g) (cc (hS.sn 3 0 39 g) c0)) ((O.m.less (List.Sublist.append_left (List.Sublist.append_left (List.Sublist.append_left (List.Sublist.append_left (List.nil_sublist _) _) _) _) _)).o) fun J V=>Am (mK (d:=(F 62)) V O Tryz.func23 (Qe a1 a1 _ (Ah.at (A:=[_,_,_,_,_]) (Ah.sub (hGa1.to (kC _).symm) ((List.Sublist.append (List.Sublist.refl _) (List.nil_sublist _)).trans (List.sublist_append_right _ _))) (O.tt:Ow jP Ag w _ (a++(To1++(Ta1++(Tz1++(Tc1++(To2++([])))))++[]))).m) (Ah.at (A:=[_,_,_,_,_]) (Ah.sub (hGa1.to (kC _).symm) ((List.Sublist.append (List.Sublist.refl _) (List.nil_sublist _)).trans (List.sublist_append_right _ _))) (O.tt:Ow jP Ag w _ (a++(To1++(Ta1++(Tz1++(Tc1++(To2++([])))))++[]))).m) hsma1.j hsma1.k hsma1.p) fun J w23 V O=>⟨(O.m.less (List.Sublist.append_left (List.Sublist.append_left (List.Sublist.append_left (List.Sublist.append_left (List.nil_sublist _) _) _) _) _)).o,?_⟩)
   exact ckF 2 (e':=[(6,I (Cw a1.d a1.d))]) V [] c0 ((O.m.less (List.Sublist.append_left (List.Sublist.append_left (List.Sublist.append_left (List.Sublist.append_left (List.nil_sublist _) _) _) _) _)).o) fun J V=>Ar (Aa (wp_ret (cv [I (Cw a1.d a1.d)] V (⟨rB (Oy _),O.only⟩))))
 rw [h1] at V;exact Ka 4 [(20,I true)] V fun J V=>Ab (Aa (cT V (Sa [(6,I true)] V fun J V=>wp_ret (Ac (cv [I true] V (⟨rfl,O.only⟩))))))
end Go.Proofs.YtdljjajjonfjbaaGreatDoor
