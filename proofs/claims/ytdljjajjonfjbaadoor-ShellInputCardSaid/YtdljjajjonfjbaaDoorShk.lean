import Derived.Test.YtdljjajjonfjbaaDoorShj
import Derived.Test.YtdljjajjonfjbaaDoorSn
set_option linter.unusedVariables false
set_option linter.unusedSimpArgs false
set_option maxRecDepth 10000
namespace Go.Proofs.YtdljjajjonfjbaaDoor
open Go Go.Shelf Go.RowKit Go.Proofs Go.Proofs.Sx
theorem proceed_any (pb:Nat) (mo po:Int) (inp:ByteArray) (pj:Option Addr) (kj:Nat) (lj:List JV) (rd wr pv:Int) (pn:Option Addr) (kn:Nat) (ln:List Int) (pp:Option Addr) (kp:Nat) (lp:List PV) (T:OwL)  (w:World) (hG:Holds' T (SV.ok (⟨mo,po,inp,pj,kj,lj,rd,wr,pv,pn,kn,ln,pp,kp,lp⟩:SV))) (h0:Ow Tryd.prog (inT ((pb,31,cS mo po inp pj lj.length kj rd wr pv pn ln.length kn pp lp.length kp)::T)) w w ((pb,31,cS mo po inp pj lj.length kj rd wr pv pn ln.length kn pp lp.length kp)::T)) (hm:SV.sm (⟨mo,po,inp,pj,kj,lj,rd,wr,pv,pn,kn,ln,pp,kp,lp⟩:SV)) (hvl:validL (lj.map JV.d)=true) (hE : ∀ w',Only (inT ((pb,31,cS mo po inp pj lj.length kj rd wr pv pn ln.length kn pp lp.length kp)::T)) w w'->ErrOk w') :
    Calls Tryd.prog 27 #[pt pb] w fun e w'=>∃ (v:SV) (x:PV) (Tn:OwL),procS (SV.d (⟨mo,po,inp,pj,kj,lj,rd,wr,pv,pn,kn,ln,pp,kp,lp⟩:SV))=(v.d,x.d)/\v.sm/\validL (v.lj.map JV.d)=true/\e = .returned (.agg #[i64 x.d.call,i64 x.d.a0,i64 x.d.a1,i64 x.d.a2,.slice x.p x.d.data.length x.c])/\Ow Tryd.prog (inT ((pb,31,cS mo po inp pj lj.length kj rd wr pv pn ln.length kn pp lp.length kp)::T)) w w' ((pb,31,v.cells)::(T++Tn))/\Holds' (T++Tn) v.ok/\Holds' (T++Tn) (fun w=>VP w x):=by
 refine c_enter (args:=[pt pb]) (m:=48) (n:=49) Tryd.func27 rfl (by kernel_rfl) (by kernel_rfl) fun fr hA=>?_
 generalize inT ((pb,31,cS mo po inp pj lj.length kj rd wr pv pn ln.length kn pp lp.length kp)::T)=M at *
 have hO:Ow Tryd.prog M w w ([(pb,31,(cS mo po inp pj lj.length kj rd wr pv pn ln.length kn pp lp.length kp))]++(T++([]))):=h0.to (by first | rfl | first | rfl | (simp only [TP,apd]))
 refine sr 1 ?_
 refine Mn [i64 0,i64 0,i64 0,i64 0,.slice none 0 0] 35 2 hA hO fun fr w1 b1 hA hO=>?_
 refine end_ops ?_
 refine then_normal ?_
 refine wp_block ?_
 have hGl:Holds' (T++([]:OwL)) (SV.ok (⟨mo,po,inp,pj,kj,lj,rd,wr,pv,pn,kn,ln,pp,kp,lp⟩:SV)):=hG.l
 refine c_loop (fun mm fr W=>∃ (mo2 po2:Int) (inp2:ByteArray) (pj2:Option Addr) (kj2:Nat) (lj2:List JV) (rd2 wr2 pv2:Int) (pn2:Option Addr) (kn2:Nat) (ln2:List Int) (pp2:Option Addr) (kp2:Nat) (lp2:List PV) (f:Nat) (TL1:OwL),mm=1+f/\Holds 49 [] fr [(0,pt pb),(2,pt b1)]/\Ow Tryd.prog M w W ([(b1,35,[i64 0,i64 0,i64 0,i64 0,.slice none 0 0]),(pb,31,(cS mo2 po2 inp2 pj2 lj2.length kj2 rd2 wr2 pv2 pn2 ln2.length kn2 pp2 lp2.length kp2))]++((T++TL1)++([])))/\Holds' (T++TL1) (SV.ok (⟨mo2,po2,inp2,pj2,kj2,lj2,rd2,wr2,pv2,pn2,kn2,ln2,pp2,kp2,lp2⟩:SV))/\procF f (SV.d (⟨mo2,po2,inp2,pj2,kj2,lj2,rd2,wr2,pv2,pn2,kn2,ln2,pp2,kp2,lp2⟩:SV))=procS (SV.d (⟨mo,po,inp,pj,kj,lj,rd,wr,pv,pn,kn,ln,pp,kp,lp⟩:SV))/\meas (SV.d (⟨mo2,po2,inp2,pj2,kj2,lj2,rd2,wr2,pv2,pn2,kn2,ln2,pp2,kp2,lp2⟩:SV))+2<=f/\SV.sm (⟨mo2,po2,inp2,pj2,kj2,lj2,rd2,wr2,pv2,pn2,kn2,ln2,pp2,kp2,lp2⟩:SV)/\validL (lj2.map JV.d)=true/\True) ?_ ?_
 · exact ⟨_,mo,po,inp,pj,kj,lj,rd,wr,pv,pn,kn,ln,pp,kp,lp,meas (SV.d (⟨mo,po,inp,pj,kj,lj,rd,wr,pv,pn,kn,ln,pp,kp,lp⟩:SV))+2,(([]:OwL)),rfl,hA.ss,hO.tt,hGl,rfl,(Nat.le_refl _),hm,hvl,trivial⟩
 rintro _ fr w2 ⟨mo2,po2,inp2,pj2,kj2,lj2,rd2,wr2,pv2,pn2,kn2,ln2,pp2,kp2,lp2,f,TL1,rfl,hA,hO,hTL1,hR,hf,hsm2,hvl2,-⟩
 obtain ⟨f,rfl⟩ : ∃ j,f=j+1:=⟨f - 1,by omega⟩
 have hpos2:=ixb_ge inp2.data.toList 10
 have hpos2 : -1<=nlI inp2:=hpos2
 refine wp_block ?_
 refine wp_seq ?_
 refine Sb [(11,bl (decide (((lp2.length:Nat):Int) > 0)))] hA [.slice pp2 lp2.length kp2] (cc (hO.l1 1 8 29 (.slice pp2 lp2.length kp2)) c0) fun fr hA=>?_
 rcases Bool.eq_false_or_eq_true (decide (((lp2.length:Nat):Int) > 0)) with h1 | h1
 · rw [h1] at hA
   have h1p:=of_decide_eq_true h1
   obtain ⟨⟨qp,qc,qd⟩,rp,rfl⟩ : ∃ x r,lp2=x::r:=by cases lp2 with | nil=>(simp at h1) | cons x r=>exact ⟨x,r,rfl⟩
   have hokp:=(Holds'.at (A:=[_,_]) hTL1 hO.m)
   obtain ⟨ap,rfl⟩:=hokp.p.1.pos (Nat.zero_lt_succ _)
   refine cT hA ?_
   refine sr 4 ?_
   refine Ka 3 [(14,pt pb)] hA fun fr hA=>?_
   refine Ms 0 [i64 2] 1 hA hO fun w3 hO=>?_
   refine end_ops ?_
   refine then_normal ?_
   refine sr 7 ?_
   refine Kb 6 [(20,.agg #[i64 qd.call,i64 qd.a0,i64 qd.a1,i64 qd.a2,.slice qp qd.data.length qc])] hA [.slice (some ap) (((⟨qp,qc,qd⟩:PV)::rp).length) kp2,.agg #[i64 qd.call,i64 qd.a0,i64 qd.a1,i64 qd.a2,.slice qp qd.data.length qc]] (cc (hO.l1 1 8 29 (.slice (some ap) (((⟨qp,qc,qd⟩:PV)::rp).length) kp2)) (cc (⟨by omega,by omega⟩:(0:Int)<=0/\0 < ((((⟨qp,qc,qd⟩:PV)::rp).length:Nat):Int)) (cc (((((Holds'.at (A:=[_,_]) hTL1 hO.m)).p.1).ldn encP (rfl:(((⟨qp,qc,qd⟩:PV)::rp):List PV)[0]? = some ⟨qp,qc,qd⟩)):Ld Tryd.prog w3 (ap.add 0) 35 (.agg #[i64 qd.call,i64 qd.a0,i64 qd.a1,i64 qd.a2,.slice qp qd.data.length qc])) c0))) fun fr hA=>?_
   refine Ms 0 [i64 qd.call,i64 qd.a0,i64 qd.a1,i64 qd.a2,.slice qp qd.data.length qc] 0 hA hO fun w4 hO=>?_
   refine end_ops ?_
   refine then_normal ?_
   refine wp_ret ?_
   refine then_ret ?_
   refine inBlock_ret ?_
   refine then_ret ?_
   refine inBlock_ret ?_
   refine cR (cs:=[some (⟨b1,0,none⟩,35)]) (us:=[.agg #[i64 qd.call,i64 qd.a0,i64 qd.a1,i64 qd.a2,.slice qp qd.data.length qc]]) hA [.agg #[i64 qd.call,i64 qd.a0,i64 qd.a1,i64 qd.a2,.slice qp qd.data.length qc]] ⟨(hO.ln 0 0 35 [i64 qd.call,i64 qd.a0,i64 qd.a1,i64 qd.a2,.slice qp qd.data.length qc]),trivial⟩ ?_
   replace hO:Ow Tryd.prog M w w4 ([(b1,35,[i64 qd.call,i64 qd.a0,i64 qd.a1,i64 qd.a2,.slice qp qd.data.length qc]),(pb,31,(cS 2 po2 inp2 pj2 lj2.length kj2 rd2 wr2 pv2 pn2 ln2.length kn2 (some ap) (((⟨qp,qc,qd⟩:PV)::rp).length) kp2))]++((T++TL1)++([]))):=hO
   exact ⟨(⟨2,po2,inp2,pj2,kj2,lj2,rd2,wr2,pv2,pn2,kn2,ln2,some ap,kp2,((⟨qp,qc,qd⟩:PV)::rp)⟩:SV),⟨qp,qc,qd⟩,(TL1++([])),hR.symm.trans (proc_plan (s:=SV.d (⟨mo2,po2,inp2,pj2,kj2,lj2,rd2,wr2,pv2,pn2,kn2,ln2,some ap,kp2,((⟨qp,qc,qd⟩:PV)::rp)⟩:SV)) rfl),⟨hsm2.i,hsm2.j,hsm2.k,hsm2.p,hsm2.ck,hsm2.cj,hsm2.cp⟩,hvl2,rfl,(show Ow Tryd.prog M w _ ((pb,31,cS 2 po2 inp2 pj2 lj2.length kj2 rd2 wr2 pv2 pn2 ln2.length kn2 (some ap) (((⟨qp,qc,qd⟩:PV)::rp).length) kp2)::(T++(TL1++([])))) from ((Ow.subP (A:=[_,_]) hO (.cons _ (.cons_cons _ .slnil)))).tt),((ok3 (T:=(T++TL1)++([])) (x:=(⟨2,po2,inp2,pj2,kj2,lj2,rd2,wr2,pv2,pn2,kn2,ln2,some ap,kp2,((⟨qp,qc,qd⟩:PV)::rp)⟩:SV)) ((hTL1.mono fun _ h_=>h_.j).l) ((hTL1.mono fun _ h_=>h_.k).l) ((hTL1.mono fun _ h_=>h_.p).l)).tt),((hTL1.mono fun _ h_=>h_.p.2 _ List.mem_cons_self).tt)⟩
 rw [h1] at hA
 have h1p:=of_decide_eq_false h1
 have hp0:lp2.length=0:=by omega
 have hpl:(SV.d (⟨mo2,po2,inp2,pj2,kj2,lj2,rd2,wr2,pv2,pn2,kn2,ln2,pp2,kp2,lp2⟩:SV)).plan=[]:=by show lp2.map PV.d=[]; rw [List.length_eq_zero_iff.1 hp0]; rfl
 refine cF hA ?_
 refine wp_skip ?_
 refine then_normal ?_
 refine wp_seq ?_
 refine Sb [(26,bl (decide (((lj2.length:Nat):Int) > 0)))] hA [.slice pj2 lj2.length kj2] (cc (hO.l1 1 3 27 (.slice pj2 lj2.length kj2)) c0) fun fr hA=>?_
 rcases Bool.eq_false_or_eq_true (decide (((lj2.length:Nat):Int) > 0)) with h2 | h2
 · rw [h2] at hA
   have h2p:=of_decide_eq_true h2
   obtain ⟨⟨xp,xc,xl,xb⟩,rj,rfl⟩ : ∃ x r,lj2=x::r:=by cases lj2 with | nil=>(simp at h2) | cons x r=>exact ⟨x,r,rfl⟩
   obtain ⟨hxl,hxv⟩:=vl_hd hvl2
   obtain ⟨⟨yp,yc,yd⟩,rc,rfl⟩ : ∃ y r,xl=y::r:=by cases xl with | nil=>(simp at hxl) | cons x r=>exact ⟨x,r,rfl⟩
   obtain ⟨hwl,hws⟩:=vc_words (hxv ⟨yp,yc,yd⟩ List.mem_cons_self)
   have hokj:=(Holds'.at (A:=[_,_]) hTL1 hO.m)
   obtain ⟨aj,rfl⟩:=hokj.j.1.pos (Nat.zero_lt_succ _)
   obtain ⟨ax,rfl⟩:=(hokj.j.2 _ List.mem_cons_self).1.pos (Nat.zero_lt_succ _)
   obtain ⟨ay,rfl⟩:=((hokj.j.2 _ List.mem_cons_self).2 _ List.mem_cons_self).pos hwl.1
   clear hokj
   have hjp : 0 < (SV.d (⟨mo2,po2,inp2,some aj,kj2,((⟨some ax,xc,(⟨some ay,yc,yd⟩::rc),xb⟩:JV)::rj),rd2,wr2,pv2,pn2,kn2,ln2,pp2,kp2,lp2⟩:SV)).jobs.length:=Nat.zero_lt_succ _
   refine cT hA ?_
   refine wp_seq ?_
   refine sr 8 ?_
   refine Ka 1 [(28,pt pb)] hA fun fr hA=>?_
   refine wpOps_cons' (mC (d:=(some 29)) hA Tryd.func39 ((sjob_any pb mo2 po2 inp2 aj kj2 ax xc ay yc yd rc xb rj rd2 wr2 pv2 pn2 kn2 ln2 pp2 kp2 lp2 (T++TL1) _ hTL1 (mself (A:=[_]) (hO.tt:Ow Tryd.prog M w _ (([(b1,35,[i64 0,i64 0,i64 0,i64 0,.slice none 0 0])]++[(pb,31,cS mo2 po2 inp2 (some aj) (((⟨some ax,xc,(⟨some ay,yc,yd⟩::rc),xb⟩:JV)::rj).length) kj2 rd2 wr2 pv2 pn2 ln2.length kn2 pp2 lp2.length kp2)])++((T++TL1)++[])))) hsm2 hvl2 (fun w_ k_=>hE w_ (Ow.pan (A:=[_]) ((hO.tt:Ow Tryd.prog M w _ (([(b1,35,[i64 0,i64 0,i64 0,i64 0,.slice none 0 0])]++[(pb,31,cS mo2 po2 inp2 (some aj) (((⟨some ax,xc,(⟨some ay,yc,yd⟩::rc),xb⟩:JV)::rj).length) kj2 rd2 wr2 pv2 pn2 ln2.length kn2 pp2 lp2.length kp2)])++((T++TL1)++[]))).tt) k_)) hp0).mono ?_))
   rintro en w5 ⟨⟨mo3,po3,inp3,pj3,kj3,lj3,rd3,wr3,pv3,pn3,kn3,ln3,pp3,kp3,lp3⟩,⟨cc_3,c0_3,c1_3,c2_3,cd_3⟩,b_3,T1,hj1,hcd1,hsm3,rfl,hW,hG1⟩
   refine ⟨_,rfl,?_⟩
   clear hA fr; intro fr hA
   replace hO:=mcall (A:=[(b1,35,[i64 0,i64 0,i64 0,i64 0,.slice none 0 0])]) (B:=[]) (T:=(T++TL1)) (Tn:=T1) (x':=(pb,31,cS mo3 po3 inp3 pj3 lj3.length kj3 rd3 wr3 pv3 pn3 ln3.length kn3 pp3 lp3.length kp3)) hO.tt hW; clear hW
   replace hO:Ow Tryd.prog M w _ ([(b1,35,[i64 0,i64 0,i64 0,i64 0,.slice none 0 0]),(pb,31,(cS mo3 po3 inp3 pj3 lj3.length kj3 rd3 wr3 pv3 pn3 ln3.length kn3 pp3 lp3.length kp3))]++(((T++TL1)++T1)++([]))):=hO.to (by first | rfl | (simp only [TP,apd]))
   refine Ka 3 [(30,.agg #[i64 cc_3,i64 c0_3,i64 c1_3,i64 c2_3,.slice none 0 0]),(31,bl b_3)] hA fun fr hA=>?_
   refine Mn [i64 0,i64 0,i64 0,i64 0,.slice none 0 0] 35 3 hA hO fun fr w6 b2 hA hO=>?_
   refine Ms 0 [i64 cc_3,i64 c0_3,i64 c1_3,i64 c2_3,.slice none 0 0] 0 hA hO fun w7 hO=>?_
   refine Ka 1 [(4,bl b_3)] hA fun fr hA=>?_
   refine end_ops ?_
   refine then_normal ?_
   refine Sa [(32,bl b_3)] hA fun fr hA=>?_
   rcases Bool.eq_false_or_eq_true (b_3) with h3 | h3
   · rw [h3] at hA
     rw [h3,if_pos rfl] at hj1
     refine cT hA ?_
     refine sr 2 ?_
     refine Kb 1 [(33,.agg #[i64 cc_3,i64 c0_3,i64 c1_3,i64 c2_3,.slice none 0 0])] hA [.agg #[i64 cc_3,i64 c0_3,i64 c1_3,i64 c2_3,.slice none 0 0]] (cc (hO.ln 0 0 35 [i64 cc_3,i64 c0_3,i64 c1_3,i64 c2_3,.slice none 0 0]) c0) fun fr hA=>?_
     refine Ms 0 [i64 cc_3,i64 c0_3,i64 c1_3,i64 c2_3,.slice none 0 0] 1 hA hO fun w8 hO=>?_
     refine end_ops ?_
     refine then_normal ?_
     refine wp_ret ?_
     refine then_ret ?_
     refine then_ret ?_
     refine inBlock_ret ?_
     refine then_ret ?_
     refine inBlock_ret ?_
     refine cR (cs:=[some (⟨b1,0,none⟩,35)]) (us:=[.agg #[i64 cc_3,i64 c0_3,i64 c1_3,i64 c2_3,.slice none 0 0]]) hA [.agg #[i64 cc_3,i64 c0_3,i64 c1_3,i64 c2_3,.slice none 0 0]] ⟨(hO.ln 1 0 35 [i64 cc_3,i64 c0_3,i64 c1_3,i64 c2_3,.slice none 0 0]),trivial⟩ ?_
     have hcd_:cd_3=[]:=hcd1
     subst hcd_
     replace hO:Ow Tryd.prog M w w8 ([(b2,35,[i64 cc_3,i64 c0_3,i64 c1_3,i64 c2_3,.slice none 0 0]),(b1,35,[i64 cc_3,i64 c0_3,i64 c1_3,i64 c2_3,.slice none 0 0]),(pb,31,(cS mo3 po3 inp3 pj3 lj3.length kj3 rd3 wr3 pv3 pn3 ln3.length kn3 pp3 lp3.length kp3))]++(((T++TL1)++T1)++([]))):=hO
     exact ⟨(⟨mo3,po3,inp3,pj3,kj3,lj3,rd3,wr3,pv3,pn3,kn3,ln3,pp3,kp3,lp3⟩:SV),⟨none,0,⟨cc_3,c0_3,c1_3,c2_3,[]⟩⟩,(TL1++(T1++([]))),hR.symm.trans (proc_some (s:=SV.d (⟨mo2,po2,inp2,some aj,kj2,((⟨some ax,xc,(⟨some ay,yc,yd⟩::rc),xb⟩:JV)::rj),rd2,wr2,pv2,pn2,kn2,ln2,pp2,kp2,lp2⟩:SV)) hpl hjp hj1),hsm3,(by have q_:=jobS_valid (s:=SV.d (⟨mo2,po2,inp2,some aj,kj2,((⟨some ax,xc,(⟨some ay,yc,yd⟩::rc),xb⟩:JV)::rj),rd2,wr2,pv2,pn2,kn2,ln2,pp2,kp2,lp2⟩:SV)) hvl2; rw [hj1] at q_; exact q_),rfl,(show Ow Tryd.prog M w _ ((pb,31,cS mo3 po3 inp3 pj3 lj3.length kj3 rd3 wr3 pv3 pn3 ln3.length kn3 pp3 lp3.length kp3)::(T++(TL1++(T1++([]))))) from ((Ow.subP (A:=[_,_,_]) hO (.cons _ (.cons _ (.cons_cons _ .slnil))))).tt),((ok3 (T:=((T++TL1)++T1)++([])) (x:=(⟨mo3,po3,inp3,pj3,kj3,lj3,rd3,wr3,pv3,pn3,kn3,ln3,pp3,kp3,lp3⟩:SV)) ((hG1.mono fun _ h_=>h_.j).l) ((hG1.mono fun _ h_=>h_.k).l) ((hG1.mono fun _ h_=>h_.p).l)).tt),(fun _ _ _ _=>bare_vp (bare_one _ _ _ _) _ _ (List.mem_singleton.2 rfl))⟩
   rw [h3] at hA
   rw [h3,if_neg (by simp)] at hj1
   refine cF hA ?_
   refine wp_skip ?_
   refine then_normal ?_
   refine wp_exit ?_
   refine then_exit ?_
   refine inBlock_exit ?_
   refine then_normal ?_
   replace hO:Ow Tryd.prog M w w7 ([(b2,35,[i64 cc_3,i64 c0_3,i64 c1_3,i64 c2_3,.slice none 0 0]),(b1,35,[i64 0,i64 0,i64 0,i64 0,.slice none 0 0]),(pb,31,(cS mo3 po3 inp3 pj3 lj3.length kj3 rd3 wr3 pv3 pn3 ln3.length kn3 pp3 lp3.length kp3))]++(((T++TL1)++T1)++([]))):=hO
   have hGn:Holds' (T++(TL1++T1)) (SV.ok (⟨mo3,po3,inp3,pj3,kj3,lj3,rd3,wr3,pv3,pn3,kn3,ln3,pp3,kp3,lp3⟩:SV)):=(hG1).to (by simp only [List.append_assoc])
   replace hO:Ow Tryd.prog M w w7 ([(b2,35,[i64 cc_3,i64 c0_3,i64 c1_3,i64 c2_3,.slice none 0 0]),(b1,35,[i64 0,i64 0,i64 0,i64 0,.slice none 0 0]),(pb,31,(cS mo3 po3 inp3 pj3 lj3.length kj3 rd3 wr3 pv3 pn3 ln3.length kn3 pp3 lp3.length kp3))]++((T++(TL1++T1))++([]))):=hO.to (by first | rfl | (simp only [TP,apd]))
   exact ⟨_,by omega,mo3,po3,inp3,pj3,kj3,lj3,rd3,wr3,pv3,pn3,kn3,ln3,pp3,kp3,lp3,f,((TL1++T1)),rfl,hA.ss,(Ow.subP (A:=[_,_,_]) hO (.cons _ (.cons_cons _ (.cons_cons _ .slnil)))),hGn,(by have q_:=hj1; exact (proc_none (s:=SV.d (⟨mo2,po2,inp2,some aj,kj2,((⟨some ax,xc,(⟨some ay,yc,yd⟩::rc),xb⟩:JV)::rj),rd2,wr2,pv2,pn2,kn2,ln2,pp2,kp2,lp2⟩:SV)) hpl hjp q_).symm.trans hR),(by have q_:=jobS_none hj1 hjp; omega),hsm3,(by have q_:=jobS_valid (s:=SV.d (⟨mo2,po2,inp2,some aj,kj2,((⟨some ax,xc,(⟨some ay,yc,yd⟩::rc),xb⟩:JV)::rj),rd2,wr2,pv2,pn2,kn2,ln2,pp2,kp2,lp2⟩:SV)) hvl2; rw [hj1] at q_; exact q_),trivial⟩
 rw [h2] at hA
 have h2p:=of_decide_eq_false h2
 have hjl:(SV.d (⟨mo2,po2,inp2,pj2,kj2,lj2,rd2,wr2,pv2,pn2,kn2,ln2,pp2,kp2,lp2⟩:SV)).jobs.length=0:=by show (lj2.map JV.d).length=0; rw [List.length_map]; omega
 have hjn:(SV.d (⟨mo2,po2,inp2,pj2,kj2,lj2,rd2,wr2,pv2,pn2,kn2,ln2,pp2,kp2,lp2⟩:SV)).jobs=[]:=List.length_eq_zero_iff.1 hjl
 refine cF hA ?_
 refine wp_skip ?_
 refine then_normal ?_
 refine sr 6 ?_
 refine Kb 4 [(37,str inp2)] hA [str inp2] (cc (hO.l1 1 2 9 (str inp2)) c0) fun fr hA=>?_
 refine Mk 38 hA hO Tryd.func40 (rs (indexByte_any inp2 10 _) (congrArg (Value.int .i64) (rfl:Lib.indexByte inp2.data.toList (10:Int).toNat.toUInt8=nlI inp2))) fun fr w9 hA hO=>?_
 refine Ka 1 [(5,i64 (nlI inp2))] hA fun fr hA=>?_
 refine end_ops ?_
 refine then_normal ?_
 refine wp_seq ?_
 refine Sa [(40,bl (decide ((nlI inp2) < 0)))] hA fun fr hA=>?_
 rcases Bool.eq_false_or_eq_true (decide ((nlI inp2) < 0)) with h4 | h4
 · rw [h4] at hA
   have h4p:=of_decide_eq_true h4
   refine cT hA ?_
   refine sr 4 ?_
   refine Ka 3 [(43,pt pb)] hA fun fr hA=>?_
   refine Ms 0 [i64 1] 1 hA hO fun w10 hO=>?_
   refine end_ops ?_
   refine then_normal ?_
   refine sr 3 ?_
   refine Mv [i64 0,i64 80] 3 2 44 hA hO fun fr w11 b3 hA hO=>?_
   refine Mk 45 hA hO Tryd.func12 (call_2 9 0 80 ⟨b3,0,none⟩ 2 _ ((hO.b 0).vw (off:=0) (xs:=[0,80]) (by kernel_rfl))) fun fr w12 hA hO=>?_
   refine Ms 0 [i64 9,i64 0,i64 80,i64 0,.slice none 0 0] 1 hA hO fun w13 hO=>?_
   refine end_ops ?_
   refine then_normal ?_
   refine wp_ret ?_
   refine then_ret ?_
   refine inBlock_ret ?_
   refine then_ret ?_
   refine inBlock_ret ?_
   refine cR (cs:=[some (⟨b1,0,none⟩,35)]) (us:=[.agg #[i64 9,i64 0,i64 80,i64 0,.slice none 0 0]]) hA [.agg #[i64 9,i64 0,i64 80,i64 0,.slice none 0 0]] ⟨(hO.ln 1 0 35 [i64 9,i64 0,i64 80,i64 0,.slice none 0 0]),trivial⟩ ?_
   replace hO:Ow Tryd.prog M w w13 ([(b3,3,[i64 0,i64 80]),(b1,35,[i64 9,i64 0,i64 80,i64 0,.slice none 0 0]),(pb,31,(cS 1 po2 inp2 pj2 lj2.length kj2 rd2 wr2 pv2 pn2 ln2.length kn2 pp2 lp2.length kp2))]++((T++TL1)++([]))):=hO
   exact ⟨(⟨1,po2,inp2,pj2,kj2,lj2,rd2,wr2,pv2,pn2,kn2,ln2,pp2,kp2,lp2⟩:SV),⟨none,0,callL 9 0 80⟩,(TL1++([])),hR.symm.trans (proc_read (s:=SV.d (⟨mo2,po2,inp2,pj2,kj2,lj2,rd2,wr2,pv2,pn2,kn2,ln2,pp2,kp2,lp2⟩:SV)) hpl hjn (by assumption)),⟨hsm2.i,hsm2.j,hsm2.k,hsm2.p,hsm2.ck,hsm2.cj,hsm2.cp⟩,hvl2,rfl,(show Ow Tryd.prog M w _ ((pb,31,cS 1 po2 inp2 pj2 lj2.length kj2 rd2 wr2 pv2 pn2 ln2.length kn2 pp2 lp2.length kp2)::(T++(TL1++([])))) from ((Ow.subP (A:=[_,_,_]) hO (.cons _ (.cons _ (.cons_cons _ .slnil))))).tt),((ok3 (T:=(T++TL1)++([])) (x:=(⟨1,po2,inp2,pj2,kj2,lj2,rd2,wr2,pv2,pn2,kn2,ln2,pp2,kp2,lp2⟩:SV)) ((hTL1.mono fun _ h_=>h_.j).l) ((hTL1.mono fun _ h_=>h_.k).l) ((hTL1.mono fun _ h_=>h_.p).l)).tt),(fun _ _ _ _=>bare_vp (bare_one _ _ _ _) _ _ (List.mem_singleton.2 rfl))⟩
 rw [h4] at hA
 have h4p:=of_decide_eq_false h4
 refine cF hA ?_
 refine wp_skip ?_
 refine then_normal ?_
 refine rr 3 ?_
 refine Ka 2 [(46,pt pb),(47,i64 (nlI inp2))] hA fun fr hA=>?_
 refine wpOps_cons' (mC (d:=(some 48)) hA Tryd.func41 (((show Calls Tryd.prog 41 #[pt pb,i64 (nlI inp2)] _ _ from (by have q_:=(sline_any pb mo2 po2 inp2 pj2 kj2 lj2 rd2 wr2 pv2 pn2 kn2 ln2 pp2 kp2 lp2 (T++TL1) (nlI inp2).toNat _ hTL1 (mself (A:=[_]) (hO.tt:Ow Tryd.prog M w _ (([(b1,35,[i64 0,i64 0,i64 0,i64 0,.slice none 0 0])]++[(pb,31,cS mo2 po2 inp2 pj2 lj2.length kj2 rd2 wr2 pv2 pn2 ln2.length kn2 pp2 lp2.length kp2)])++((T++TL1)++[])))) hsm2 hvl2 hp0 (nlI_lt (by omega))); rwa [show (((nlI inp2).toNat:Nat):Int)=nlI inp2 by omega] at q_))).mono ?_))
 rintro en w14 ⟨⟨mo4,po4,inp4,pj4,kj4,lj4,rd4,wr4,pv4,pn4,kn4,ln4,pp4,kp4,lp4⟩,T2,hl1,hsm4,hvl4,rfl,hW,hG2⟩
 refine ⟨_,rfl,?_⟩
 clear hA fr; intro fr hA
 replace hO:=mcall (A:=[(b1,35,[i64 0,i64 0,i64 0,i64 0,.slice none 0 0])]) (B:=[]) (T:=(T++TL1)) (Tn:=T2) (x':=(pb,31,cS mo4 po4 inp4 pj4 lj4.length kj4 rd4 wr4 pv4 pn4 ln4.length kn4 pp4 lp4.length kp4)) hO.tt hW; clear hW
 refine end_ops ?_
 refine inBlock_normal ?_
 refine then_normal ?_
 have hGn:Holds' (T++(TL1++T2)) (SV.ok (⟨mo4,po4,inp4,pj4,kj4,lj4,rd4,wr4,pv4,pn4,kn4,ln4,pp4,kp4,lp4⟩:SV)):=(hG2).to (by simp only [List.append_assoc])
 exact ⟨_,by omega,mo4,po4,inp4,pj4,kj4,lj4,rd4,wr4,pv4,pn4,kn4,ln4,pp4,kp4,lp4,f,((TL1++T2)),rfl,hA.ss,hO.tt,hGn,(by rw [hl1]; exact (proc_line (s:=SV.d (⟨mo2,po2,inp2,pj2,kj2,lj2,rd2,wr2,pv2,pn2,kn2,ln2,pp2,kp2,lp2⟩:SV)) hpl hjn (by assumption)).symm.trans hR),(by have q_:=lineS_meas (s:=SV.d (⟨mo2,po2,inp2,pj2,kj2,lj2,rd2,wr2,pv2,pn2,kn2,ln2,pp2,kp2,lp2⟩:SV)) (n:=(nlI inp2).toNat) (nlI_lt (by assumption)) hjl (by rw [← hl1]; exact valid_le hvl4); rw [hl1]; omega),hsm4,hvl4,trivial⟩
end Go.Proofs.YtdljjajjonfjbaaDoor
