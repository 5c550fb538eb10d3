import Derived.Test.YtdljjajjonfjbaaDoorSho
import Derived.Test.YtdljjajjonfjbaaDoorSn
set_option linter.unusedVariables false
set_option linter.unusedSimpArgs false
set_option maxRecDepth 10000
namespace Go.Proofs.YtdljjajjonfjbaaDoor
open Go Go.Shelf Go.RowKit Go.Proofs Go.Proofs.Sx
theorem forked_neg (pb:Nat) (mo po:Int) (inp:ByteArray) (pj:Option Addr) (kj:Nat) (lj:List JV) (rd wr pv:Int) (pn:Option Addr) (kn:Nat) (ln:List Int) (pp:Option Addr) (kp:Nat) (lp:List PV) (T:OwL) (result:Int) (w:World) (hG:Holds' T (SV.ok (⟨mo,po,inp,pj,kj,lj,rd,wr,pv,pn,kn,ln,pp,kp,lp⟩:SV))) (h0:Ow Tryd.prog (inT ((pb,31,cS mo po inp pj lj.length kj rd wr pv pn ln.length kn pp lp.length kp)::T)) w w ((pb,31,cS mo po inp pj lj.length kj rd wr pv pn ln.length kn pp lp.length kp)::T)) (hm:SV.sm (⟨mo,po,inp,pj,kj,lj,rd,wr,pv,pn,kn,ln,pp,kp,lp⟩:SV)) (hvl:validL (lj.map JV.d)=true) (hE : ∀ w',Only (inT ((pb,31,cS mo po inp pj lj.length kj rd wr pv pn ln.length kn pp lp.length kp)::T)) w w'->ErrOk w') (hp0:lp.length=0) (hr:result < 0) :
    Calls Tryd.prog 30 #[pt pb,i64 result] w fun e w'=>∃ (v:SV) (x:PV) (Tn:OwL),forkS (SV.d (⟨mo,po,inp,pj,kj,lj,rd,wr,pv,pn,kn,ln,pp,kp,lp⟩:SV)) result=(v.d,x.d)/\v.sm/\validL (v.lj.map JV.d)=true/\e = .returned (.agg #[i64 x.d.call,i64 x.d.a0,i64 x.d.a1,i64 x.d.a2,.slice x.p x.d.data.length x.c])/\Ow Tryd.prog (inT ((pb,31,cS mo po inp pj lj.length kj rd wr pv pn ln.length kn pp lp.length kp)::T)) w w' ((pb,31,v.cells)::(T++Tn))/\Holds' (T++Tn) v.ok/\Holds' (T++Tn) (fun w=>VP w x):=by
 refine c_enter (args:=[pt pb,i64 result]) (m:=98) (n:=100) Tryd.func30 rfl (by kernel_rfl) (by kernel_rfl) fun fr hA=>?_
 generalize inT ((pb,31,cS mo po inp pj lj.length kj rd wr pv pn ln.length kn pp lp.length kp)::T)=M at *
 have hO:Ow Tryd.prog M w w ([(pb,31,(cS mo po inp pj lj.length kj rd wr pv pn ln.length kn pp lp.length kp))]++(T++([]))):=h0.to (by first | rfl | first | rfl | (simp only [TP,apd]))
 refine sr 1 ?_
 refine Mn [i64 0,i64 0,i64 0,i64 0,.slice none 0 0] 35 4 hA hO fun fr w1 b1 hA hO=>?_
 refine end_ops ?_
 refine then_normal ?_
 refine wp_seq ?_
 refine wp_block ?_
 refine Sa [(7,bl (decide (result < 0)))] hA fun fr hA=>?_
 rw [(decide_eq_true hr:(decide (result < 0))=true)] at hA
 refine cT hA ?_
 refine sr 3 ?_
 refine Ka 1 [(10,pt pb)] hA fun fr hA=>?_
 have hGm1:Holds' T (SV.ok (⟨mo,po,inp,pj,kj,lj,rd,wr,pv,pn,kn,ln,pp,kp,lp⟩:SV)):=(ok3 (T:=T++([])) (x:=(⟨mo,po,inp,pj,kj,lj,rd,wr,pv,pn,kn,ln,pp,kp,lp⟩:SV)) ((hG.mono fun _ h_=>h_.j).l) ((hG.mono fun _ h_=>h_.k).l) ((hG.mono fun _ h_=>h_.p).l)).tt
 refine wpOps_cons' (mC (d:=(some 11)) hA Tryd.func29 ((giveUp_any pb mo po inp pj kj lj rd wr pv pn kn ln pp kp lp T _ hGm1 (mself (A:=[_]) (hO.tt:Ow Tryd.prog M w _ (([(b1,35,[i64 0,i64 0,i64 0,i64 0,.slice none 0 0])]++[(pb,31,cS mo po inp pj lj.length kj rd wr pv pn ln.length kn pp lp.length kp)])++(T++[])))) hm hvl (fun w_ k_=>hE w_ (Ow.pan (A:=[_]) ((hO.tt:Ow Tryd.prog M w _ (([(b1,35,[i64 0,i64 0,i64 0,i64 0,.slice none 0 0])]++[(pb,31,cS mo po inp pj lj.length kj rd wr pv pn ln.length kn pp lp.length kp)])++(T++[]))).tt) k_)) hp0).mono ?_))
 rintro en w2 ⟨⟨mo3,po3,inp3,pj3,kj3,lj3,rd3,wr3,pv3,pn3,kn3,ln3,pp3,kp3,lp3⟩,⟨xp_3,xc_3,xd_3⟩,T1,hr1,hsm3,hvl3,rfl,hW,hG1,hvx1⟩
 refine ⟨_,rfl,?_⟩
 clear hA fr; intro fr hA
 replace hO:=mcall (A:=[(b1,35,[i64 0,i64 0,i64 0,i64 0,.slice none 0 0])]) (B:=[]) (T:=T) (Tn:=T1) (x':=(pb,31,cS mo3 po3 inp3 pj3 lj3.length kj3 rd3 wr3 pv3 pn3 ln3.length kn3 pp3 lp3.length kp3)) hO.tt hW; clear hW
 refine Ms 0 [i64 xd_3.call,i64 xd_3.a0,i64 xd_3.a1,i64 xd_3.a2,.slice xp_3 xd_3.data.length xc_3] 0 hA hO fun w3 hO=>?_
 refine end_ops ?_
 refine then_normal ?_
 refine wp_ret ?_
 refine inBlock_ret ?_
 refine then_ret ?_
 refine cR (cs:=[some (⟨b1,0,none⟩,35)]) (us:=[.agg #[i64 xd_3.call,i64 xd_3.a0,i64 xd_3.a1,i64 xd_3.a2,.slice xp_3 xd_3.data.length xc_3]]) hA [.agg #[i64 xd_3.call,i64 xd_3.a0,i64 xd_3.a1,i64 xd_3.a2,.slice xp_3 xd_3.data.length xc_3]] ⟨(hO.ln 0 0 35 [i64 xd_3.call,i64 xd_3.a0,i64 xd_3.a1,i64 xd_3.a2,.slice xp_3 xd_3.data.length xc_3]),trivial⟩ ?_
 exact ⟨(⟨mo3,po3,inp3,pj3,kj3,lj3,rd3,wr3,pv3,pn3,kn3,ln3,pp3,kp3,lp3⟩:SV),⟨xp_3,xc_3,xd_3⟩,(T1++([])),(by have q_:=hr1; unfold forkS; rw [if_pos hr]; exact q_),hsm3,hvl3,rfl,(((Ow.subP (A:=[_,_]) hO (.cons _ (.cons_cons _ .slnil)))).tt),((ok3 (T:=(T++T1)++([])) (x:=(⟨mo3,po3,inp3,pj3,kj3,lj3,rd3,wr3,pv3,pn3,kn3,ln3,pp3,kp3,lp3⟩:SV)) ((hG1.mono fun _ h_=>h_.j).l) ((hG1.mono fun _ h_=>h_.k).l) ((hG1.mono fun _ h_=>h_.p).l)).tt),(hvx1).tt⟩
theorem kids_yes {l:List Int} {t:Int} (h:userB t=true) (h2:l.contains t=false):kidsAdd l t=l++[t]:=by unfold kidsAdd; rw [if_pos ⟨h,h2⟩]
theorem kids_nu {l:List Int} {t:Int} (h:userB t=false):kidsAdd l t=l:=by unfold kidsAdd; rw [if_neg (by rw [h]; simp)]
theorem kids_in {l:List Int} {t:Int} (h2:l.contains t=true):kidsAdd l t=l:=by unfold kidsAdd; rw [if_neg (by rw [h2]; simp)]
set_option maxHeartbeats 2000000 in
theorem forked_pos (pb:Nat) (mo po:Int) (inp:ByteArray) (pj:Option Addr) (kj:Nat) (lj:List JV) (rd wr pv:Int) (pn:Option Addr) (kn:Nat) (ln:List Int) (pp:Option Addr) (kp:Nat) (lp:List PV) (T:OwL) (result:Int) (w:World) (hG:Holds' T (SV.ok (⟨mo,po,inp,pj,kj,lj,rd,wr,pv,pn,kn,ln,pp,kp,lp⟩:SV))) (h0:Ow Tryd.prog (inT ((pb,31,cS mo po inp pj lj.length kj rd wr pv pn ln.length kn pp lp.length kp)::T)) w w ((pb,31,cS mo po inp pj lj.length kj rd wr pv pn ln.length kn pp lp.length kp)::T)) (hm:SV.sm (⟨mo,po,inp,pj,kj,lj,rd,wr,pv,pn,kn,ln,pp,kp,lp⟩:SV)) (hvl:validL (lj.map JV.d)=true) (hE : ∀ w',Only (inT ((pb,31,cS mo po inp pj lj.length kj rd wr pv pn ln.length kn pp lp.length kp)::T)) w w'->ErrOk w') (hp0:lp.length=0) (hr : 0 < result) (hrx:result<=9223372036854775807) (hpo : 0<=po/\po<=1000) (hkn:ln.length<=1000) :
    Calls Tryd.prog 30 #[pt pb,i64 result] w fun e w'=>∃ (v:SV) (x:PV) (Tn:OwL),forkS (SV.d (⟨mo,po,inp,pj,kj,lj,rd,wr,pv,pn,kn,ln,pp,kp,lp⟩:SV)) result=(v.d,x.d)/\v.sm/\validL (v.lj.map JV.d)=true/\e = .returned (.agg #[i64 x.d.call,i64 x.d.a0,i64 x.d.a1,i64 x.d.a2,.slice x.p x.d.data.length x.c])/\Ow Tryd.prog (inT ((pb,31,cS mo po inp pj lj.length kj rd wr pv pn ln.length kn pp lp.length kp)::T)) w w' ((pb,31,v.cells)::(T++Tn))/\Holds' (T++Tn) v.ok/\Holds' (T++Tn) (fun w=>VP w x):=by
 refine c_enter (args:=[pt pb,i64 result]) (m:=98) (n:=100) Tryd.func30 rfl (by kernel_rfl) (by kernel_rfl) fun fr hA=>?_
 generalize inT ((pb,31,cS mo po inp pj lj.length kj rd wr pv pn ln.length kn pp lp.length kp)::T)=M at *
 have hO:Ow Tryd.prog M w w ([(pb,31,(cS mo po inp pj lj.length kj rd wr pv pn ln.length kn pp lp.length kp))]++(T++([]))):=h0.to (by first | rfl | first | rfl | (simp only [TP,apd]))
 refine sr 1 ?_
 refine Mn [i64 0,i64 0,i64 0,i64 0,.slice none 0 0] 35 4 hA hO fun fr w1 b1 hA hO=>?_
 refine end_ops ?_
 refine then_normal ?_
 refine wp_seq ?_
 refine wp_block ?_
 refine Sa [(7,bl (decide (result < 0)))] hA fun fr hA=>?_
 rw [(decide_eq_false (by omega):(decide (result < 0))=false)] at hA
 refine cF hA ?_
 refine Sa [(12,bl (result == 0))] hA fun fr hA=>?_
 rw [(beq_eq_false_iff_ne.2 (by omega):(result == 0)=false)] at hA
 refine cF hA ?_
 refine wp_skip ?_
 refine inBlock_normal ?_
 refine then_normal ?_
 refine sJ (fun fr W=>∃ (pm:Option Addr) (km:Nat) (lm:List Int) (Tm:OwL),Holds 100 [] fr [(0,pt pb),(4,pt b1)]/\Ow Tryd.prog M w W ([(b1,35,[i64 0,i64 0,i64 0,i64 0,.slice none 0 0]),(pb,31,(cS mo po inp pj lj.length kj rd wr pv pm lm.length km pp lp.length kp))]++((T++Tm)++([])))/\lm=kidsAdd ln (result % 32)/\lm.length<=km/\lm.length<=ln.length+1/\Holds' (T++Tm) (SV.ok (⟨mo,po,inp,pj,kj,lj,rd,wr,pv,pm,km,lm,pp,kp,lp⟩:SV))/\True) ?_ ?_
 · rintro fr w2 ⟨pm,km,lm,Tm,hA,hO,hlm,hkm,hlml,hGm_,-⟩
   refine sJ (fun fr W=>∃ (pq:Option Addr) (kq:Nat) (lq:List PV) (Tq:OwL),Holds 100 [] fr [(0,pt pb),(4,pt b1)]/\Ow Tryd.prog M w W ([(b1,35,[i64 0,i64 0,i64 0,i64 0,.slice none 0 0]),(pb,31,(cS mo po inp pj lj.length kj rd wr pv pm lm.length km pq lq.length kq))]++((T++Tm)++(Tq++([]))))/\lq.map PV.d=lp.map PV.d++closesL [pv,wr]/\lq.length<=kq/\lq.length<=lp.length+2/\Holds' ((T++Tm)++Tq) (fun w_=>PL w_ (.slice pq lq.length kq) lq)/\True) ?_ ?_
   · rintro fr w3 ⟨pq,kq,lq,Tq,hA,hO,hdq,hcq,hlq,hGq,-⟩
     refine sr 16 ?_
     refine Kb 9 [(79,pt pb),(80,pt pb),(84,i64 rd),(86,pf pb 6)] hA [i64 rd] (cc (hO.l1 1 4 3 (i64 rd)) c0) fun fr hA=>?_
     refine Ms 6 [i64 rd] 1 hA hO fun w4 hO=>?_
     refine Ka 2 [(88,pf pb 4)] hA fun fr hA=>?_
     refine Ms 4 [i64 (-1)] 1 hA hO fun w5 hO=>?_
     refine Ka 2 [(90,pf pb 5)] hA fun fr hA=>?_
     refine Ms 5 [i64 (-1)] 1 hA hO fun w6 hO=>?_
     refine end_ops ?_
     refine then_normal ?_
     refine sr 8 ?_
     refine Kb 7 [(95,i64 (po+1)),(97,pf pb 1)] hA [i64 po,bl true] (cc (hO.l1 1 1 3 (i64 po)) (cc ((inK_i64 (by omega) (by omega)):inK .i64 (po+1)) c0)) fun fr hA=>?_
     refine Ms 1 [i64 (po+1)] 1 hA hO fun w7 hO=>?_
     refine end_ops ?_
     refine then_normal ?_
     refine sr 3 ?_
     refine Ka 1 [(98,pt pb)] hA fun fr hA=>?_
     replace hO:Ow Tryd.prog M w w7 ([(b1,35,[i64 0,i64 0,i64 0,i64 0,.slice none 0 0]),(pb,31,(cS mo (po+1) inp pj lj.length kj (-1) (-1) rd pm lm.length km pq lq.length kq))]++((T++Tm)++(Tq++([])))):=hO
     have hGm1:Holds' ((T++Tm)++Tq) (SV.ok (⟨mo,po+1,inp,pj,kj,lj,(-1),(-1),rd,pm,km,lm,pq,kq,lq⟩:SV)):=(ok3 (T:=(T++Tm)++(Tq++([]))) (x:=(⟨mo,po+1,inp,pj,kj,lj,(-1),(-1),rd,pm,km,lm,pq,kq,lq⟩:SV)) ((hGm_.mono fun _ h_=>h_.j).l) ((hGm_.mono fun _ h_=>h_.k).l) ((Holds'.l (T':=[]) (hGq.mono fun _ h_=>h_)).to (by simp only [List.append_assoc]))).tt
     replace hO:Ow Tryd.prog M w w7 ([(b1,35,[i64 0,i64 0,i64 0,i64 0,.slice none 0 0]),(pb,31,(cS mo (po+1) inp pj lj.length kj (-1) (-1) rd pm lm.length km pq lq.length kq))]++(((T++Tm)++Tq)++([]))):=hO.to (by first | rfl | (simp only [TP,apd]))
     refine wpOps_cons' (mC (d:=(some 99)) hA Tryd.func27 ((proceed_any pb mo (po+1) inp pj kj lj (-1) (-1) rd pm km lm pq kq lq ((T++Tm)++Tq) _ hGm1 (mself (A:=[_]) (hO.tt:Ow Tryd.prog M w _ (([(b1,35,[i64 0,i64 0,i64 0,i64 0,.slice none 0 0])]++[(pb,31,cS mo (po+1) inp pj lj.length kj (-1) (-1) rd pm lm.length km pq lq.length kq)])++(((T++Tm)++Tq)++[])))) ⟨hm.i,hm.j,(by show lm.length<=_; omega),(by show lq.length<=_; omega),hkm,hm.cj,hcq⟩ hvl (fun w_ k_=>hE w_ (Ow.pan (A:=[_]) ((hO.tt:Ow Tryd.prog M w _ (([(b1,35,[i64 0,i64 0,i64 0,i64 0,.slice none 0 0])]++[(pb,31,cS mo (po+1) inp pj lj.length kj (-1) (-1) rd pm lm.length km pq lq.length kq)])++(((T++Tm)++Tq)++[]))).tt) k_))).mono ?_))
     rintro en w8 ⟨⟨mo3,po3,inp3,pj3,kj3,lj3,rd3,wr3,pv3,pn3,kn3,ln3,pp3,kp3,lp3⟩,⟨xp_3,xc_3,xd_3⟩,T1,hr1,hsm3,hvl3,rfl,hW,hG1,hvx1⟩
     refine ⟨_,rfl,?_⟩
     clear hA fr; intro fr hA
     replace hO:=mcall (A:=[(b1,35,[i64 0,i64 0,i64 0,i64 0,.slice none 0 0])]) (B:=[]) (T:=((T++Tm)++Tq)) (Tn:=T1) (x':=(pb,31,cS mo3 po3 inp3 pj3 lj3.length kj3 rd3 wr3 pv3 pn3 ln3.length kn3 pp3 lp3.length kp3)) hO.tt hW; clear hW
     replace hO:Ow Tryd.prog M w _ ([(b1,35,[i64 0,i64 0,i64 0,i64 0,.slice none 0 0]),(pb,31,(cS mo3 po3 inp3 pj3 lj3.length kj3 rd3 wr3 pv3 pn3 ln3.length kn3 pp3 lp3.length kp3))]++((((T++Tm)++Tq)++T1)++([]))):=hO.to (by first | rfl | (simp only [TP,apd]))
     refine Ms 0 [i64 xd_3.call,i64 xd_3.a0,i64 xd_3.a1,i64 xd_3.a2,.slice xp_3 xd_3.data.length xc_3] 0 hA hO fun w9 hO=>?_
     refine end_ops ?_
     refine then_normal ?_
     refine wp_ret ?_
     refine cR (cs:=[some (⟨b1,0,none⟩,35)]) (us:=[.agg #[i64 xd_3.call,i64 xd_3.a0,i64 xd_3.a1,i64 xd_3.a2,.slice xp_3 xd_3.data.length xc_3]]) hA [.agg #[i64 xd_3.call,i64 xd_3.a0,i64 xd_3.a1,i64 xd_3.a2,.slice xp_3 xd_3.data.length xc_3]] ⟨(hO.ln 0 0 35 [i64 xd_3.call,i64 xd_3.a0,i64 xd_3.a1,i64 xd_3.a2,.slice xp_3 xd_3.data.length xc_3]),trivial⟩ ?_
     replace hO:Ow Tryd.prog M w w9 ([(b1,35,[i64 xd_3.call,i64 xd_3.a0,i64 xd_3.a1,i64 xd_3.a2,.slice xp_3 xd_3.data.length xc_3]),(pb,31,(cS mo3 po3 inp3 pj3 lj3.length kj3 rd3 wr3 pv3 pn3 ln3.length kn3 pp3 lp3.length kp3))]++((((T++Tm)++Tq)++T1)++([]))):=hO
     exact ⟨(⟨mo3,po3,inp3,pj3,kj3,lj3,rd3,wr3,pv3,pn3,kn3,ln3,pp3,kp3,lp3⟩:SV),⟨xp_3,xc_3,xd_3⟩,(Tm++(Tq++(T1++([])))),(by have q_:=hr1; unfold forkS; rw [if_neg (by omega),if_neg (by omega)]; rw [← q_]; unfold SV.d; simp only [hdq,hlm]),hsm3,hvl3,rfl,(show Ow Tryd.prog M w _ ((pb,31,cS mo3 po3 inp3 pj3 lj3.length kj3 rd3 wr3 pv3 pn3 ln3.length kn3 pp3 lp3.length kp3)::(T++(Tm++(Tq++(T1++([])))))) from ((Ow.subP (A:=[_,_]) hO (.cons _ (.cons_cons _ .slnil)))).tt),((ok3 (T:=(((T++Tm)++Tq)++T1)++([])) (x:=(⟨mo3,po3,inp3,pj3,kj3,lj3,rd3,wr3,pv3,pn3,kn3,ln3,pp3,kp3,lp3⟩:SV)) ((hG1.mono fun _ h_=>h_.j).l) ((hG1.mono fun _ h_=>h_.k).l) ((hG1.mono fun _ h_=>h_.p).l)).tt),(hvx1).tt⟩
   have hS:Ow Tryd.prog M w _ [(b1,35,[i64 0,i64 0,i64 0,i64 0,.slice none 0 0])]:=hO.sub [0]
   refine rT (.q 0 (.q 1 (.q 2 (.q 3 (.q 5 (.q 6 (.q 7 (.m 4 (.m 8 (.m 9 (.m 10 .fin .non) .non) .non) (.m 8 (.m 4 (.m 9 (.m 10 .fin .non) .non) .non) .non))))))))) hS ?_
   intro w10 ho; replace hO:=hO.st ho; clear ho
   refine Kt [0,1,2,3,5,6,7] [(67,pt pb),(70,pf pb 6),(74,pf pb 5)] hA [] c0 fun fr hA=>?_
   refine tree_mem ?_ ?_
   · refine (Qc [(71,i64 pv)] hA [i64 pv] (cc (hO.l1 1 6 3 (i64 pv)) c0) fun fr hA=>?_)
     refine ⟨(hO.sub [0]),?_⟩
     refine tree_mem ?_ ?_
     · refine (Qc [(75,i64 wr)] hA [i64 wr] (cc (hO.l1 1 5 3 (i64 wr)) c0) fun fr hA=>?_)
       refine ⟨(hO.sub [0]),?_⟩
       refine tree_mem ?_ ?_
       · refine (mN (l:=[i64 pv,i64 wr]) (t:=3) (v:=fun b=> .slice (some ⟨b,0,none⟩) 2 2) (d:=76) hA hO fun fr w11 b2 hA hO=>?_)
         refine ⟨(hO.sub [1]),?_⟩
         refine tree_mem ?_ ?_
         · replace hO:Ow Tryd.prog M w w11 ([(b2,3,[i64 pv,i64 wr]),(b1,35,[i64 0,i64 0,i64 0,i64 0,.slice none 0 0]),(pb,31,(cS mo po inp pj lj.length kj rd wr pv pm lm.length km pp lp.length kp))]++((T++Tm)++([]))):=hO
           refine (mC (d:=(some 77)) hA Tryd.func43 ((shut_any pb mo po inp pj kj lj rd wr pv pm km lm pp kp lp (T++Tm) ⟨b2,0,none⟩ 2 [pv,wr] _ hGm_ (mself (A:=[_,_]) (hO.tt:Ow Tryd.prog M w _ (([(b2,3,[i64 pv,i64 wr]),(b1,35,[i64 0,i64 0,i64 0,i64 0,.slice none 0 0])]++[(pb,31,cS mo po inp pj lj.length kj rd wr pv pm lm.length km pp lp.length kp)])++((T++Tm)++[])))) (fun w_ k_=>((mrestT (A:=[_,_]) (hO.tt:Ow Tryd.prog M w _ (([(b2,3,[i64 pv,i64 wr]),(b1,35,[i64 0,i64 0,i64 0,i64 0,.slice none 0 0])]++[(pb,31,cS mo po inp pj lj.length kj rd wr pv pm lm.length km pp lp.length kp)])++((T++Tm)++[]))) k_).b 0).vw (off:=0) (xs:=[pv,wr]) (by kernel_rfl)) (by omega) (Nat.le_of_ble_eq_true (by kernel_rfl)) hm.cp).mono ?_))
           rintro en w12 ⟨rfl,p1,k1,lq1,T2,hd1,hcq1,hlq1,hW,hGq1⟩
           refine ⟨_,rfl,?_⟩
           clear hA fr; intro fr hA
           replace hO:=mcall (A:=[_,_]) hO hW; clear hW
           refine ⟨(hO.sub [1]),?_⟩
           refine tree_fin ?_
           refine then_normal ?_
           exact ⟨p1,k1,lq1,T2,hA.sb,(Ow.subP (A:=[_,_,_]) hO (.cons _ (.cons_cons _ (.cons_cons _ .slnil)))),hd1,hcq1,hlq1,hGq1,trivial⟩
         exact trivial
       exact trivial
     exact trivial
   refine tree_mem ?_ ?_
   · refine (Qc [(75,i64 wr)] hA [i64 wr] (cc (hO.l1 1 5 3 (i64 wr)) c0) fun fr hA=>?_)
     refine ⟨(hO.sub [0]),?_⟩
     refine tree_mem ?_ ?_
     · refine (Qc [(71,i64 pv)] hA [i64 pv] (cc (hO.l1 1 6 3 (i64 pv)) c0) fun fr hA=>?_)
       refine ⟨(hO.sub [0]),?_⟩
       refine tree_mem ?_ ?_
       · refine (mN (l:=[i64 pv,i64 wr]) (t:=3) (v:=fun b=> .slice (some ⟨b,0,none⟩) 2 2) (d:=76) hA hO fun fr w13 b3 hA hO=>?_)
         refine ⟨(hO.sub [1]),?_⟩
         refine tree_mem ?_ ?_
         · replace hO:Ow Tryd.prog M w w13 ([(b3,3,[i64 pv,i64 wr]),(b1,35,[i64 0,i64 0,i64 0,i64 0,.slice none 0 0]),(pb,31,(cS mo po inp pj lj.length kj rd wr pv pm lm.length km pp lp.length kp))]++((T++Tm)++([]))):=hO
           refine (mC (d:=(some 77)) hA Tryd.func43 ((shut_any pb mo po inp pj kj lj rd wr pv pm km lm pp kp lp (T++Tm) ⟨b3,0,none⟩ 2 [pv,wr] _ hGm_ (mself (A:=[_,_]) (hO.tt:Ow Tryd.prog M w _ (([(b3,3,[i64 pv,i64 wr]),(b1,35,[i64 0,i64 0,i64 0,i64 0,.slice none 0 0])]++[(pb,31,cS mo po inp pj lj.length kj rd wr pv pm lm.length km pp lp.length kp)])++((T++Tm)++[])))) (fun w_ k_=>((mrestT (A:=[_,_]) (hO.tt:Ow Tryd.prog M w _ (([(b3,3,[i64 pv,i64 wr]),(b1,35,[i64 0,i64 0,i64 0,i64 0,.slice none 0 0])]++[(pb,31,cS mo po inp pj lj.length kj rd wr pv pm lm.length km pp lp.length kp)])++((T++Tm)++[]))) k_).b 0).vw (off:=0) (xs:=[pv,wr]) (by kernel_rfl)) (by omega) (Nat.le_of_ble_eq_true (by kernel_rfl)) hm.cp).mono ?_))
           rintro en w14 ⟨rfl,p2,k2,lq2,T3,hd2,hcq2,hlq2,hW,hGq2⟩
           refine ⟨_,rfl,?_⟩
           clear hA fr; intro fr hA
           replace hO:=mcall (A:=[_,_]) hO hW; clear hW
           refine ⟨(hO.sub [1]),?_⟩
           refine tree_fin ?_
           refine then_normal ?_
           exact ⟨p2,k2,lq2,T3,hA.sb,(Ow.subP (A:=[_,_,_]) hO (.cons _ (.cons_cons _ (.cons_cons _ .slnil)))),hd2,hcq2,hlq2,hGq2,trivial⟩
         exact trivial
       exact trivial
     exact trivial
   exact trivial
 refine Sb [(6,i64 (result % 32))] hA [bl true] (cc (⟨by omega,by omega,inK_i64 (by omega) (by omega)⟩:(0:Int)<=result/\(0:Int) < 32/\inK .i64 result) c0) fun fr hA=>?_
 refine sr 11 ?_
 refine Ka 1 [(45,i64 (result % 32))] hA fun fr hA=>?_
 refine Mk 46 hA hO Tryd.func35 (user_any (result % 32) _) fun fr w15 hA hO=>?_
 refine Ka 1 [(47,bl (userB (result % 32)))] hA fun fr hA=>?_
 rcases Bool.eq_false_or_eq_true (userB (result % 32)) with h1 | h1
 · rw [h1] at hA
   refine Kb 5 [(47,bl true),(51,.slice pn ln.length kn),(52,i64 (result % 32))] hA [.slice pn ln.length kn] (cc (hO.l1 1 7 28 (.slice pn ln.length kn)) c0) fun fr hA=>?_
   refine Mk 53 hA hO Tryd.func36 (contains_any pn ln.length kn ln (result % 32) _ (Holds'.at (A:=[_,_]) ((hG.mono fun _ h_=>h_.k).l) (hO.tt:Ow Tryd.prog M w _ ([(b1,35,[i64 0,i64 0,i64 0,i64 0,.slice none 0 0]),(pb,31,(cS mo po inp pj lj.length kj rd wr pv pn ln.length kn pp lp.length kp))]++(T++([])++[]))).m) (by omega)) fun fr w16 hA hO=>?_
   refine Ka 2 [(55,bl (!(ln.contains (result % 32))))] hA fun fr hA=>?_
   refine end_ops ?_
   refine then_normal ?_
   rcases Bool.eq_false_or_eq_true (ln.contains (result % 32)) with h2 | h2
   · rw [h2] at hA
     refine cF hA ?_
     refine wp_skip ?_
     refine then_normal ?_
     have hGm2:Holds' T (SV.ok (⟨mo,po,inp,pj,kj,lj,rd,wr,pv,pn,kn,ln,pp,kp,lp⟩:SV)):=(ok3 (T:=T++([])) (x:=(⟨mo,po,inp,pj,kj,lj,rd,wr,pv,pn,kn,ln,pp,kp,lp⟩:SV)) ((hG.mono fun _ h_=>h_.j).l) ((hG.mono fun _ h_=>h_.k).l) ((hG.mono fun _ h_=>h_.p).l)).tt
     exact ⟨pn,kn,ln,[],hA.sb,(hO).tt,(by first | exact (kids_nu (by assumption)).symm | exact (kids_in (by assumption)).symm),hm.ck,Nat.le_succ _,(hGm2).tt,trivial⟩
   rw [h2] at hA
   refine cT hA ?_
   refine rr 12 ?_
   refine Kb 5 [(56,pt pb),(60,.slice pn ln.length kn)] hA [.slice pn ln.length kn] (cc (hO.l1 1 7 28 (.slice pn ln.length kn)) c0) fun fr hA=>?_
   refine wpOps_cons' (mC (d:=(some 61)) hA Tryd.func24 ((clonen_any pn kn ln _ (Holds'.at (A:=[_,_]) ((hG.mono fun _ h_=>h_.k).l) (hO.tt:Ow Tryd.prog M w _ ([(b1,35,[i64 0,i64 0,i64 0,i64 0,.slice none 0 0]),(pb,31,(cS mo po inp pj lj.length kj rd wr pv pn ln.length kn pp lp.length kp))]++(T++([])++[]))).m) (by omega)).mono ?_))
   rintro en w17 ⟨p3,c1,T4,rfl,hT4,hW⟩
   refine ⟨_,rfl,?_⟩
   clear hA fr; intro fr hA
   replace hO:=Ow.join hO hW; clear hW
   refine Ka 1 [(62,i64 (result % 32))] hA fun fr hA=>?_
   refine Mv [i64 (result % 32)] 3 1 63 hA hO fun fr w18 b4 hA hO=>?_
   refine wpOps_cons' (mA (f:=fN) (el:=3) (sz:=1) (bytes:=8) (p:=p3) (c:=c1) (l:=ln) (l':=([result % 32]:List Int)) (T:=T4) (t:=28) (tx:=28) (ty:=28) (x:= .slice (some ⟨b4,0,none⟩) 1 1) (d:=64) ([(b4,3,[i64 (result % 32)]),(b1,35,[i64 0,i64 0,i64 0,i64 0,.slice none 0 0]),(pb,31,(cS mo po inp pj lj.length kj rd wr pv pn ln.length kn pp lp.length kp))]++(T++([]))) ([]) encN hA (hO.tt:Ow Tryd.prog M w _ (([(b4,3,[i64 (result % 32)]),(b1,35,[i64 0,i64 0,i64 0,i64 0,.slice none 0 0]),(pb,31,(cS mo po inp pj lj.length kj rd wr pv pn ln.length kn pp lp.length kp))]++(T++([])))++(T4++([])))) hT4 (Vw.src (e':=3) encN ((hO.b 0).vw (off:=0) (xs:=([result % 32]:List Int)) (by kernel_rfl)) (by kernel_rfl)) (by first | omega | (simp only [List.length_append,List.length_cons,List.length_nil]; omega)) (by unfold maxLen; first | omega | (simp only [List.length_append,List.length_cons,List.length_nil]; omega)) fun fr w19 p4 c2 T5 hA hO hT5=>?_)
   replace hO:Ow Tryd.prog M w w19 ([(b4,3,[i64 (result % 32)]),(b1,35,[i64 0,i64 0,i64 0,i64 0,.slice none 0 0]),(pb,31,(cS mo po inp pj lj.length kj rd wr pv pn ln.length kn pp lp.length kp))]++(T++(T5++([])))):=hO.to (by first | rfl | (simp only [TP,apd]))
   refine Ka 2 [(66,pf pb 7)] hA fun fr hA=>?_
   refine Ms 7 [.slice p4 ((ln++([result % 32]:List Int)).length) c2] 2 hA hO fun w20 hO=>?_
   refine end_ops ?_
   replace hO:Ow Tryd.prog M w w20 ([(b4,3,[i64 (result % 32)]),(b1,35,[i64 0,i64 0,i64 0,i64 0,.slice none 0 0]),(pb,31,(cS mo po inp pj lj.length kj rd wr pv p4 ((ln++([result % 32]:List Int)).length) c2 pp lp.length kp))]++(T++(T5++([])))):=hO
   refine then_normal ?_
   have hGm3:Holds' (T++T5) (SV.ok (⟨mo,po,inp,pj,kj,lj,rd,wr,pv,p4,c2,ln++([result % 32]:List Int),pp,kp,lp⟩:SV)):=(ok3 (T:=T++(T5++([]))) (x:=(⟨mo,po,inp,pj,kj,lj,rd,wr,pv,p4,c2,ln++([result % 32]:List Int),pp,kp,lp⟩:SV)) ((hG.mono fun _ h_=>h_.j).l) (hT5.holds.l.r) ((hG.mono fun _ h_=>h_.p).l)).tt
   replace hO:Ow Tryd.prog M w w20 ([(b4,3,[i64 (result % 32)]),(b1,35,[i64 0,i64 0,i64 0,i64 0,.slice none 0 0]),(pb,31,(cS mo po inp pj lj.length kj rd wr pv p4 ((ln++([result % 32]:List Int)).length) c2 pp lp.length kp))]++((T++T5)++([]))):=hO.to (by first | rfl | (simp only [TP,apd]))
   exact ⟨p4,c2,ln++([result % 32]:List Int),T5,hA.sb,((Ow.subP (A:=[_,_,_]) hO (.cons _ (.cons_cons _ (.cons_cons _ .slnil))))).tt,(kids_yes (by assumption) (by assumption)).symm,hT5.le,(by rw [List.length_append]; exact Nat.le_refl _),(hGm3).tt,trivial⟩
 rw [h1] at hA
 refine Ka 8 [(55,bl false)] hA fun fr hA=>?_
 refine end_ops ?_
 refine then_normal ?_
 refine cF hA ?_
 refine wp_skip ?_
 refine then_normal ?_
 have hGm4:Holds' T (SV.ok (⟨mo,po,inp,pj,kj,lj,rd,wr,pv,pn,kn,ln,pp,kp,lp⟩:SV)):=(ok3 (T:=T++([])) (x:=(⟨mo,po,inp,pj,kj,lj,rd,wr,pv,pn,kn,ln,pp,kp,lp⟩:SV)) ((hG.mono fun _ h_=>h_.j).l) ((hG.mono fun _ h_=>h_.k).l) ((hG.mono fun _ h_=>h_.p).l)).tt
 exact ⟨pn,kn,ln,[],hA.sb,(hO).tt,(by first | exact (kids_nu (by assumption)).symm | exact (kids_in (by assumption)).symm),hm.ck,Nat.le_succ _,(hGm4).tt,trivial⟩
theorem forked_zero (pb:Nat) (mo:Int) (i:Nat) (inp:ByteArray) (aj:Addr) (kj:Nat) (ax:Addr) (xc:Nat) (xl:List CV) (xb:Bool) (rj:List JV) (rd wr pv:Int) (pn:Option Addr) (kn:Nat) (ln:List Int) (pp:Option Addr) (kp:Nat) (lp:List PV) (T:OwL) (ay:Addr) (yc:Nat) (yd:CmdL) (z:ByteArray) (w:World) (hG:Holds' T (SV.ok (⟨mo,((i:Nat):Int),inp,some aj,kj,((⟨some ax,xc,xl,xb⟩:JV)::rj),rd,wr,pv,pn,kn,ln,pp,kp,lp⟩:SV))) (h0:Ow Tryd.prog (inT ((pb,31,cS mo ((i:Nat):Int) inp (some aj) (((⟨some ax,xc,xl,xb⟩:JV)::rj).length) kj rd wr pv pn ln.length kn pp lp.length kp)::T)) w w ((pb,31,cS mo ((i:Nat):Int) inp (some aj) (((⟨some ax,xc,xl,xb⟩:JV)::rj).length) kj rd wr pv pn ln.length kn pp lp.length kp)::T)) (hi:xl[i]? = some ⟨some ay,yc,yd⟩) (hz:yd.words[0]? = some z) (hzs:z.size<=60) (his:yd.inp.size<=60) (hos:yd.out.size<=60) (hrl:rj.length<=1000000) (hxl:xl.length<=1000000) :
    Calls Tryd.prog 30 #[pt pb,i64 0] w fun e w'=>∃ (v:SV) (x:PV) (Tn:OwL),forkS (SV.d (⟨mo,((i:Nat):Int),inp,some aj,kj,((⟨some ax,xc,xl,xb⟩:JV)::rj),rd,wr,pv,pn,kn,ln,pp,kp,lp⟩:SV)) 0=(v.d,x.d)/\v.sm/\validL (v.lj.map JV.d)=true/\e = .returned (.agg #[i64 x.d.call,i64 x.d.a0,i64 x.d.a1,i64 x.d.a2,.slice x.p x.d.data.length x.c])/\Ow Tryd.prog (inT ((pb,31,cS mo ((i:Nat):Int) inp (some aj) (((⟨some ax,xc,xl,xb⟩:JV)::rj).length) kj rd wr pv pn ln.length kn pp lp.length kp)::T)) w w' ((pb,31,v.cells)::(T++Tn))/\Holds' (T++Tn) v.ok/\Holds' (T++Tn) (fun w=>VP w x):=by
 refine c_enter (args:=[pt pb,i64 0]) (m:=98) (n:=100) Tryd.func30 rfl (by kernel_rfl) (by kernel_rfl) fun fr hA=>?_
 generalize inT ((pb,31,cS mo ((i:Nat):Int) inp (some aj) (((⟨some ax,xc,xl,xb⟩:JV)::rj).length) kj rd wr pv pn ln.length kn pp lp.length kp)::T)=M at *
 have hO:Ow Tryd.prog M w w ([(pb,31,(cS mo ((i:Nat):Int) inp (some aj) (((⟨some ax,xc,xl,xb⟩:JV)::rj).length) kj rd wr pv pn ln.length kn pp lp.length kp))]++(T++([]))):=h0.to (by first | rfl | first | rfl | (simp only [TP,apd]))
 have hil_:i < xl.length:=(List.getElem?_eq_some_iff.1 hi).1
 have hpos_ : 0 < ((⟨some ax,xc,xl,xb⟩:JV)::rj).length:=Nat.zero_lt_succ _
 refine sr 1 ?_
 refine Mn [i64 0,i64 0,i64 0,i64 0,.slice none 0 0] 35 4 hA hO fun fr w1 b1 hA hO=>?_
 refine end_ops ?_
 refine then_normal ?_
 refine wp_seq ?_
 refine wp_block ?_
 refine Sa [(7,bl false)] hA fun fr hA=>?_
 refine cF hA ?_
 refine Sa [(12,bl true)] hA fun fr hA=>?_
 refine cT hA ?_
 refine wp_seq ?_
 have hS:=hO
 refine rP [(0,true),(1,true),(2,true),(3,true),(4,true),(5,true),(6,true),(7,true),(8,true),(9,true),(10,true),(11,true),(12,true),(13,true),(14,false),(15,true)] hS ?_
 intro w2 ho; replace hO:=hO.st ho; clear ho
 refine Ke 14 [(15,pt pb),(28,.agg #[.slice (some ay) yd.words.length yc,str yd.inp,str yd.out,bl yd.app])] hA [.slice (some aj) (((⟨some ax,xc,xl,xb⟩:JV)::rj).length) kj,.slice (some ax) xl.length xc,i64 ((i:Nat):Int),.agg #[.slice (some ay) yd.words.length yc,str yd.inp,str yd.out,bl yd.app]] (cc (hS.s1 1 3 27 (.slice (some aj) (((⟨some ax,xc,xl,xb⟩:JV)::rj).length) kj)) (cc (⟨by omega,by omega⟩:(0:Int)<=0/\0 < ((((⟨some ax,xc,xl,xb⟩:JV)::rj).length:Nat):Int)) (cc (hS.sx (aj.add 0) 62 (.slice (some ax) xl.length xc) fun _ hO=>(((Holds'.at (A:=[_,_]) hG hO.m).j.1).ld0 encJ (rfl:((⟨some ax,xc,xl,xb⟩:JV)::rj)[0]? = some ⟨some ax,xc,xl,xb⟩) (by rfl))) (cc (hS.s1 1 1 3 (i64 ((i:Nat):Int))) (cc (⟨by omega,by omega⟩:(0:Int)<=((i:Nat):Int)/\((i:Nat):Int) < ((xl.length:Nat):Int)) (cc (hS.sx (ax.add (i*4)) 66 (.agg #[.slice (some ay) yd.words.length yc,str yd.inp,str yd.out,bl yd.app]) fun _ hO=>(((show Vw fC _ (.slice (some ax) xl.length xc) xl/\∀ y∈xl,VC _ y from (Holds'.at (A:=[_,_]) hG hO.m).j.2 _ List.mem_cons_self).1).ldn encC hi)) c0)))))) fun fr hA=>?_
 refine plan_mem (mC (d:=(some 29)) hA Tryd.func46 (((planned_any pb mo ((i:Nat):Int) inp (some aj) kj ((⟨some ax,xc,xl,xb⟩:JV)::rj) rd wr pv pn kn ln pp kp lp ay yc yd z _ (hO.b 1) (show Vw fT _ (.slice (some ay) yd.words.length yc) yd.words from (show Vw fC _ (.slice (some ax) xl.length xc) xl/\∀ y∈xl,VC _ y from (Holds'.at (A:=[_,_]) hG hO.m).j.2 _ List.mem_cons_self).2 _ (List.mem_of_getElem? hi)) hz hzs his hos)).mono ?_))
 rintro en w3 ⟨pq,kq,lq,Tq0,Tq1,rfl,hdq,h1q,hVq,hW⟩
 refine ⟨_,rfl,?_⟩
 obtain ⟨⟨qp,qc,qd⟩,rp,rfl⟩ : ∃ x r,lq=x::r:=by cases lq with | nil=>(rw [planA] at hdq; simp at hdq) | cons x r=>exact ⟨x,r,rfl⟩
 obtain ⟨ap,rfl⟩:=(One.vw h1q (A:=[]) (B:=Tq1) hW.m).pos (Nat.zero_lt_succ _)
 have hl12:=planL_len (SV.d (⟨mo,((i:Nat):Int),inp,some aj,kj,((⟨some ax,xc,xl,xb⟩:JV)::rj),rd,wr,pv,pn,kn,ln,pp,kp,lp⟩:SV)) yd
 rw [← hdq,List.length_map] at hl12
 have hlq_ : 0 < ((⟨qp,qc,qd⟩:PV)::rp).length:=Nat.zero_lt_succ _
 clear hA fr; intro fr hA
 replace hO:=Ow.join hO hW; clear hW
 replace hO:Ow Tryd.prog M w _ ([(b1,35,[i64 0,i64 0,i64 0,i64 0,.slice none 0 0]),(pb,31,(cS mo ((i:Nat):Int) inp (some aj) (((⟨some ax,xc,xl,xb⟩:JV)::rj).length) kj rd wr pv pn ln.length kn pp lp.length kp))]++(T++(Tq0++(Tq1++([]))))):=hO.to (by first | rfl | (simp only [TP,apd]))
 refine ⟨(hO.m.less (List.Sublist.append_left (List.Sublist.append_left (List.nil_sublist _) _) _)).o,?_⟩
 refine Kd 1 [(5,.slice (some ap) (((⟨qp,qc,qd⟩:PV)::rp).length) kq)] hA fun fr hA=>?_
 refine end_plan ?_
 refine then_normal ?_
 refine sr 4 ?_
 refine Ka 1 [(30,pt pb)] hA fun fr hA=>?_
 refine Mk 31 hA hO Tryd.func9 (new_any _) fun fr w4 hA hO=>?_
 refine Ka 1 [(32,pt pb)] hA fun fr hA=>?_
 refine Ms 0 (cS 0 0 (⟨#[]⟩:ByteArray) none 0 0 (-1) (-1) (-1) none 0 0 none 0 0) 1 hA hO fun w5 hO=>?_
 refine end_ops ?_
 refine then_normal ?_
 refine sr 9 ?_
 refine Ka 5 [(34,pt pb),(35,.slice (some ap) (((⟨qp,qc,qd⟩:PV)::rp).length) kq),(37,pt pb)] hA fun fr hA=>?_
 refine Ms 0 [i64 6] 1 hA hO fun w6 hO=>?_
 refine Ka 2 [(39,pf pb 8)] hA fun fr hA=>?_
 refine Ms 8 [.slice (some ap) (((⟨qp,qc,qd⟩:PV)::rp).length) kq] 1 hA hO fun w7 hO=>?_
 refine end_ops ?_
 refine then_normal ?_
 replace hO:Ow Tryd.prog M w w7 ([(b1,35,[i64 0,i64 0,i64 0,i64 0,.slice none 0 0]),(pb,31,(cS 6 0 (⟨#[]⟩:ByteArray) none 0 0 (-1) (-1) (-1) none 0 0 (some ap) (((⟨qp,qc,qd⟩:PV)::rp).length) kq))]++(T++(Tq0++(Tq1++([]))))):=hO
 refine sr 4 ?_
 refine Kb 3 [(42,.agg #[i64 qd.call,i64 qd.a0,i64 qd.a1,i64 qd.a2,.slice qp qd.data.length qc])] hA [.agg #[i64 qd.call,i64 qd.a0,i64 qd.a1,i64 qd.a2,.slice qp qd.data.length qc]] (cc (⟨by omega,by omega⟩:(0:Int)<=0/\0 < ((((⟨qp,qc,qd⟩:PV)::rp).length:Nat):Int)) (cc ((((Holds'.at (A:=[_,_]) (Q:=fun w_=>PL w_ (.slice (some ap) ((⟨qp,qc,qd⟩:PV)::rp).length kq) ((⟨qp,qc,qd⟩:PV)::rp)) (Holds'.and (h1q.holds.l.r) (hVq.l.r.r)) (hO.tt:Ow Tryd.prog M w _ ([(b1,35,[i64 0,i64 0,i64 0,i64 0,.slice none 0 0]),(pb,31,(cS 6 0 (⟨#[]⟩:ByteArray) none 0 0 (-1) (-1) (-1) none 0 0 (some ap) (((⟨qp,qc,qd⟩:PV)::rp).length) kq))]++(T++(Tq0++(Tq1++([])))++[]))).m).1).ldn encP (rfl:(((⟨qp,qc,qd⟩:PV)::rp):List PV)[0]? = some ⟨qp,qc,qd⟩)):Ld Tryd.prog w7 (ap.add 0) 35 (.agg #[i64 qd.call,i64 qd.a0,i64 qd.a1,i64 qd.a2,.slice qp qd.data.length qc])) c0)) fun fr hA=>?_
 refine Ms 0 [i64 qd.call,i64 qd.a0,i64 qd.a1,i64 qd.a2,.slice qp qd.data.length qc] 0 hA hO fun w8 hO=>?_
 refine end_ops ?_
 refine then_normal ?_
 refine wp_ret ?_
 refine inBlock_ret ?_
 refine then_ret ?_
 refine cR (cs:=[some (⟨b1,0,none⟩,35)]) (us:=[.agg #[i64 qd.call,i64 qd.a0,i64 qd.a1,i64 qd.a2,.slice qp qd.data.length qc]]) hA [.agg #[i64 qd.call,i64 qd.a0,i64 qd.a1,i64 qd.a2,.slice qp qd.data.length qc]] ⟨(hO.ln 0 0 35 [i64 qd.call,i64 qd.a0,i64 qd.a1,i64 qd.a2,.slice qp qd.data.length qc]),trivial⟩ ?_
 exact ⟨(⟨6,0,⟨#[]⟩,none,0,([]:List JV),(-1),(-1),(-1),none,0,([]:List Int),some ap,kq,((⟨qp,qc,qd⟩:PV)::rp)⟩:SV),⟨qp,qc,qd⟩,(Tq0++(Tq1++([]))),(by have q_:cmdAt (SV.d (⟨mo,((i:Nat):Int),inp,some aj,kj,((⟨some ax,xc,xl,xb⟩:JV)::rj),rd,wr,pv,pn,kn,ln,pp,kp,lp⟩:SV))=yd:=(by show ((xl.map CV.d).getD (((i:Nat):Int)).toNat cmd0)=yd; rw [Int.toNat_natCast]; exact gD_of (by rw [List.getElem?_map,hi]; rfl)); unfold forkS; rw [if_neg (by decide),if_pos rfl,q_,← hdq]; rfl),⟨Nat.zero_le _,⟨Nat.zero_le _,fun y hy=>absurd hy List.not_mem_nil⟩,Nat.zero_le _,(by show List.length (_::rp)<=_; omega),Nat.zero_le _,Nat.zero_le _,h1q.le⟩,rfl,rfl,(((Ow.subP (A:=[_,_]) hO (.cons _ (.cons_cons _ .slnil)))).tt),((ok3 (T:=T++(Tq0++(Tq1++([])))) (x:=(⟨6,0,⟨#[]⟩,none,0,([]:List JV),(-1),(-1),(-1),none,0,([]:List Int),some ap,kq,((⟨qp,qc,qd⟩:PV)::rp)⟩:SV)) (fun _ _ _ _=>⟨.inl ⟨rfl,rfl⟩,fun x h=>absurd h List.not_mem_nil⟩) (fun _ _ _ _=> .inl ⟨rfl,rfl⟩) (Holds'.and (h1q.holds.l.r) (hVq.l.r.r))).tt),(show Holds' (T++(Tq0++(Tq1++([])))) (fun w_=>VP w_ ⟨qp,qc,qd⟩) from ((hVq.mono fun _ h_=>h_ _ List.mem_cons_self).l.r.r)).tt⟩
end Go.Proofs.YtdljjajjonfjbaaDoor
