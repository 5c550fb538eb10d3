import Derived.Test.YtdljjajjonfjbaaDoorSht
import Derived.Test.YtdljjajjonfjbaaDoorShValid
import Derived.Test.YtdljjajjonfjbaaDoorSn
set_option linter.unusedVariables false
set_option linter.unusedSimpArgs false
set_option maxRecDepth 10000
namespace Go.Proofs.YtdljjajjonfjbaaDoor
open Go Go.Shelf Go.RowKit Go.Proofs Go.Proofs.Sx
theorem step_any (pb:Nat) (mo po:Int) (inp:ByteArray) (pj:Option Addr) (kj:Nat) (lj:List JV) (rd wr pv:Int) (pn:Option Addr) (kn:Nat) (ln:List Int) (pp:Option Addr) (kp:Nat) (lp:List PV) (T:OwL) (result:Int) (dp:Option Addr) (cd:Nat) (dl:List Int) (w:World) (hG:Holds' T (SV.ok (⟨mo,po,inp,pj,kj,lj,rd,wr,pv,pn,kn,ln,pp,kp,lp⟩:SV))) (h0:Ow Tryd.prog (inT ((pb,31,cS mo po inp pj lj.length kj rd wr pv pn ln.length kn pp lp.length kp)::T)) w w ((pb,31,cS mo po inp pj lj.length kj rd wr pv pn ln.length kn pp lp.length kp)::T)) (hm:SV.sm (⟨mo,po,inp,pj,kj,lj,rd,wr,pv,pn,kn,ln,pp,kp,lp⟩:SV)) (hv:validS (SV.d (⟨mo,po,inp,pj,kj,lj,rd,wr,pv,pn,kn,ln,pp,kp,lp⟩:SV))=true) (hE : ∀ w',Only (inT ((pb,31,cS mo po inp pj lj.length kj rd wr pv pn ln.length kn pp lp.length kp)::T)) w w'->ErrOk w') (hrn : -9223372036854775808<=result) (hrx:result<=9223372036854775807) (hvd : ∀ w',Only (inT ((pb,31,cS mo po inp pj lj.length kj rd wr pv pn ln.length kn pp lp.length kp)::T)) w w'->Vw fB w' (.slice dp dl.length cd) dl) (hud:U8s dl) (hdl:dl.length<=1000000) (hcd:dl.length<=cd):Calls Tryd.prog 14 #[pt pb,i64 result,.slice dp dl.length cd] w fun e w'=>∃ (v:SV) (x:PV) (Tn:OwL),stepS (SV.d (⟨mo,po,inp,pj,kj,lj,rd,wr,pv,pn,kn,ln,pp,kp,lp⟩:SV)) result dl=(v.d,x.d)/\v.sm/\validL (v.lj.map JV.d)=true/\e = .returned (.agg #[i64 x.d.call,i64 x.d.a0,i64 x.d.a1,i64 x.d.a2,.slice x.p x.d.data.length x.c])/\Ow Tryd.prog (inT ((pb,31,cS mo po inp pj lj.length kj rd wr pv pn ln.length kn pp lp.length kp)::T)) w w' ((pb,31,v.cells)::(T++Tn))/\Holds' (T++Tn) v.ok/\Holds' (T++Tn) (fun w=>VP w x):=by
  obtain ⟨hb,hmo,hpl,hps,hjb⟩:=(valid_iff _).1 hv
  have hvl:validL (lj.map JV.d)=true:=hb.jobs
  have hkn:ln.length<=1000:=by have:ln.length<=16:=hb.kids.len; omega
  have hlen:lp.length<=12:=by have:(lp.map PV.d).length<=12:=hb.len; rwa [List.length_map] at this
  have hpl' : 0 < lp.length↔(mo=2\/mo=6):=by have : 0 < (lp.map PV.d).length↔(mo=2\/mo=6):=hpl; rwa [List.length_map] at this
  have hp0 : ¬ (mo=2\/mo=6)->lp.length=0:=fun q=>by
    rcases Nat.eq_zero_or_pos lp.length with e | e
    · exact e
    · exact absurd (hpl'.1 e) q
  have hmo' : 0<=mo/\mo<=7:=hmo
  have hin:inp.size<=300:=hb.inp
  rcases (show mo=0\/mo=1\/mo=2\/mo=3\/mo=4\/mo=5\/mo=6\/mo=7 by omega) with h | h | h | h | h | h | h | h
  · exact step_0 pb mo po inp pj kj lj rd wr pv pn kn ln pp kp lp T result dp cd dl w hG h0 hm hvl hE h hrn hrx
  · exact step_1 pb mo po inp pj kj lj rd wr pv pn kn ln pp kp lp T result dp cd dl w hG h0 hm hvl hE h hrn hrx (hp0 (by omega)) hin hvd hud hdl hcd
  · have hok:=okW0 hG h0
    cases lp with
    | nil=>exact absurd (hpl'.2 (.inl h)) (by simp)
    | cons x rp =>
      obtain ⟨qp,qc,qd⟩:=x
      obtain ⟨ap,rfl⟩:=hok.p.1.pos (Nat.zero_lt_succ _)
      exact step_2c pb mo po inp pj kj lj rd wr pv pn kn ln ap kp qp qc qd rp T result dp cd dl w hG h0 hm hvl hE h hrn hrx (by rw [List.length_cons] at hlen; omega)
  · exact step_3 pb mo po inp pj kj lj rd wr pv pn kn ln pp kp lp T result dp cd dl w hG h0 hm hvl hE h hrn hrx (hp0 (by omega))
  · exact step_4 pb mo po inp pj kj lj rd wr pv pn kn ln pp kp lp T result dp cd dl w hG h0 hm hvl hE h hrn hrx (hp0 (by omega)) ⟨hb.pos.1,hps (.inr h)⟩ hkn
  · exact step_5 pb mo po inp pj kj lj rd wr pv pn kn ln pp kp lp T result dp cd dl w hG h0 hm hvl hE h hrn hrx hkn
  · exact step_6 pb mo po inp pj kj lj rd wr pv pn kn ln pp kp lp T result dp cd dl w hG h0 hm hvl hE h hrn hrx (hpl'.2 (.inr h)) hlen
  · exact step_7 pb mo po inp pj kj lj rd wr pv pn kn ln pp kp lp T result dp cd dl w hG h0 hm hvl hE h hrn hrx
theorem ok_len {c:CallL} (h:okC c=true):c.data.length<=128:=by
 rw [okC_dec] at h
 exact (of_decide_eq_true h).2.2.2.2
theorem lp_data {lp:List PV} (h : ∀ c∈lp.map PV.d,okC c=true) : ∀ x∈lp,x.d.data.length<=1000000:=fun x hx=>by
  have:=ok_len (h _ (List.mem_map.2 ⟨x,hx,rfl⟩))
  omega
set_option maxHeartbeats 4000000 in
theorem Step_any (mo po:Int) (inp:ByteArray) (pj:Option Addr) (kj:Nat) (lj:List JV) (rd wr pv:Int) (pn:Option Addr) (kn:Nat) (ln:List Int) (pp:Option Addr) (kp:Nat) (lp:List PV) (result:Int) (dp:Option Addr) (cd:Nat) (dl:List Int) (w:World) (hs:SV.ok (⟨mo,po,inp,pj,kj,lj,rd,wr,pv,pn,kn,ln,pp,kp,lp⟩:SV) w) (hm:SV.sm (⟨mo,po,inp,pj,kj,lj,rd,wr,pv,pn,kn,ln,pp,kp,lp⟩:SV)) (hvd:Vw fB w (.slice dp dl.length cd) dl) (hud:U8s dl) (hdl:dl.length<=1000000) (hcd:dl.length<=cd) (hE:ErrOk w) (hrn : -9223372036854775808<=result) (hrx:result<=9223372036854775807) :
    Calls Tryd.prog 8 #[.agg #[i64 mo,i64 po,str inp,.slice pj lj.length kj,i64 rd,i64 wr,i64 pv,.slice pn ln.length kn,.slice pp lp.length kp],i64 result,.slice dp dl.length cd] w fun e w'=>∃ (v:SV) (x:PV) (T:OwL),stepP (SV.d (⟨mo,po,inp,pj,kj,lj,rd,wr,pv,pn,kn,ln,pp,kp,lp⟩:SV)) result dl=(v.d,x.d)/\v.sm/\e = .returned (.tuple #[.agg #[i64 v.mo,i64 v.po,str v.inp,.slice v.pj v.lj.length v.cj,i64 v.rd,i64 v.wr,i64 v.pv,.slice v.pc v.lc.length v.cc,.slice v.pp v.lp.length v.cp],.agg #[i64 x.d.call,i64 x.d.a0,i64 x.d.a1,i64 x.d.a2,.slice x.p x.d.data.length x.c]])/\Ow Tryd.prog none' w w' T/\Holds' T v.ok/\Holds' T (fun w=>VP w x):=by
 refine c_enter (args:=[.agg #[i64 mo,i64 po,str inp,.slice pj lj.length kj,i64 rd,i64 wr,i64 pv,.slice pn ln.length kn,.slice pp lp.length kp],i64 result,.slice dp dl.length cd]) (m:=25) (n:=28) Tryd.func8 rfl (by kernel_rfl) (by kernel_rfl) fun fr hA=>?_
 have hO:=Ow.nil Tryd.prog none' w
 refine sr 3 ?_
 refine Mn (cS mo po inp pj lj.length kj rd wr pv pn ln.length kn pp lp.length kp) 31 3 hA hO fun fr w1 pb hA hO=>?_
 refine Mn (cS 0 0 (⟨#[]⟩:ByteArray) none 0 0 0 0 0 none 0 0 none 0 0) 31 6 hA hO fun fr w2 b1 hA hO=>?_
 refine Mn [i64 0,i64 0,i64 0,i64 0,.slice none 0 0] 35 7 hA hO fun fr w3 b2 hA hO=>?_
 refine end_ops ?_
 refine then_normal ?_
 refine wp_seq ?_
 refine sr 3 ?_
 refine Kb 1 [(9,.agg #[i64 mo,i64 po,str inp,.slice pj lj.length kj,i64 rd,i64 wr,i64 pv,.slice pn ln.length kn,.slice pp lp.length kp])] hA [.agg #[i64 mo,i64 po,str inp,.slice pj lj.length kj,i64 rd,i64 wr,i64 pv,.slice pn ln.length kn,.slice pp lp.length kp]] (cc (hO.ln 2 0 31 (cS mo po inp pj lj.length kj rd wr pv pn ln.length kn pp lp.length kp)) c0) fun fr hA=>?_
 refine Mk 10 hA hO Tryd.func10 (svalid_any mo po inp pj kj lj rd wr pv pn kn ln pp kp lp _ (hs.keep hO.only) hm) fun fr w4 hA hO=>?_
 refine Ka 1 [(11,bl (!(validS (SV.d (⟨mo,po,inp,pj,kj,lj,rd,wr,pv,pn,kn,ln,pp,kp,lp⟩:SV)))))] hA fun fr hA=>?_
 refine end_ops ?_
 refine then_normal ?_
 rcases Bool.eq_false_or_eq_true (validS (SV.d (⟨mo,po,inp,pj,kj,lj,rd,wr,pv,pn,kn,ln,pp,kp,lp⟩:SV))) with h1 | h1
 · rw [h1] at hA
   have hbv:=((valid_iff _).1 h1).1
   refine cF hA ?_
   refine wp_skip ?_
   refine then_normal ?_
   refine sr 3 ?_
   refine Kb 1 [(17,.agg #[i64 mo,i64 po,str inp,.slice pj lj.length kj,i64 rd,i64 wr,i64 pv,.slice pn ln.length kn,.slice pp lp.length kp])] hA [.agg #[i64 mo,i64 po,str inp,.slice pj lj.length kj,i64 rd,i64 wr,i64 pv,.slice pn ln.length kn,.slice pp lp.length kp]] (cc (hO.ln 2 0 31 (cS mo po inp pj lj.length kj rd wr pv pn ln.length kn pp lp.length kp)) c0) fun fr hA=>?_
   refine wpOps_cons' (mC (d:=(some 18)) hA Tryd.func13 ((copied_any mo po inp pj kj lj rd wr pv pn kn ln pp kp lp _ (hs.keep hO.only) hm hbv.jobs (lp_data hbv.plan)).mono ?_))
   rintro en w5 ⟨⟨mo2,po2,inp2,pj2,kj2,lj2,rd2,wr2,pv2,pn2,kn2,ln2,pp2,kp2,lp2⟩,T0,hd2,hsm2,rfl,hW,hG0⟩
   refine ⟨_,rfl,?_⟩
   clear hA fr; intro fr hA
   replace hO:Ow Tryd.prog none' w _ ([(b2,35,[i64 0,i64 0,i64 0,i64 0,.slice none 0 0]),(b1,31,(cS 0 0 (⟨#[]⟩:ByteArray) none 0 0 0 0 0 none 0 0 none 0 0)),(pb,31,(cS mo po inp pj lj.length kj rd wr pv pn ln.length kn pp lp.length kp))]++[]):=hO.to (List.append_nil _).symm
   replace hO:=Ow.join hO hW; clear hW
   replace hO:Ow Tryd.prog none' w _ ([(b2,35,[i64 0,i64 0,i64 0,i64 0,.slice none 0 0]),(b1,31,(cS 0 0 (⟨#[]⟩:ByteArray) none 0 0 0 0 0 none 0 0 none 0 0)),(pb,31,(cS mo po inp pj lj.length kj rd wr pv pn ln.length kn pp lp.length kp))]++(T0++([]))):=hO.to (by first | rfl | (simp only [TP,apd]))
   refine Ms 0 (cS mo2 po2 inp2 pj2 lj2.length kj2 rd2 wr2 pv2 pn2 ln2.length kn2 pp2 lp2.length kp2) 2 hA hO fun w6 hO=>?_
   refine end_ops ?_
   refine then_normal ?_
   refine sr 5 ?_
   refine Ka 2 [(19,i64 result),(20,.slice dp dl.length cd)] hA fun fr hA=>?_
   replace hO:Ow Tryd.prog none' w w6 ([(b2,35,[i64 0,i64 0,i64 0,i64 0,.slice none 0 0]),(b1,31,(cS 0 0 (⟨#[]⟩:ByteArray) none 0 0 0 0 0 none 0 0 none 0 0)),(pb,31,(cS mo2 po2 inp2 pj2 lj2.length kj2 rd2 wr2 pv2 pn2 ln2.length kn2 pp2 lp2.length kp2))]++(T0++([]))):=hO
   refine wpOps_cons' (mC (d:=(some 21)) hA Tryd.func14 ((step_any pb mo2 po2 inp2 pj2 kj2 lj2 rd2 wr2 pv2 pn2 kn2 ln2 pp2 kp2 lp2 T0 result dp cd dl _ hG0 (mself (A:=[_,_]) (hO.tt:Ow Tryd.prog none' w _ (([(b2,35,[i64 0,i64 0,i64 0,i64 0,.slice none 0 0]),(b1,31,(cS 0 0 (⟨#[]⟩:ByteArray) none 0 0 0 0 0 none 0 0 none 0 0))]++[(pb,31,cS mo2 po2 inp2 pj2 lj2.length kj2 rd2 wr2 pv2 pn2 ln2.length kn2 pp2 lp2.length kp2)])++(T0++[])))) hsm2 (by rw [hd2]; assumption) (fun w_ k_=>hE.keep (Ow.pan (A:=[_,_]) ((hO.tt:Ow Tryd.prog none' w _ (([(b2,35,[i64 0,i64 0,i64 0,i64 0,.slice none 0 0]),(b1,31,(cS 0 0 (⟨#[]⟩:ByteArray) none 0 0 0 0 0 none 0 0 none 0 0))]++[(pb,31,cS mo2 po2 inp2 pj2 lj2.length kj2 rd2 wr2 pv2 pn2 ln2.length kn2 pp2 lp2.length kp2)])++(T0++[]))).tt) k_)) hrn hrx (fun w_ k_=>hvd.keep (Ow.pan (A:=[_,_]) ((hO.tt:Ow Tryd.prog none' w _ (([(b2,35,[i64 0,i64 0,i64 0,i64 0,.slice none 0 0]),(b1,31,(cS 0 0 (⟨#[]⟩:ByteArray) none 0 0 0 0 0 none 0 0 none 0 0))]++[(pb,31,cS mo2 po2 inp2 pj2 lj2.length kj2 rd2 wr2 pv2 pn2 ln2.length kn2 pp2 lp2.length kp2)])++(T0++[]))).tt) k_)) hud hdl hcd).mono ?_))
   rintro en w7 ⟨⟨mo3,po3,inp3,pj3,kj3,lj3,rd3,wr3,pv3,pn3,kn3,ln3,pp3,kp3,lp3⟩,⟨xp3,xc3,xd3⟩,Tn3,hr3,hsm3,hvl3,rfl,hW,hG3,hx3⟩
   refine ⟨_,rfl,?_⟩
   clear hA fr; intro fr hA
   replace hO:=mcall (A:=[(b2,35,[i64 0,i64 0,i64 0,i64 0,.slice none 0 0]),(b1,31,(cS 0 0 (⟨#[]⟩:ByteArray) none 0 0 0 0 0 none 0 0 none 0 0))]) (B:=[]) (T:=T0) (Tn:=Tn3) (x':=(pb,31,cS mo3 po3 inp3 pj3 lj3.length kj3 rd3 wr3 pv3 pn3 ln3.length kn3 pp3 lp3.length kp3)) (hO.to (by simp only [List.append_assoc,List.cons_append,List.nil_append]):Ow Tryd.prog none' w _ (([(b2,35,[i64 0,i64 0,i64 0,i64 0,.slice none 0 0]),(b1,31,(cS 0 0 (⟨#[]⟩:ByteArray) none 0 0 0 0 0 none 0 0 none 0 0))]++[(pb,31,cS mo2 po2 inp2 pj2 lj2.length kj2 rd2 wr2 pv2 pn2 ln2.length kn2 pp2 lp2.length kp2)])++(T0++[]))) hW; clear hW
   replace hO:Ow Tryd.prog none' w _ ([(b2,35,[i64 0,i64 0,i64 0,i64 0,.slice none 0 0]),(b1,31,(cS 0 0 (⟨#[]⟩:ByteArray) none 0 0 0 0 0 none 0 0 none 0 0)),(pb,31,(cS mo3 po3 inp3 pj3 lj3.length kj3 rd3 wr3 pv3 pn3 ln3.length kn3 pp3 lp3.length kp3))]++((T0++Tn3)++([]))):=hO.to (by first | rfl | (simp only [TP,apd]))
   refine Mn [i64 0,i64 0,i64 0,i64 0,.slice none 0 0] 35 8 hA hO fun fr w8 b3 hA hO=>?_
   refine Ms 0 [i64 xd3.call,i64 xd3.a0,i64 xd3.a1,i64 xd3.a2,.slice xp3 xd3.data.length xc3] 0 hA hO fun w9 hO=>?_
   refine end_ops ?_
   refine then_normal ?_
   refine sr 5 ?_
   refine Kb 2 [(23,.slice xp3 xd3.data.length xc3)] hA [.slice xp3 xd3.data.length xc3] (cc (hO.l1 0 4 33 (.slice xp3 xd3.data.length xc3)) c0) fun fr hA=>?_
   have hgd:=good_stepP (SV.d (⟨mo,po,inp,pj,kj,lj,rd,wr,pv,pn,kn,ln,pp,kp,lp⟩:SV)) result dl
   rw [show stepP (SV.d (⟨mo,po,inp,pj,kj,lj,rd,wr,pv,pn,kn,ln,pp,kp,lp⟩:SV)) result dl=(SV.d (⟨mo3,po3,inp3,pj3,kj3,lj3,rd3,wr3,pv3,pn3,kn3,ln3,pp3,kp3,lp3⟩:SV),xd3) from (by unfold stepP; rw [if_pos (by assumption),← hd2]; exact hr3)] at hgd
   have hdl3:xd3.data.length<=128:=ok_len hgd.2
   replace hO:Ow Tryd.prog none' w w9 ([(b3,35,[i64 xd3.call,i64 xd3.a0,i64 xd3.a1,i64 xd3.a2,.slice xp3 xd3.data.length xc3]),(b2,35,[i64 0,i64 0,i64 0,i64 0,.slice none 0 0]),(b1,31,(cS 0 0 (⟨#[]⟩:ByteArray) none 0 0 0 0 0 none 0 0 none 0 0)),(pb,31,(cS mo3 po3 inp3 pj3 lj3.length kj3 rd3 wr3 pv3 pn3 ln3.length kn3 pp3 lp3.length kp3))]++((T0++Tn3)++([]))):=hO
   have hud3:U8s xd3.data:=(Holds'.at (A:=[_,_,_,_]) (hx3.tt) (hO.tt:Ow Tryd.prog none' w _ ([(b3,35,[i64 xd3.call,i64 xd3.a0,i64 xd3.a1,i64 xd3.a2,.slice xp3 xd3.data.length xc3]),(b2,35,[i64 0,i64 0,i64 0,i64 0,.slice none 0 0]),(b1,31,(cS 0 0 (⟨#[]⟩:ByteArray) none 0 0 0 0 0 none 0 0 none 0 0)),(pb,31,(cS mo3 po3 inp3 pj3 lj3.length kj3 rd3 wr3 pv3 pn3 ln3.length kn3 pp3 lp3.length kp3))]++((T0++Tn3)++([])++[]))).m).2
   replace hO:Ow Tryd.prog none' w w9 ([(b3,35,[i64 xd3.call,i64 xd3.a0,i64 xd3.a1,i64 xd3.a2,.slice xp3 xd3.data.length xc3]),(b2,35,[i64 0,i64 0,i64 0,i64 0,.slice none 0 0]),(b1,31,(cS 0 0 (⟨#[]⟩:ByteArray) none 0 0 0 0 0 none 0 0 none 0 0)),(pb,31,(cS mo3 po3 inp3 pj3 lj3.length kj3 rd3 wr3 pv3 pn3 ln3.length kn3 pp3 lp3.length kp3))]++((T0++Tn3)++([]))):=hO
   refine wpOps_cons' (mC (d:=(some 24)) hA Tryd.func15 ((cloneb_any xp3 xc3 xd3.data _ (Holds'.at (A:=[_,_,_,_]) (hx3.tt) (hO.tt:Ow Tryd.prog none' w _ ([(b3,35,[i64 xd3.call,i64 xd3.a0,i64 xd3.a1,i64 xd3.a2,.slice xp3 xd3.data.length xc3]),(b2,35,[i64 0,i64 0,i64 0,i64 0,.slice none 0 0]),(b1,31,(cS 0 0 (⟨#[]⟩:ByteArray) none 0 0 0 0 0 none 0 0 none 0 0)),(pb,31,(cS mo3 po3 inp3 pj3 lj3.length kj3 rd3 wr3 pv3 pn3 ln3.length kn3 pp3 lp3.length kp3))]++((T0++Tn3)++([])++[]))).m).1 (by omega) (Holds'.at (A:=[_,_,_,_]) (hx3.tt) (hO.tt:Ow Tryd.prog none' w _ ([(b3,35,[i64 xd3.call,i64 xd3.a0,i64 xd3.a1,i64 xd3.a2,.slice xp3 xd3.data.length xc3]),(b2,35,[i64 0,i64 0,i64 0,i64 0,.slice none 0 0]),(b1,31,(cS 0 0 (⟨#[]⟩:ByteArray) none 0 0 0 0 0 none 0 0 none 0 0)),(pb,31,(cS mo3 po3 inp3 pj3 lj3.length kj3 rd3 wr3 pv3 pn3 ln3.length kn3 pp3 lp3.length kp3))]++((T0++Tn3)++([])++[]))).m).2).mono ?_))
   rintro en w10 ⟨p1,c1,T1,rfl,hT1,hW⟩
   refine ⟨_,rfl,?_⟩
   clear hA fr; intro fr hA
   replace hO:=Ow.join hO hW; clear hW
   replace hO:Ow Tryd.prog none' w _ ([(b3,35,[i64 xd3.call,i64 xd3.a0,i64 xd3.a1,i64 xd3.a2,.slice xp3 xd3.data.length xc3]),(b2,35,[i64 0,i64 0,i64 0,i64 0,.slice none 0 0]),(b1,31,(cS 0 0 (⟨#[]⟩:ByteArray) none 0 0 0 0 0 none 0 0 none 0 0)),(pb,31,(cS mo3 po3 inp3 pj3 lj3.length kj3 rd3 wr3 pv3 pn3 ln3.length kn3 pp3 lp3.length kp3))]++((T0++Tn3)++(T1++([])))):=hO.to (by first | rfl | (simp only [TP,apd]))
   refine Ka 1 [(25,pf b3 4)] hA fun fr hA=>?_
   refine Ms 4 [.slice p1 xd3.data.length c1] 0 hA hO fun w11 hO=>?_
   refine end_ops ?_
   refine then_normal ?_
   refine wp_seq ?_
   have hS:Ow Tryd.prog none' w _ [(b3,35,[i64 xd3.call,i64 xd3.a0,i64 xd3.a1,i64 xd3.a2,.slice p1 xd3.data.length c1]),(pb,31,(cS mo3 po3 inp3 pj3 lj3.length kj3 rd3 wr3 pv3 pn3 ln3.length kn3 pp3 lp3.length kp3))]:=hO.sub [0,3]
   refine rP [(0,true),(1,true),(2,false),(3,false)] hS ?_
   intro w12 ho; replace hO:=hO.st ho; clear ho
   refine Ke 2 [(26,.agg #[i64 mo3,i64 po3,str inp3,.slice pj3 lj3.length kj3,i64 rd3,i64 wr3,i64 pv3,.slice pn3 ln3.length kn3,.slice pp3 lp3.length kp3]),(27,.agg #[i64 xd3.call,i64 xd3.a0,i64 xd3.a1,i64 xd3.a2,.slice p1 xd3.data.length c1])] hA [.agg #[i64 mo3,i64 po3,str inp3,.slice pj3 lj3.length kj3,i64 rd3,i64 wr3,i64 pv3,.slice pn3 ln3.length kn3,.slice pp3 lp3.length kp3],.agg #[i64 xd3.call,i64 xd3.a0,i64 xd3.a1,i64 xd3.a2,.slice p1 xd3.data.length c1]] (cc (hS.sn 1 0 31 (cS mo3 po3 inp3 pj3 lj3.length kj3 rd3 wr3 pv3 pn3 ln3.length kn3 pp3 lp3.length kp3)) (cc (hS.sn 0 0 35 [i64 xd3.call,i64 xd3.a0,i64 xd3.a1,i64 xd3.a2,.slice p1 xd3.data.length c1]) c0)) fun fr hA=>?_
   refine plan_mem (mS (off:=0) (vc:=(cS mo3 po3 inp3 pj3 lj3.length kj3 rd3 wr3 pv3 pn3 ln3.length kn3 pp3 lp3.length kp3)) 2 hA hO fun w13 hO=>?_)
   refine ⟨(hO.sub [0,3]),?_⟩
   refine plan_mem (mS (off:=0) (vc:=[i64 xd3.call,i64 xd3.a0,i64 xd3.a1,i64 xd3.a2,.slice p1 xd3.data.length c1]) 1 hA hO fun w14 hO=>?_)
   refine ⟨(hO.sub [0,3]),?_⟩
   refine end_plan ?_
   refine then_normal ?_
   refine wp_ret ?_
   refine cR (cs:=[some (⟨b1,0,none⟩,31),some (⟨b2,0,none⟩,35)]) (us:=[.agg #[i64 mo3,i64 po3,str inp3,.slice pj3 lj3.length kj3,i64 rd3,i64 wr3,i64 pv3,.slice pn3 ln3.length kn3,.slice pp3 lp3.length kp3],.agg #[i64 xd3.call,i64 xd3.a0,i64 xd3.a1,i64 xd3.a2,.slice p1 xd3.data.length c1]]) hA [.agg #[i64 mo3,i64 po3,str inp3,.slice pj3 lj3.length kj3,i64 rd3,i64 wr3,i64 pv3,.slice pn3 ln3.length kn3,.slice pp3 lp3.length kp3],.agg #[i64 xd3.call,i64 xd3.a0,i64 xd3.a1,i64 xd3.a2,.slice p1 xd3.data.length c1]] ⟨(hO.ln 2 0 31 (cS mo3 po3 inp3 pj3 lj3.length kj3 rd3 wr3 pv3 pn3 ln3.length kn3 pp3 lp3.length kp3)),(hO.ln 1 0 35 [i64 xd3.call,i64 xd3.a0,i64 xd3.a1,i64 xd3.a2,.slice p1 xd3.data.length c1]),trivial⟩ ?_
   replace hO:Ow Tryd.prog none' w w14 ([(b3,35,[i64 xd3.call,i64 xd3.a0,i64 xd3.a1,i64 xd3.a2,.slice p1 xd3.data.length c1]),(b2,35,[i64 xd3.call,i64 xd3.a0,i64 xd3.a1,i64 xd3.a2,.slice p1 xd3.data.length c1]),(b1,31,(cS mo3 po3 inp3 pj3 lj3.length kj3 rd3 wr3 pv3 pn3 ln3.length kn3 pp3 lp3.length kp3)),(pb,31,(cS mo3 po3 inp3 pj3 lj3.length kj3 rd3 wr3 pv3 pn3 ln3.length kn3 pp3 lp3.length kp3))]++((T0++Tn3)++(T1++([])))):=hO
   have hok0:Holds' ((T0++Tn3)++(T1++([]))) (SV.ok (⟨mo3,po3,inp3,pj3,kj3,lj3,rd3,wr3,pv3,pn3,kn3,ln3,pp3,kp3,lp3⟩:SV)):=(Holds'.l (T':=T1++([])) hG3).tt
   have hvx0:Holds' ((T0++Tn3)++(T1++([]))) (fun w_=>VP w_ ⟨p1,c1,xd3⟩):=((hT1.holds.l.r).mono fun _ h_=>⟨h_,hud3⟩)
   have hst0:stepP (SV.d (⟨mo,po,inp,pj,kj,lj,rd,wr,pv,pn,kn,ln,pp,kp,lp⟩:SV)) result dl=(SV.d (⟨mo3,po3,inp3,pj3,kj3,lj3,rd3,wr3,pv3,pn3,kn3,ln3,pp3,kp3,lp3⟩:SV),xd3):=by unfold stepP; rw [if_pos (by assumption),← hd2]; exact hr3
   exact ⟨(⟨mo3,po3,inp3,pj3,kj3,lj3,rd3,wr3,pv3,pn3,kn3,ln3,pp3,kp3,lp3⟩:SV),⟨p1,c1,xd3⟩,_,hst0,hsm3,rfl,((Ow.subP (A:=[_,_,_,_]) hO (.cons _ (.cons _ (.cons _ (.cons _ .slnil)))))).to (List.nil_append _),hok0,hvx0⟩
 rw [h1] at hA
 refine cT hA ?_
 refine sr 2 ?_
 refine Mk 12 hA hO Tryd.func9 (new_any _) fun fr w15 hA hO=>?_
 refine Ms 0 (cS 0 0 (⟨#[]⟩:ByteArray) none 0 0 (-1) (-1) (-1) none 0 0 none 0 0) 2 hA hO fun w16 hO=>?_
 refine end_ops ?_
 refine then_normal ?_
 refine sr 2 ?_
 refine Ka 1 [(13,pt pb)] hA fun fr hA=>?_
 refine Ms 0 [i64 7] 2 hA hO fun w17 hO=>?_
 refine end_ops ?_
 refine then_normal ?_
 refine wp_seq ?_
 have hS:=hO.pk [2]
 refine rP [(0,true),(1,false),(2,false),(3,false),(4,false)] hS ?_
 intro w18 ho; replace hO:=hO.st ho; clear ho
 refine Ke 1 [(14,.agg #[i64 7,i64 0,str (⟨#[]⟩),.slice none 0 0,i64 (-1),i64 (-1),i64 (-1),.slice none 0 0,.slice none 0 0])] hA [.agg #[i64 7,i64 0,str (⟨#[]⟩),.slice none 0 0,i64 (-1),i64 (-1),i64 (-1),.slice none 0 0,.slice none 0 0]] (cc (hS.sn 0 0 31 (cS 7 0 (⟨#[]⟩:ByteArray) none 0 0 (-1) (-1) (-1) none 0 0 none 0 0)) c0) fun fr hA=>?_
 refine plan_mem (mN (l:=[i64 254]) (t:=3) (v:=fun b=> .slice (some ⟨b,0,none⟩) 1 1) (d:=15) hA hO fun fr w19 b4 hA hO=>?_)
 refine ⟨(hO.sub [3]),?_⟩
 refine plan_mem (mK (d:=(some 16)) hA hO Tryd.func12 (call_1 0 254 ⟨b4,0,none⟩ 1 _ ((hO.b 0).vw (off:=0) (xs:=[254]) (by kernel_rfl))) fun fr w20 hA hO=>?_)
 refine ⟨(hO.sub [3]),?_⟩
 refine plan_mem (mS (off:=0) (vc:=(cS 7 0 (⟨#[]⟩:ByteArray) none 0 0 (-1) (-1) (-1) none 0 0 none 0 0)) 2 hA hO fun w21 hO=>?_)
 refine ⟨(hO.sub [3]),?_⟩
 refine plan_mem (mS (off:=0) (vc:=[i64 0,i64 254,i64 0,i64 0,.slice none 0 0]) 1 hA hO fun w22 hO=>?_)
 refine ⟨(hO.sub [3]),?_⟩
 refine end_plan ?_
 refine then_normal ?_
 refine wp_ret ?_
 refine then_ret ?_
 refine cR (cs:=[some (⟨b1,0,none⟩,31),some (⟨b2,0,none⟩,35)]) (us:=[.agg #[i64 7,i64 0,str (⟨#[]⟩),.slice none 0 0,i64 (-1),i64 (-1),i64 (-1),.slice none 0 0,.slice none 0 0],.agg #[i64 0,i64 254,i64 0,i64 0,.slice none 0 0]]) hA [.agg #[i64 7,i64 0,str (⟨#[]⟩),.slice none 0 0,i64 (-1),i64 (-1),i64 (-1),.slice none 0 0,.slice none 0 0],.agg #[i64 0,i64 254,i64 0,i64 0,.slice none 0 0]] ⟨(hO.ln 2 0 31 (cS 7 0 (⟨#[]⟩:ByteArray) none 0 0 (-1) (-1) (-1) none 0 0 none 0 0)),(hO.ln 1 0 35 [i64 0,i64 254,i64 0,i64 0,.slice none 0 0]),trivial⟩ ?_
 exact ⟨(⟨7,0,⟨#[]⟩,none,0,[],-1,-1,-1,none,0,[],none,0,[]⟩:SV),⟨none,0,callL 0 254 0⟩,[],(by unfold stepP; rw [if_neg (by rw [h1]; decide)]; rfl),⟨by decide,⟨by decide,fun y hy=>absurd hy List.not_mem_nil⟩,by decide,by decide,by decide,by decide,by decide⟩,rfl,(hO.sub []),(fun _ _ _ _=>⟨⟨.inl ⟨rfl,rfl⟩,fun y hy=>absurd hy List.not_mem_nil⟩,.inl ⟨rfl,rfl⟩,⟨.inl ⟨rfl,rfl⟩,fun y hy=>absurd hy List.not_mem_nil⟩⟩),(fun _ _ _ _=>⟨.inl ⟨rfl,rfl⟩,fun y hy=>absurd hy List.not_mem_nil⟩)⟩
end Go.Proofs.YtdljjajjonfjbaaDoor
