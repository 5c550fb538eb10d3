import Derived.Test.YtdljjajjonfjbaaDoorShs
import Derived.Test.YtdljjajjonfjbaaDoorShMake
import Derived.Test.YtdljjajjonfjbaaDoorSn
set_option linter.unusedVariables false
set_option linter.unusedSimpArgs false
set_option maxRecDepth 10000
namespace Go.Proofs.YtdljjajjonfjbaaDoor
open Go Go.Shelf Go.RowKit Go.Proofs Go.Proofs.Sx
section
variable {m l:List PV} {i:Nat} {qp p:Option Addr} {qc c:Nat} {qd:CallL} {TD TB:OwL}
theorem at_drop {α:Type} {m l:List α} {j:Nat} {v : α} (h2:m.drop j=l.drop j) (hx:l[j]? = some v):m[j]? = some v:=by
 have h:=congrArg (fun q=>q[0]?) h2
 simp only [List.getElem?_drop,Nat.add_zero] at h
 rw [h]; exact hx
theorem drop_next {α:Type} {m l:List α} {j:Nat} (h2:m.drop j=l.drop j) (v : α):(m.set j v).drop (j+1)=l.drop (j+1):=by
 rw [List.drop_set_of_lt (by omega)]
 have:=congrArg (List.drop 1) h2
 rwa [List.drop_drop,List.drop_drop] at this
theorem pv_set (h:m[i]? = some ⟨qp,qc,qd⟩):setL (m.flatMap fP) (i*5+4) [.slice p qd.data.length c]=(m.set i ⟨p,c,qd⟩).flatMap fP :=
  setL_el encP m i ⟨qp,qc,qd⟩ h rfl (by show 4+1<=5; decide)
theorem pv_map (h:m[i]? = some ⟨qp,qc,qd⟩) (hm:m.map PV.d=l.map PV.d):(m.set i (⟨p,c,qd⟩:PV)).map PV.d=l.map PV.d:=by
 rw [List.map_set,← hm]
 exact set_self (by rw [List.getElem?_map,h]; rfl)
theorem take_set_next {α:Type} {m:List α} {i:Nat} {y x : α} (h:m[i]? = some x):(m.set i y).take (i+1)=m.take i++[y]:=by
 have hi:=(List.getElem?_eq_some_iff.1 h).1
 rw [List.take_add_one,List.take_set_of_le (Nat.le_refl i),List.getElem?_set_self hi]; rfl
theorem vp_next (hD:Holds' TD fun w=>∀ x∈m.take i,VP w x) (h:m[i]? = some ⟨qp,qc,qd⟩) (hB:Holds' TB fun w=>Vw fB w (.slice p qd.data.length c) qd.data) (hu:U8s qd.data):Holds' (TD++TB) fun w=>∀ x∈(m.set i (⟨p,c,qd⟩:PV)).take (i+1),VP w x:=by
 rw [take_set_next h]
 exact vp_app hD.l (vp_one (x:=⟨p,c,qd⟩) hB hu).r
theorem jv_set0 {m:List JV} {i:Nat} {z:JV} {b:Bool} (h:m[i]? = some z):setL (m.flatMap fJ) (i*2+0) [.slice none 0 0,.bool b]=(m.set i ⟨none,0,[],b⟩).flatMap fJ :=
  setL_el encJ m i z h rfl (by show 0+2<=2; decide)
theorem jv_set1 {m:List JV} {i:Nat} {b:Bool} {p p':Option Addr} {c c':Nat} {cs cs':List CV} (hi:i < m.length):setL ((m.set i ⟨p,c,cs,b⟩).flatMap fJ) (i*2+0) [.slice p' cs'.length c']=(m.set i ⟨p',c',cs',b⟩).flatMap fJ:=by
 have:=setL_el encJ (k:=0) (vc:=[.slice p' cs'.length c']) (y:=⟨p',c',cs',b⟩) (m.set i ⟨p,c,cs,b⟩) i ⟨p,c,cs,b⟩ (List.getElem?_set_self hi) rfl (by show 0+1<=2; decide)
 rwa [List.set_set] at this
theorem vc_next {cs:List CV} {y:CV} {T T':OwL} (h:Holds' T fun w=>∀ y∈cs,VC w y) (h':Holds' T' fun w=>Vw fT w (.slice y.p y.d.words.length y.c) y.d.words):Holds' (T++T') fun w=>∀ z∈cs++[y],VC w z:=fun X w₀ w hO z hz=>by
  rcases List.mem_append.1 hz with hz | hz
  · exact h.l X w₀ w hO z hz
  · rw [List.mem_singleton.1 hz]; exact h'.r X w₀ w hO
theorem vj_next {m:List JV} {i:Nat} {z:JV} {p:Option Addr} {c:Nat} {cs:List CV} {b:Bool} {T TC TW:OwL} (h:Holds' T fun w=>∀ x∈m.take i,VJ w x) (hz:m[i]? = some z) (hC:Holds' TC fun w=>Vw fC w (.slice p cs.length c) cs) (hW:Holds' TW fun w=>∀ y∈cs,VC w y) :
    Holds' (T++(TC++TW)) fun w=>∀ x∈(m.set i ⟨p,c,cs,b⟩).take (i+1),VJ w x:=by
 rw [take_set_next hz]
 intro X w₀ w hO x hx
 rcases List.mem_append.1 hx with hx | hx
 · exact h.l X w₀ w hO x hx
 rw [List.mem_singleton.1 hx]; exact ⟨hC.l.r X w₀ w hO,hW.r.r X w₀ w hO⟩
theorem jd_next {m lj:List JV} {i k:Nat} {z:JV} {xp p:Option Addr} {xc c:Nat} {xl cs:List CV} {b:Bool} (h:(m.take i).map JV.d=(lj.take i).map JV.d) (hz:m[i]? = some z) (hx:lj[i]? = some ⟨xp,xc,xl,b⟩) (hc:cs.map CV.d=(xl.take k).map CV.d) (hk : ¬ k < xl.length) :
    ((m.set i ⟨p,c,cs,b⟩).take (i+1)).map JV.d=(lj.take (i+1)).map JV.d:=by
 rw [take_set_next hz,List.map_append,h,List.take_add_one,hx,List.map_append]
 rw [List.take_of_length_le (by omega)] at hc
 congr 1
 show [(⟨cs.map CV.d,b⟩:JobL)]=[⟨xl.map CV.d,b⟩]
 rw [hc]
end
theorem valid_el {l:List JV} {i:Nat} {x:JV} (h:validL (l.map JV.d)=true) (hx:l[i]? = some x):validL (([x]:List JV).map JV.d)=true:=by
 unfold validL at h ⊢
 rw [Bool.and_eq_true,List.all_eq_true] at h
 have:=h.1 _ (List.mem_map.2 ⟨x,List.mem_of_getElem? hx,rfl⟩)
 simp only [List.map_cons,List.map_nil,List.all_cons,List.all_nil,this,Bool.and_true,List.length_cons,List.length_nil,Bool.true_and]
 rfl
set_option maxHeartbeats 4000000 in
theorem copied_any (mo po:Int) (inp:ByteArray) (pj:Option Addr) (kj:Nat) (lj:List JV) (rd wr pv:Int) (pn:Option Addr) (kn:Nat) (ln:List Int) (pp:Option Addr) (kp:Nat) (lp:List PV) (w:World) (hs:SV.ok (⟨mo,po,inp,pj,kj,lj,rd,wr,pv,pn,kn,ln,pp,kp,lp⟩:SV) w) (hm:SV.sm (⟨mo,po,inp,pj,kj,lj,rd,wr,pv,pn,kn,ln,pp,kp,lp⟩:SV)) (hvl:validL (lj.map JV.d)=true) (hdat : ∀ x∈lp,x.d.data.length<=1000000) :
    Calls Tryd.prog 13 #[.agg #[i64 mo,i64 po,str inp,.slice pj lj.length kj,i64 rd,i64 wr,i64 pv,.slice pn ln.length kn,.slice pp lp.length kp]] w fun e w'=>∃ (v:SV) (T:OwL),v.d=SV.d (⟨mo,po,inp,pj,kj,lj,rd,wr,pv,pn,kn,ln,pp,kp,lp⟩:SV)/\v.sm/\e = .returned (.agg #[i64 v.mo,i64 v.po,str v.inp,.slice v.pj v.lj.length v.cj,i64 v.rd,i64 v.wr,i64 v.pv,.slice v.pc v.lc.length v.cc,.slice v.pp v.lp.length v.cp])/\Ow Tryd.prog none' w w' T/\Holds' T v.ok:=by
 refine c_enter (args:=[.agg #[i64 mo,i64 po,str inp,.slice pj lj.length kj,i64 rd,i64 wr,i64 pv,.slice pn ln.length kn,.slice pp lp.length kp]]) (m:=81) (n:=82) Tryd.func13 rfl (by kernel_rfl) (by kernel_rfl) fun fr hA=>?_
 have hO:=Ow.nil Tryd.prog none' w
 have hv_j:VL w (.slice pj lj.length kj) lj:=hs.j
 have hv_k:Vw fN w (.slice pn ln.length kn) ln:=hs.k
 have hv_p:PL w (.slice pp lp.length kp) lp:=hs.p
 have hm_ck:ln.length<=kn:=hm.ck
 have hm_cj:lj.length<=kj:=hm.cj
 have hm_cp:lp.length<=kp:=hm.cp
 have hm_i:inp.size<=1000000:=hm.i
 have hm_k:ln.length<=1000000:=hm.k
 have hm_p:lp.length<=1000000:=hm.p
 have hm_j:smL 1000000 (lj.map JV.d):=hm.j
 have hm_jl:lj.length<=1000000:=hm_j.len
 have hv8_:lj.length<=8:=by have q_:=valid_le hvl; rwa [List.length_map] at q_
 refine sr 2 ?_
 refine Mn (cS mo po inp pj lj.length kj rd wr pv pn ln.length kn pp lp.length kp) 31 1 hA hO fun fr w1 b1 hA hO=>?_
 refine Mn (cS 0 0 (⟨#[]⟩:ByteArray) none 0 0 0 0 0 none 0 0 none 0 0) 31 2 hA hO fun fr w2 b2 hA hO=>?_
 refine end_ops ?_
 refine then_normal ?_
 refine sJ (fun fr W=>∃ (pK:Option Addr) (cK:Nat) (TK:OwL) (pP:Option Addr) (cP:Nat) (TQ:OwL),Holds 82 [] fr [(1,pt b1),(2,pt b2)]/\Ow Tryd.prog none' w W ([(b2,31,(cS 0 0 (⟨#[]⟩:ByteArray) none 0 0 0 0 0 none 0 0 none 0 0)),(b1,31,(cS mo po inp pj lj.length kj rd wr pv pK ln.length cK pP lp.length cP))]++(TK++(TQ++([]))))/\One fN 3 1 pK cK ln TK/\One fP 35 5 pP cP lp TQ/\True) ?_ ?_
 · rintro fr w3 ⟨pK,cK,TK,pP,cP,TQ,hA,hO,hTK,hTQ,-⟩
   refine wp_seq ?_
   refine Sb [(19,i64 ((lp.length:Nat):Int)),(20,i64 0)] hA [.slice pP lp.length cP] (cc (hO.l1 1 8 29 (.slice pP lp.length cP)) c0) fun fr hA=>?_
   refine wp_block ?_
   have hPD0:Holds' ([]:OwL) (fun w_=>∀ x∈(lp.take 0),VP w_ x):=fun _ _ _ _ x hx=>absurd hx (by simp)
   replace hO:Ow Tryd.prog none' w w3 ([(b2,31,(cS 0 0 (⟨#[]⟩:ByteArray) none 0 0 0 0 0 none 0 0 none 0 0)),(b1,31,(cS mo po inp pj lj.length kj rd wr pv pK ln.length cK pP lp.length cP))]++(TK++(TQ++(([]:OwL)++([]))))):=hO.to (by first | rfl | (simp only [TP,apd]))
   refine c_loop (fun mm fr W=>∃ (i:Nat) (m:List PV) (TL1:OwL) (TL2:OwL),mm=lp.length - i/\Holds 82 [] fr [(1,pt b1),(2,pt b2),(19,i64 ((lp.length:Nat):Int)),(20,i64 ((i:Nat):Int))]/\Ow Tryd.prog none' w W ([(b2,31,(cS 0 0 (⟨#[]⟩:ByteArray) none 0 0 0 0 0 none 0 0 none 0 0)),(b1,31,(cS mo po inp pj lj.length kj rd wr pv pK ln.length cK pP lp.length cP))]++(TK++(TL1++(TL2++([])))))/\One fP 35 5 pP cP m TL1/\Holds' TL2 (fun w_=>∀ x∈(m.take i),VP w_ x)/\i<=lp.length/\m.map PV.d=lp.map PV.d/\m.drop i=lp.drop i/\True) ?_ ?_
   · exact ⟨_,0,lp,TQ,([]:OwL),rfl,hA.ss,hO,hTQ,hPD0,(Nat.zero_le _),rfl,rfl,trivial⟩
   rintro _ fr w4 ⟨i,m,TL1,TL2,rfl,hA,hO,hTL1,hTL2,hi_,hmd,hmr,-⟩
   have hmlen:m.length=lp.length:=by have q_:=congrArg List.length hmd; rwa [List.length_map,List.length_map] at q_
   refine Sa [(21,bl (decide (((i:Nat):Int) < ((lp.length:Nat):Int))))] hA fun fr hA=>?_
   refine wp_seq ?_
   rcases Bool.eq_false_or_eq_true (decide (((i:Nat):Int) < ((lp.length:Nat):Int))) with h1 | h1
   · rw [h1] at hA
     have h1p:=of_decide_eq_true h1
     obtain ⟨⟨qp,qc,qd⟩,hq⟩ : ∃ x,lp[i]? = some x:=⟨_,List.getElem?_eq_getElem (by omega)⟩
     have hqm:=at_drop hmr hq
     have hud:U8s qd.data:=(hv_p.2 _ (List.mem_of_getElem? hq)).2
     have hdq_:qd.data.length<=1000000:=hdat _ (List.mem_of_getElem? hq)
     obtain ⟨aP,rfl⟩ : ∃ ad,pP=some ad:=by (obtain ⟨b_,r_,e_,_⟩:=hTL1.open (by omega); exact ⟨_,e_⟩)
     refine cT hA ?_
     refine wp_skip ?_
     refine then_normal ?_
     refine wp_seq ?_
     refine wp_block ?_
     refine Sa [(3,i64 ((i:Nat):Int))] hA fun fr hA=>?_
     have hS:Ow Tryd.prog none' w _ [(b2,31,(cS 0 0 (⟨#[]⟩:ByteArray) none 0 0 0 0 0 none 0 0 none 0 0)),(b1,31,(cS mo po inp pj lj.length kj rd wr pv pK ln.length cK (some aP) lp.length cP))]:=hO.sub [0,1]
     refine rP [(0,true),(1,true),(2,true),(3,true),(4,true),(5,true),(6,true),(7,true),(8,false),(9,false),(10,true),(11,true),(12,false)] hS ?_
     intro w5 ho; replace hO:=hO.st ho; clear ho
     refine Ke 8 [(24,.slice (some aP) lp.length cP),(25,i64 ((i:Nat):Int)),(30,.pointer (some ((aP.add (i*5)).add 4)))] hA [.slice (some aP) lp.length cP,.slice (some aP) lp.length cP] (cc (hS.s1 1 8 29 (.slice (some aP) lp.length cP)) (cc (hS.s1 1 8 29 (.slice (some aP) lp.length cP)) (cc (⟨by omega,by omega⟩:(0:Int)<=((i:Nat):Int)/\((i:Nat):Int) < ((lp.length:Nat):Int)) c0))) fun fr hA=>?_
     refine plan_mem (Qc [(31,.slice qp qd.data.length qc)] hA [.slice qp qd.data.length qc] (cc ((((show Vw fP _ (.slice (some aP) m.length cP) m from One.vw hTL1 (A:=([(b2,31,(cS 0 0 (⟨#[]⟩:ByteArray) none 0 0 0 0 0 none 0 0 none 0 0)),(b1,31,(cS mo po inp pj lj.length kj rd wr pv pK ln.length cK (some aP) lp.length cP))]++(TK++([])))) (B:=TL2++([])) (hO.tt:Ow Tryd.prog none' w _ (([(b2,31,(cS 0 0 (⟨#[]⟩:ByteArray) none 0 0 0 0 0 none 0 0 none 0 0)),(b1,31,(cS mo po inp pj lj.length kj rd wr pv pK ln.length cK (some aP) lp.length cP))]++(TK++([])))++(TL1++(TL2++([]))))).m)).ld1 encP hqm (k:=4) (by rfl)):Ld Tryd.prog w5 ((aP.add (i*5)).add 4) 33 (.slice qp qd.data.length qc)) c0) fun fr hA=>?_)
     refine ⟨(hO.sub [0,1]),?_⟩
     refine plan_mem (mC (d:=(some 32)) hA Tryd.func15 ((cloneb_any qp qc qd.data _ ((hv_p.keep hO.only).2 _ (List.mem_of_getElem? hq)).1 (by omega) ((hv_p.keep hO.only).2 _ (List.mem_of_getElem? hq)).2).mono ?_))
     rintro en w6 ⟨p1,c1,T1,rfl,hT1,hW⟩
     refine ⟨_,rfl,?_⟩
     clear hA fr; intro fr hA
     replace hO:=Ow.join hO hW; clear hW
     refine ⟨(hO.sub [0,1]),?_⟩
     refine Ke 2 [(34,.pointer (some ((aP.add (i*5)).add 4)))] hA [] (cc (⟨by omega,by omega⟩:(0:Int)<=((i:Nat):Int)/\((i:Nat):Int) < ((lp.length:Nat):Int)) c0) fun fr hA=>?_
     refine plan_mem (mSE (f:=fP) (el:=35) (ad:=aP) (ad':=(aP.add (i*5)).add 4) (c:=cP) (off:=i*5+4) (vc:=[.slice p1 qd.data.length c1]) (l':=(m.set i ⟨p1,c1,qd⟩)) encP hA (hO.tt:Ow Tryd.prog none' w _ (([(b2,31,(cS 0 0 (⟨#[]⟩:ByteArray) none 0 0 0 0 0 none 0 0 none 0 0)),(b1,31,(cS mo po inp pj lj.length kj rd wr pv pK ln.length cK (some aP) lp.length cP))]++(TK++([])))++(TL1++(TL2++(T1++([])))))) hTL1 (pv_set hqm) (List.length_set ..) (by show i*5+4+1<=_; omega) (Sx.add_add _ _ _) fun w7 T2 hO hT2=>?_)
     refine ⟨(hO.sub [0,1]),?_⟩
     refine end_plan ?_
     refine inBlock_normal ?_
     refine then_normal ?_
     refine Rc [(20,i64 (((i:Nat):Int)+1))] hA [bl true] (cc ((inK_i64 (by omega) (by omega)):inK .i64 (((i:Nat):Int)+1)) c0) fun fr hA=>?_
     refine then_normal ?_
     have hPDn:Holds' (TL2++T1) (fun w_=>∀ x∈((m.set i ⟨p1,c1,qd⟩).take (i+1)),VP w_ x):=vp_next hTL2 hqm hT1.holds hud
     replace hO:Ow Tryd.prog none' w w7 ([(b2,31,(cS 0 0 (⟨#[]⟩:ByteArray) none 0 0 0 0 0 none 0 0 none 0 0)),(b1,31,(cS mo po inp pj lj.length kj rd wr pv pK ln.length cK (some aP) lp.length cP))]++(TK++(T2++((TL2++T1)++([]))))):=hO.to (by first | rfl | (simp only [TP,apd]))
     exact ⟨_,by omega,i+1,(m.set i ⟨p1,c1,qd⟩),T2,(TL2++T1),rfl,hA.ss,hO,hT2,hPDn,(by omega),(pv_map hqm hmd),(drop_next hmr _),trivial⟩
   rw [h1] at hA
   have h1p:=of_decide_eq_false h1
   refine cF hA ?_
   refine wp_exit ?_
   refine then_exit ?_
   refine then_exit ?_
   refine inBlock_exit ?_
   refine then_normal ?_
   refine sr 5 ?_
   refine Kb 3 [(38,i64 ((lj.length:Nat):Int))] hA [.slice pj lj.length kj] (cc (hO.l1 1 3 27 (.slice pj lj.length kj)) c0) fun fr hA=>?_
   replace hO:Ow Tryd.prog none' w w4 ([(b2,31,(cS 0 0 (⟨#[]⟩:ByteArray) none 0 0 0 0 0 none 0 0 none 0 0)),(b1,31,(cS mo po inp pj lj.length kj rd wr pv pK ln.length cK pP lp.length cP))]++(TK++(TL1++(TL2++([]))))):=hO
   refine wpOps_cons' (mMG (f:=fJ) (el:=64) (sz:=2) (bytes:=32) (k:= .i64) (k':= .i64) (t:=27) (m:=lj.length) (d:=39) (z:= .agg #[.slice none 0 0,bl false]) JV0 encJ hA hO (by omega) (by unfold maxLen; omega) (by decide) fun fr w8 aJ T3 hA hO hT3=>?_)
   replace hO:Ow Tryd.prog none' w w8 ([(b2,31,(cS 0 0 (⟨#[]⟩:ByteArray) none 0 0 0 0 0 none 0 0 none 0 0)),(b1,31,(cS mo po inp pj lj.length kj rd wr pv pK ln.length cK pP lp.length cP))]++(TK++(TL1++(TL2++(T3++([])))))):=hO.to (by first | rfl | (simp only [TP,apd]))
   refine Ka 1 [(4,.slice (some aJ) lj.length lj.length)] hA fun fr hA=>?_
   refine end_ops ?_
   refine then_normal ?_
   refine wp_seq ?_
   refine Sb [(41,.slice pj lj.length kj),(42,i64 ((lj.length:Nat):Int)),(43,i64 0)] hA [.slice pj lj.length kj] (cc (hO.l1 1 3 27 (.slice pj lj.length kj)) c0) fun fr hA=>?_
   refine wp_block ?_
   have hJD0:Holds' ([]:OwL) (fun w_=>∀ x∈((List.replicate lj.length JV0).take 0),VJ w_ x):=fun _ _ _ _ x hx=>absurd hx (by simp)
   replace hO:Ow Tryd.prog none' w w8 ([(b2,31,(cS 0 0 (⟨#[]⟩:ByteArray) none 0 0 0 0 0 none 0 0 none 0 0)),(b1,31,(cS mo po inp pj lj.length kj rd wr pv pK ln.length cK pP lp.length cP))]++(TK++(TL1++(TL2++(T3++(([]:OwL)++([]))))))):=hO.to (by first | rfl | (simp only [TP,apd]))
   refine c_loop (fun mm fr W=>∃ (i2:Nat) (m2:List JV) (TL3:OwL) (TL4:OwL),mm=lj.length - i2/\Holds 82 [] fr [(1,pt b1),(2,pt b2),(4,.slice (some aJ) lj.length lj.length),(41,.slice pj lj.length kj),(42,i64 ((lj.length:Nat):Int)),(43,i64 ((i2:Nat):Int))]/\Ow Tryd.prog none' w W ([(b2,31,(cS 0 0 (⟨#[]⟩:ByteArray) none 0 0 0 0 0 none 0 0 none 0 0)),(b1,31,(cS mo po inp pj lj.length kj rd wr pv pK ln.length cK pP lp.length cP))]++(TK++(TL1++(TL2++(TL3++(TL4++([])))))))/\One fJ 64 2 (some aJ) lj.length m2 TL3/\Holds' TL4 (fun w_=>∀ x∈(m2.take i2),VJ w_ x)/\i2<=lj.length/\m2.length=lj.length/\(m2.take i2).map JV.d=(lj.take i2).map JV.d/\True) ?_ ?_
   · exact ⟨_,0,List.replicate lj.length JV0,T3,([]:OwL),rfl,hA.ss,hO,hT3,hJD0,(Nat.zero_le _),(List.length_replicate ..),rfl,trivial⟩
   rintro _ fr w9 ⟨i2,m2,TL3,TL4,rfl,hA,hO,hTL3,hTL4,hi2_,hml2,hmd2,-⟩
   refine Sa [(44,bl (decide (((i2:Nat):Int) < ((lj.length:Nat):Int))))] hA fun fr hA=>?_
   refine wp_seq ?_
   rcases Bool.eq_false_or_eq_true (decide (((i2:Nat):Int) < ((lj.length:Nat):Int))) with h2 | h2
   · rw [h2] at hA
     have h2p:=of_decide_eq_true h2
     obtain ⟨ad1,rfl⟩:=((hv_j.keep hO.only).1).pos (by first | omega | exact Nat.zero_lt_succ _)
     obtain ⟨⟨xp1,xc1,xl1,xb1⟩,hx1⟩ : ∃ x,(lj)[i2]? = some x:=⟨_,getD_at _ JV0 (by first | omega | exact Nat.zero_lt_succ _)⟩
     obtain ⟨z2,hz2⟩ : ∃ x,m2[i2]? = some x:=⟨_,List.getElem?_eq_getElem (by omega)⟩
     have hxl4:xl1.length<=4:=(vl_hd (r:=[]) (valid_el hvl hx1)).1.2
     refine cT hA ?_
     refine wp_skip ?_
     refine then_normal ?_
     refine wp_seq ?_
     refine wp_block ?_
     refine sr 6 ?_
     refine Kb 3 [(41,.slice (some ad1) lj.length kj),(45,i64 ((i2:Nat):Int)),(47,.agg #[.slice xp1 xl1.length xc1,bl xb1])] hA [.agg #[.slice xp1 xl1.length xc1,bl xb1]] (cc (⟨by omega,by omega⟩:(0:Int)<=((i2:Nat):Int)/\((i2:Nat):Int) < ((lj.length:Nat):Int)) (cc ((((hv_j.keep hO.only).1).ldn encJ hx1):Ld Tryd.prog w9 (ad1.add (i2*2)) 64 (.agg #[.slice xp1 xl1.length xc1,bl xb1])) c0)) fun fr hA=>?_
     refine Mn [.slice none 0 0,bl false] 64 6 hA hO fun fr w10 b3 hA hO=>?_
     refine Ka 1 [(5,i64 ((i2:Nat):Int))] hA fun fr hA=>?_
     refine Ms 0 [.slice xp1 xl1.length xc1,bl xb1] 0 hA hO fun w11 hO=>?_
     refine end_ops ?_
     refine then_normal ?_
     refine sr 7 ?_
     refine Kb 6 [(52,.agg #[.slice none 0 0,bl xb1]),(53,.pointer (some (aJ.add (i2*2))))] hA [bl xb1] (cc (hO.l1 0 1 4 (bl xb1)) (cc (⟨by omega,by omega⟩:(0:Int)<=((i2:Nat):Int)/\((i2:Nat):Int) < ((lj.length:Nat):Int)) c0)) fun fr hA=>?_
     replace hO:Ow Tryd.prog none' w w11 ([(b3,64,[.slice xp1 xl1.length xc1,bl xb1]),(b2,31,(cS 0 0 (⟨#[]⟩:ByteArray) none 0 0 0 0 0 none 0 0 none 0 0)),(b1,31,(cS mo po inp (some ad1) lj.length kj rd wr pv pK ln.length cK pP lp.length cP))]++(TK++(TL1++(TL2++(TL3++(TL4++([]))))))):=hO
     refine wpOps_cons' (mSE (f:=fJ) (el:=64) (ad:=aJ) (ad':=aJ.add (i2*2)) (c:=lj.length) (off:=i2*2+0) (vc:=[.slice none 0 0,bl xb1]) (l':=(m2.set i2 ⟨none,0,[],xb1⟩)) encJ hA (hO.tt:Ow Tryd.prog none' w _ (([(b3,64,[.slice xp1 xl1.length xc1,bl xb1]),(b2,31,(cS 0 0 (⟨#[]⟩:ByteArray) none 0 0 0 0 0 none 0 0 none 0 0)),(b1,31,(cS mo po inp (some ad1) lj.length kj rd wr pv pK ln.length cK pP lp.length cP))]++(TK++(TL1++(TL2++([])))))++(TL3++(TL4++([]))))) hTL3 (jv_set0 hz2) (List.length_set ..) (by show i2*2+0+2<=_; omega) rfl fun w12 T4 hO hT4=>?_)
     refine end_ops ?_
     refine then_normal ?_
     refine Sb [(55,.slice xp1 xl1.length xc1),(56,i64 ((xl1.length:Nat):Int)),(57,i64 0)] hA [.slice xp1 xl1.length xc1] (cc (hO.l1 0 0 62 (.slice xp1 xl1.length xc1)) c0) fun fr hA=>?_
     refine wp_block ?_
     have hPC0:One fC 66 4 none 0 ([]:List CV) ([]:OwL):=One.nil _ _ _
     have hPW0:Holds' ([]:OwL) (fun w_=>∀ y∈([]:List CV),VC w_ y):=fun _ _ _ _ x hx=>absurd hx (by simp)
     refine c_loop (fun mm fr W=>∃ (k:Nat) (cs:List CV) (pL5:Option Addr) (cL5:Nat) (TL5:OwL) (TL6:OwL) (TL7:OwL),mm=xl1.length - k/\Holds 82 [] fr [(1,pt b1),(2,pt b2),(4,.slice (some aJ) lj.length lj.length),(5,i64 ((i2:Nat):Int)),(41,.slice (some ad1) lj.length kj),(42,i64 ((lj.length:Nat):Int)),(43,i64 ((i2:Nat):Int)),(55,.slice xp1 xl1.length xc1),(56,i64 ((xl1.length:Nat):Int)),(57,i64 ((k:Nat):Int))]/\Ow Tryd.prog none' w W ([(b3,64,[.slice xp1 xl1.length xc1,bl xb1]),(b2,31,(cS 0 0 (⟨#[]⟩:ByteArray) none 0 0 0 0 0 none 0 0 none 0 0)),(b1,31,(cS mo po inp (some ad1) lj.length kj rd wr pv pK ln.length cK pP lp.length cP))]++(TK++(TL1++(TL2++(TL7++(TL4++(TL5++(TL6++([])))))))))/\One fC 66 4 pL5 cL5 cs TL5/\Holds' TL6 (fun w_=>∀ y∈cs,VC w_ y)/\One fJ 64 2 (some aJ) lj.length (m2.set i2 ⟨pL5,cL5,cs,xb1⟩) TL7/\k<=xl1.length/\cs.length=k/\cs.map CV.d=(xl1.take k).map CV.d/\True) ?_ ?_
     · exact ⟨_,0,[],none,0,([]:OwL),([]:OwL),T4,rfl,hA.ss,hO.tt,hPC0,hPW0,hT4,(Nat.zero_le _),rfl,rfl,trivial⟩
     rintro _ fr w13 ⟨k,cs,pL5,cL5,TL5,TL6,TL7,rfl,hA,hO,hTL5,hTL6,hTL7,hk_,hcl3,hcd3,-⟩
     refine Sa [(58,bl (decide (((k:Nat):Int) < ((xl1.length:Nat):Int))))] hA fun fr hA=>?_
     refine wp_seq ?_
     rcases Bool.eq_false_or_eq_true (decide (((k:Nat):Int) < ((xl1.length:Nat):Int))) with h3 | h3
     · rw [h3] at hA
       have h3p:=of_decide_eq_true h3
       obtain ⟨ax1,rfl⟩:=(show ∃ ad,xp1=some ad from (((hv_j.keep hO.only).2 _ (List.mem_of_getElem? hx1)).1).pos (by show 0 < xl1.length; omega))
       obtain ⟨⟨yp1,yc1,yd1⟩,hx2⟩ : ∃ x,(xl1)[k]? = some x:=⟨_,getD_at _ CV0 (by first | omega | exact Nat.zero_lt_succ _)⟩
       have hyw4:yd1.words.length<=4:=(vc_words ((vl_hd (r:=[]) (valid_el hvl hx1)).2 _ (List.mem_of_getElem? hx2))).1.2
       refine cT hA ?_
       refine wp_skip ?_
       refine then_normal ?_
       refine wp_seq ?_
       refine wp_block ?_
       refine sr 4 ?_
       refine Kb 2 [(55,.slice (some ax1) xl1.length xc1),(60,.agg #[.slice yp1 yd1.words.length yc1,str yd1.inp,str yd1.out,bl yd1.app])] hA [.agg #[.slice yp1 yd1.words.length yc1,str yd1.inp,str yd1.out,bl yd1.app]] (cc (⟨by omega,by omega⟩:(0:Int)<=((k:Nat):Int)/\((k:Nat):Int) < ((xl1.length:Nat):Int)) (cc (((((hv_j.keep hO.only).2 _ (List.mem_of_getElem? hx1)).1).ldn encC hx2):Ld Tryd.prog w13 (ax1.add (k*4)) 66 (.agg #[.slice yp1 yd1.words.length yc1,str yd1.inp,str yd1.out,bl yd1.app])) c0)) fun fr hA=>?_
       refine Mn [.slice none 0 0,str (⟨#[]⟩),str (⟨#[]⟩),bl false] 66 8 hA hO fun fr w14 b4 hA hO=>?_
       refine Ms 0 [.slice yp1 yd1.words.length yc1,str yd1.inp,str yd1.out,bl yd1.app] 0 hA hO fun w15 hO=>?_
       refine end_ops ?_
       refine then_normal ?_
       refine sr 5 ?_
       refine Kb 2 [(62,.slice yp1 yd1.words.length yc1)] hA [.slice yp1 yd1.words.length yc1] (cc (hO.l1 0 0 25 (.slice yp1 yd1.words.length yc1)) c0) fun fr hA=>?_
       replace hO:Ow Tryd.prog none' w w15 ([(b4,66,[.slice yp1 yd1.words.length yc1,str yd1.inp,str yd1.out,bl yd1.app]),(b3,64,[.slice (some ax1) xl1.length xc1,bl xb1]),(b2,31,(cS 0 0 (⟨#[]⟩:ByteArray) none 0 0 0 0 0 none 0 0 none 0 0)),(b1,31,(cS mo po inp (some ad1) lj.length kj rd wr pv pK ln.length cK pP lp.length cP))]++(TK++(TL1++(TL2++(TL7++(TL4++(TL5++(TL6++([]))))))))):=hO
       refine wpOps_cons' (mC (d:=(some 63)) hA Tryd.func26 ((clonet_any yp1 yc1 yd1.words _ (((hv_j.keep hO.only).2 _ (List.mem_of_getElem? hx1)).2 _ (List.mem_of_getElem? hx2)) (by omega)).mono ?_))
       rintro en w16 ⟨p2,c2,T5,rfl,hT5,hW⟩
       refine ⟨_,rfl,?_⟩
       clear hA fr; intro fr hA
       replace hO:=Ow.join hO hW; clear hW
       replace hO:Ow Tryd.prog none' w _ ([(b4,66,[.slice yp1 yd1.words.length yc1,str yd1.inp,str yd1.out,bl yd1.app]),(b3,64,[.slice (some ax1) xl1.length xc1,bl xb1]),(b2,31,(cS 0 0 (⟨#[]⟩:ByteArray) none 0 0 0 0 0 none 0 0 none 0 0)),(b1,31,(cS mo po inp (some ad1) lj.length kj rd wr pv pK ln.length cK pP lp.length cP))]++(TK++(TL1++(TL2++(TL7++(TL4++(TL5++(TL6++(T5++([])))))))))):=hO.to (by first | rfl | (simp only [TP,apd]))
       refine Ka 1 [(64,pt b4)] hA fun fr hA=>?_
       refine Ms 0 [.slice p2 yd1.words.length c2] 0 hA hO fun w17 hO=>?_
       refine end_ops ?_
       refine then_normal ?_
       have hS:Ow Tryd.prog none' w _ [(b4,66,[.slice p2 yd1.words.length c2,str yd1.inp,str yd1.out,bl yd1.app]),(b3,64,[.slice (some ax1) xl1.length xc1,bl xb1]),(b2,31,(cS 0 0 (⟨#[]⟩:ByteArray) none 0 0 0 0 0 none 0 0 none 0 0)),(b1,31,(cS mo po inp (some ad1) lj.length kj rd wr pv pK ln.length cK pP lp.length cP))]:=hO.sub [0,1,2,3]
       refine rT (.q 0 (.q 1 (.q 2 (.q 3 (.q 4 (.q 5 (.q 7 (.m 6 (.m 8 (.m 9 (.q 10 (.q 11 (.m 12 .fin .non))) .non) .non) (.m 8 (.m 6 (.m 9 (.q 10 (.q 11 (.m 12 .fin .non))) .non) .non) .non))))))))) hS ?_
       intro w18 ho; replace hO:=hO.st ho; clear ho
       refine tree_let (t1:= .m 9 (.q 10 (.q 11 (.m 12 .fin .non))) .non) (fun fr W=>∃ (s1:Nat),Holds 82 [] fr [(1,pt b1),(2,pt b2),(4,.slice (some aJ) lj.length lj.length),(5,i64 ((i2:Nat):Int)),(41,.slice (some ad1) lj.length kj),(42,i64 ((lj.length:Nat):Int)),(43,i64 ((i2:Nat):Int)),(55,.slice (some ax1) xl1.length xc1),(56,i64 ((xl1.length:Nat):Int)),(57,i64 ((k:Nat):Int)),(65,.slice (some aJ) lj.length lj.length),(66,i64 ((i2:Nat):Int)),(71,.slice pL5 cs.length cL5),(73,.slice (some ⟨s1,0,none⟩) 1 1)]/\Ow Tryd.prog none' w W ([(s1,66,[.slice p2 yd1.words.length c2,str yd1.inp,str yd1.out,bl yd1.app]),(b4,66,[.slice p2 yd1.words.length c2,str yd1.inp,str yd1.out,bl yd1.app]),(b3,64,[.slice (some ax1) xl1.length xc1,bl xb1]),(b2,31,(cS 0 0 (⟨#[]⟩:ByteArray) none 0 0 0 0 0 none 0 0 none 0 0)),(b1,31,(cS mo po inp (some ad1) lj.length kj rd wr pv pK ln.length cK pP lp.length cP))]++(TK++(TL1++(TL2++(TL7++(TL4++(TL5++(TL6++(T5++([]))))))))))/\True) ?_ ?_
       · rintro fr w19 ⟨s1,hA,hO,-⟩
         refine tree_mem ?_ ?_
         · replace hO:Ow Tryd.prog none' w w19 ([(s1,66,[.slice p2 yd1.words.length c2,str yd1.inp,str yd1.out,bl yd1.app]),(b4,66,[.slice p2 yd1.words.length c2,str yd1.inp,str yd1.out,bl yd1.app]),(b3,64,[.slice (some ax1) xl1.length xc1,bl xb1]),(b2,31,(cS 0 0 (⟨#[]⟩:ByteArray) none 0 0 0 0 0 none 0 0 none 0 0)),(b1,31,(cS mo po inp (some ad1) lj.length kj rd wr pv pK ln.length cK pP lp.length cP))]++(TK++(TL1++(TL2++(TL7++(TL4++(TL5++(TL6++(T5++([])))))))))):=hO
           refine (mA (f:=fC) (el:=66) (sz:=4) (bytes:=64) (p:=pL5) (c:=cL5) (l:=cs) (l':=([⟨p2,c2,yd1⟩]:List CV)) (T:=TL5) (t:=62) (tx:=62) (ty:=62) (x:= .slice (some ⟨s1,0,none⟩) 1 1) (d:=74) ([(s1,66,[.slice p2 yd1.words.length c2,str yd1.inp,str yd1.out,bl yd1.app]),(b4,66,[.slice p2 yd1.words.length c2,str yd1.inp,str yd1.out,bl yd1.app]),(b3,64,[.slice (some ax1) xl1.length xc1,bl xb1]),(b2,31,(cS 0 0 (⟨#[]⟩:ByteArray) none 0 0 0 0 0 none 0 0 none 0 0)),(b1,31,(cS mo po inp (some ad1) lj.length kj rd wr pv pK ln.length cK pP lp.length cP))]++(TK++(TL1++(TL2++(TL7++(TL4++([]))))))) (TL6++(T5++([]))) encC hA (hO.tt:Ow Tryd.prog none' w _ (([(s1,66,[.slice p2 yd1.words.length c2,str yd1.inp,str yd1.out,bl yd1.app]),(b4,66,[.slice p2 yd1.words.length c2,str yd1.inp,str yd1.out,bl yd1.app]),(b3,64,[.slice (some ax1) xl1.length xc1,bl xb1]),(b2,31,(cS 0 0 (⟨#[]⟩:ByteArray) none 0 0 0 0 0 none 0 0 none 0 0)),(b1,31,(cS mo po inp (some ad1) lj.length kj rd wr pv pK ln.length cK pP lp.length cP))]++(TK++(TL1++(TL2++(TL7++(TL4++([])))))))++(TL5++(TL6++(T5++([])))))) hTL5 (Vw.src (e':=66) encC ((hO.b 0).vw (off:=0) (xs:=([⟨p2,c2,yd1⟩]:List CV)) (by kernel_rfl)) (by kernel_rfl)) (by first | omega | (simp only [List.length_append,List.length_cons,List.length_nil]; omega)) (by unfold maxLen; first | omega | (simp only [List.length_append,List.length_cons,List.length_nil]; omega)) fun fr w20 p3 c3 T6 hA hO hT6=>?_)
           replace hO:Ow Tryd.prog none' w w20 ([(s1,66,[.slice p2 yd1.words.length c2,str yd1.inp,str yd1.out,bl yd1.app]),(b4,66,[.slice p2 yd1.words.length c2,str yd1.inp,str yd1.out,bl yd1.app]),(b3,64,[.slice (some ax1) xl1.length xc1,bl xb1]),(b2,31,(cS 0 0 (⟨#[]⟩:ByteArray) none 0 0 0 0 0 none 0 0 none 0 0)),(b1,31,(cS mo po inp (some ad1) lj.length kj rd wr pv pK ln.length cK pP lp.length cP))]++(TK++(TL1++(TL2++(TL7++(TL4++(T6++(TL6++(T5++([])))))))))):=hO.to (by first | rfl | (simp only [TP,apd]))
           refine ⟨(hO.sub [1,2,3,4]),?_⟩
           refine Kt [10,11] [(76,.pointer (some (aJ.add (i2*2))))] hA [] (cc (⟨by omega,by omega⟩:(0:Int)<=((i2:Nat):Int)/\((i2:Nat):Int) < ((lj.length:Nat):Int)) c0) fun fr hA=>?_
           refine tree_mem ?_ ?_
           · replace hO:Ow Tryd.prog none' w w20 ([(s1,66,[.slice p2 yd1.words.length c2,str yd1.inp,str yd1.out,bl yd1.app]),(b4,66,[.slice p2 yd1.words.length c2,str yd1.inp,str yd1.out,bl yd1.app]),(b3,64,[.slice (some ax1) xl1.length xc1,bl xb1]),(b2,31,(cS 0 0 (⟨#[]⟩:ByteArray) none 0 0 0 0 0 none 0 0 none 0 0)),(b1,31,(cS mo po inp (some ad1) lj.length kj rd wr pv pK ln.length cK pP lp.length cP))]++(TK++(TL1++(TL2++(TL7++(TL4++(T6++(TL6++(T5++([])))))))))):=hO
             refine (mSE (f:=fJ) (el:=64) (ad:=aJ) (ad':=aJ.add (i2*2)) (c:=lj.length) (off:=i2*2+0) (vc:=[.slice p3 ((cs++([⟨p2,c2,yd1⟩]:List CV)).length) c3]) (l':=(m2.set i2 ⟨p3,c3,cs++([⟨p2,c2,yd1⟩]:List CV),xb1⟩)) encJ hA (hO.tt:Ow Tryd.prog none' w _ (([(s1,66,[.slice p2 yd1.words.length c2,str yd1.inp,str yd1.out,bl yd1.app]),(b4,66,[.slice p2 yd1.words.length c2,str yd1.inp,str yd1.out,bl yd1.app]),(b3,64,[.slice (some ax1) xl1.length xc1,bl xb1]),(b2,31,(cS 0 0 (⟨#[]⟩:ByteArray) none 0 0 0 0 0 none 0 0 none 0 0)),(b1,31,(cS mo po inp (some ad1) lj.length kj rd wr pv pK ln.length cK pP lp.length cP))]++(TK++(TL1++(TL2++([])))))++(TL7++(TL4++(T6++(TL6++(T5++([])))))))) hTL7 (jv_set1 (by omega)) (by rw [List.length_set,List.length_set]) (by rw [List.length_set]; show i2*2+0+1<=_; omega) rfl fun w21 T7 hO hT7=>?_)
             replace hO:Ow Tryd.prog none' w w21 ([(s1,66,[.slice p2 yd1.words.length c2,str yd1.inp,str yd1.out,bl yd1.app]),(b4,66,[.slice p2 yd1.words.length c2,str yd1.inp,str yd1.out,bl yd1.app]),(b3,64,[.slice (some ax1) xl1.length xc1,bl xb1]),(b2,31,(cS 0 0 (⟨#[]⟩:ByteArray) none 0 0 0 0 0 none 0 0 none 0 0)),(b1,31,(cS mo po inp (some ad1) lj.length kj rd wr pv pK ln.length cK pP lp.length cP))]++(TK++(TL1++(TL2++(T7++(TL4++(T6++(TL6++(T5++([])))))))))):=hO.to (by first | rfl | (simp only [TP,apd]))
             refine ⟨(hO.sub [1,2,3,4]),?_⟩
             refine tree_fin ?_
             refine inBlock_normal ?_
             refine then_normal ?_
             refine Rc [(57,i64 (((k:Nat):Int)+1))] hA [bl true] (cc ((inK_i64 (by omega) (by omega)):inK .i64 (((k:Nat):Int)+1)) c0) fun fr hA=>?_
             refine then_normal ?_
             replace hO:Ow Tryd.prog none' w w21 ([(s1,66,[.slice p2 yd1.words.length c2,str yd1.inp,str yd1.out,bl yd1.app]),(b4,66,[.slice p2 yd1.words.length c2,str yd1.inp,str yd1.out,bl yd1.app]),(b3,64,[.slice (some ax1) xl1.length xc1,bl xb1]),(b2,31,(cS 0 0 (⟨#[]⟩:ByteArray) none 0 0 0 0 0 none 0 0 none 0 0)),(b1,31,(cS mo po inp (some ad1) lj.length kj rd wr pv pK ln.length cK pP lp.length cP))]++(TK++(TL1++(TL2++(T7++(TL4++(T6++(TL6++(T5++([])))))))))):=hO
             have hPWn:Holds' (TL6++T5) (fun w_=>∀ y∈(cs++([⟨p2,c2,yd1⟩]:List CV)),VC w_ y):=vc_next (y:=⟨p2,c2,yd1⟩) hTL6 hT5.holds
             replace hO:Ow Tryd.prog none' w w21 ([(s1,66,[.slice p2 yd1.words.length c2,str yd1.inp,str yd1.out,bl yd1.app]),(b4,66,[.slice p2 yd1.words.length c2,str yd1.inp,str yd1.out,bl yd1.app]),(b3,64,[.slice (some ax1) xl1.length xc1,bl xb1]),(b2,31,(cS 0 0 (⟨#[]⟩:ByteArray) none 0 0 0 0 0 none 0 0 none 0 0)),(b1,31,(cS mo po inp (some ad1) lj.length kj rd wr pv pK ln.length cK pP lp.length cP))]++(TK++(TL1++(TL2++(T7++(TL4++(T6++((TL6++T5)++([]))))))))):=hO.to (by first | rfl | (simp only [TP,apd]))
             exact ⟨_,by omega,k+1,(cs++([⟨p2,c2,yd1⟩]:List CV)),p3,c3,T6,(TL6++T5),T7,rfl,hA.ss,(Ow.subP (A:=[_,_,_,_,_]) hO (.cons _ (.cons _ (.cons_cons _ (.cons_cons _ (.cons_cons _ .slnil)))))),hT6,hPWn,hT7,(by omega),(by rw [List.length_append,hcl3]; rfl),(by rw [List.map_append,hcd3,List.take_add_one,hx2,List.map_append]; rfl),trivial⟩
           exact trivial
         exact trivial
       intro ht1
       refine Kt [0,1,2,3,4,5,7] [(65,.slice (some aJ) lj.length lj.length),(66,i64 ((i2:Nat):Int)),(70,.pointer (some (aJ.add (i2*2)))),(72,.agg #[.slice p2 yd1.words.length c2,str yd1.inp,str yd1.out,bl yd1.app])] hA [.agg #[.slice p2 yd1.words.length c2,str yd1.inp,str yd1.out,bl yd1.app]] (cc (⟨by omega,by omega⟩:(0:Int)<=((i2:Nat):Int)/\((i2:Nat):Int) < ((lj.length:Nat):Int)) (cc (hS.sn 0 0 66 [.slice p2 yd1.words.length c2,str yd1.inp,str yd1.out,bl yd1.app]) c0)) fun fr hA=>?_
       refine tree_mem ?_ ?_
       · replace hO:Ow Tryd.prog none' w w18 ([(b4,66,[.slice p2 yd1.words.length c2,str yd1.inp,str yd1.out,bl yd1.app]),(b3,64,[.slice (some ax1) xl1.length xc1,bl xb1]),(b2,31,(cS 0 0 (⟨#[]⟩:ByteArray) none 0 0 0 0 0 none 0 0 none 0 0)),(b1,31,(cS mo po inp (some ad1) lj.length kj rd wr pv pK ln.length cK pP lp.length cP))]++(TK++(TL1++(TL2++(TL7++(TL4++(TL5++(TL6++(T5++([])))))))))):=hO
         refine (Qc [(71,.slice pL5 cs.length cL5)] hA [.slice pL5 cs.length cL5] (cc ((((show Vw fJ _ (.slice (some aJ) (m2.set i2 ⟨pL5,cL5,cs,xb1⟩).length lj.length) (m2.set i2 ⟨pL5,cL5,cs,xb1⟩) from One.vw hTL7 (A:=([(b4,66,[.slice p2 yd1.words.length c2,str yd1.inp,str yd1.out,bl yd1.app]),(b3,64,[.slice (some ax1) xl1.length xc1,bl xb1]),(b2,31,(cS 0 0 (⟨#[]⟩:ByteArray) none 0 0 0 0 0 none 0 0 none 0 0)),(b1,31,(cS mo po inp (some ad1) lj.length kj rd wr pv pK ln.length cK pP lp.length cP))]++(TK++(TL1++(TL2++([])))))) (B:=TL4++(TL5++(TL6++(T5++([]))))) (hO.tt:Ow Tryd.prog none' w _ (([(b4,66,[.slice p2 yd1.words.length c2,str yd1.inp,str yd1.out,bl yd1.app]),(b3,64,[.slice (some ax1) xl1.length xc1,bl xb1]),(b2,31,(cS 0 0 (⟨#[]⟩:ByteArray) none 0 0 0 0 0 none 0 0 none 0 0)),(b1,31,(cS mo po inp (some ad1) lj.length kj rd wr pv pK ln.length cK pP lp.length cP))]++(TK++(TL1++(TL2++([])))))++(TL7++(TL4++(TL5++(TL6++(T5++([])))))))).m)).ld0 encJ (show (m2.set i2 ⟨pL5,cL5,cs,xb1⟩)[i2]? = some (⟨pL5,cL5,cs,xb1⟩:JV) from List.getElem?_set_self (by omega)) (by rfl)):Ld Tryd.prog w18 (aJ.add (i2*2)) 62 (.slice pL5 cs.length cL5)) c0) fun fr hA=>?_)
         refine ⟨(hO.sub [0,1,2,3]),?_⟩
         refine tree_mem ?_ ?_
         · refine (mN (l:=[.slice p2 yd1.words.length c2,str yd1.inp,str yd1.out,bl yd1.app]) (t:=66) (v:=fun b=> .slice (some ⟨b,0,none⟩) 1 1) (d:=73) hA hO fun fr w22 b5 hA hO=>?_)
           refine ⟨(hO.sub [1,2,3,4]),?_⟩
           exact ht1 _ _ ⟨b5,hA.sb,hO,trivial⟩
         exact trivial
       refine tree_mem ?_ ?_
       · refine (mN (l:=[.slice p2 yd1.words.length c2,str yd1.inp,str yd1.out,bl yd1.app]) (t:=66) (v:=fun b=> .slice (some ⟨b,0,none⟩) 1 1) (d:=73) hA hO fun fr w23 b6 hA hO=>?_)
         refine ⟨(hO.sub [1,2,3,4]),?_⟩
         refine tree_mem ?_ ?_
         · replace hO:Ow Tryd.prog none' w w23 ([(b6,66,[.slice p2 yd1.words.length c2,str yd1.inp,str yd1.out,bl yd1.app]),(b4,66,[.slice p2 yd1.words.length c2,str yd1.inp,str yd1.out,bl yd1.app]),(b3,64,[.slice (some ax1) xl1.length xc1,bl xb1]),(b2,31,(cS 0 0 (⟨#[]⟩:ByteArray) none 0 0 0 0 0 none 0 0 none 0 0)),(b1,31,(cS mo po inp (some ad1) lj.length kj rd wr pv pK ln.length cK pP lp.length cP))]++(TK++(TL1++(TL2++(TL7++(TL4++(TL5++(TL6++(T5++([])))))))))):=hO
           refine (Qc [(71,.slice pL5 cs.length cL5)] hA [.slice pL5 cs.length cL5] (cc ((((show Vw fJ _ (.slice (some aJ) (m2.set i2 ⟨pL5,cL5,cs,xb1⟩).length lj.length) (m2.set i2 ⟨pL5,cL5,cs,xb1⟩) from One.vw hTL7 (A:=([(b6,66,[.slice p2 yd1.words.length c2,str yd1.inp,str yd1.out,bl yd1.app]),(b4,66,[.slice p2 yd1.words.length c2,str yd1.inp,str yd1.out,bl yd1.app]),(b3,64,[.slice (some ax1) xl1.length xc1,bl xb1]),(b2,31,(cS 0 0 (⟨#[]⟩:ByteArray) none 0 0 0 0 0 none 0 0 none 0 0)),(b1,31,(cS mo po inp (some ad1) lj.length kj rd wr pv pK ln.length cK pP lp.length cP))]++(TK++(TL1++(TL2++([])))))) (B:=TL4++(TL5++(TL6++(T5++([]))))) (hO.tt:Ow Tryd.prog none' w _ (([(b6,66,[.slice p2 yd1.words.length c2,str yd1.inp,str yd1.out,bl yd1.app]),(b4,66,[.slice p2 yd1.words.length c2,str yd1.inp,str yd1.out,bl yd1.app]),(b3,64,[.slice (some ax1) xl1.length xc1,bl xb1]),(b2,31,(cS 0 0 (⟨#[]⟩:ByteArray) none 0 0 0 0 0 none 0 0 none 0 0)),(b1,31,(cS mo po inp (some ad1) lj.length kj rd wr pv pK ln.length cK pP lp.length cP))]++(TK++(TL1++(TL2++([])))))++(TL7++(TL4++(TL5++(TL6++(T5++([])))))))).m)).ld0 encJ (show (m2.set i2 ⟨pL5,cL5,cs,xb1⟩)[i2]? = some (⟨pL5,cL5,cs,xb1⟩:JV) from List.getElem?_set_self (by omega)) (by rfl)):Ld Tryd.prog w23 (aJ.add (i2*2)) 62 (.slice pL5 cs.length cL5)) c0) fun fr hA=>?_)
           refine ⟨(hO.sub [1,2,3,4]),?_⟩
           exact ht1 _ _ ⟨b6,hA.sb,hO.tt,trivial⟩
         exact trivial
       exact trivial
     rw [h3] at hA
     have h3p:=of_decide_eq_false h3
     refine cF hA ?_
     refine wp_exit ?_
     refine then_exit ?_
     refine then_exit ?_
     refine inBlock_exit ?_
     refine inBlock_normal ?_
     refine then_normal ?_
     refine Rc [(43,i64 (((i2:Nat):Int)+1))] hA [bl true] (cc ((inK_i64 (by omega) (by omega)):inK .i64 (((i2:Nat):Int)+1)) c0) fun fr hA=>?_
     refine then_normal ?_
     replace hO:Ow Tryd.prog none' w w13 ([(b3,64,[.slice xp1 xl1.length xc1,bl xb1]),(b2,31,(cS 0 0 (⟨#[]⟩:ByteArray) none 0 0 0 0 0 none 0 0 none 0 0)),(b1,31,(cS mo po inp (some ad1) lj.length kj rd wr pv pK ln.length cK pP lp.length cP))]++(TK++(TL1++(TL2++(TL7++(TL4++(TL5++(TL6++([]))))))))):=hO
     have hJDn:Holds' (TL4++(TL5++TL6)) (fun w_=>∀ x∈((m2.set i2 ⟨pL5,cL5,cs,xb1⟩).take (i2+1)),VJ w_ x):=vj_next hTL4 hz2 hTL5.holds hTL6
     replace hO:Ow Tryd.prog none' w w13 ([(b3,64,[.slice xp1 xl1.length xc1,bl xb1]),(b2,31,(cS 0 0 (⟨#[]⟩:ByteArray) none 0 0 0 0 0 none 0 0 none 0 0)),(b1,31,(cS mo po inp (some ad1) lj.length kj rd wr pv pK ln.length cK pP lp.length cP))]++(TK++(TL1++(TL2++(TL7++((TL4++(TL5++TL6))++([]))))))):=hO.to (by first | rfl | (simp only [TP,apd]))
     exact ⟨_,by omega,i2+1,(m2.set i2 ⟨pL5,cL5,cs,xb1⟩),TL7,(TL4++(TL5++TL6)),rfl,hA.ss,(Ow.subP (A:=[_,_,_]) hO (.cons _ (.cons_cons _ (.cons_cons _ .slnil)))),hTL7,hJDn,(by omega),(by rw [List.length_set]; exact hml2),(jd_next hmd2 hz2 hx1 hcd3 (by omega)),trivial⟩
   rw [h2] at hA
   have h2p:=of_decide_eq_false h2
   refine cF hA ?_
   refine wp_exit ?_
   refine then_exit ?_
   refine then_exit ?_
   refine inBlock_exit ?_
   refine then_normal ?_
   refine sr 3 ?_
   refine Ka 2 [(79,.slice (some aJ) lj.length lj.length),(80,pf b1 3)] hA fun fr hA=>?_
   refine Ms 3 [.slice (some aJ) lj.length lj.length] 1 hA hO fun w24 hO=>?_
   refine end_ops ?_
   refine then_normal ?_
   refine sr 2 ?_
   refine Kb 1 [(81,.agg #[i64 mo,i64 po,str inp,.slice (some aJ) lj.length lj.length,i64 rd,i64 wr,i64 pv,.slice pK ln.length cK,.slice pP lp.length cP])] hA [.agg #[i64 mo,i64 po,str inp,.slice (some aJ) lj.length lj.length,i64 rd,i64 wr,i64 pv,.slice pK ln.length cK,.slice pP lp.length cP]] (cc (hO.ln 1 0 31 (cS mo po inp (some aJ) lj.length lj.length rd wr pv pK ln.length cK pP lp.length cP)) c0) fun fr hA=>?_
   refine Ms 0 (cS mo po inp (some aJ) lj.length lj.length rd wr pv pK ln.length cK pP lp.length cP) 0 hA hO fun w25 hO=>?_
   refine end_ops ?_
   refine then_normal ?_
   refine wp_ret ?_
   refine cR (cs:=[some (⟨b2,0,none⟩,31)]) (us:=[.agg #[i64 mo,i64 po,str inp,.slice (some aJ) lj.length lj.length,i64 rd,i64 wr,i64 pv,.slice pK ln.length cK,.slice pP lp.length cP]]) hA [.agg #[i64 mo,i64 po,str inp,.slice (some aJ) lj.length lj.length,i64 rd,i64 wr,i64 pv,.slice pK ln.length cK,.slice pP lp.length cP]] ⟨(hO.ln 0 0 31 (cS mo po inp (some aJ) lj.length lj.length rd wr pv pK ln.length cK pP lp.length cP)),trivial⟩ ?_
   have htm:m.take i=m:=List.take_of_length_le (by omega)
   have htm2:m2.take i2=m2:=List.take_of_length_le (by omega)
   have hmm2:m2.map JV.d=lj.map JV.d:=by rw [htm2,List.take_of_length_le (show lj.length<=i2 by omega)] at hmd2; exact hmd2
   have hJ0:Holds' (TK++(TL1++(TL2++(TL3++(TL4++([])))))) (fun w=>VL w (.slice (some aJ) m2.length lj.length) m2):=(Holds'.and (hTL3.holds.l.r.r.r) (hTL4.l.r.r.r.r)).mono fun _ h_=>⟨h_.1,htm2 ▸ h_.2⟩
   have hP0:Holds' (TK++(TL1++(TL2++(TL3++(TL4++([])))))) (fun w=>PL w (.slice pP m.length cP) m):=(Holds'.and (hTL1.holds.l.r) (hTL2.l.r.r)).mono fun _ h_=>⟨h_.1,htm ▸ h_.2⟩
   have hok0:Holds' (TK++(TL1++(TL2++(TL3++(TL4++([])))))) (SV.ok (⟨mo,po,inp,some aJ,lj.length,m2,rd,wr,pv,pK,cK,ln,pP,cP,m⟩:SV)):=ok3 hJ0 (hTK.holds.l) hP0
   have hd0:SV.d (⟨mo,po,inp,some aJ,lj.length,m2,rd,wr,pv,pK,cK,ln,pP,cP,m⟩:SV)=SV.d (⟨mo,po,inp,pj,kj,lj,rd,wr,pv,pn,kn,ln,pp,kp,lp⟩:SV):=by unfold SV.d; simp only [hmm2,hmd]
   have hsm0:SV.sm (⟨mo,po,inp,some aJ,lj.length,m2,rd,wr,pv,pK,cK,ln,pP,cP,m⟩:SV):=⟨hm_i,(by show smL 1000000 (m2.map JV.d); rw [hmm2]; exact hm_j),hm_k,(by show m.length<=_; omega),hTK.le,(by show m2.length<=lj.length; omega),hTL1.le⟩
   exact ⟨(⟨mo,po,inp,some aJ,lj.length,m2,rd,wr,pv,pK,cK,ln,pP,cP,m⟩:SV),_,hd0,hsm0,(show _=Ending.returned (.agg #[i64 mo,i64 po,str inp,.slice (some aJ) m2.length lj.length,i64 rd,i64 wr,i64 pv,.slice pK ln.length cK,.slice pP m.length cP]) from by rw [hml2,hmlen]; rfl),((Ow.subP (A:=[_,_]) hO (.cons _ (.cons _ .slnil)))).to (List.nil_append _),hok0⟩
 have hS:=hO.pk [0]
 refine rT (.q 0 (.q 3 (.m 1 (.m 2 (.m 4 (.q 6 (.m 5 (.m 7 (.q 8 (.m 9 .fin .non)) .non) .non)) .non) (.m 4 (.m 2 (.q 6 (.m 5 (.m 7 (.q 8 (.m 9 .fin .non)) .non) .non)) .non) .non)) (.m 4 (.m 1 (.m 2 (.q 6 (.m 5 (.m 7 (.q 8 (.m 9 .fin .non)) .non) .non)) .non) .non) .non)))) hS ?_
 intro w26 ho; replace hO:=hO.st ho; clear ho
 refine tree_let (t1:= .m 2 (.q 6 (.m 5 (.m 7 (.q 8 (.m 9 .fin .non)) .non) .non)) .non) (fun fr W=>Holds 82 [] fr [(1,pt b1),(2,pt b2),(10,.slice pn ln.length kn),(13,.slice pp lp.length kp)]/\Ow Tryd.prog none' w W [(b2,31,(cS 0 0 (⟨#[]⟩:ByteArray) none 0 0 0 0 0 none 0 0 none 0 0)),(b1,31,(cS mo po inp pj lj.length kj rd wr pv pn ln.length kn pp lp.length kp))]/\True) ?_ ?_
 · rintro fr w27 ⟨hA,hO,-⟩
   refine tree_mem ?_ ?_
   · replace hO:Ow Tryd.prog none' w w27 [(b2,31,(cS 0 0 (⟨#[]⟩:ByteArray) none 0 0 0 0 0 none 0 0 none 0 0)),(b1,31,(cS mo po inp pj lj.length kj rd wr pv pn ln.length kn pp lp.length kp))]:=hO
     refine (mC (d:=(some 11)) hA Tryd.func24 ((clonen_any pn kn ln _ (hv_k.keep hO.only) (by omega)).mono ?_))
     rintro en w28 ⟨p4,c4,T8,rfl,hT8,hW⟩
     refine ⟨_,rfl,?_⟩
     clear hA fr; intro fr hA
     replace hO:Ow Tryd.prog none' w _ ([(b2,31,(cS 0 0 (⟨#[]⟩:ByteArray) none 0 0 0 0 0 none 0 0 none 0 0)),(b1,31,(cS mo po inp pj lj.length kj rd wr pv pn ln.length kn pp lp.length kp))]++[]):=hO.to (List.append_nil _).symm
     replace hO:=Ow.join hO hW; clear hW
     replace hO:Ow Tryd.prog none' w _ ([(b2,31,(cS 0 0 (⟨#[]⟩:ByteArray) none 0 0 0 0 0 none 0 0 none 0 0)),(b1,31,(cS mo po inp pj lj.length kj rd wr pv pn ln.length kn pp lp.length kp))]++(T8++([]))):=hO.to (by first | rfl | (simp only [TP,apd]))
     refine ⟨(hO.sub [0]),?_⟩
     refine Kt [6] [(15,pf b1 7)] hA [] c0 fun fr hA=>?_
     refine tree_mem ?_ ?_
     · replace hO:Ow Tryd.prog none' w w28 ([(b2,31,(cS 0 0 (⟨#[]⟩:ByteArray) none 0 0 0 0 0 none 0 0 none 0 0)),(b1,31,(cS mo po inp pj lj.length kj rd wr pv pn ln.length kn pp lp.length kp))]++(T8++([]))):=hO
       refine (mC (d:=(some 14)) hA Tryd.func25 ((clonep_any pp kp lp _ (hv_p.keep hO.only).1 (by omega)).mono ?_))
       rintro en w29 ⟨p5,c5,T9,rfl,hT9,hW⟩
       refine ⟨_,rfl,?_⟩
       clear hA fr; intro fr hA
       replace hO:=Ow.join hO hW; clear hW
       replace hO:Ow Tryd.prog none' w _ ([(b2,31,(cS 0 0 (⟨#[]⟩:ByteArray) none 0 0 0 0 0 none 0 0 none 0 0)),(b1,31,(cS mo po inp pj lj.length kj rd wr pv pn ln.length kn pp lp.length kp))]++(T8++(T9++([])))):=hO.to (by first | rfl | (simp only [TP,apd]))
       refine ⟨(hO.sub [0]),?_⟩
       refine tree_mem ?_ ?_
       · refine (mS (off:=7) (vc:=[.slice p4 ln.length c4]) 1 hA hO fun w30 hO=>?_)
         refine ⟨(hO.sub [0]),?_⟩
         refine Kt [8] [(16,pf b1 8)] hA [] c0 fun fr hA=>?_
         refine tree_mem ?_ ?_
         · refine (mS (off:=8) (vc:=[.slice p5 lp.length c5]) 1 hA hO fun w31 hO=>?_)
           refine ⟨(hO.sub [0]),?_⟩
           refine tree_fin ?_
           replace hO:Ow Tryd.prog none' w w31 ([(b2,31,(cS 0 0 (⟨#[]⟩:ByteArray) none 0 0 0 0 0 none 0 0 none 0 0)),(b1,31,(cS mo po inp pj lj.length kj rd wr pv p4 ln.length c4 p5 lp.length c5))]++(T8++(T9++([])))):=hO
           refine then_normal ?_
           exact ⟨p4,c4,T8,p5,c5,T9,hA.sb,hO,hT8,hT9,trivial⟩
         exact trivial
       exact trivial
     exact trivial
   exact trivial
 intro ht2
 refine Kt [0,3] [(9,pf b1 7),(12,pf b1 8)] hA [] c0 fun fr hA=>?_
 refine tree_mem ?_ ?_
 · refine (Qc [(10,.slice pn ln.length kn)] hA [.slice pn ln.length kn] (cc (hO.l1 1 7 28 (.slice pn ln.length kn)) c0) fun fr hA=>?_)
   refine ⟨(hO.sub [0]),?_⟩
   refine tree_mem ?_ ?_
   · replace hO:Ow Tryd.prog none' w w26 [(b2,31,(cS 0 0 (⟨#[]⟩:ByteArray) none 0 0 0 0 0 none 0 0 none 0 0)),(b1,31,(cS mo po inp pj lj.length kj rd wr pv pn ln.length kn pp lp.length kp))]:=hO
     refine (mC (d:=(some 11)) hA Tryd.func24 ((clonen_any pn kn ln _ (hv_k.keep hO.only) (by omega)).mono ?_))
     rintro en w32 ⟨p6,c6,T10,rfl,hT10,hW⟩
     refine ⟨_,rfl,?_⟩
     clear hA fr; intro fr hA
     replace hO:Ow Tryd.prog none' w _ ([(b2,31,(cS 0 0 (⟨#[]⟩:ByteArray) none 0 0 0 0 0 none 0 0 none 0 0)),(b1,31,(cS mo po inp pj lj.length kj rd wr pv pn ln.length kn pp lp.length kp))]++[]):=hO.to (List.append_nil _).symm
     replace hO:=Ow.join hO hW; clear hW
     replace hO:Ow Tryd.prog none' w _ ([(b2,31,(cS 0 0 (⟨#[]⟩:ByteArray) none 0 0 0 0 0 none 0 0 none 0 0)),(b1,31,(cS mo po inp pj lj.length kj rd wr pv pn ln.length kn pp lp.length kp))]++(T10++([]))):=hO.to (by first | rfl | (simp only [TP,apd]))
     refine ⟨(hO.sub [0]),?_⟩
     refine tree_mem ?_ ?_
     · refine (Qc [(13,.slice pp lp.length kp)] hA [.slice pp lp.length kp] (cc (hO.l1 1 8 29 (.slice pp lp.length kp)) c0) fun fr hA=>?_)
       refine ⟨(hO.sub [0]),?_⟩
       refine Kt [6] [(15,pf b1 7)] hA [] c0 fun fr hA=>?_
       refine tree_mem ?_ ?_
       · replace hO:Ow Tryd.prog none' w w32 ([(b2,31,(cS 0 0 (⟨#[]⟩:ByteArray) none 0 0 0 0 0 none 0 0 none 0 0)),(b1,31,(cS mo po inp pj lj.length kj rd wr pv pn ln.length kn pp lp.length kp))]++(T10++([]))):=hO
         refine (mC (d:=(some 14)) hA Tryd.func25 ((clonep_any pp kp lp _ (hv_p.keep hO.only).1 (by omega)).mono ?_))
         rintro en w33 ⟨p7,c7,T11,rfl,hT11,hW⟩
         refine ⟨_,rfl,?_⟩
         clear hA fr; intro fr hA
         replace hO:=Ow.join hO hW; clear hW
         replace hO:Ow Tryd.prog none' w _ ([(b2,31,(cS 0 0 (⟨#[]⟩:ByteArray) none 0 0 0 0 0 none 0 0 none 0 0)),(b1,31,(cS mo po inp pj lj.length kj rd wr pv pn ln.length kn pp lp.length kp))]++(T10++(T11++([])))):=hO.to (by first | rfl | (simp only [TP,apd]))
         refine ⟨(hO.sub [0]),?_⟩
         refine tree_mem ?_ ?_
         · refine (mS (off:=7) (vc:=[.slice p6 ln.length c6]) 1 hA hO fun w34 hO=>?_)
           refine ⟨(hO.sub [0]),?_⟩
           refine Kt [8] [(16,pf b1 8)] hA [] c0 fun fr hA=>?_
           refine tree_mem ?_ ?_
           · refine (mS (off:=8) (vc:=[.slice p7 lp.length c7]) 1 hA hO fun w35 hO=>?_)
             refine ⟨(hO.sub [0]),?_⟩
             refine tree_fin ?_
             replace hO:Ow Tryd.prog none' w w35 ([(b2,31,(cS 0 0 (⟨#[]⟩:ByteArray) none 0 0 0 0 0 none 0 0 none 0 0)),(b1,31,(cS mo po inp pj lj.length kj rd wr pv p6 ln.length c6 p7 lp.length c7))]++(T10++(T11++([])))):=hO
             refine then_normal ?_
             exact ⟨p6,c6,T10,p7,c7,T11,hA.sb,hO,hT10,hT11,trivial⟩
           exact trivial
         exact trivial
       exact trivial
     exact trivial
   refine tree_mem ?_ ?_
   · refine (Qc [(13,.slice pp lp.length kp)] hA [.slice pp lp.length kp] (cc (hO.l1 1 8 29 (.slice pp lp.length kp)) c0) fun fr hA=>?_)
     refine ⟨(hO.sub [0]),?_⟩
     exact ht2 _ _ ⟨hA.sb,hO.to,trivial⟩
   exact trivial
 refine tree_mem ?_ ?_
 · refine (Qc [(13,.slice pp lp.length kp)] hA [.slice pp lp.length kp] (cc (hO.l1 1 8 29 (.slice pp lp.length kp)) c0) fun fr hA=>?_)
   refine ⟨(hO.sub [0]),?_⟩
   refine tree_mem ?_ ?_
   · refine (Qc [(10,.slice pn ln.length kn)] hA [.slice pn ln.length kn] (cc (hO.l1 1 7 28 (.slice pn ln.length kn)) c0) fun fr hA=>?_)
     refine ⟨(hO.sub [0]),?_⟩
     exact ht2 _ _ ⟨hA.sb,hO.to,trivial⟩
   exact trivial
 exact trivial
end Go.Proofs.YtdljjajjonfjbaaDoor
