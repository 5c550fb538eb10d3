import Derived.Test.YtdljjajjonfjbaaDoorShk
import Derived.Test.YtdljjajjonfjbaaDoorShBase
import Derived.Test.YtdljjajjonfjbaaDoorSn
set_option linter.unusedVariables false
set_option linter.unusedSimpArgs false
set_option maxRecDepth 10000
namespace Go.Proofs.YtdljjajjonfjbaaDoor
open Go Go.Shelf Go.RowKit Go.Proofs Go.Proofs.Sx
theorem exit_any (pb:Nat) (mo po:Int) (inp:ByteArray) (pj:Option Addr) (kj:Nat) (lj:List JV) (rd wr pv:Int) (pn:Option Addr) (kn:Nat) (ln:List Int) (pp:Option Addr) (kp:Nat) (lp:List PV) (n:Int) (w:World) (h0:Ow Tryd.prog (inT [(pb,31,cS mo po inp pj lj.length kj rd wr pv pn ln.length kn pp lp.length kp)]) w w [(pb,31,cS mo po inp pj lj.length kj rd wr pv pn ln.length kn pp lp.length kp)]) :
    Calls Tryd.prog 42 #[pt pb,i64 n] w fun e w'=>e = .returned (.agg #[i64 0,i64 n,i64 0,i64 0,.slice none 0 0])/\Ow Tryd.prog (inT [(pb,31,cS mo po inp pj lj.length kj rd wr pv pn ln.length kn pp lp.length kp)]) w w' [(pb,31,cS 7 po inp pj lj.length kj rd wr pv pn ln.length kn pp lp.length kp)]:=by
 refine c_enter (args:=[pt pb,i64 n]) (m:=9) (n:=11) Tryd.func42 rfl (by kernel_rfl) (by kernel_rfl) fun fr hA=>?_
 generalize inT [(pb,31,cS mo po inp pj lj.length kj rd wr pv pn ln.length kn pp lp.length kp)]=M at *
 have hO:Ow Tryd.prog M w w [(pb,31,(cS mo po inp pj lj.length kj rd wr pv pn ln.length kn pp lp.length kp))]:=h0.to (by first | rfl | first | rfl | (simp only [TP,apd]))
 refine sr 1 ?_
 refine Mn [i64 0,i64 0,i64 0,i64 0,.slice none 0 0] 35 4 hA hO fun fr w1 b1 hA hO=>?_
 refine end_ops ?_
 refine then_normal ?_
 refine sr 4 ?_
 refine Ka 3 [(7,pt pb)] hA fun fr hA=>?_
 refine Ms 0 [i64 7] 1 hA hO fun w2 hO=>?_
 refine end_ops ?_
 refine then_normal ?_
 refine sr 4 ?_
 refine Ka 1 [(8,i64 n)] hA fun fr hA=>?_
 refine Mv [i64 n] 3 1 9 hA hO fun fr w3 b2 hA hO=>?_
 refine Mk 10 hA hO Tryd.func12 (call_1 0 n ⟨b2,0,none⟩ 1 _ ((hO.b 0).vw (off:=0) (xs:=[n]) (by kernel_rfl))) fun fr w4 hA hO=>?_
 refine Ms 0 [i64 0,i64 n,i64 0,i64 0,.slice none 0 0] 1 hA hO fun w5 hO=>?_
 refine end_ops ?_
 refine then_normal ?_
 refine wp_ret ?_
 refine cR (cs:=[some (⟨b1,0,none⟩,35)]) (us:=[.agg #[i64 0,i64 n,i64 0,i64 0,.slice none 0 0]]) hA [.agg #[i64 0,i64 n,i64 0,i64 0,.slice none 0 0]] ⟨(hO.ln 1 0 35 [i64 0,i64 n,i64 0,i64 0,.slice none 0 0]),trivial⟩ ?_
 exact ⟨rfl,(hO.sub [2])⟩
theorem giveUp_any (pb:Nat) (mo po:Int) (inp:ByteArray) (pj:Option Addr) (kj:Nat) (lj:List JV) (rd wr pv:Int) (pn:Option Addr) (kn:Nat) (ln:List Int) (pp:Option Addr) (kp:Nat) (lp:List PV) (T:OwL)  (w:World) (hG:Holds' T (SV.ok (⟨mo,po,inp,pj,kj,lj,rd,wr,pv,pn,kn,ln,pp,kp,lp⟩:SV))) (h0:Ow Tryd.prog (inT ((pb,31,cS mo po inp pj lj.length kj rd wr pv pn ln.length kn pp lp.length kp)::T)) w w ((pb,31,cS mo po inp pj lj.length kj rd wr pv pn ln.length kn pp lp.length kp)::T)) (hm:SV.sm (⟨mo,po,inp,pj,kj,lj,rd,wr,pv,pn,kn,ln,pp,kp,lp⟩:SV)) (hvl:validL (lj.map JV.d)=true) (hE : ∀ w',Only (inT ((pb,31,cS mo po inp pj lj.length kj rd wr pv pn ln.length kn pp lp.length kp)::T)) w w'->ErrOk w') (hp0:lp.length=0) :
    Calls Tryd.prog 29 #[pt pb] w fun e w'=>∃ (v:SV) (x:PV) (Tn:OwL),upS (SV.d (⟨mo,po,inp,pj,kj,lj,rd,wr,pv,pn,kn,ln,pp,kp,lp⟩:SV))=(v.d,x.d)/\v.sm/\validL (v.lj.map JV.d)=true/\e = .returned (.agg #[i64 x.d.call,i64 x.d.a0,i64 x.d.a1,i64 x.d.a2,.slice x.p x.d.data.length x.c])/\Ow Tryd.prog (inT ((pb,31,cS mo po inp pj lj.length kj rd wr pv pn ln.length kn pp lp.length kp)::T)) w w' ((pb,31,v.cells)::(T++Tn))/\Holds' (T++Tn) v.ok/\Holds' (T++Tn) (fun w=>VP w x):=by
 refine c_enter (args:=[pt pb]) (m:=39) (n:=40) Tryd.func29 rfl (by kernel_rfl) (by kernel_rfl) fun fr hA=>?_
 generalize inT ((pb,31,cS mo po inp pj lj.length kj rd wr pv pn ln.length kn pp lp.length kp)::T)=M at *
 have hO:Ow Tryd.prog M w w ([(pb,31,(cS mo po inp pj lj.length kj rd wr pv pn ln.length kn pp lp.length kp))]++(T++([]))):=h0.to (by first | rfl | first | rfl | (simp only [TP,apd]))
 refine sr 1 ?_
 refine Mn [i64 0,i64 0,i64 0,i64 0,.slice none 0 0] 35 2 hA hO fun fr w1 b1 hA hO=>?_
 refine end_ops ?_
 refine then_normal ?_
 refine sJ (fun fr W=>∃ (pq:Option Addr) (kq:Nat) (lq:List PV) (Tq:OwL),Holds 40 [] fr [(0,pt pb),(2,pt b1)]/\Ow Tryd.prog M w W ([(b1,35,[i64 0,i64 0,i64 0,i64 0,.slice none 0 0]),(pb,31,(cS mo po inp pj lj.length kj rd wr pv pn ln.length kn pq lq.length kq))]++(T++(Tq++([]))))/\lq.map PV.d=lp.map PV.d++closesL [pv,rd,wr]/\lq.length<=kq/\lq.length<=lp.length+3/\Holds' (T++Tq) (fun w_=>PL w_ (.slice pq lq.length kq) lq)/\True) ?_ ?_
 · rintro fr w2 ⟨pq,kq,lq,Tq,hA,hO,hdq,hcq,hlq,hGq,-⟩
   refine sr 4 ?_
   refine Ka 1 [(18,pt pb)] hA fun fr hA=>?_
   replace hO:Ow Tryd.prog M w w2 ([(b1,35,[i64 0,i64 0,i64 0,i64 0,.slice none 0 0]),(pb,31,(cS mo po inp pj lj.length kj rd wr pv pn ln.length kn pq lq.length kq))]++(T++(Tq++([])))):=hO
   refine wpOps_cons' (mC (d:=(some 19)) hA Tryd.func45 ((telling_any _).mono ?_))
   rintro en w3 ⟨p1,c1,T1,rfl,hT1,hW⟩
   refine ⟨_,rfl,?_⟩
   clear hA fr; intro fr hA
   replace hO:=Ow.join hO hW; clear hW
   replace hO:Ow Tryd.prog M w _ ([(b1,35,[i64 0,i64 0,i64 0,i64 0,.slice none 0 0]),(pb,31,(cS mo po inp pj lj.length kj rd wr pv pn ln.length kn pq lq.length kq))]++(T++(Tq++(T1++([]))))):=hO.to (by first | rfl | (simp only [TP,apd]))
   refine Mv [i64 10,i64 2,i64 0,i64 0,.slice p1 (([63,10]:List Int).length) c1] 35 1 20 hA hO fun fr w4 b2 hA hO=>?_
   replace hO:Ow Tryd.prog M w w4 ([(b2,35,[i64 10,i64 2,i64 0,i64 0,.slice p1 (([63,10]:List Int).length) c1]),(b1,35,[i64 0,i64 0,i64 0,i64 0,.slice none 0 0]),(pb,31,(cS mo po inp pj lj.length kj rd wr pv pn ln.length kn pq lq.length kq))]++(T++(Tq++(T1++([]))))):=hO
   refine wpOps_cons' (mC (d:=(some 21)) hA Tryd.func44 ((plan_any pb mo po inp pj kj lj rd wr pv pn kn ln pq kq lq ⟨p1,c1,⟨10,2,0,0,[63,10]⟩⟩ ⟨b2,0,none⟩ 1 _ (Ow.self (A:=[(b2,35,[i64 10,i64 2,i64 0,i64 0,.slice p1 (([63,10]:List Int).length) c1]),(b1,35,[i64 0,i64 0,i64 0,i64 0,.slice none 0 0])]) (T:=[(pb,31,cS mo po inp pj lj.length kj rd wr pv pn ln.length kn pq lq.length kq)]) (B:=([]++(T++(Tq++(T1++([])))))) (hO.tt)) (mkeep (A:=[(b2,35,[i64 10,i64 2,i64 0,i64 0,.slice p1 (([63,10]:List Int).length) c1]),(b1,35,[i64 0,i64 0,i64 0,i64 0,.slice none 0 0])]) (B:=[]) (T:=T++(Tq++(T1++([])))) (Q:=(fun w_=>Vw fP w_ (.slice pq lq.length kq) lq)) ((Holds'.l (T':=T1++([])) (hGq.mono fun _ h_=>h_.1)).to (by simp only [List.append_assoc])) (hO.tt:Ow Tryd.prog M w _ (([(b2,35,[i64 10,i64 2,i64 0,i64 0,.slice p1 (([63,10]:List Int).length) c1]),(b1,35,[i64 0,i64 0,i64 0,i64 0,.slice none 0 0])]++[(pb,31,cS mo po inp pj lj.length kj rd wr pv pn ln.length kn pq lq.length kq)])++((T++(Tq++(T1++([]))))++[])))) (fun w_ k_=>((mrest (A:=[(b2,35,[i64 10,i64 2,i64 0,i64 0,.slice p1 (([63,10]:List Int).length) c1]),(b1,35,[i64 0,i64 0,i64 0,i64 0,.slice none 0 0])]) (B:=[]) (T:=T++(Tq++(T1++([])))) (hO.tt:Ow Tryd.prog M w _ (([(b2,35,[i64 10,i64 2,i64 0,i64 0,.slice p1 (([63,10]:List Int).length) c1]),(b1,35,[i64 0,i64 0,i64 0,i64 0,.slice none 0 0])]++[(pb,31,cS mo po inp pj lj.length kj rd wr pv pn ln.length kn pq lq.length kq)])++((T++(Tq++(T1++([]))))++[]))) k_).b 0).vw (off:=0) (xs:=([⟨p1,c1,⟨10,2,0,0,[63,10]⟩⟩]:List PV)) (by kernel_rfl)) (by omega)).mono ?_))
   rintro en w5 ⟨rfl,p2,k1,T2,hT2,hW⟩
   refine ⟨_,rfl,?_⟩
   clear hA fr; intro fr hA
   replace hO:=Ow.pass2 (A:=[_,_]) hO hW; clear hW
   replace hO:Ow Tryd.prog M w w5 ([(b2,35,[i64 10,i64 2,i64 0,i64 0,.slice p1 (([63,10]:List Int).length) c1]),(b1,35,[i64 0,i64 0,i64 0,i64 0,.slice none 0 0]),(pb,31,(cS mo po inp pj lj.length kj rd wr pv pn ln.length kn p2 ((lq++([⟨p1,c1,⟨10,2,0,0,[63,10]⟩⟩]:List PV)).length) k1))]++(T++(Tq++(T1++(T2++([])))))):=hO.to (by first | rfl | (simp only [TP,apd]))
   have hcp_:(lq++([⟨p1,c1,⟨10,2,0,0,[63,10]⟩⟩]:List PV)).length<=k1:=hT2.le
   refine end_ops ?_
   refine then_normal ?_
   refine sr 20 ?_
   refine Kb 7 [(22,pt pb),(23,pt pb),(24,pt pb),(25,pt pb),(28,.agg #[i64 mo,i64 po,str inp,.slice pj lj.length kj,i64 rd,i64 wr,i64 pv,.slice pn ln.length kn,.slice p2 ((lq++([⟨p1,c1,⟨10,2,0,0,[63,10]⟩⟩]:List PV)).length) k1])] hA [.agg #[i64 mo,i64 po,str inp,.slice pj lj.length kj,i64 rd,i64 wr,i64 pv,.slice pn ln.length kn,.slice p2 ((lq++([⟨p1,c1,⟨10,2,0,0,[63,10]⟩⟩]:List PV)).length) k1]] (cc (hO.ln 2 0 31 (cS mo po inp pj lj.length kj rd wr pv pn ln.length kn p2 ((lq++([⟨p1,c1,⟨10,2,0,0,[63,10]⟩⟩]:List PV)).length) k1)) c0) fun fr hA=>?_
   refine Mk 29 hA hO Tryd.func18 (commands_any mo po inp pj kj lj rd wr pv pn kn ln p2 k1 (lq++([⟨p1,c1,⟨10,2,0,0,[63,10]⟩⟩]:List PV)) _ (Holds'.at (A:=[(b2,35,[i64 10,i64 2,i64 0,i64 0,.slice p1 (([63,10]:List Int).length) c1]),(b1,35,[i64 0,i64 0,i64 0,i64 0,.slice none 0 0]),(pb,31,(cS mo po inp pj lj.length kj rd wr pv pn ln.length kn p2 ((lq++([⟨p1,c1,⟨10,2,0,0,[63,10]⟩⟩]:List PV)).length) k1))]) (B:=[]) (T:=T++(Tq++(T1++(T2++([]))))) (ok3 (T:=T++(Tq++(T1++(T2++([]))))) (x:=(⟨mo,po,inp,pj,kj,lj,rd,wr,pv,pn,kn,ln,p2,k1,lq++([⟨p1,c1,⟨10,2,0,0,[63,10]⟩⟩]:List PV)⟩:SV)) ((hG.mono fun _ h_=>h_.j).l) ((hG.mono fun _ h_=>h_.k).l) (pl_app (T:=T++(Tq++(T1++(T2++([]))))) (hT2.holds.l.r.r.r) ((Holds'.l (T':=T1++(T2++([]))) (hGq.mono fun _ h_=>h_.2)).to (by simp only [List.append_assoc])) (vp_one (x:=⟨p1,c1,⟨10,2,0,0,[63,10]⟩⟩) (hT1.holds.l.r.r) tell_u8))) (hO.to (by simp only [List.append_nil,List.append_assoc]):Ow Tryd.prog M w _ ([(b2,35,[i64 10,i64 2,i64 0,i64 0,.slice p1 (([63,10]:List Int).length) c1]),(b1,35,[i64 0,i64 0,i64 0,i64 0,.slice none 0 0]),(pb,31,(cS mo po inp pj lj.length kj rd wr pv pn ln.length kn p2 ((lq++([⟨p1,c1,⟨10,2,0,0,[63,10]⟩⟩]:List PV)).length) k1))]++(T++(Tq++(T1++(T2++([]))))++[]))).m)) fun fr w6 hA hO=>?_
   refine Ka 2 [(31,pf pb 4)] hA fun fr hA=>?_
   refine Ms 4 [i64 (-1)] 2 hA hO fun w7 hO=>?_
   refine Ka 2 [(33,pf pb 5)] hA fun fr hA=>?_
   refine Ms 5 [i64 (-1)] 2 hA hO fun w8 hO=>?_
   refine Ka 2 [(35,pf pb 6)] hA fun fr hA=>?_
   refine Ms 6 [i64 (-1)] 2 hA hO fun w9 hO=>?_
   refine Ka 2 [(37,pf pb 1)] hA fun fr hA=>?_
   refine Ms 1 [i64 ((nCmd (lj.map JV.d):Nat):Int)] 2 hA hO fun w10 hO=>?_
   refine end_ops ?_
   refine then_normal ?_
   refine sr 3 ?_
   refine Ka 1 [(38,pt pb)] hA fun fr hA=>?_
   replace hO:Ow Tryd.prog M w w10 ([(b2,35,[i64 10,i64 2,i64 0,i64 0,.slice p1 (([63,10]:List Int).length) c1]),(b1,35,[i64 0,i64 0,i64 0,i64 0,.slice none 0 0]),(pb,31,(cS mo ((nCmd (lj.map JV.d):Nat):Int) inp pj lj.length kj (-1) (-1) (-1) pn ln.length kn p2 ((lq++([⟨p1,c1,⟨10,2,0,0,[63,10]⟩⟩]:List PV)).length) k1))]++(T++(Tq++(T1++(T2++([])))))):=hO
   have hGm1:Holds' (((T++Tq)++T1)++T2) (SV.ok (⟨mo,((nCmd (lj.map JV.d):Nat):Int),inp,pj,kj,lj,(-1),(-1),(-1),pn,kn,ln,p2,k1,lq++([⟨p1,c1,⟨10,2,0,0,[63,10]⟩⟩]:List PV)⟩:SV)):=(ok3 (T:=T++(Tq++(T1++(T2++([]))))) (x:=(⟨mo,((nCmd (lj.map JV.d):Nat):Int),inp,pj,kj,lj,(-1),(-1),(-1),pn,kn,ln,p2,k1,lq++([⟨p1,c1,⟨10,2,0,0,[63,10]⟩⟩]:List PV)⟩:SV)) ((hG.mono fun _ h_=>h_.j).l) ((hG.mono fun _ h_=>h_.k).l) (pl_app (T:=T++(Tq++(T1++(T2++([]))))) (hT2.holds.l.r.r.r) ((Holds'.l (T':=T1++(T2++([]))) (hGq.mono fun _ h_=>h_.2)).to (by simp only [List.append_assoc])) (vp_one (x:=⟨p1,c1,⟨10,2,0,0,[63,10]⟩⟩) (hT1.holds.l.r.r) tell_u8))).tt
   replace hO:Ow Tryd.prog M w w10 ([(b2,35,[i64 10,i64 2,i64 0,i64 0,.slice p1 (([63,10]:List Int).length) c1]),(b1,35,[i64 0,i64 0,i64 0,i64 0,.slice none 0 0]),(pb,31,(cS mo ((nCmd (lj.map JV.d):Nat):Int) inp pj lj.length kj (-1) (-1) (-1) pn ln.length kn p2 ((lq++([⟨p1,c1,⟨10,2,0,0,[63,10]⟩⟩]:List PV)).length) k1))]++((((T++Tq)++T1)++T2)++([]))):=hO.to (by first | rfl | (simp only [TP,apd]))
   refine wpOps_cons' (mC (d:=(some 39)) hA Tryd.func27 ((proceed_any pb mo ((nCmd (lj.map JV.d):Nat):Int) inp pj kj lj (-1) (-1) (-1) pn kn ln p2 k1 (lq++([⟨p1,c1,⟨10,2,0,0,[63,10]⟩⟩]:List PV)) (((T++Tq)++T1)++T2) _ hGm1 (mself (A:=[_,_]) (hO.tt:Ow Tryd.prog M w _ (([(b2,35,[i64 10,i64 2,i64 0,i64 0,.slice p1 (([63,10]:List Int).length) c1]),(b1,35,[i64 0,i64 0,i64 0,i64 0,.slice none 0 0])]++[(pb,31,cS mo ((nCmd (lj.map JV.d):Nat):Int) inp pj lj.length kj (-1) (-1) (-1) pn ln.length kn p2 ((lq++([⟨p1,c1,⟨10,2,0,0,[63,10]⟩⟩]:List PV)).length) k1)])++((((T++Tq)++T1)++T2)++[])))) ⟨hm.i,hm.j,hm.k,(by show (lq++[_]).length<=_; rw [List.length_append]; show lq.length+1<=_; omega),hm.ck,hm.cj,hcp_⟩ hvl (fun w_ k_=>hE w_ (Ow.pan (A:=[_,_]) ((hO.tt:Ow Tryd.prog M w _ (([(b2,35,[i64 10,i64 2,i64 0,i64 0,.slice p1 (([63,10]:List Int).length) c1]),(b1,35,[i64 0,i64 0,i64 0,i64 0,.slice none 0 0])]++[(pb,31,cS mo ((nCmd (lj.map JV.d):Nat):Int) inp pj lj.length kj (-1) (-1) (-1) pn ln.length kn p2 ((lq++([⟨p1,c1,⟨10,2,0,0,[63,10]⟩⟩]:List PV)).length) k1)])++((((T++Tq)++T1)++T2)++[]))).tt) k_))).mono ?_))
   rintro en w11 ⟨⟨mo3,po3,inp3,pj3,kj3,lj3,rd3,wr3,pv3,pn3,kn3,ln3,pp3,kp3,lp3⟩,⟨xp_3,xc_3,xd_3⟩,T3,hr1,hsm3,hvl3,rfl,hW,hG1,hvx1⟩
   refine ⟨_,rfl,?_⟩
   clear hA fr; intro fr hA
   replace hO:=mcall (A:=[(b2,35,[i64 10,i64 2,i64 0,i64 0,.slice p1 (([63,10]:List Int).length) c1]),(b1,35,[i64 0,i64 0,i64 0,i64 0,.slice none 0 0])]) (B:=[]) (T:=(((T++Tq)++T1)++T2)) (Tn:=T3) (x':=(pb,31,cS mo3 po3 inp3 pj3 lj3.length kj3 rd3 wr3 pv3 pn3 ln3.length kn3 pp3 lp3.length kp3)) (hO.to (by simp only [List.append_assoc,List.cons_append,List.nil_append]):Ow Tryd.prog M w _ (([(b2,35,[i64 10,i64 2,i64 0,i64 0,.slice p1 (([63,10]:List Int).length) c1]),(b1,35,[i64 0,i64 0,i64 0,i64 0,.slice none 0 0])]++[(pb,31,cS mo ((nCmd (lj.map JV.d):Nat):Int) inp pj lj.length kj (-1) (-1) (-1) pn ln.length kn p2 ((lq++([⟨p1,c1,⟨10,2,0,0,[63,10]⟩⟩]:List PV)).length) k1)])++((((T++Tq)++T1)++T2)++[]))) hW; clear hW
   refine Ms 0 [i64 xd_3.call,i64 xd_3.a0,i64 xd_3.a1,i64 xd_3.a2,.slice xp_3 xd_3.data.length xc_3] 1 hA hO fun w12 hO=>?_
   refine end_ops ?_
   refine then_normal ?_
   refine wp_ret ?_
   refine cR (cs:=[some (⟨b1,0,none⟩,35)]) (us:=[.agg #[i64 xd_3.call,i64 xd_3.a0,i64 xd_3.a1,i64 xd_3.a2,.slice xp_3 xd_3.data.length xc_3]]) hA [.agg #[i64 xd_3.call,i64 xd_3.a0,i64 xd_3.a1,i64 xd_3.a2,.slice xp_3 xd_3.data.length xc_3]] ⟨(hO.ln 1 0 35 [i64 xd_3.call,i64 xd_3.a0,i64 xd_3.a1,i64 xd_3.a2,.slice xp_3 xd_3.data.length xc_3]),trivial⟩ ?_
   exact ⟨(⟨mo3,po3,inp3,pj3,kj3,lj3,rd3,wr3,pv3,pn3,kn3,ln3,pp3,kp3,lp3⟩:SV),⟨xp_3,xc_3,xd_3⟩,(Tq++(T1++(T2++(T3++([]))))),(by have q_:=hr1; unfold upS; rw [← q_]; unfold SV.d; simp only [List.map_append,hdq]; rfl),hsm3,hvl3,rfl,(show Ow Tryd.prog M w _ ((pb,31,cS mo3 po3 inp3 pj3 lj3.length kj3 rd3 wr3 pv3 pn3 ln3.length kn3 pp3 lp3.length kp3)::(T++(Tq++(T1++(T2++(T3++([]))))))) from ((Ow.subP (A:=[_,_,_]) hO (.cons _ (.cons _ (.cons_cons _ .slnil))))).tt),((ok3 (T:=((((T++Tq)++T1)++T2)++T3)++([])) (x:=(⟨mo3,po3,inp3,pj3,kj3,lj3,rd3,wr3,pv3,pn3,kn3,ln3,pp3,kp3,lp3⟩:SV)) ((hG1.mono fun _ h_=>h_.j).l) ((hG1.mono fun _ h_=>h_.k).l) ((hG1.mono fun _ h_=>h_.p).l)).tt),(hvx1).tt⟩
 have hS:=hO.pk [0]
 refine rT (.q 0 (.q 1 (.q 2 (.q 3 (.q 5 (.q 6 (.q 7 (.q 9 (.q 10 (.q 11 (.m 4 (.m 8 (.m 12 (.m 13 (.m 14 .fin .non) .non) .non) (.m 12 (.m 8 (.m 13 (.m 14 .fin .non) .non) .non) .non)) (.m 8 (.m 4 (.m 12 (.m 13 (.m 14 .fin .non) .non) .non) (.m 12 (.m 4 (.m 13 (.m 14 .fin .non) .non) .non) .non)) (.m 12 (.m 4 (.m 8 (.m 13 (.m 14 .fin .non) .non) .non) (.m 8 (.m 4 (.m 13 (.m 14 .fin .non) .non) .non) .non)) .non))))))))))))) hS ?_
 intro w13 ho; replace hO:=hO.st ho; clear ho
 refine tree_let (t1:= .m 12 (.m 13 (.m 14 .fin .non) .non) .non) (fun fr W=>Holds 40 [] fr [(0,pt pb),(2,pt b1),(3,pt pb),(7,i64 pv),(11,i64 rd),(14,pf pb 5)]/\Ow Tryd.prog M w W ([(b1,35,[i64 0,i64 0,i64 0,i64 0,.slice none 0 0]),(pb,31,(cS mo po inp pj lj.length kj rd wr pv pn ln.length kn pp lp.length kp))]++(T++([])))/\True) ?_ ?_
 · rintro fr w14 ⟨hA,hO,-⟩
   refine tree_mem ?_ ?_
   · refine (Qc [(15,i64 wr)] hA [i64 wr] (cc (hO.l1 1 5 3 (i64 wr)) c0) fun fr hA=>?_)
     refine ⟨(hO.sub [0]),?_⟩
     refine tree_mem ?_ ?_
     · refine (mN (l:=[i64 pv,i64 rd,i64 wr]) (t:=3) (v:=fun b=> .slice (some ⟨b,0,none⟩) 3 3) (d:=16) hA hO fun fr w15 b3 hA hO=>?_)
       refine ⟨(hO.sub [1]),?_⟩
       refine tree_mem ?_ ?_
       · replace hO:Ow Tryd.prog M w w15 ([(b3,3,[i64 pv,i64 rd,i64 wr]),(b1,35,[i64 0,i64 0,i64 0,i64 0,.slice none 0 0]),(pb,31,(cS mo po inp pj lj.length kj rd wr pv pn ln.length kn pp lp.length kp))]++(T++([]))):=hO
         refine (mC (d:=(some 17)) hA Tryd.func43 ((shut_any pb mo po inp pj kj lj rd wr pv pn kn ln pp kp lp T ⟨b3,0,none⟩ 3 [pv,rd,wr] _ hG (mself (A:=[_,_]) (hO.tt:Ow Tryd.prog M w _ (([(b3,3,[i64 pv,i64 rd,i64 wr]),(b1,35,[i64 0,i64 0,i64 0,i64 0,.slice none 0 0])]++[(pb,31,cS mo po inp pj lj.length kj rd wr pv pn ln.length kn pp lp.length kp)])++(T++[])))) (fun w_ k_=>((mrestT (A:=[_,_]) (hO.tt:Ow Tryd.prog M w _ (([(b3,3,[i64 pv,i64 rd,i64 wr]),(b1,35,[i64 0,i64 0,i64 0,i64 0,.slice none 0 0])]++[(pb,31,cS mo po inp pj lj.length kj rd wr pv pn ln.length kn pp lp.length kp)])++(T++[]))) k_).b 0).vw (off:=0) (xs:=[pv,rd,wr]) (by kernel_rfl)) (by omega) (Nat.le_of_ble_eq_true (by kernel_rfl)) hm.cp).mono ?_))
         rintro en w16 ⟨rfl,p3,k2,lq1,T4,hd1,hcq1,hlq1,hW,hGq1⟩
         refine ⟨_,rfl,?_⟩
         clear hA fr; intro fr hA
         replace hO:=mcall (A:=[_,_]) hO hW; clear hW
         refine ⟨(hO.sub [1]),?_⟩
         refine tree_fin ?_
         refine then_normal ?_
         exact ⟨p3,k2,lq1,T4,hA.sb,(Ow.subP (A:=[_,_,_]) hO (.cons _ (.cons_cons _ (.cons_cons _ .slnil)))),hd1,hcq1,hlq1,hGq1,trivial⟩
       exact trivial
     exact trivial
   exact trivial
 intro ht1
 refine tree_let (t1:= .m 8 (.m 13 (.m 14 .fin .non) .non) .non) (fun fr W=>Holds 40 [] fr [(0,pt pb),(2,pt b1),(3,pt pb),(7,i64 pv),(10,pf pb 4),(15,i64 wr)]/\Ow Tryd.prog M w W ([(b1,35,[i64 0,i64 0,i64 0,i64 0,.slice none 0 0]),(pb,31,(cS mo po inp pj lj.length kj rd wr pv pn ln.length kn pp lp.length kp))]++(T++([])))/\True) ?_ ?_
 · rintro fr w17 ⟨hA,hO,-⟩
   refine tree_mem ?_ ?_
   · refine (Qc [(11,i64 rd)] hA [i64 rd] (cc (hO.l1 1 4 3 (i64 rd)) c0) fun fr hA=>?_)
     refine ⟨(hO.sub [0]),?_⟩
     refine tree_mem ?_ ?_
     · refine (mN (l:=[i64 pv,i64 rd,i64 wr]) (t:=3) (v:=fun b=> .slice (some ⟨b,0,none⟩) 3 3) (d:=16) hA hO fun fr w18 b4 hA hO=>?_)
       refine ⟨(hO.sub [1]),?_⟩
       refine tree_mem ?_ ?_
       · replace hO:Ow Tryd.prog M w w18 ([(b4,3,[i64 pv,i64 rd,i64 wr]),(b1,35,[i64 0,i64 0,i64 0,i64 0,.slice none 0 0]),(pb,31,(cS mo po inp pj lj.length kj rd wr pv pn ln.length kn pp lp.length kp))]++(T++([]))):=hO
         refine (mC (d:=(some 17)) hA Tryd.func43 ((shut_any pb mo po inp pj kj lj rd wr pv pn kn ln pp kp lp T ⟨b4,0,none⟩ 3 [pv,rd,wr] _ hG (mself (A:=[_,_]) (hO.tt:Ow Tryd.prog M w _ (([(b4,3,[i64 pv,i64 rd,i64 wr]),(b1,35,[i64 0,i64 0,i64 0,i64 0,.slice none 0 0])]++[(pb,31,cS mo po inp pj lj.length kj rd wr pv pn ln.length kn pp lp.length kp)])++(T++[])))) (fun w_ k_=>((mrestT (A:=[_,_]) (hO.tt:Ow Tryd.prog M w _ (([(b4,3,[i64 pv,i64 rd,i64 wr]),(b1,35,[i64 0,i64 0,i64 0,i64 0,.slice none 0 0])]++[(pb,31,cS mo po inp pj lj.length kj rd wr pv pn ln.length kn pp lp.length kp)])++(T++[]))) k_).b 0).vw (off:=0) (xs:=[pv,rd,wr]) (by kernel_rfl)) (by omega) (Nat.le_of_ble_eq_true (by kernel_rfl)) hm.cp).mono ?_))
         rintro en w19 ⟨rfl,p4,k3,lq2,T5,hd2,hcq2,hlq2,hW,hGq2⟩
         refine ⟨_,rfl,?_⟩
         clear hA fr; intro fr hA
         replace hO:=mcall (A:=[_,_]) hO hW; clear hW
         refine ⟨(hO.sub [1]),?_⟩
         refine tree_fin ?_
         refine then_normal ?_
         exact ⟨p4,k3,lq2,T5,hA.sb,(Ow.subP (A:=[_,_,_]) hO (.cons _ (.cons_cons _ (.cons_cons _ .slnil)))),hd2,hcq2,hlq2,hGq2,trivial⟩
       exact trivial
     exact trivial
   exact trivial
 intro ht2
 refine tree_let (t1:= .m 4 (.m 13 (.m 14 .fin .non) .non) .non) (fun fr W=>Holds 40 [] fr [(0,pt pb),(2,pt b1),(3,pt pb),(6,pf pb 6),(11,i64 rd),(15,i64 wr)]/\Ow Tryd.prog M w W ([(b1,35,[i64 0,i64 0,i64 0,i64 0,.slice none 0 0]),(pb,31,(cS mo po inp pj lj.length kj rd wr pv pn ln.length kn pp lp.length kp))]++(T++([])))/\True) ?_ ?_
 · rintro fr w20 ⟨hA,hO,-⟩
   refine tree_mem ?_ ?_
   · refine (Qc [(7,i64 pv)] hA [i64 pv] (cc (hO.l1 1 6 3 (i64 pv)) c0) fun fr hA=>?_)
     refine ⟨(hO.sub [0]),?_⟩
     refine tree_mem ?_ ?_
     · refine (mN (l:=[i64 pv,i64 rd,i64 wr]) (t:=3) (v:=fun b=> .slice (some ⟨b,0,none⟩) 3 3) (d:=16) hA hO fun fr w21 b5 hA hO=>?_)
       refine ⟨(hO.sub [1]),?_⟩
       refine tree_mem ?_ ?_
       · replace hO:Ow Tryd.prog M w w21 ([(b5,3,[i64 pv,i64 rd,i64 wr]),(b1,35,[i64 0,i64 0,i64 0,i64 0,.slice none 0 0]),(pb,31,(cS mo po inp pj lj.length kj rd wr pv pn ln.length kn pp lp.length kp))]++(T++([]))):=hO
         refine (mC (d:=(some 17)) hA Tryd.func43 ((shut_any pb mo po inp pj kj lj rd wr pv pn kn ln pp kp lp T ⟨b5,0,none⟩ 3 [pv,rd,wr] _ hG (mself (A:=[_,_]) (hO.tt:Ow Tryd.prog M w _ (([(b5,3,[i64 pv,i64 rd,i64 wr]),(b1,35,[i64 0,i64 0,i64 0,i64 0,.slice none 0 0])]++[(pb,31,cS mo po inp pj lj.length kj rd wr pv pn ln.length kn pp lp.length kp)])++(T++[])))) (fun w_ k_=>((mrestT (A:=[_,_]) (hO.tt:Ow Tryd.prog M w _ (([(b5,3,[i64 pv,i64 rd,i64 wr]),(b1,35,[i64 0,i64 0,i64 0,i64 0,.slice none 0 0])]++[(pb,31,cS mo po inp pj lj.length kj rd wr pv pn ln.length kn pp lp.length kp)])++(T++[]))) k_).b 0).vw (off:=0) (xs:=[pv,rd,wr]) (by kernel_rfl)) (by omega) (Nat.le_of_ble_eq_true (by kernel_rfl)) hm.cp).mono ?_))
         rintro en w22 ⟨rfl,p5,k4,lq3,T6,hd3,hcq3,hlq3,hW,hGq3⟩
         refine ⟨_,rfl,?_⟩
         clear hA fr; intro fr hA
         replace hO:=mcall (A:=[_,_]) hO hW; clear hW
         refine ⟨(hO.sub [1]),?_⟩
         refine tree_fin ?_
         refine then_normal ?_
         exact ⟨p5,k4,lq3,T6,hA.sb,(Ow.subP (A:=[_,_,_]) hO (.cons _ (.cons_cons _ (.cons_cons _ .slnil)))),hd3,hcq3,hlq3,hGq3,trivial⟩
       exact trivial
     exact trivial
   exact trivial
 intro ht3
 refine Kt [0,1,2,3,5,6,7,9,10,11] [(3,pt pb),(6,pf pb 6),(10,pf pb 4),(14,pf pb 5)] hA [] c0 fun fr hA=>?_
 refine tree_mem ?_ ?_
 · refine (Qc [(7,i64 pv)] hA [i64 pv] (cc (hO.l1 1 6 3 (i64 pv)) c0) fun fr hA=>?_)
   refine ⟨(hO.sub [0]),?_⟩
   refine tree_mem ?_ ?_
   · refine (Qc [(11,i64 rd)] hA [i64 rd] (cc (hO.l1 1 4 3 (i64 rd)) c0) fun fr hA=>?_)
     refine ⟨(hO.sub [0]),?_⟩
     exact ht1 _ _ ⟨hA.sb,hO.tt,trivial⟩
   refine tree_mem ?_ ?_
   · refine (Qc [(15,i64 wr)] hA [i64 wr] (cc (hO.l1 1 5 3 (i64 wr)) c0) fun fr hA=>?_)
     refine ⟨(hO.sub [0]),?_⟩
     exact ht2 _ _ ⟨hA.sb,hO.tt,trivial⟩
   exact trivial
 refine tree_mem ?_ ?_
 · refine (Qc [(11,i64 rd)] hA [i64 rd] (cc (hO.l1 1 4 3 (i64 rd)) c0) fun fr hA=>?_)
   refine ⟨(hO.sub [0]),?_⟩
   refine tree_mem ?_ ?_
   · refine (Qc [(7,i64 pv)] hA [i64 pv] (cc (hO.l1 1 6 3 (i64 pv)) c0) fun fr hA=>?_)
     refine ⟨(hO.sub [0]),?_⟩
     exact ht1 _ _ ⟨hA.sb,hO.tt,trivial⟩
   refine tree_mem ?_ ?_
   · refine (Qc [(15,i64 wr)] hA [i64 wr] (cc (hO.l1 1 5 3 (i64 wr)) c0) fun fr hA=>?_)
     refine ⟨(hO.sub [0]),?_⟩
     exact ht3 _ _ ⟨hA.sb,hO.tt,trivial⟩
   exact trivial
 refine tree_mem ?_ ?_
 · refine (Qc [(15,i64 wr)] hA [i64 wr] (cc (hO.l1 1 5 3 (i64 wr)) c0) fun fr hA=>?_)
   refine ⟨(hO.sub [0]),?_⟩
   refine tree_mem ?_ ?_
   · refine (Qc [(7,i64 pv)] hA [i64 pv] (cc (hO.l1 1 6 3 (i64 pv)) c0) fun fr hA=>?_)
     refine ⟨(hO.sub [0]),?_⟩
     exact ht2 _ _ ⟨hA.sb,hO.tt,trivial⟩
   refine tree_mem ?_ ?_
   · refine (Qc [(11,i64 rd)] hA [i64 rd] (cc (hO.l1 1 4 3 (i64 rd)) c0) fun fr hA=>?_)
     refine ⟨(hO.sub [0]),?_⟩
     exact ht3 _ _ ⟨hA.sb,hO.tt,trivial⟩
   exact trivial
 exact trivial
end Go.Proofs.YtdljjajjonfjbaaDoor
