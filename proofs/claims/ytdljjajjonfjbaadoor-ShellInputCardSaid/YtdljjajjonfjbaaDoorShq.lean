import Derived.Test.YtdljjajjonfjbaaDoorShp
import Derived.Test.YtdljjajjonfjbaaDoorShStore
import Derived.Test.YtdljjajjonfjbaaDoorSn
set_option linter.unusedVariables false
set_option linter.unusedSimpArgs false
set_option maxRecDepth 10000
namespace Go.Proofs.YtdljjajjonfjbaaDoor
open Go Go.Shelf Go.RowKit Go.Proofs Go.Proofs.Sx
theorem child_neg (pb:Nat) (mo po:Int) (inp:ByteArray) (pj:Option Addr) (kj:Nat) (lj:List JV) (rd wr pv:Int) (pn:Option Addr) (kn:Nat) (ln:List Int) (ap:Addr) (kp:Nat) (qp:Option Addr) (qc:Nat) (qd:CallL) (rp:List PV) (T:OwL) (result:Int) (w:World) (hG:Holds' T (SV.ok (⟨mo,po,inp,pj,kj,lj,rd,wr,pv,pn,kn,ln,some ap,kp,((⟨qp,qc,qd⟩:PV)::rp)⟩:SV))) (h0:Ow Tryd.prog (inT ((pb,31,cS mo po inp pj lj.length kj rd wr pv pn ln.length kn (some ap) (((⟨qp,qc,qd⟩:PV)::rp).length) kp)::T)) w w ((pb,31,cS mo po inp pj lj.length kj rd wr pv pn ln.length kn (some ap) (((⟨qp,qc,qd⟩:PV)::rp).length) kp)::T)) (hm:SV.sm (⟨mo,po,inp,pj,kj,lj,rd,wr,pv,pn,kn,ln,some ap,kp,((⟨qp,qc,qd⟩:PV)::rp)⟩:SV)) (hvl:validL (lj.map JV.d)=true) (hrp:rp.length<=100) (hr:result < 0) (h10 : ¬ qd.call=10) :
    Calls Tryd.prog 33 #[pt pb,i64 result] w fun e w'=>∃ (v:SV) (x:PV) (Tn:OwL),childS (SV.d (⟨mo,po,inp,pj,kj,lj,rd,wr,pv,pn,kn,ln,some ap,kp,((⟨qp,qc,qd⟩:PV)::rp)⟩:SV)) result=(v.d,x.d)/\v.sm/\validL (v.lj.map JV.d)=true/\e = .returned (.agg #[i64 x.d.call,i64 x.d.a0,i64 x.d.a1,i64 x.d.a2,.slice x.p x.d.data.length x.c])/\Ow Tryd.prog (inT ((pb,31,cS mo po inp pj lj.length kj rd wr pv pn ln.length kn (some ap) (((⟨qp,qc,qd⟩:PV)::rp).length) kp)::T)) w w' ((pb,31,v.cells)::(T++Tn))/\Holds' (T++Tn) v.ok/\Holds' (T++Tn) (fun w=>VP w x):=by
 refine c_enter (args:=[pt pb,i64 result]) (m:=81) (n:=83) Tryd.func33 rfl (by kernel_rfl) (by kernel_rfl) fun fr hA=>?_
 generalize inT ((pb,31,cS mo po inp pj lj.length kj rd wr pv pn ln.length kn (some ap) (((⟨qp,qc,qd⟩:PV)::rp).length) kp)::T)=M at *
 have hO:Ow Tryd.prog M w w ([(pb,31,(cS mo po inp pj lj.length kj rd wr pv pn ln.length kn (some ap) (((⟨qp,qc,qd⟩:PV)::rp).length) kp))]++(T++([]))):=h0.to (by first | rfl | first | rfl | (simp only [TP,apd]))
 have hlq_ : 0 < ((⟨qp,qc,qd⟩:PV)::rp).length:=Nat.zero_lt_succ _
 have hlr_:((⟨qp,qc,qd⟩:PV)::rp).length=rp.length+1:=rfl
 refine sr 1 ?_
 refine Mn [i64 0,i64 0,i64 0,i64 0,.slice none 0 0] 35 4 hA hO fun fr w1 b1 hA hO=>?_
 refine end_ops ?_
 refine then_normal ?_
 refine sr 6 ?_
 refine Kb 4 [(10,.slice (some ap) (((⟨qp,qc,qd⟩:PV)::rp).length) kp)] hA [.slice (some ap) (((⟨qp,qc,qd⟩:PV)::rp).length) kp] (cc (hO.l1 1 8 29 (.slice (some ap) (((⟨qp,qc,qd⟩:PV)::rp).length) kp)) c0) fun fr hA=>?_
 refine wpOps_cons' (mC (d:=(some 11)) hA Tryd.func25 ((clonep_any (some ap) kp ((⟨qp,qc,qd⟩:PV)::rp) _ (Holds'.at (A:=[_,_]) hG hO.m).p.1 (by show List.length _<=_; omega)).mono ?_))
 rintro en w2 ⟨pq,kq,Tq,rfl,h1q,hW⟩
 refine ⟨_,rfl,?_⟩
 obtain ⟨aq,rfl⟩:=(One.vw h1q (A:=[]) (B:=[]) (hW.to (List.append_nil _).symm).m).pos (Nat.zero_lt_succ _)
 clear hA fr; intro fr hA
 replace hO:=Ow.join hO hW; clear hW
 refine Ka 1 [(5,.slice (some aq) (((⟨qp,qc,qd⟩:PV)::rp).length) kq)] hA fun fr hA=>?_
 refine end_ops ?_
 refine then_normal ?_
 refine wp_seq ?_
 refine sr 9 ?_
 refine Ka 3 [(13,bl (decide (result < 0))),(14,bl (decide (result < 0)))] hA fun fr hA=>?_
 rw [(decide_eq_true hr:(decide (result < 0))=true)] at hA
 refine Kb 6 [(20,bl (qd.call != 10))] hA [i64 qd.call] (cc (⟨by omega,by omega⟩:(0:Int)<=0/\0 < ((((⟨qp,qc,qd⟩:PV)::rp).length:Nat):Int)) (cc ((((Holds'.at (A:=[_,_]) (Q:=fun w_=>PL w_ (.slice (some aq) ((⟨qp,qc,qd⟩:PV)::rp).length kq) ((⟨qp,qc,qd⟩:PV)::rp)) (Holds'.and (h1q.holds.l.r) ((hG.mono fun _ h_=>h_.p.2).l)) (hO.tt:Ow Tryd.prog M w _ ([(b1,35,[i64 0,i64 0,i64 0,i64 0,.slice none 0 0]),(pb,31,(cS mo po inp pj lj.length kj rd wr pv pn ln.length kn (some ap) (((⟨qp,qc,qd⟩:PV)::rp).length) kp))]++(T++(Tq++([]))++[]))).m).1).ld0 encP (rfl:(((⟨qp,qc,qd⟩:PV)::rp):List PV)[0]? = some ⟨qp,qc,qd⟩) (by rfl)):Ld Tryd.prog w2 (aq.add 0) 3 (i64 qd.call)) c0)) fun fr hA=>?_
 refine end_ops ?_
 refine then_normal ?_
 rw [(bne_iff_ne.2 h10:(qd.call != 10)=true)] at hA
 refine cT hA ?_
 refine sr 8 ?_
 refine Ka 1 [(21,pt pb)] hA fun fr hA=>?_
 refine wpOps_cons' (mC (d:=(some 22)) hA Tryd.func45 ((telling_any _).mono ?_))
 rintro en w3 ⟨p1,c1,T1,rfl,hT1,hW⟩
 refine ⟨_,rfl,?_⟩
 clear hA fr; intro fr hA
 replace hO:=Ow.join hO hW; clear hW
 replace hO:Ow Tryd.prog M w _ ([(b1,35,[i64 0,i64 0,i64 0,i64 0,.slice none 0 0]),(pb,31,(cS mo po inp pj lj.length kj rd wr pv pn ln.length kn (some ap) (((⟨qp,qc,qd⟩:PV)::rp).length) kp))]++(T++(Tq++(T1++([]))))):=hO.to (by first | rfl | (simp only [TP,apd]))
 refine Mv [i64 127] 3 1 23 hA hO fun fr w4 b2 hA hO=>?_
 refine Mk 24 hA hO Tryd.func12 (call_1 0 127 ⟨b2,0,none⟩ 1 _ ((hO.b 0).vw (off:=0) (xs:=[127]) (by kernel_rfl))) fun fr w5 hA hO=>?_
 refine Mv [i64 10,i64 2,i64 0,i64 0,.slice p1 (([63,10]:List Int).length) c1,i64 0,i64 127,i64 0,i64 0,.slice none 0 0] 35 2 25 hA hO fun fr w6 b3 hA hO=>?_
 refine Ka 2 [(27,pf pb 8)] hA fun fr hA=>?_
 refine Ms 8 [.slice (some ⟨b3,0,none⟩) 2 2] 3 hA hO fun w7 hO=>?_
 refine end_ops ?_
 refine then_normal ?_
 refine sr 7 ?_
 refine Kb 6 [(33,.agg #[i64 10,i64 2,i64 0,i64 0,.slice p1 (([63,10]:List Int).length) c1])] hA [.slice (some ⟨b3,0,none⟩) 2 2,.agg #[i64 10,i64 2,i64 0,i64 0,.slice p1 (([63,10]:List Int).length) c1]] (cc (hO.l1 3 8 29 (.slice (some ⟨b3,0,none⟩) 2 2)) (cc (⟨by omega,by omega⟩:(0:Int)<=0/\0 < ((2:Nat):Int)) (cc (hO.ln 0 0 35 [i64 10,i64 2,i64 0,i64 0,.slice p1 (([63,10]:List Int).length) c1]) c0))) fun fr hA=>?_
 refine Ms 0 [i64 10,i64 2,i64 0,i64 0,.slice p1 (([63,10]:List Int).length) c1] 2 hA hO fun w8 hO=>?_
 refine end_ops ?_
 refine then_normal ?_
 refine wp_ret ?_
 refine then_ret ?_
 refine cR (cs:=[some (⟨b1,0,none⟩,35)]) (us:=[.agg #[i64 10,i64 2,i64 0,i64 0,.slice p1 (([63,10]:List Int).length) c1]]) hA [.agg #[i64 10,i64 2,i64 0,i64 0,.slice p1 (([63,10]:List Int).length) c1]] ⟨(hO.ln 2 0 35 [i64 10,i64 2,i64 0,i64 0,.slice p1 (([63,10]:List Int).length) c1]),trivial⟩ ?_
 replace hO:Ow Tryd.prog M w w8 ([(b3,35,[i64 10,i64 2,i64 0,i64 0,.slice p1 (([63,10]:List Int).length) c1,i64 0,i64 127,i64 0,i64 0,.slice none 0 0]),(b2,3,[i64 127]),(b1,35,[i64 10,i64 2,i64 0,i64 0,.slice p1 (([63,10]:List Int).length) c1]),(pb,31,(cS mo po inp pj lj.length kj rd wr pv pn ln.length kn (some ⟨b3,0,none⟩) 2 2))]++(T++(Tq++(T1++([]))))):=hO
 have hT2:One fP 35 5 (some ⟨b3,0,none⟩) 2 ([⟨p1,c1,⟨10,2,0,0,[63,10]⟩⟩,⟨none,0,⟨0,127,0,0,[]⟩⟩]:List PV) [(b3,35,[i64 10,i64 2,i64 0,i64 0,.slice p1 (([63,10]:List Int).length) c1,i64 0,i64 127,i64 0,i64 0,.slice none 0 0])]:=One.ofBlk (r:=[]) (by kernel_rfl) (by first | decide | simp) (by decide) (by kernel_rfl)
 replace hO:=Ow.move (A:=[]) hO
 replace hO:=moveL (A:=[(b2,3,[i64 127]),(b1,35,[i64 10,i64 2,i64 0,i64 0,.slice p1 (([63,10]:List Int).length) c1]),(pb,31,(cS mo po inp pj lj.length kj rd wr pv pn ln.length kn (some ⟨b3,0,none⟩) 2 2))]) (x:=(b3,35,[i64 10,i64 2,i64 0,i64 0,.slice p1 (([63,10]:List Int).length) c1,i64 0,i64 127,i64 0,i64 0,.slice none 0 0])) (B:=T) (C:=Tq++(T1++([]))) hO
 replace hO:Ow Tryd.prog M w _ ([(b2,3,[i64 127]),(b1,35,[i64 10,i64 2,i64 0,i64 0,.slice p1 (([63,10]:List Int).length) c1]),(pb,31,(cS mo po inp pj lj.length kj rd wr pv pn ln.length kn (some ⟨b3,0,none⟩) 2 2))]++(T++(Tq++(T1++([(b3,35,[i64 10,i64 2,i64 0,i64 0,.slice p1 (([63,10]:List Int).length) c1,i64 0,i64 127,i64 0,i64 0,.slice none 0 0])]++([])))))):=hO.to (by simp only [List.append_assoc,List.append_nil,List.nil_append])
 replace hO:Ow Tryd.prog M w w8 ([(b2,3,[i64 127]),(b1,35,[i64 10,i64 2,i64 0,i64 0,.slice p1 (([63,10]:List Int).length) c1]),(pb,31,(cS mo po inp pj lj.length kj rd wr pv pn ln.length kn (some ⟨b3,0,none⟩) (([⟨p1,c1,⟨10,2,0,0,[63,10]⟩⟩,⟨none,0,⟨0,127,0,0,[]⟩⟩]:List PV).length) 2))]++(T++(Tq++(T1++([(b3,35,[i64 10,i64 2,i64 0,i64 0,.slice p1 (([63,10]:List Int).length) c1,i64 0,i64 127,i64 0,i64 0,.slice none 0 0])]++([])))))):=hO
 exact ⟨(⟨mo,po,inp,pj,kj,lj,rd,wr,pv,pn,kn,ln,some ⟨b3,0,none⟩,2,([⟨p1,c1,⟨10,2,0,0,[63,10]⟩⟩,⟨none,0,⟨0,127,0,0,[]⟩⟩]:List PV)⟩:SV),⟨p1,c1,tellL⟩,(Tq++(T1++([(b3,35,[i64 10,i64 2,i64 0,i64 0,.slice p1 (([63,10]:List Int).length) c1,i64 0,i64 127,i64 0,i64 0,.slice none 0 0])]++([])))),(by unfold childS childP; rw [if_pos ⟨hr,h10⟩]; rfl),⟨hm.i,hm.j,hm.k,(by show (2:Nat)<=_; omega),hm.ck,hm.cj,hT2.le⟩,hvl,rfl,(show Ow Tryd.prog M w _ ((pb,31,cS mo po inp pj lj.length kj rd wr pv pn ln.length kn (some ⟨b3,0,none⟩) (([⟨p1,c1,⟨10,2,0,0,[63,10]⟩⟩,⟨none,0,⟨0,127,0,0,[]⟩⟩]:List PV).length) 2)::(T++(Tq++(T1++([(b3,35,[i64 10,i64 2,i64 0,i64 0,.slice p1 (([63,10]:List Int).length) c1,i64 0,i64 127,i64 0,i64 0,.slice none 0 0])]++([])))))) from ((Ow.subP (A:=[_,_,_]) hO (.cons _ (.cons _ (.cons_cons _ .slnil))))).tt),((ok3 (T:=T++(Tq++(T1++([(b3,35,[i64 10,i64 2,i64 0,i64 0,.slice p1 (([63,10]:List Int).length) c1,i64 0,i64 127,i64 0,i64 0,.slice none 0 0])]++([]))))) (x:=(⟨mo,po,inp,pj,kj,lj,rd,wr,pv,pn,kn,ln,some ⟨b3,0,none⟩,2,([⟨p1,c1,⟨10,2,0,0,[63,10]⟩⟩,⟨none,0,⟨0,127,0,0,[]⟩⟩]:List PV)⟩:SV)) ((hG.mono fun _ h_=>h_.j).l) ((hG.mono fun _ h_=>h_.k).l) (Holds'.and (hT2.holds.l.r.r.r) (vp_app (l1:=[⟨p1,c1,tellL⟩]) (l2:=[⟨none,0,callL 0 127 0⟩]) (vp_one (x:=⟨p1,c1,tellL⟩) (hT1.holds.l.r.r) tell_u8) (fun _ _ _ _=>bare_vp (bare_one _ _ _ _) _)))).tt),(show Holds' (T++(Tq++(T1++([(b3,35,[i64 10,i64 2,i64 0,i64 0,.slice p1 (([63,10]:List Int).length) c1,i64 0,i64 127,i64 0,i64 0,.slice none 0 0])]++([]))))) (fun w_=>VP w_ ⟨p1,c1,tellL⟩) from ((vp_app (l1:=[⟨p1,c1,tellL⟩]) (l2:=[⟨none,0,callL 0 127 0⟩]) (vp_one (x:=⟨p1,c1,tellL⟩) (hT1.holds.l.r.r) tell_u8) (fun _ _ _ _=>bare_vp (bare_one _ _ _ _) _)).mono fun _ h_=>h_ _ List.mem_cons_self)).tt⟩
def fixP (r:Int) (x:PV):PV:=if x.d.a0 = -1 then ⟨x.p,x.c,{x.d with a0:=r % 8}⟩ else x
def fixK (r:Int):Nat->List PV->List PV
  | k+1,y::l=>fixP r y::fixK r k l
  | _,l=>l
theorem fixP_d (r:Int) (x:PV):(fixP r x).d=fix1 r x.d:=by unfold fixP fix1; split <;> rfl
theorem fixK_2 (r:Int) (l:List PV):(fixK r 2 l).map PV.d=fixL r (l.map PV.d):=by
 match l with
 | []=>rfl
 | [a]=>simp only [fixK,List.map_cons,List.map_nil,fixL,fixP_d]
 | a::b::l=>simp only [fixK,List.map_cons,fixL,fixP_d]
theorem fixK_all (r:Int) : ∀ (k:Nat) (l:List PV),l.length<=k->fixK r (k+1) l=fixK r k l
  | 0,[],_=>rfl
  | 0,_::_,h=>by simp at h
  | k+1,[],_=>rfl
  | k+1,y::l,h=>by simp only [fixK]; rw [← fixK_all r k l (by simpa using h)]
theorem fixK_len (r:Int) : ∀ (k:Nat) (l:List PV),(fixK r k l).length=l.length
  | 0,_=>rfl
  | _+1,[]=>rfl
  | k+1,y::l=>by simp only [fixK,List.length_cons,fixK_len r k l]
theorem fixK_at {r:Int} {x:PV} : ∀ {k:Nat} {l:List PV},l[k]? = some x->(fixK r k l)[k]? = some x
  | 0,_,h=>h
  | k+1,[],h=>by simp at h
  | k+1,y::l,h=>by
    simp only [fixK]
    rw [List.getElem?_cons_succ] at h ⊢
    exact fixK_at h
theorem fixK_set {r:Int} {x:PV} : ∀ {k:Nat} {l:List PV},l[k]? = some x->(fixK r k l).set k (fixP r x)=fixK r (k+1) l
  | 0,y::l,h=>by
    simp only [List.getElem?_cons_zero,Option.some.injEq] at h
    subst h; rfl
  | k+1,[],h=>by simp at h
  | k+1,y::l,h=>by
    rw [List.getElem?_cons_succ] at h
    simp only [fixK,List.set_cons_succ]
    rw [fixK_set h]
theorem set_self {α:Type} {l:List α} {k:Nat} {x : α} (h:l[k]? = some x):l.set k x=l:=by
 obtain ⟨hk,e⟩:=List.getElem?_eq_some_iff.1 h
 rw [← e,List.set_getElem_self]
theorem fixK_no {r:Int} {x:PV} {k:Nat} {l:List PV} (h:l[k]? = some x) (hn : ¬ x.d.a0 = -1):fixK r (k+1) l=fixK r k l:=by
 rw [← fixK_set h,show fixP r x=x from if_neg hn,set_self (fixK_at h)]
theorem fixK_vp {r:Int} {w:World} : ∀ {k:Nat} {l:List PV},(∀ x∈l,VP w x)->∀ x∈fixK r k l,VP w x
  | 0,_,h=>h
  | _+1,[],h=>h
  | k+1,y::l,h=>fun x hx=>by
    simp only [fixK,List.mem_cons] at hx
    rcases hx with rfl | hx
    · have:=h y List.mem_cons_self
      unfold fixP
      split
      · exact this
      · exact this
    · exact fixK_vp (fun z hz=>h z (List.mem_cons_of_mem _ hz)) x hx
theorem fix_set {r:Int} {x q:PV} {k:Nat} {l:List PV} (h:l[k]? = some x) (hn:x.d.a0 = -1):setL ((q::fixK r k l).flatMap fP) ((k+1)*5+1) [.int .i64 (r % 8)]=(q::fixK r (k+1) l).flatMap fP:=by
 rw [← fixK_set h,← List.set_cons_succ]
 exact setL_el encP _ _ x (by rw [List.getElem?_cons_succ]; exact fixK_at h) (by unfold fixP; rw [if_pos hn]; rfl) (by show 1+1<=5; decide)
theorem ld_z {P:Program} {w:World} {a:Addr} {k:Nat} {t:TypeId} {v:Value} (h:Ld P w (a.add k) t v):Ld P w ((a.add k).add 0) t v:=by rw [Sx.add_add]; exact h
theorem child_or {s:StL} {r:Int} {c:CallL} {l m:List CallL} (hp:s.plan=c::l) (hn : ¬ (r < 0/\¬ c.call=10)) (hm:m=if c.call=7 then fixL r l else l):childS s r=({s with plan:=or127 m},headC (or127 m)):=by
 unfold childS childP
 rw [hp,if_neg (show ¬ (r < 0/\(headC (c::l)).call≠10) from hn),show (c::l).tail=l from rfl,show (headC (c::l)).call=c.call from rfl,← hm]
theorem pl_short {w:World} {p:Option Addr} {x:PV} {r:List PV} {m c c':Nat} (hr:r.length=0) (h:PL w (.slice p m c) (x::r)):PL w (.slice p r.length c') r:=by
 obtain rfl:=List.length_eq_zero_iff.1 hr
 exact ⟨Vw.nil_any h.1 _,fun x hx=>absurd hx List.not_mem_nil⟩
theorem fixK_upto (r:Int) : ∀ (j:Nat) {k:Nat} (l:List PV),l.length<=k->fixK r (k+j) l=fixK r k l
  | 0,_,_,_=>rfl
  | j+1,k,l,h=>by rw [show k+(j+1)=(k+j)+1 by omega,fixK_all r (k+j) l (by omega),fixK_upto r j l h]
theorem fixK_stop {r:Int} {k:Nat} {l:List PV} (hk:k<=2) (h:k=2\/l.length<=k):fixK r 2 l=fixK r k l:=by
 rcases h with rfl | h
 · rfl
 rw [show 2=k+(2 - k) by omega,fixK_upto r _ l h]
theorem child_rest (pb:Nat) (mo po:Int) (inp:ByteArray) (pj:Option Addr) (kj:Nat) (lj:List JV) (rd wr pv:Int) (pn:Option Addr) (kn:Nat) (ln:List Int) (ap:Addr) (kp:Nat) (qp:Option Addr) (qc:Nat) (qd:CallL) (rp:List PV) (T:OwL) (result:Int) (w:World) (hG:Holds' T (SV.ok (⟨mo,po,inp,pj,kj,lj,rd,wr,pv,pn,kn,ln,some ap,kp,((⟨qp,qc,qd⟩:PV)::rp)⟩:SV))) (h0:Ow Tryd.prog (inT ((pb,31,cS mo po inp pj lj.length kj rd wr pv pn ln.length kn (some ap) (((⟨qp,qc,qd⟩:PV)::rp).length) kp)::T)) w w ((pb,31,cS mo po inp pj lj.length kj rd wr pv pn ln.length kn (some ap) (((⟨qp,qc,qd⟩:PV)::rp).length) kp)::T)) (hm:SV.sm (⟨mo,po,inp,pj,kj,lj,rd,wr,pv,pn,kn,ln,some ap,kp,((⟨qp,qc,qd⟩:PV)::rp)⟩:SV)) (hvl:validL (lj.map JV.d)=true) (hrp:rp.length<=100) (hno : ¬ (result < 0/\¬ qd.call=10)) (hrx:result<=9223372036854775807) :
    Calls Tryd.prog 33 #[pt pb,i64 result] w fun e w'=>∃ (v:SV) (x:PV) (Tn:OwL),childS (SV.d (⟨mo,po,inp,pj,kj,lj,rd,wr,pv,pn,kn,ln,some ap,kp,((⟨qp,qc,qd⟩:PV)::rp)⟩:SV)) result=(v.d,x.d)/\v.sm/\validL (v.lj.map JV.d)=true/\e = .returned (.agg #[i64 x.d.call,i64 x.d.a0,i64 x.d.a1,i64 x.d.a2,.slice x.p x.d.data.length x.c])/\Ow Tryd.prog (inT ((pb,31,cS mo po inp pj lj.length kj rd wr pv pn ln.length kn (some ap) (((⟨qp,qc,qd⟩:PV)::rp).length) kp)::T)) w w' ((pb,31,v.cells)::(T++Tn))/\Holds' (T++Tn) v.ok/\Holds' (T++Tn) (fun w=>VP w x):=by
 refine c_enter (args:=[pt pb,i64 result]) (m:=81) (n:=83) Tryd.func33 rfl (by kernel_rfl) (by kernel_rfl) fun fr hA=>?_
 generalize inT ((pb,31,cS mo po inp pj lj.length kj rd wr pv pn ln.length kn (some ap) (((⟨qp,qc,qd⟩:PV)::rp).length) kp)::T)=M at *
 have hO:Ow Tryd.prog M w w ([(pb,31,(cS mo po inp pj lj.length kj rd wr pv pn ln.length kn (some ap) (((⟨qp,qc,qd⟩:PV)::rp).length) kp))]++(T++([]))):=h0.to (by first | rfl | first | rfl | (simp only [TP,apd]))
 have hlq_ : 0 < ((⟨qp,qc,qd⟩:PV)::rp).length:=Nat.zero_lt_succ _
 have hlr_:((⟨qp,qc,qd⟩:PV)::rp).length=rp.length+1:=rfl
 refine sr 1 ?_
 refine Mn [i64 0,i64 0,i64 0,i64 0,.slice none 0 0] 35 4 hA hO fun fr w1 b1 hA hO=>?_
 refine end_ops ?_
 refine then_normal ?_
 refine sr 6 ?_
 refine Kb 4 [(10,.slice (some ap) (((⟨qp,qc,qd⟩:PV)::rp).length) kp)] hA [.slice (some ap) (((⟨qp,qc,qd⟩:PV)::rp).length) kp] (cc (hO.l1 1 8 29 (.slice (some ap) (((⟨qp,qc,qd⟩:PV)::rp).length) kp)) c0) fun fr hA=>?_
 refine wpOps_cons' (mC (d:=(some 11)) hA Tryd.func25 ((clonep_any (some ap) kp ((⟨qp,qc,qd⟩:PV)::rp) _ (Holds'.at (A:=[_,_]) hG hO.m).p.1 (by show List.length _<=_; omega)).mono ?_))
 rintro en w2 ⟨pq,kq,Tq,rfl,h1q,hW⟩
 refine ⟨_,rfl,?_⟩
 obtain ⟨aq,rfl⟩:=(One.vw h1q (A:=[]) (B:=[]) (hW.to (List.append_nil _).symm).m).pos (Nat.zero_lt_succ _)
 clear hA fr; intro fr hA
 replace hO:=Ow.join hO hW; clear hW
 refine Ka 1 [(5,.slice (some aq) (((⟨qp,qc,qd⟩:PV)::rp).length) kq)] hA fun fr hA=>?_
 refine end_ops ?_
 refine then_normal ?_
 refine wp_seq ?_
 refine sJ (fun fr W=>Holds 83 [] fr [(0,pt pb),(1,i64 result),(4,pt b1),(5,.slice (some aq) (((⟨qp,qc,qd⟩:PV)::rp).length) kq),(20,bl false)]/\Ow Tryd.prog M w W ([(b1,35,[i64 0,i64 0,i64 0,i64 0,.slice none 0 0]),(pb,31,(cS mo po inp pj lj.length kj rd wr pv pn ln.length kn (some ap) (((⟨qp,qc,qd⟩:PV)::rp).length) kp))]++(T++(Tq++([]))))/\True) ?_ ?_
 · rintro fr w3 ⟨hA,hO,-⟩
   refine cF hA ?_
   refine wp_skip ?_
   refine then_normal ?_
   refine sJ (fun fr W=>∃ (rq:List PV) (Tm:OwL),Holds 83 [] fr [(0,pt pb),(4,pt b1),(5,.slice (some aq) (((⟨qp,qc,qd⟩:PV)::rq).length) kq)]/\Ow Tryd.prog M w W ([(b1,35,[i64 0,i64 0,i64 0,i64 0,.slice none 0 0]),(pb,31,(cS mo po inp pj lj.length kj rd wr pv pn ln.length kn (some ap) (((⟨qp,qc,qd⟩:PV)::rp).length) kp))]++(T++(Tm++([]))))/\One fP 35 5 (some aq) kq ((⟨qp,qc,qd⟩:PV)::rq) Tm/\rq.length=rp.length/\rq.map PV.d=(if qd.call=7 then fixL result (rp.map PV.d) else rp.map PV.d)/\Holds' T (fun w_=>∀ x∈((⟨qp,qc,qd⟩:PV)::rq),VP w_ x)/\True) ?_ ?_
   · rintro fr w4 ⟨rq,Tm,hA,hO,h1m,hrql,hrq,hVm,-⟩
     have hlq2_ : 0 < ((⟨qp,qc,qd⟩:PV)::rq).length:=Nat.zero_lt_succ _
     have hlr2_:((⟨qp,qc,qd⟩:PV)::rq).length=rq.length+1:=rfl
     have hcq_:=h1m.le
     have hcq2_:rq.length+1<=kq:=hcq_
     rcases Nat.lt_or_ge 1 kq with hk1 | hk1
     · refine sr 6 ?_
       refine Kb 5 [(62,.slice (some (atIx (aq:Addr) 5 1)) ((((⟨qp,qc,qd⟩:PV)::rq).length) - (1)) ((kq) - (1))),(64,pf pb 8)] hA [bl true] (cc (⟨by omega,by omega,by omega,by omega,by omega⟩:(0:Int)<=1/\(1:Int)<=((((⟨qp,qc,qd⟩:PV)::rq).length:Nat):Int)/\((((⟨qp,qc,qd⟩:PV)::rq).length:Nat):Int)<=((kq:Nat):Int)/\((kq:Nat):Int)<=((kq:Nat):Int)/\(1:Int) < ((kq:Nat):Int)) c0) fun fr hA=>?_
       rw [show atIx aq 5 1=((aq.add 5):Addr) from atIx_five _] at hA
       rw [show ((((⟨qp,qc,qd⟩:PV)::rq).length) - (1))=rq.length from rfl] at hA
       rw [show ((kq) - (1))=(kq - 1) from rfl] at hA
       refine Ms 8 [.slice (some (aq.add 5)) rq.length (kq - 1)] 1 hA hO fun w5 hO=>?_
       refine end_ops ?_
       refine then_normal ?_
       refine wp_seq ?_
       refine Sb [(70,bl (((rq.length:Nat):Int) == 0))] hA [.slice (some (aq.add 5)) rq.length (kq - 1)] (cc (hO.l1 1 8 29 (.slice (some (aq.add 5)) rq.length (kq - 1))) c0) fun fr hA=>?_
       rcases Bool.eq_false_or_eq_true (((rq.length:Nat):Int) == 0) with h1 | h1
       · rw [h1] at hA
         have h1p:=eq_of_beq h1
         refine cT hA ?_
         refine rr 7 ?_
         refine Ka 1 [(71,pt pb)] hA fun fr hA=>?_
         refine Mv [i64 127] 3 1 72 hA hO fun fr w6 b2 hA hO=>?_
         refine Mk 73 hA hO Tryd.func12 (call_1 0 127 ⟨b2,0,none⟩ 1 _ ((hO.b 0).vw (off:=0) (xs:=[127]) (by kernel_rfl))) fun fr w7 hA hO=>?_
         refine Mv [i64 0,i64 127,i64 0,i64 0,.slice none 0 0] 35 1 74 hA hO fun fr w8 b3 hA hO=>?_
         refine Ka 2 [(76,pf pb 8)] hA fun fr hA=>?_
         refine Ms 8 [.slice (some ⟨b3,0,none⟩) 1 1] 3 hA hO fun w9 hO=>?_
         refine end_ops ?_
         refine then_normal ?_
         refine sr 7 ?_
         refine Kb 6 [(82,.agg #[i64 0,i64 127,i64 0,i64 0,.slice none 0 0])] hA [.slice (some ⟨b3,0,none⟩) 1 1,.agg #[i64 0,i64 127,i64 0,i64 0,.slice none 0 0]] (cc (hO.l1 3 8 29 (.slice (some ⟨b3,0,none⟩) 1 1)) (cc (⟨by omega,by omega⟩:(0:Int)<=0/\0 < ((1:Nat):Int)) (cc (hO.ln 0 0 35 [i64 0,i64 127,i64 0,i64 0,.slice none 0 0]) c0))) fun fr hA=>?_
         refine Ms 0 [i64 0,i64 127,i64 0,i64 0,.slice none 0 0] 2 hA hO fun w10 hO=>?_
         refine end_ops ?_
         refine then_normal ?_
         refine wp_ret ?_
         refine cR (cs:=[some (⟨b1,0,none⟩,35)]) (us:=[.agg #[i64 0,i64 127,i64 0,i64 0,.slice none 0 0]]) hA [.agg #[i64 0,i64 127,i64 0,i64 0,.slice none 0 0]] ⟨(hO.ln 2 0 35 [i64 0,i64 127,i64 0,i64 0,.slice none 0 0]),trivial⟩ ?_
         replace hO:Ow Tryd.prog M w w10 ([(b3,35,[i64 0,i64 127,i64 0,i64 0,.slice none 0 0]),(b2,3,[i64 127]),(b1,35,[i64 0,i64 127,i64 0,i64 0,.slice none 0 0]),(pb,31,(cS mo po inp pj lj.length kj rd wr pv pn ln.length kn (some ⟨b3,0,none⟩) 1 1))]++(T++(Tm++([])))):=hO
         have hT1:One fP 35 5 (some ⟨b3,0,none⟩) 1 ([⟨none,0,⟨0,127,0,0,[]⟩⟩]:List PV) [(b3,35,[i64 0,i64 127,i64 0,i64 0,.slice none 0 0])]:=One.ofBlk (r:=[]) (by kernel_rfl) (by first | decide | simp) (by decide) (by kernel_rfl)
         replace hO:=Ow.move (A:=[]) hO
         replace hO:Ow Tryd.prog M w w10 ([(b2,3,[i64 127]),(b1,35,[i64 0,i64 127,i64 0,i64 0,.slice none 0 0]),(pb,31,(cS mo po inp pj lj.length kj rd wr pv pn ln.length kn (some ⟨b3,0,none⟩) 1 1))]++([(b3,35,[i64 0,i64 127,i64 0,i64 0,.slice none 0 0])]++(T++(Tm++([]))))):=hO.to (by first | rfl | (simp only [TP,apd]))
         replace hO:=moveL (A:=[(b2,3,[i64 127]),(b1,35,[i64 0,i64 127,i64 0,i64 0,.slice none 0 0]),(pb,31,(cS mo po inp pj lj.length kj rd wr pv pn ln.length kn (some ⟨b3,0,none⟩) 1 1))]) (x:=(b3,35,[i64 0,i64 127,i64 0,i64 0,.slice none 0 0])) (B:=T) (C:=Tm++([])) hO
         replace hO:Ow Tryd.prog M w _ ([(b2,3,[i64 127]),(b1,35,[i64 0,i64 127,i64 0,i64 0,.slice none 0 0]),(pb,31,(cS mo po inp pj lj.length kj rd wr pv pn ln.length kn (some ⟨b3,0,none⟩) 1 1))]++(T++(Tm++([(b3,35,[i64 0,i64 127,i64 0,i64 0,.slice none 0 0])]++([]))))):=hO.to (by simp only [List.append_assoc,List.append_nil,List.nil_append])
         replace hO:Ow Tryd.prog M w w10 ([(b2,3,[i64 127]),(b1,35,[i64 0,i64 127,i64 0,i64 0,.slice none 0 0]),(pb,31,(cS mo po inp pj lj.length kj rd wr pv pn ln.length kn (some ⟨b3,0,none⟩) (([⟨none,0,⟨0,127,0,0,[]⟩⟩]:List PV).length) 1))]++(T++(Tm++([(b3,35,[i64 0,i64 127,i64 0,i64 0,.slice none 0 0])]++([]))))):=hO
         exact ⟨(⟨mo,po,inp,pj,kj,lj,rd,wr,pv,pn,kn,ln,some ⟨b3,0,none⟩,1,([⟨none,0,⟨0,127,0,0,[]⟩⟩]:List PV)⟩:SV),⟨none,0,callL 0 127 0⟩,(Tm++([(b3,35,[i64 0,i64 127,i64 0,i64 0,.slice none 0 0])]++([]))),(by have q_:=child_or (s:=SV.d (⟨mo,po,inp,pj,kj,lj,rd,wr,pv,pn,kn,ln,some ap,kp,((⟨qp,qc,qd⟩:PV)::rp)⟩:SV)) (r:=result) (c:=qd) (l:=rp.map PV.d) rfl hno hrq; rw [q_]; rw [show rq=[] from List.length_eq_zero_iff.1 (by omega)]; rfl),⟨hm.i,hm.j,hm.k,(by show (1:Nat)<=_; omega),hm.ck,hm.cj,hT1.le⟩,hvl,rfl,(show Ow Tryd.prog M w _ ((pb,31,cS mo po inp pj lj.length kj rd wr pv pn ln.length kn (some ⟨b3,0,none⟩) (([⟨none,0,⟨0,127,0,0,[]⟩⟩]:List PV).length) 1)::(T++(Tm++([(b3,35,[i64 0,i64 127,i64 0,i64 0,.slice none 0 0])]++([]))))) from ((Ow.subP (A:=[_,_,_]) hO (.cons _ (.cons _ (.cons_cons _ .slnil))))).tt),((ok3 (T:=T++(Tm++([(b3,35,[i64 0,i64 127,i64 0,i64 0,.slice none 0 0])]++([])))) (x:=(⟨mo,po,inp,pj,kj,lj,rd,wr,pv,pn,kn,ln,some ⟨b3,0,none⟩,1,([⟨none,0,⟨0,127,0,0,[]⟩⟩]:List PV)⟩:SV)) ((hG.mono fun _ h_=>h_.j).l) ((hG.mono fun _ h_=>h_.k).l) (Holds'.and (hT1.holds.l.r.r) (fun _ _ _ _=>bare_vp (bare_one _ _ _ _) _))).tt),(fun _ _ _ _=>bare_vp (bare_one _ _ _ _) _ _ (List.mem_singleton.2 rfl))⟩
       rw [h1] at hA
       have h1p:=ne_of_beq_false h1
       refine cF hA ?_
       refine wp_skip ?_
       refine then_normal ?_
       replace hO:Ow Tryd.prog M w w5 ([(b1,35,[i64 0,i64 0,i64 0,i64 0,.slice none 0 0]),(pb,31,(cS mo po inp pj lj.length kj rd wr pv pn ln.length kn (some (aq.add 5)) rq.length (kq - 1)))]++(T++(Tm++([])))):=hO
       obtain ⟨⟨vp,vc,vd⟩,rr,rfl⟩ : ∃ x r,rq=x::r:=by cases rq with | nil=>(exact absurd rfl (by assumption)) | cons x r=>exact ⟨x,r,rfl⟩
       refine sr 7 ?_
       refine Kb 6 [(82,.agg #[i64 vd.call,i64 vd.a0,i64 vd.a1,i64 vd.a2,.slice vp vd.data.length vc])] hA [.slice (some (aq.add 5)) (((⟨vp,vc,vd⟩:PV)::rr).length) (kq - 1),.agg #[i64 vd.call,i64 vd.a0,i64 vd.a1,i64 vd.a2,.slice vp vd.data.length vc]] (cc (hO.l1 1 8 29 (.slice (some (aq.add 5)) (((⟨vp,vc,vd⟩:PV)::rr).length) (kq - 1))) (cc (⟨by omega,by omega⟩:(0:Int)<=0/\0 < ((((⟨vp,vc,vd⟩:PV)::rr).length:Nat):Int)) (cc ((((Holds'.at (A:=[_,_]) (Q:=fun w_=>PL w_ (.slice (some (aq.add 5)) ((⟨vp,vc,vd⟩:PV)::rr).length (kq - 1)) ((⟨vp,vc,vd⟩:PV)::rr)) (show Holds' (T++(Tm++([]))) (fun w_=>PL w_ (.slice (some (aq.add 5)) (((⟨vp,vc,vd⟩:PV)::rr).length) (kq - 1)) ((⟨vp,vc,vd⟩:PV)::rr)) from (Holds'.and (h1m.holds.l.r) (hVm.l)).mono fun _ h_=>pl_tail h_) (hO.tt:Ow Tryd.prog M w _ ([(b1,35,[i64 0,i64 0,i64 0,i64 0,.slice none 0 0]),(pb,31,(cS mo po inp pj lj.length kj rd wr pv pn ln.length kn (some (aq.add 5)) (((⟨vp,vc,vd⟩:PV)::rr).length) (kq - 1)))]++(T++(Tm++([]))++[]))).m).1).ldn encP (rfl:(((⟨vp,vc,vd⟩:PV)::rr):List PV)[0]? = some ⟨vp,vc,vd⟩)):Ld Tryd.prog w5 ((aq.add 5).add 0) 35 (.agg #[i64 vd.call,i64 vd.a0,i64 vd.a1,i64 vd.a2,.slice vp vd.data.length vc])) c0))) fun fr hA=>?_
       refine Ms 0 [i64 vd.call,i64 vd.a0,i64 vd.a1,i64 vd.a2,.slice vp vd.data.length vc] 0 hA hO fun w11 hO=>?_
       refine end_ops ?_
       refine then_normal ?_
       refine wp_ret ?_
       refine cR (cs:=[some (⟨b1,0,none⟩,35)]) (us:=[.agg #[i64 vd.call,i64 vd.a0,i64 vd.a1,i64 vd.a2,.slice vp vd.data.length vc]]) hA [.agg #[i64 vd.call,i64 vd.a0,i64 vd.a1,i64 vd.a2,.slice vp vd.data.length vc]] ⟨(hO.ln 0 0 35 [i64 vd.call,i64 vd.a0,i64 vd.a1,i64 vd.a2,.slice vp vd.data.length vc]),trivial⟩ ?_
       replace hO:Ow Tryd.prog M w w11 ([(b1,35,[i64 vd.call,i64 vd.a0,i64 vd.a1,i64 vd.a2,.slice vp vd.data.length vc]),(pb,31,(cS mo po inp pj lj.length kj rd wr pv pn ln.length kn (some (aq.add 5)) (((⟨vp,vc,vd⟩:PV)::rr).length) (kq - 1)))]++(T++(Tm++([])))):=hO
       replace hO:Ow Tryd.prog M w w11 ([(b1,35,[i64 vd.call,i64 vd.a0,i64 vd.a1,i64 vd.a2,.slice vp vd.data.length vc]),(pb,31,(cS mo po inp pj lj.length kj rd wr pv pn ln.length kn (some (aq.add 5)) (((⟨vp,vc,vd⟩:PV)::rr).length) (kq - 1)))]++(T++(Tm++([])))):=hO
       exact ⟨(⟨mo,po,inp,pj,kj,lj,rd,wr,pv,pn,kn,ln,some (aq.add 5),(kq - 1),((⟨vp,vc,vd⟩:PV)::rr)⟩:SV),⟨vp,vc,vd⟩,(Tm++([])),(by have q_:=child_or (s:=SV.d (⟨mo,po,inp,pj,kj,lj,rd,wr,pv,pn,kn,ln,some ap,kp,((⟨qp,qc,qd⟩:PV)::rp)⟩:SV)) (r:=result) (c:=qd) (l:=rp.map PV.d) rfl hno hrq; rw [q_]; rfl),⟨hm.i,hm.j,hm.k,(by show List.length (_::rr)<=_; omega),hm.ck,hm.cj,(by show List.length (_::rr)<=kq - 1; omega)⟩,hvl,rfl,(show Ow Tryd.prog M w _ ((pb,31,cS mo po inp pj lj.length kj rd wr pv pn ln.length kn (some (aq.add 5)) (((⟨vp,vc,vd⟩:PV)::rr).length) (kq - 1))::(T++(Tm++([])))) from ((Ow.subP (A:=[_,_]) hO (.cons _ (.cons_cons _ .slnil)))).tt),((ok3 (T:=T++(Tm++([]))) (x:=(⟨mo,po,inp,pj,kj,lj,rd,wr,pv,pn,kn,ln,some (aq.add 5),(kq - 1),((⟨vp,vc,vd⟩:PV)::rr)⟩:SV)) ((hG.mono fun _ h_=>h_.j).l) ((hG.mono fun _ h_=>h_.k).l) (show Holds' (T++(Tm++([]))) (fun w_=>PL w_ (.slice (some (aq.add 5)) (((⟨vp,vc,vd⟩:PV)::rr).length) (kq - 1)) ((⟨vp,vc,vd⟩:PV)::rr)) from (Holds'.and (h1m.holds.l.r) (hVm.l)).mono fun _ h_=>pl_tail h_)).tt),(show Holds' (T++(Tm++([]))) (fun w_=>VP w_ ⟨vp,vc,vd⟩) from ((show Holds' (T++(Tm++([]))) (fun w_=>PL w_ (.slice (some (aq.add 5)) (((⟨vp,vc,vd⟩:PV)::rr).length) (kq - 1)) ((⟨vp,vc,vd⟩:PV)::rr)) from (Holds'.and (h1m.holds.l.r) (hVm.l)).mono fun _ h_=>pl_tail h_).mono fun _ h_=>h_.2 _ List.mem_cons_self)).tt⟩
     have hrq0:rq.length=0:=by omega
     have hkq1:kq=1:=by omega
     refine sr 6 ?_
     refine Kb 5 [(62,.slice (some aq) ((((⟨qp,qc,qd⟩:PV)::rq).length) - (1)) ((kq) - (1))),(64,pf pb 8)] hA [bl false] (cc (⟨by omega,by omega,by omega,by omega,by omega⟩:(0:Int)<=1/\(1:Int)<=((((⟨qp,qc,qd⟩:PV)::rq).length:Nat):Int)/\((((⟨qp,qc,qd⟩:PV)::rq).length:Nat):Int)<=((kq:Nat):Int)/\((kq:Nat):Int)<=((kq:Nat):Int)/\((1:Int)=((kq:Nat):Int)\/(1:Int)=0)) c0) fun fr hA=>?_
     rw [show ((((⟨qp,qc,qd⟩:PV)::rq).length) - (1))=rq.length from rfl] at hA
     rw [show ((kq) - (1))=(kq - 1) from rfl] at hA
     refine Ms 8 [.slice (some aq) rq.length (kq - 1)] 1 hA hO fun w12 hO=>?_
     refine end_ops ?_
     refine then_normal ?_
     refine wp_seq ?_
     refine Sb [(70,bl (((rq.length:Nat):Int) == 0))] hA [.slice (some aq) rq.length (kq - 1)] (cc (hO.l1 1 8 29 (.slice (some aq) rq.length (kq - 1))) c0) fun fr hA=>?_
     rcases Bool.eq_false_or_eq_true (((rq.length:Nat):Int) == 0) with h2 | h2
     · rw [h2] at hA
       have h2p:=eq_of_beq h2
       refine cT hA ?_
       refine rr 7 ?_
       refine Ka 1 [(71,pt pb)] hA fun fr hA=>?_
       refine Mv [i64 127] 3 1 72 hA hO fun fr w13 b4 hA hO=>?_
       refine Mk 73 hA hO Tryd.func12 (call_1 0 127 ⟨b4,0,none⟩ 1 _ ((hO.b 0).vw (off:=0) (xs:=[127]) (by kernel_rfl))) fun fr w14 hA hO=>?_
       refine Mv [i64 0,i64 127,i64 0,i64 0,.slice none 0 0] 35 1 74 hA hO fun fr w15 b5 hA hO=>?_
       refine Ka 2 [(76,pf pb 8)] hA fun fr hA=>?_
       refine Ms 8 [.slice (some ⟨b5,0,none⟩) 1 1] 3 hA hO fun w16 hO=>?_
       refine end_ops ?_
       refine then_normal ?_
       refine sr 7 ?_
       refine Kb 6 [(82,.agg #[i64 0,i64 127,i64 0,i64 0,.slice none 0 0])] hA [.slice (some ⟨b5,0,none⟩) 1 1,.agg #[i64 0,i64 127,i64 0,i64 0,.slice none 0 0]] (cc (hO.l1 3 8 29 (.slice (some ⟨b5,0,none⟩) 1 1)) (cc (⟨by omega,by omega⟩:(0:Int)<=0/\0 < ((1:Nat):Int)) (cc (hO.ln 0 0 35 [i64 0,i64 127,i64 0,i64 0,.slice none 0 0]) c0))) fun fr hA=>?_
       refine Ms 0 [i64 0,i64 127,i64 0,i64 0,.slice none 0 0] 2 hA hO fun w17 hO=>?_
       refine end_ops ?_
       refine then_normal ?_
       refine wp_ret ?_
       refine cR (cs:=[some (⟨b1,0,none⟩,35)]) (us:=[.agg #[i64 0,i64 127,i64 0,i64 0,.slice none 0 0]]) hA [.agg #[i64 0,i64 127,i64 0,i64 0,.slice none 0 0]] ⟨(hO.ln 2 0 35 [i64 0,i64 127,i64 0,i64 0,.slice none 0 0]),trivial⟩ ?_
       replace hO:Ow Tryd.prog M w w17 ([(b5,35,[i64 0,i64 127,i64 0,i64 0,.slice none 0 0]),(b4,3,[i64 127]),(b1,35,[i64 0,i64 127,i64 0,i64 0,.slice none 0 0]),(pb,31,(cS mo po inp pj lj.length kj rd wr pv pn ln.length kn (some ⟨b5,0,none⟩) 1 1))]++(T++(Tm++([])))):=hO
       have hT2:One fP 35 5 (some ⟨b5,0,none⟩) 1 ([⟨none,0,⟨0,127,0,0,[]⟩⟩]:List PV) [(b5,35,[i64 0,i64 127,i64 0,i64 0,.slice none 0 0])]:=One.ofBlk (r:=[]) (by kernel_rfl) (by first | decide | simp) (by decide) (by kernel_rfl)
       replace hO:=Ow.move (A:=[]) hO
       replace hO:Ow Tryd.prog M w w17 ([(b4,3,[i64 127]),(b1,35,[i64 0,i64 127,i64 0,i64 0,.slice none 0 0]),(pb,31,(cS mo po inp pj lj.length kj rd wr pv pn ln.length kn (some ⟨b5,0,none⟩) 1 1))]++([(b5,35,[i64 0,i64 127,i64 0,i64 0,.slice none 0 0])]++(T++(Tm++([]))))):=hO.to (by first | rfl | (simp only [TP,apd]))
       replace hO:=moveL (A:=[(b4,3,[i64 127]),(b1,35,[i64 0,i64 127,i64 0,i64 0,.slice none 0 0]),(pb,31,(cS mo po inp pj lj.length kj rd wr pv pn ln.length kn (some ⟨b5,0,none⟩) 1 1))]) (x:=(b5,35,[i64 0,i64 127,i64 0,i64 0,.slice none 0 0])) (B:=T) (C:=Tm++([])) hO
       replace hO:Ow Tryd.prog M w _ ([(b4,3,[i64 127]),(b1,35,[i64 0,i64 127,i64 0,i64 0,.slice none 0 0]),(pb,31,(cS mo po inp pj lj.length kj rd wr pv pn ln.length kn (some ⟨b5,0,none⟩) 1 1))]++(T++(Tm++([(b5,35,[i64 0,i64 127,i64 0,i64 0,.slice none 0 0])]++([]))))):=hO.to (by simp only [List.append_assoc,List.append_nil,List.nil_append])
       replace hO:Ow Tryd.prog M w w17 ([(b4,3,[i64 127]),(b1,35,[i64 0,i64 127,i64 0,i64 0,.slice none 0 0]),(pb,31,(cS mo po inp pj lj.length kj rd wr pv pn ln.length kn (some ⟨b5,0,none⟩) (([⟨none,0,⟨0,127,0,0,[]⟩⟩]:List PV).length) 1))]++(T++(Tm++([(b5,35,[i64 0,i64 127,i64 0,i64 0,.slice none 0 0])]++([]))))):=hO
       exact ⟨(⟨mo,po,inp,pj,kj,lj,rd,wr,pv,pn,kn,ln,some ⟨b5,0,none⟩,1,([⟨none,0,⟨0,127,0,0,[]⟩⟩]:List PV)⟩:SV),⟨none,0,callL 0 127 0⟩,(Tm++([(b5,35,[i64 0,i64 127,i64 0,i64 0,.slice none 0 0])]++([]))),(by have q_:=child_or (s:=SV.d (⟨mo,po,inp,pj,kj,lj,rd,wr,pv,pn,kn,ln,some ap,kp,((⟨qp,qc,qd⟩:PV)::rp)⟩:SV)) (r:=result) (c:=qd) (l:=rp.map PV.d) rfl hno hrq; rw [q_]; rw [show rq=[] from List.length_eq_zero_iff.1 (by omega)]; rfl),⟨hm.i,hm.j,hm.k,(by show (1:Nat)<=_; omega),hm.ck,hm.cj,hT2.le⟩,hvl,rfl,(show Ow Tryd.prog M w _ ((pb,31,cS mo po inp pj lj.length kj rd wr pv pn ln.length kn (some ⟨b5,0,none⟩) (([⟨none,0,⟨0,127,0,0,[]⟩⟩]:List PV).length) 1)::(T++(Tm++([(b5,35,[i64 0,i64 127,i64 0,i64 0,.slice none 0 0])]++([]))))) from ((Ow.subP (A:=[_,_,_]) hO (.cons _ (.cons _ (.cons_cons _ .slnil))))).tt),((ok3 (T:=T++(Tm++([(b5,35,[i64 0,i64 127,i64 0,i64 0,.slice none 0 0])]++([])))) (x:=(⟨mo,po,inp,pj,kj,lj,rd,wr,pv,pn,kn,ln,some ⟨b5,0,none⟩,1,([⟨none,0,⟨0,127,0,0,[]⟩⟩]:List PV)⟩:SV)) ((hG.mono fun _ h_=>h_.j).l) ((hG.mono fun _ h_=>h_.k).l) (Holds'.and (hT2.holds.l.r.r) (fun _ _ _ _=>bare_vp (bare_one _ _ _ _) _))).tt),(fun _ _ _ _=>bare_vp (bare_one _ _ _ _) _ _ (List.mem_singleton.2 rfl))⟩
     exact absurd (show ((rq.length:Nat):Int)=0 by omega) (ne_of_beq_false h2)
   refine Sb [(38,bl (qd.call == 7))] hA [i64 qd.call] (cc (⟨by omega,by omega⟩:(0:Int)<=0/\0 < ((((⟨qp,qc,qd⟩:PV)::rp).length:Nat):Int)) (cc ((((Holds'.at (A:=[_,_]) (Q:=fun w_=>PL w_ (.slice (some aq) ((⟨qp,qc,qd⟩:PV)::rp).length kq) ((⟨qp,qc,qd⟩:PV)::rp)) (Holds'.and (h1q.holds.l.r) ((hG.mono fun _ h_=>h_.p.2).l)) (hO.tt:Ow Tryd.prog M w _ ([(b1,35,[i64 0,i64 0,i64 0,i64 0,.slice none 0 0]),(pb,31,(cS mo po inp pj lj.length kj rd wr pv pn ln.length kn (some ap) (((⟨qp,qc,qd⟩:PV)::rp).length) kp))]++(T++(Tq++([]))++[]))).m).1).ld0 encP (rfl:(((⟨qp,qc,qd⟩:PV)::rp):List PV)[0]? = some ⟨qp,qc,qd⟩) (by rfl)):Ld Tryd.prog w3 (aq.add 0) 3 (i64 qd.call)) c0)) fun fr hA=>?_
   rcases Bool.eq_false_or_eq_true (qd.call == 7) with h3 | h3
   · rw [h3] at hA
     have h3p:=eq_of_beq h3
     have hr0 : 0<=result:=by (rcases Int.lt_or_le result 0 with q_ | q_; exact absurd ⟨q_,by omega⟩ hno; exact q_)
     refine cT hA ?_
     refine Sa [(6,i64 1)] hA fun fr hA=>?_
     refine wp_block ?_
     refine c_loop (fun mm fr W=>∃ (k:Nat) (TL1:OwL),mm=3 - k/\Holds 83 [] fr [(0,pt pb),(1,i64 result),(4,pt b1),(5,.slice (some aq) (((⟨qp,qc,qd⟩:PV)::rp).length) kq),(6,i64 ((k+1:Nat):Int))]/\Ow Tryd.prog M w W ([(b1,35,[i64 0,i64 0,i64 0,i64 0,.slice none 0 0]),(pb,31,(cS mo po inp pj lj.length kj rd wr pv pn ln.length kn (some ap) (((⟨qp,qc,qd⟩:PV)::rp).length) kp))]++(T++(TL1++([]))))/\One fP 35 5 (some aq) kq ((⟨qp,qc,qd⟩:PV)::fixK result k rp) TL1/\k<=2/\k<=rp.length/\True) ?_ ?_
     · exact ⟨_,0,Tq,rfl,hA.ss,hO.tt,h1q,(Nat.zero_le _),(Nat.zero_le _),trivial⟩
     rintro _ fr w18 ⟨k,TL1,rfl,hA,hO,hTL1,hk3,hk4,-⟩
     have hmn3_:min 3 ((((⟨qp,qc,qd⟩:PV)::rp).length:Nat):Int)=((min 3 ((⟨qp,qc,qd⟩:PV)::rp).length:Nat):Int):=by rw [Int.min_def,Nat.min_def]; split <;> split <;> omega
     refine wp_seq ?_
     refine Sa [(43,bl (decide (((k+1:Nat):Int) < (min 3 ((((⟨qp,qc,qd⟩:PV)::rp).length:Nat):Int)))))] hA fun fr hA=>?_
     rcases Bool.eq_false_or_eq_true (decide (((k+1:Nat):Int) < (min 3 ((((⟨qp,qc,qd⟩:PV)::rp).length:Nat):Int)))) with h4 | h4
     · rw [h4] at hA
       have h4p:=of_decide_eq_true h4
       have hklt:k < rp.length:=by omega
       obtain ⟨⟨up,uc,ud⟩,hu⟩ : ∃ x,rp[k]? = some x:=⟨_,List.getElem?_eq_getElem hklt⟩
       refine cT hA ?_
       refine wp_skip ?_
       refine then_normal ?_
       refine wp_seq ?_
       refine wp_block ?_
       refine Sb [(52,bl (ud.a0 == (-1)))] hA [i64 ud.a0] (cc (⟨by omega,by omega⟩:(0:Int)<=((k+1:Nat):Int)/\((k+1:Nat):Int) < ((((⟨qp,qc,qd⟩:PV)::rp).length:Nat):Int)) (cc (⟨by omega,by omega⟩:(0:Int)<=0/\0 < ((3:Nat):Int)) (cc ((ld_z (((Holds'.at (A:=[_,_]) (Q:=fun w_=>Vw fP w_ (.slice (some aq) ((⟨qp,qc,qd⟩:PV)::fixK result k rp).length kq) ((⟨qp,qc,qd⟩:PV)::fixK result k rp)/\True) ((hTL1.holds.l.r).mono fun _ h_=>⟨h_,trivial⟩) (hO.tt:Ow Tryd.prog M w _ ([(b1,35,[i64 0,i64 0,i64 0,i64 0,.slice none 0 0]),(pb,31,(cS mo po inp pj lj.length kj rd wr pv pn ln.length kn (some ap) (((⟨qp,qc,qd⟩:PV)::rp).length) kp))]++(T++(TL1++([]))++[]))).m).1).ld1 encP (show ((⟨qp,qc,qd⟩:PV)::fixK result k rp)[k+1]? = some ⟨up,uc,ud⟩ from fixK_at hu) (k:=1) (by rfl))):Ld Tryd.prog w18 (((aq.add ((k+1)*5)).add 1).add 0) 3 (i64 ud.a0)) c0))) fun fr hA=>?_
       rcases Bool.eq_false_or_eq_true (ud.a0 == (-1)) with h5 | h5
       · rw [h5] at hA
         have h5p:=eq_of_beq h5
         refine cT hA ?_
         refine rr 8 ?_
         refine Kb 7 [(56,i64 (result % 8)),(59,.pointer (some (((aq.add ((k+1)*5)).add 1).add 0)))] hA [bl true] (cc (⟨by omega,by omega,inK_i64 (by omega) (by omega)⟩:(0:Int)<=result/\(0:Int) < 8/\inK .i64 result) (cc (⟨by omega,by omega⟩:(0:Int)<=((k+1:Nat):Int)/\((k+1:Nat):Int) < ((((⟨qp,qc,qd⟩:PV)::rp).length:Nat):Int)) (cc (⟨by omega,by omega⟩:(0:Int)<=0/\0 < ((3:Nat):Int)) c0))) fun fr hA=>?_
         refine wpOps_cons' (mSE (f:=fP) (el:=35) (ad:=aq) (ad':=((aq.add ((k+1)*5)).add 1).add 0) (c:=kq) (off:=(k+1)*5+1) (l':=((⟨qp,qc,qd⟩:PV)::fixK result (k+1) rp)) encP hA (hO.tt:Ow Tryd.prog M w _ (([(b1,35,[i64 0,i64 0,i64 0,i64 0,.slice none 0 0]),(pb,31,(cS mo po inp pj lj.length kj rd wr pv pn ln.length kn (some ap) (((⟨qp,qc,qd⟩:PV)::rp).length) kp))]++(T++([])))++(TL1++([])))) hTL1 (fix_set hu h5p) (by simp only [List.length_cons,fixK_len]) (by simp only [List.length_cons,fixK_len,List.length_nil]; omega) (by rw [Sx.add_add,Sx.add_add]) fun w19 T3 hO hT3=>?_)
         refine end_ops ?_
         refine inBlock_normal ?_
         refine then_normal ?_
         refine Rc [(6,i64 (((k+1:Nat):Int)+1))] hA [bl true] (cc ((inK_i64 (by omega) (by omega)):inK .i64 (((k+1:Nat):Int)+1)) c0) fun fr hA=>?_
         refine then_normal ?_
         exact ⟨_,by omega,k+1,T3,rfl,hA.ss,hO.tt,hT3,(by omega),(by omega),trivial⟩
       rw [h5] at hA
       have h5p:=ne_of_beq_false h5
       rw [← fixK_no (r:=result) hu h5p] at hTL1
       refine cF hA ?_
       refine wp_skip ?_
       refine inBlock_normal ?_
       refine then_normal ?_
       refine Rc [(6,i64 (((k+1:Nat):Int)+1))] hA [bl true] (cc ((inK_i64 (by omega) (by omega)):inK .i64 (((k+1:Nat):Int)+1)) c0) fun fr hA=>?_
       refine then_normal ?_
       exact ⟨_,by omega,k+1,TL1,rfl,hA.ss,hO.tt,hTL1,(by omega),(by omega),trivial⟩
     rw [h4] at hA
     have h4p:=of_decide_eq_false h4
     refine cF hA ?_
     refine wp_exit ?_
     refine then_exit ?_
     refine then_exit ?_
     refine inBlock_exit ?_
     refine then_normal ?_
     exact ⟨fixK result k rp,TL1,(hA.sub (e':=[(0,pt pb),(4,pt b1),(5,.slice (some aq) (((⟨qp,qc,qd⟩:PV)::rp).length) kq)]) [0,4,5] (by kernel_rfl)).cast (by (first | rfl | simp only [List.length_cons,fixK_len])),hO.tt,hTL1,(fixK_len _ _ _),(by rw [if_pos (eq_of_beq (by assumption)),← fixK_2]; rw [fixK_stop (by omega) (by omega)]),((hG.mono fun _ h_=>h_.p.2).mono fun _ h_ x_ hx_=>(List.mem_cons.1 hx_).elim (fun e_=>e_ ▸ h_ _ List.mem_cons_self) (fixK_vp (fun y_ hy_=>h_ y_ (List.mem_cons_of_mem _ hy_)) x_)),trivial⟩
   rw [h3] at hA
   have h3p:=ne_of_beq_false h3
   refine cF hA ?_
   refine wp_skip ?_
   refine then_normal ?_
   exact ⟨rp,Tq,(hA.sub (e':=[(0,pt pb),(4,pt b1),(5,.slice (some aq) (((⟨qp,qc,qd⟩:PV)::rp).length) kq)]) [0,4,5] (by kernel_rfl)).cast (by (first | rfl | simp only [List.length_cons,fixK_len])),hO.tt,h1q,rfl,(by rw [if_neg (ne_of_beq_false (by assumption))]),(hG.mono fun _ h_=>h_.p.2),trivial⟩
 refine rr 9 ?_
 refine Ka 3 [(13,bl (decide (result < 0))),(14,bl (decide (result < 0)))] hA fun fr hA=>?_
 rcases Bool.eq_false_or_eq_true (decide (result < 0)) with h6 | h6
 · rw [h6] at hA
   have h6p:=of_decide_eq_true h6
   refine Kb 6 [(20,bl (qd.call != 10))] hA [i64 qd.call] (cc (⟨by omega,by omega⟩:(0:Int)<=0/\0 < ((((⟨qp,qc,qd⟩:PV)::rp).length:Nat):Int)) (cc ((((Holds'.at (A:=[_,_]) (Q:=fun w_=>PL w_ (.slice (some aq) ((⟨qp,qc,qd⟩:PV)::rp).length kq) ((⟨qp,qc,qd⟩:PV)::rp)) (Holds'.and (h1q.holds.l.r) ((hG.mono fun _ h_=>h_.p.2).l)) (hO.tt:Ow Tryd.prog M w _ ([(b1,35,[i64 0,i64 0,i64 0,i64 0,.slice none 0 0]),(pb,31,(cS mo po inp pj lj.length kj rd wr pv pn ln.length kn (some ap) (((⟨qp,qc,qd⟩:PV)::rp).length) kp))]++(T++(Tq++([]))++[]))).m).1).ld0 encP (rfl:(((⟨qp,qc,qd⟩:PV)::rp):List PV)[0]? = some ⟨qp,qc,qd⟩) (by rfl)):Ld Tryd.prog w2 (aq.add 0) 3 (i64 qd.call)) c0)) fun fr hA=>?_
   refine end_ops ?_
   refine then_normal ?_
   exact ⟨(hA.sub (e':=[(0,pt pb),(1,i64 result),(4,pt b1),(5,.slice (some aq) (((⟨qp,qc,qd⟩:PV)::rp).length) kq),(20,bl (qd.call != 10))]) [0,1,4,5,20] (by kernel_rfl)).cast (by rw [show (qd.call != 10)=false from bne_eq_false_iff_eq.2 (Classical.byContradiction fun q_=>hno ⟨by omega,q_⟩)]),hO.tt,trivial⟩
 rw [h6] at hA
 have h6p:=of_decide_eq_false h6
 refine Ka 6 [(20,bl false)] hA fun fr hA=>?_
 refine end_ops ?_
 refine then_normal ?_
 exact ⟨hA.ss,hO.tt,trivial⟩
end Go.Proofs.YtdljjajjonfjbaaDoor
