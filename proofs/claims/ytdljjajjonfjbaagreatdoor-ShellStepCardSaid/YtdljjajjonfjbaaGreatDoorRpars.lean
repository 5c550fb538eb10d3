import Derived.Test.YtdljjajjonfjbaaGreatDoorStb
import Derived.Test.YtdljjajjonfjbaaGreatDoorParsc
import Derived.Test.YtdljjajjonfjbaaGreatDoorReaders
set_option linter.unusedVariables false
set_option linter.unusedSimpArgs false
set_option maxRecDepth 10000
open Go.Value renaming slice->C,agg->D
open Option renaming some->E,none->F
open Go.Proofs.Tryz renaming prog->jP
open List renaming length_append->jR,length_cons->jS,length_nil->jT,length_map->jU,not_mem_nil->jY,append_nil->kC
open ByteArray renaming size_extract->kH
namespace Go.Proofs.YtdljjajjonfjbaaGreatDoor
open Go Go.Shelf Go.RowKit Go.Proofs Go.Proofs.Sx
theorem Zb {l:List JV} {k:Nat} (h:k < Bh (l.map JV.d)) : 0 < l.length:=by
 cases l with
 | nil=>exact absurd h (Nat.not_lt_zero _)
 | cons x r=>exact Nat.zero_lt_succ _
theorem aR {l:List JV} {xp:Option Addr} {xc:Nat} {xl:List CV} {xb:Bool} {k:Nat} {yp:Option Addr} {yc:Nat} {d:CmdL} {s:StL} (hs:s.jobs=l.map JV.d) (hp:s.pos=((k:Nat):Int)) (h:l[0]? = E ⟨xp,xc,xl,xb⟩) (h2:xl[k]? = E ⟨yp,yc,d⟩):Kp s=d:=by
 cases l with
 | nil=>simp at h
 | cons x r =>
  simp only [List.getElem?_cons_zero,Option.some.injEq] at h;subst h;unfold Kp;rw [hs,hp];exact Lv (iM (f:=CV.d) h2)
theorem cJ {d:CmdL} (hv:Ax d=true) (h:d.out.size=0):Kf d=[]:=by
 unfold Kf;rw [if_neg (fun q=>(C8 hv).2.2.2.2 q h),if_pos h]
theorem Q1 {d:CmdL} (h : ¬ d.out.size=0):Kf d=G7 d.out (if d.app=true then 5 else 3) 1:=by
 unfold Kf;rw [if_neg h];split <;> rfl
theorem V3 (mo:Int) (k:Nat) (inp:ByteArray) (pj:Option Addr) (kj:Nat) (lj:List JV) (rd wr pv:Int) (pn:Option Addr) (kn:Nat) (ln:List Int) (pp:Option Addr) (kp:Nat) (lp:List PV) (w:World) (hs:SV.ok (⟨mo,((k:Nat):Int),inp,pj,kj,lj,rd,wr,pv,pn,kn,ln,pp,kp,lp⟩:SV) w) (hvl:As (lj.map JV.d)=true) (hk:k < Bh (lj.map JV.d)) (hpv : -1<=pv) (hwr : -1<=wr) :
 Calls jP 74 #[D #[Z mo,Z ((k:Nat):Int),Y inp,C pj lj.length kj,Z rd,Z wr,Z pv,C pn ln.length kn,C pp lp.length kp]] w fun e w'=>∃ p k_ l T0 T1,e = .returned (C p l.length k_)/\l.map PV.d=Hi (SV.d (⟨mo,((k:Nat):Int),inp,pj,kj,lj,rd,wr,pv,pn,kn,ln,pp,kp,lp⟩:SV)) (Kp (SV.d (⟨mo,((k:Nat):Int),inp,pj,kj,lj,rd,wr,pv,pn,kn,ln,pp,kp,lp⟩:SV)))/\One fP 59 5 p k_ l T0/\Ah T1 (fun w=>∀ x∈l,VP w x)/\Ow jP Ag w w' (T0++T1):=by
 let g:=(C F 0 0:Value);let o:=([⟨F,0,⟨12,wr,1,0,[]⟩⟩,⟨F,0,⟨8,wr,0,0,[]⟩⟩,⟨F,0,⟨8,rd,0,0,[]⟩⟩]:List PV);let q:=([⟨F,0,⟨12,pv,0,0,[]⟩⟩,⟨F,0,⟨8,pv,0,0,[]⟩⟩]:List PV);refine Ak (args:=[D #[Z mo,Z ((k:Nat):Int),Y inp,C pj lj.length kj,Z rd,Z wr,Z pv,C pn ln.length kn,C pp lp.length kp]]) (m:=82) (n:=83) Tryz.func74 rfl kR kR fun J V=>?_;have O:=Ow.nil jP Ag w;have hv_j:VL w (C pj lj.length kj) lj:=hs.j;have hjl_:=Zb hk;obtain ⟨ad1,rfl⟩:=((hv_j.keep O.only).1).pos oo;obtain ⟨⟨xp1,xc1,xl1,xb1⟩,hx1⟩ : ∃ x,(lj)[0]? = E x:=⟨_,Av _ JV0 oo⟩;have hkx:k < xl1.length:=by rw [Ps hx1] at hk; exact hk
 have hkx0 : 0 < xl1.length:=oo
 obtain ⟨ad2,rfl⟩:=(((hv_j.keep O.only).2 _ (List.mem_of_getElem? hx1)).1).pos oo;obtain ⟨⟨yp1,yc1,yd1⟩,hx2⟩ : ∃ x,(xl1)[k]? = E x:=⟨_,Av _ CV0 oo⟩;have hvc:Ax yd1=true:=((O1 hvl).2 _ (List.mem_of_getElem? hx1)).2 _ (List.mem_of_getElem? hx2);have hwl_:=(C8 hvc).2.1;have his:yd1.inp.size<=60:=D0 (C8 hvc).2.2.1;have hos:yd1.out.size<=60:=D0 (C8 hvc).2.2.2.1;have hca:=aR (s:=SV.d (⟨mo,((k:Nat):Int),inp,E ad1,kj,lj,rd,wr,pv,pn,kn,ln,pp,kp,lp⟩:SV)) rfl rfl hx1 hx2;have hwl0 : 0 < yd1.words.length:=oo
 obtain ⟨ad3,rfl⟩:=((((hv_j.keep O.only).2 _ (List.mem_of_getElem? hx1)).2 _ (List.mem_of_getElem? hx2))).pos oo;let h:=(C (E ad3) yd1.words.length yc1:Value);obtain ⟨z1,hx3⟩ : ∃ x,(yd1.words)[0]? = E x:=⟨_,Av _ ⟨#[]⟩ oo⟩;have hzs:=(Kj ((C8 hvc).1 _ (List.mem_of_getElem? hx3))).2;refine sr 2 (Mn (cS mo ((k:Nat):Int) inp (E ad1) lj.length kj rd wr pv pn ln.length kn pp lp.length kp) 54 1 V O ?_);clear V O J; intro J w1 b1 V O;refine Ka 1 [(2,g)] V ?_;clear V J; intro J V;refine Ab (Aa (wp_seq ?_));have hS:=O;refine rP [(0,true),(1,true),(2,true),(3,true),(4,true),(5,true),(6,true),(7,true),(8,true),(9,false),(10,false)] hS ?_;intro w2 ho; replace O:=O.st ho; clear ho;refine Ke 9 [(14,D #[h,Y yd1.inp,Y yd1.out,I yd1.app])] V [C (E ad1) lj.length kj,C (E ad2) xl1.length xc1,Z ((k:Nat):Int),D #[h,Y yd1.inp,Y yd1.out,I yd1.app]] (cc (hS.s1 0 3 22 (C (E ad1) lj.length kj)) (cc (oo:(0:Int)<=0/\0 < ((lj.length:Nat):Int)) (cc (hS.sx (ad1.add 0) 69 (C (E ad2) xl1.length xc1) fun _ O=>(((hv_j.keep O.only).1).ld0 Bg hx1 (by rfl))) (cc (hS.s1 0 1 3 (Z ((k:Nat):Int))) (cc (oo:(0:Int)<=((k:Nat):Int)/\((k:Nat):Int) < ((xl1.length:Nat):Int)) (cc (hS.sx (ad2.add (k*4)) 73 (D #[h,Y yd1.inp,Y yd1.out,I yd1.app]) fun _ O=>((((hv_j.keep O.only).2 _ (List.mem_of_getElem? hx1)).1).ldn Bm hx2)) c0)))))) ?_;clear V J; intro J V;refine Am (mN (l:=[g,Y (⟨#[]⟩),Y (⟨#[]⟩),I false]) (t:=73) (v:=pt) (d:=3) V O ?_)
 clear V O J; intro J w3 b2 V O;let a:=([(b2,73,[C (E ad3) yd1.words.length yc1,Y yd1.inp,Y yd1.out,I yd1.app]),(b1,54,(cS mo ((k:Nat):Int) inp (E ad1) lj.length kj rd wr pv pn ln.length kn pp lp.length kp))]:OwL);refine ⟨(O.sub [1]),?_⟩;refine Am (mS (off:=0) (vc:=[h,Y yd1.inp,Y yd1.out,I yd1.app]) 0 V O ?_);clear O; intro w4 O;refine ⟨(O.sub [1]),?_⟩;refine Ar (Aa (Sa [(4,g)] V ?_));clear V J; intro J V;have h1i:One fP 59 5 F 0 ([]:List PV) ([]:OwL):=One.nil _ _ _;have hxi:([]:List PV).map PV.d=[]:=rfl;have hdi:Ah ([]:OwL) (fun w=>∀ x∈([]:List PV),VP w x):=fun _ _ _ _ x hx=>absurd hx jY;refine sJ (fun J W=>∃ (po5:Option Addr) (ko5:Nat) (lo5:List PV) (To5:OwL) (Td5:OwL),Holds 83 [] J [(1,pt b1),(2,g),(3,pt b2),(4,C po5 lo5.length ko5)]/\Ow jP Ag w W ([(b2,73,[h,Y yd1.inp,Y yd1.out,I yd1.app]),(b1,54,(cS mo ((k:Nat):Int) inp (E ad1) lj.length kj rd wr pv pn ln.length kn pp lp.length kp))]++(To5++(Td5++([]))))/\One fP 59 5 po5 ko5 lo5 To5/\lo5.map PV.d=pvA pv/\Ah Td5 (fun w=>∀ x∈lo5,VP w x)/\True) ?_ ?_
 · rintro J w5 ⟨po5,ko5,lo5,To5,Td5,V,O,h1o5,hxo5,hdo5,-⟩;have hll5:lo5.length<=12:=by have q_:=congrArg List.length hxo5; simp only [jU,jR] at q_; have q1_:=pvl pv; have q2_:=wrl rd wr; have q3_:=Ro yd1; have q4_:=Q0 yd1; omega
   refine sJ (fun J W=>∃ (po7:Option Addr) (ko7:Nat) (lo7:List PV) (To7:OwL) (Td7:OwL),Holds 83 [] J [(2,g),(3,pt b2),(4,C po7 lo7.length ko7)]/\Ow jP Ag w W ([(b2,73,[h,Y yd1.inp,Y yd1.out,I yd1.app]),(b1,54,(cS mo ((k:Nat):Int) inp (E ad1) lj.length kj rd wr pv pn ln.length kn pp lp.length kp))]++(To7++(Td7++([]))))/\One fP 59 5 po7 ko7 lo7 To7/\lo7.map PV.d=pvA pv++wrA rd wr/\Ah Td7 (fun w=>∀ x∈lo7,VP w x)/\True) ?_ ?_
   · rintro J w6 ⟨po7,ko7,lo7,To7,Td7,V,O,h1o7,hxo7,hdo7,-⟩;have hll7:lo7.length<=12:=by have q_:=congrArg List.length hxo7; simp only [jU,jR] at q_; have q1_:=pvl pv; have q2_:=wrl rd wr; have q3_:=Ro yd1; have q4_:=Q0 yd1; omega
     refine sJ (fun J W=>∃ (po9:Option Addr) (ko9:Nat) (lo9:List PV) (To9:OwL) (Td9:OwL),Holds 83 [] J [(2,g),(3,pt b2),(4,C po9 lo9.length ko9)]/\Ow jP Ag w W ([(b2,73,[h,Y yd1.inp,Y yd1.out,I yd1.app]),(b1,54,(cS mo ((k:Nat):Int) inp (E ad1) lj.length kj rd wr pv pn ln.length kn pp lp.length kp))]++(To9++(Td9++([]))))/\One fP 59 5 po9 ko9 lo9 To9/\lo9.map PV.d=(pvA pv++wrA rd wr)++inA yd1/\Ah Td9 (fun w=>∀ x∈lo9,VP w x)/\True) ?_ ?_
     · rintro J w7 ⟨po9,ko9,lo9,To9,Td9,V,O,h1o9,hxo9,hdo9,-⟩;let r:=(C po9 lo9.length ko9:Value);have hll9:lo9.length<=12:=by have q_:=congrArg List.length hxo9; simp only [jU,jR] at q_; have q1_:=pvl pv; have q2_:=wrl rd wr; have q3_:=Ro yd1; have q4_:=Q0 yd1; omega
       refine sJ (fun J W=>∃ (po14:Option Addr) (ko14:Nat) (lo14:List PV) (To14:OwL) (Td14:OwL),Holds 83 [] J [(2,g),(3,pt b2),(4,C po14 lo14.length ko14)]/\Ow jP Ag w W ([(b2,73,[h,Y yd1.inp,Y yd1.out,I yd1.app]),(b1,54,(cS mo ((k:Nat):Int) inp (E ad1) lj.length kj rd wr pv pn ln.length kn pp lp.length kp))]++(To14++(Td14++([]))))/\One fP 59 5 po14 ko14 lo14 To14/\lo14.map PV.d=((pvA pv++wrA rd wr)++inA yd1)++Kf yd1/\Ah Td14 (fun w=>∀ x∈lo14,VP w x)/\True) ?_ ?_
       · rintro J w8 ⟨po14,ko14,lo14,To14,Td14,V,O,h1o14,hxo14,hdo14,-⟩;have hll14:lo14.length<=12:=by have q_:=congrArg List.length hxo14; simp only [jU,jR] at q_; have q1_:=pvl pv; have q2_:=wrl rd wr; have q3_:=Ro yd1; have q4_:=Q0 yd1; omega
         refine sr 10 (Kb 5 [(74,C po14 lo14.length ko14),(78,Y z1)] V [h,Y z1] (cc (O.l1 0 0 30 (h)) (cc (oo:(0:Int)<=0/\0 < ((yd1.words.length:Nat):Int)) (cc ((((((hv_j.keep O.only).2 _ (List.mem_of_getElem? hx1)).2 _ (List.mem_of_getElem? hx2))).ldT hx3):Ld jP w8 (ad3.add 0) 9 (Y z1)) c0))) ?_);clear V J; intro J V;refine Ae (mB (t0:=9) (t:=41) (el:=5) (s:=z1) (d:=79) V O (by unfold maxLen; omega) ?_);clear V O J; intro J w9 p1 c1 T1 V O hT1;let u:=(lo14++([⟨p1,c1,⟨2,0,0,0,sI z1⟩⟩]:List PV));replace O:Ow jP Ag w w9 (a++(To14++(Td14++(T1++([]))))):=O.tt;refine Ka 1 [(80,D #[Z 2,Z 0,Z 0,Z 0,C p1 ((sI z1).length) c1])] V ?_;clear V J; intro J V;refine Mv [Z 2,Z 0,Z 0,Z 0,C p1 ((sI z1).length) c1] 59 1 81 V O ?_;clear V O J; intro J w10 b3 V O
         refine Ae (mA (f:=fP) (el:=59) (sz:=5) (bytes:=56) (p:=po14) (c:=ko14) (l:=lo14) (l':=([⟨p1,c1,⟨2,0,0,0,sI z1⟩⟩]:List PV)) (T:=To14) (t:=52) (tx:=52) (ty:=52) (x:= C (E ⟨b3,0,F⟩) 1 1) (d:=82) [(b3,59,[Z 2,Z 0,Z 0,Z 0,C p1 ((sI z1).length) c1]),(b2,73,[C (E ad3) yd1.words.length yc1,Y yd1.inp,Y yd1.out,I yd1.app]),(b1,54,(cS mo ((k:Nat):Int) inp (E ad1) lj.length kj rd wr pv pn ln.length kn pp lp.length kp))] (Td14++(T1++([]))) A7 V O h1o14 (Vw.src (e':=59) A7 ((O.b 0).vw (off:=0) (xs:=([⟨p1,c1,⟨2,0,0,0,sI z1⟩⟩]:List PV)) kR) kR) (by (simp only [jR,jS,jT]; omega)) (by unfold maxLen; (simp only [jR,jS,jT]; omega)) ?_);clear V O J; intro J w11 p2 c2 T2 V O hT2;refine Ka 1 [(2,C p2 (u.length) c2)] V ?_;clear V J; intro J V;exact Ab (Aa (wp_ret (cv [C p2 (u.length) c2] V (⟨_,_,_,T2,Td14++T1,rfl,(by rw [hca,Of,List.map_append,hxo14,show Jz yd1=z1 from Lv hx3]; rfl),hT2,(Bu (Ah.l hdo14) (Ah.r (Cj hT1.holds (Yj _)))),((Ow.subP (A:=[_,_,_]) O (.cons _ (.cons _ (.cons _ .slnil))))).tt⟩))))
       refine Sb [(59,I (!(yd1.out.toList == (⟨#[]⟩:ByteArray).toList)))] V [Y yd1.out] (cc (O.l1 0 2 9 (Y yd1.out)) c0) ?_;clear V J; intro J V;rw [(Aw yd1.out:(yd1.out.toList == (⟨#[]⟩:ByteArray).toList)=(decide (yd1.out.size=0)))] at V;rcases dC (yd1.out.size=0) with ⟨h1,h1p⟩|⟨h1,h1p⟩
       · rw [h1] at V;exact cF V (wp_skip (Aa (⟨po9,ko9,lo9,To9,Td9,V.sb,(O).tt,h1o9,(by rw [cJ hvc oo,hxo9] <;> (exact (kC _).symm)),hdo9,trivial⟩)))
       rw [h1] at V;refine cT V (Sa [(5,Z 3)] V ?_);clear V J; intro J V;refine sJ (fun J W=>Holds 83 [] J [(2,g),(3,pt b2),(4,r),(5,Z (if yd1.app=true then 5 else 3))]/\Ow jP Ag w W (a++(To9++(Td9++([]))))/\True) ?_ ?_
       · rintro J w12 ⟨V,O,-⟩;have hS:Ow jP Ag w _ a:=O.sub [0,1];refine rT (.q 0 (.q 1 (.q 2 (.q 3 (.q 4 (.q 7 (.q 8 (.m 5 (.q 6 (.m 9 (.m 10 (.m 11 (.q 12 .fin) .non) .non) .non)) (.m 9 (.m 5 (.q 6 (.m 10 (.m 11 (.q 12 .fin) .non) .non)) .non) .non))))))))) hS ?_;intro w13 ho; replace O:=O.st ho; clear ho;refine Kt [0,1,2,3,4,7,8] [(62,r),(64,D #[Z (if yd1.app=true then 5 else 3),Z 0,Z 0]),(66,Y yd1.out),(70,D #[Z 12,Z (-1),Z 1,Z 0,g])] V [Y yd1.out] (cc (hS.s1 0 2 9 (Y yd1.out)) c0) ?_;clear V J; intro J V;refine Ap ?_ ?_
         · refine (mB (t0:=9) (t:=41) (el:=5) (s:=yd1.out) (d:=67) V O (by unfold maxLen; omega) ?_);clear V O J; intro J w14 p3 c3 T3 V O hT3;let y:=(C p3 ((sI yd1.out).length) c3:Value);replace O:Ow jP Ag w w14 (a++(To9++(Td9++(T3++([]))))):=O.tt;refine ⟨(O.sub [0,1]),?_⟩;refine Kt [6] [(68,D #[Z 7,Z (if yd1.app=true then 5 else 3),Z 0,Z 0,y])] V [] c0 ?_;clear V J; intro J V;refine tm ((mK (d:=(E 71)) V O Tryz.func35 (Bp 8 (-1) _) ?_));clear V O J; intro J w15 V O;refine ⟨(O.sub [0,1]),?_⟩;refine tm ((mN (l:=[Z 7,Z (if yd1.app=true then 5 else 3),Z 0,Z 0,y,Z 12,Z (-1),Z 1,Z 0,g,Z 8,Z (-1),Z 0,Z 0,g]) (t:=59) (v:=fun b=> C (E ⟨b,0,F⟩) 3 3) (d:=72) V O ?_));clear V O J; intro J w16 b4 V O;refine ⟨(O.sub [1,2]),?_⟩
           refine tm ((mA (f:=fP) (el:=59) (sz:=5) (bytes:=56) (p:=po9) (c:=ko9) (l:=lo9) (l':=([⟨p3,c3,⟨7,(if yd1.app=true then 5 else 3),0,0,sI yd1.out⟩⟩,⟨F,0,⟨12,(-1),1,0,[]⟩⟩,⟨F,0,⟨8,(-1),0,0,[]⟩⟩]:List PV)) (T:=To9) (t:=52) (tx:=52) (ty:=52) (x:= C (E ⟨b4,0,F⟩) 3 3) (d:=73) [(b4,59,[Z 7,Z (if yd1.app=true then 5 else 3),Z 0,Z 0,C p3 ((sI yd1.out).length) c3,Z 12,Z (-1),Z 1,Z 0,C F 0 0,Z 8,Z (-1),Z 0,Z 0,C F 0 0]),(b2,73,[C (E ad3) yd1.words.length yc1,Y yd1.inp,Y yd1.out,I yd1.app]),(b1,54,(cS mo ((k:Nat):Int) inp (E ad1) lj.length kj rd wr pv pn ln.length kn pp lp.length kp))] (Td9++(T3++([]))) A7 V O h1o9 (Vw.src (e':=59) A7 ((O.b 0).vw (off:=0) (xs:=([⟨p3,c3,⟨7,(if yd1.app=true then 5 else 3),0,0,sI yd1.out⟩⟩,⟨F,0,⟨12,(-1),1,0,[]⟩⟩,⟨F,0,⟨8,(-1),0,0,[]⟩⟩]:List PV)) kR) kR) (by (simp only [jR,jS,jT]; omega)) (by unfold maxLen; (simp only [jR,jS,jT]; omega)) ?_));clear V O J; intro J w17 p4 c4 T4 V O hT4;refine ⟨(O.sub [1,2]),?_⟩;refine Kt [12] [(4,C p4 ((lo9++([⟨p3,c3,⟨7,(if yd1.app=true then 5 else 3),0,0,sI yd1.out⟩⟩,⟨F,0,⟨12,(-1),1,0,[]⟩⟩,⟨F,0,⟨8,(-1),0,0,[]⟩⟩]:List PV)).length) c4)] V [] c0 ?_;clear V J; intro J V
           exact Aq (Aa (⟨p4,c4,lo9++([⟨p3,c3,⟨7,(if yd1.app=true then 5 else 3),0,0,sI yd1.out⟩⟩,⟨F,0,⟨12,(-1),1,0,[]⟩⟩,⟨F,0,⟨8,(-1),0,0,[]⟩⟩]:List PV),T4,(Td9++T3),V.sb,((Ow.subP (A:=[_,_,_]) O (.cons _ (.cons_cons _ (.cons_cons _ .slnil))))).tt,hT4,(by rw [Q1 oo,List.map_append,hxo9] <;> rfl),(Bu (Ah.l hdo9) (Ah.r (Gg hT3.holds))),trivial⟩))
         refine tm ((mK (d:=(E 71)) V O Tryz.func35 (Bp 8 (-1) _) ?_));clear V O J; intro J w18 V O;refine ⟨(O.sub [0,1]),?_⟩;refine tm ((mB (t0:=9) (t:=41) (el:=5) (s:=yd1.out) (d:=67) V O (by unfold maxLen; omega) ?_));clear V O J; intro J w19 p5 c5 T5 V O hT5;let z:=(C p5 ((sI yd1.out).length) c5:Value);replace O:Ow jP Ag w w19 (a++(To9++(Td9++(T5++([]))))):=O.tt;refine ⟨(O.sub [0,1]),?_⟩;refine Kt [6] [(68,D #[Z 7,Z (if yd1.app=true then 5 else 3),Z 0,Z 0,z])] V [] c0 ?_;clear V J; intro J V;refine tm ((mN (l:=[Z 7,Z (if yd1.app=true then 5 else 3),Z 0,Z 0,z,Z 12,Z (-1),Z 1,Z 0,g,Z 8,Z (-1),Z 0,Z 0,g]) (t:=59) (v:=fun b=> C (E ⟨b,0,F⟩) 3 3) (d:=72) V O ?_));clear V O J; intro J w20 b5 V O;refine ⟨(O.sub [1,2]),?_⟩
         refine tm ((mA (f:=fP) (el:=59) (sz:=5) (bytes:=56) (p:=po9) (c:=ko9) (l:=lo9) (l':=([⟨p5,c5,⟨7,(if yd1.app=true then 5 else 3),0,0,sI yd1.out⟩⟩,⟨F,0,⟨12,(-1),1,0,[]⟩⟩,⟨F,0,⟨8,(-1),0,0,[]⟩⟩]:List PV)) (T:=To9) (t:=52) (tx:=52) (ty:=52) (x:= C (E ⟨b5,0,F⟩) 3 3) (d:=73) [(b5,59,[Z 7,Z (if yd1.app=true then 5 else 3),Z 0,Z 0,C p5 ((sI yd1.out).length) c5,Z 12,Z (-1),Z 1,Z 0,C F 0 0,Z 8,Z (-1),Z 0,Z 0,C F 0 0]),(b2,73,[C (E ad3) yd1.words.length yc1,Y yd1.inp,Y yd1.out,I yd1.app]),(b1,54,(cS mo ((k:Nat):Int) inp (E ad1) lj.length kj rd wr pv pn ln.length kn pp lp.length kp))] (Td9++(T5++([]))) A7 V O h1o9 (Vw.src (e':=59) A7 ((O.b 0).vw (off:=0) (xs:=([⟨p5,c5,⟨7,(if yd1.app=true then 5 else 3),0,0,sI yd1.out⟩⟩,⟨F,0,⟨12,(-1),1,0,[]⟩⟩,⟨F,0,⟨8,(-1),0,0,[]⟩⟩]:List PV)) kR) kR) (by (simp only [jR,jS,jT]; omega)) (by unfold maxLen; (simp only [jR,jS,jT]; omega)) ?_));clear V O J; intro J w21 p6 c6 T6 V O hT6;refine ⟨(O.sub [1,2]),?_⟩;refine Kt [12] [(4,C p6 ((lo9++([⟨p5,c5,⟨7,(if yd1.app=true then 5 else 3),0,0,sI yd1.out⟩⟩,⟨F,0,⟨12,(-1),1,0,[]⟩⟩,⟨F,0,⟨8,(-1),0,0,[]⟩⟩]:List PV)).length) c6)] V [] c0 ?_;clear V J; intro J V
         exact Aq (Aa (⟨p6,c6,lo9++([⟨p5,c5,⟨7,(if yd1.app=true then 5 else 3),0,0,sI yd1.out⟩⟩,⟨F,0,⟨12,(-1),1,0,[]⟩⟩,⟨F,0,⟨8,(-1),0,0,[]⟩⟩]:List PV),T6,(Td9++T5),V.sb,((Ow.subP (A:=[_,_,_]) O (.cons _ (.cons_cons _ (.cons_cons _ .slnil))))).tt,hT6,(by rw [Q1 oo,List.map_append,hxo9] <;> rfl),(Bu (Ah.l hdo9) (Ah.r (Gg hT5.holds))),trivial⟩))
       refine Sb [(61,I yd1.app)] V [I yd1.app] (cc (O.l1 0 3 4 (I yd1.app)) c0) ?_;clear V J; intro J V;rcases jK (yd1.app) with h2 | h2
       · rw [h2] at V;refine cT V (Rc [(5,Z 5)] V [] c0 ?_);clear V J; intro J V;exact Aa (⟨(V.sub (e':=[(2,g),(3,pt b2),(4,r),(5,Z 5)]) [2,3,4,5] kR).cast (by rw [if_pos h2] <;> kernel_rfl),O,trivial⟩)
       rw [h2] at V;exact cF V (wp_skip (Aa (⟨(V.sub (e':=[(2,g),(3,pt b2),(4,r),(5,Z 3)]) [2,3,4,5] kR).cast (by rw [if_neg (show ¬ yd1.app=true by rw [h2]; decide)] <;> kernel_rfl),O,trivial⟩)))
     refine Sb [(46,I (!(yd1.inp.toList == (⟨#[]⟩:ByteArray).toList)))] V [Y yd1.inp] (cc (O.l1 0 1 9 (Y yd1.inp)) c0) ?_;clear V J; intro J V;rw [(Aw yd1.inp:(yd1.inp.toList == (⟨#[]⟩:ByteArray).toList)=(decide (yd1.inp.size=0)))] at V;rcases dC (yd1.inp.size=0) with ⟨h3,h3p⟩|⟨h3,h3p⟩
     · rw [h3] at V;exact cF V (wp_skip (Aa (⟨po7,ko7,lo7,To7,Td7,V.sb,(O).tt,h1o7,(by unfold inA; rw [if_pos oo,hxo7] <;> (exact (kC _).symm)),hdo7,trivial⟩)))
     rw [h3] at V;refine cT V ?_;have hS:Ow jP Ag w _ a:=O.sub [0,1];refine rT (.q 0 (.q 1 (.q 2 (.q 5 (.q 6 (.m 3 (.q 4 (.m 7 (.m 8 (.m 9 (.q 10 .fin) .non) .non) .non)) (.m 7 (.m 3 (.q 4 (.m 8 (.m 9 (.q 10 .fin) .non) .non)) .non) .non))))))) hS ?_;intro w22 ho; replace O:=O.st ho; clear ho;refine Kt [0,1,2,5,6] [(47,C po7 lo7.length ko7),(49,Y yd1.inp),(53,D #[Z 12,Z (-1),Z 0,Z 0,g])] V [Y yd1.inp] (cc (hS.s1 0 1 9 (Y yd1.inp)) c0) ?_;clear V J; intro J V;refine Ap ?_ ?_
     · refine (mB (t0:=9) (t:=41) (el:=5) (s:=yd1.inp) (d:=50) V O (by unfold maxLen; omega) ?_);clear V O J; intro J w23 p7 c7 T7 V O hT7;let i:=([⟨p7,c7,⟨7,0,0,0,sI yd1.inp⟩⟩,⟨F,0,⟨12,(-1),0,0,[]⟩⟩,⟨F,0,⟨8,(-1),0,0,[]⟩⟩]:List PV);let a0:=(C p7 ((sI yd1.inp).length) c7:Value);replace O:Ow jP Ag w w23 (a++(To7++(Td7++(T7++([]))))):=O.tt;refine ⟨(O.sub [0,1]),?_⟩;refine Kt [4] [(51,D #[Z 7,Z 0,Z 0,Z 0,a0])] V [] c0 ?_;clear V J; intro J V;refine tm ((mK (d:=(E 54)) V O Tryz.func35 (Bp 8 (-1) _) ?_));clear V O J; intro J w24 V O;refine ⟨(O.sub [0,1]),?_⟩;refine tm ((mN (l:=[Z 7,Z 0,Z 0,Z 0,a0,Z 12,Z (-1),Z 0,Z 0,g,Z 8,Z (-1),Z 0,Z 0,g]) (t:=59) (v:=fun b=> C (E ⟨b,0,F⟩) 3 3) (d:=55) V O ?_));clear V O J; intro J w25 b6 V O;refine ⟨(O.sub [1,2]),?_⟩
       refine tm ((mA (f:=fP) (el:=59) (sz:=5) (bytes:=56) (p:=po7) (c:=ko7) (l:=lo7) (l':=([⟨p7,c7,⟨7,0,0,0,sI yd1.inp⟩⟩,⟨F,0,⟨12,(-1),0,0,[]⟩⟩,⟨F,0,⟨8,(-1),0,0,[]⟩⟩]:List PV)) (T:=To7) (t:=52) (tx:=52) (ty:=52) (x:= C (E ⟨b6,0,F⟩) 3 3) (d:=56) [(b6,59,[Z 7,Z 0,Z 0,Z 0,C p7 ((sI yd1.inp).length) c7,Z 12,Z (-1),Z 0,Z 0,C F 0 0,Z 8,Z (-1),Z 0,Z 0,C F 0 0]),(b2,73,[C (E ad3) yd1.words.length yc1,Y yd1.inp,Y yd1.out,I yd1.app]),(b1,54,(cS mo ((k:Nat):Int) inp (E ad1) lj.length kj rd wr pv pn ln.length kn pp lp.length kp))] (Td7++(T7++([]))) A7 V O h1o7 (Vw.src (e':=59) A7 ((O.b 0).vw (off:=0) (xs:=([⟨p7,c7,⟨7,0,0,0,sI yd1.inp⟩⟩,⟨F,0,⟨12,(-1),0,0,[]⟩⟩,⟨F,0,⟨8,(-1),0,0,[]⟩⟩]:List PV)) kR) kR) (by (simp only [jR,jS,jT]; omega)) (by unfold maxLen; (simp only [jR,jS,jT]; omega)) ?_));clear V O J; intro J w26 p8 c8 T8 V O hT8;refine ⟨(O.sub [1,2]),?_⟩;refine Kt [10] [(4,C p8 ((lo7++i).length) c8)] V [] c0 ?_;clear V J; intro J V;exact Aq (Aa (⟨p8,c8,lo7++i,T8,(Td7++T7),V.sb,((Ow.subP (A:=[_,_,_]) O (.cons _ (.cons_cons _ (.cons_cons _ .slnil))))).tt,hT8,(by unfold inA; rw [if_neg oo,List.map_append,hxo7] <;> rfl),(Bu (Ah.l hdo7) (Ah.r (Gg hT7.holds))),trivial⟩))
     refine tm ((mK (d:=(E 54)) V O Tryz.func35 (Bp 8 (-1) _) ?_));clear V O J; intro J w27 V O;refine ⟨(O.sub [0,1]),?_⟩;refine tm ((mB (t0:=9) (t:=41) (el:=5) (s:=yd1.inp) (d:=50) V O (by unfold maxLen; omega) ?_));clear V O J; intro J w28 p9 c9 T9 V O hT9;let j:=([⟨p9,c9,⟨7,0,0,0,sI yd1.inp⟩⟩,⟨F,0,⟨12,(-1),0,0,[]⟩⟩,⟨F,0,⟨8,(-1),0,0,[]⟩⟩]:List PV);let a1:=(C p9 ((sI yd1.inp).length) c9:Value);replace O:Ow jP Ag w w28 (a++(To7++(Td7++(T9++([]))))):=O.tt;refine ⟨(O.sub [0,1]),?_⟩;refine Kt [4] [(51,D #[Z 7,Z 0,Z 0,Z 0,a1])] V [] c0 ?_;clear V J; intro J V;refine tm ((mN (l:=[Z 7,Z 0,Z 0,Z 0,a1,Z 12,Z (-1),Z 0,Z 0,g,Z 8,Z (-1),Z 0,Z 0,g]) (t:=59) (v:=fun b=> C (E ⟨b,0,F⟩) 3 3) (d:=55) V O ?_));clear V O J; intro J w29 b7 V O;refine ⟨(O.sub [1,2]),?_⟩
     refine tm ((mA (f:=fP) (el:=59) (sz:=5) (bytes:=56) (p:=po7) (c:=ko7) (l:=lo7) (l':=([⟨p9,c9,⟨7,0,0,0,sI yd1.inp⟩⟩,⟨F,0,⟨12,(-1),0,0,[]⟩⟩,⟨F,0,⟨8,(-1),0,0,[]⟩⟩]:List PV)) (T:=To7) (t:=52) (tx:=52) (ty:=52) (x:= C (E ⟨b7,0,F⟩) 3 3) (d:=56) [(b7,59,[Z 7,Z 0,Z 0,Z 0,C p9 ((sI yd1.inp).length) c9,Z 12,Z (-1),Z 0,Z 0,C F 0 0,Z 8,Z (-1),Z 0,Z 0,C F 0 0]),(b2,73,[C (E ad3) yd1.words.length yc1,Y yd1.inp,Y yd1.out,I yd1.app]),(b1,54,(cS mo ((k:Nat):Int) inp (E ad1) lj.length kj rd wr pv pn ln.length kn pp lp.length kp))] (Td7++(T9++([]))) A7 V O h1o7 (Vw.src (e':=59) A7 ((O.b 0).vw (off:=0) (xs:=([⟨p9,c9,⟨7,0,0,0,sI yd1.inp⟩⟩,⟨F,0,⟨12,(-1),0,0,[]⟩⟩,⟨F,0,⟨8,(-1),0,0,[]⟩⟩]:List PV)) kR) kR) (by (simp only [jR,jS,jT]; omega)) (by unfold maxLen; (simp only [jR,jS,jT]; omega)) ?_));clear V O J; intro J w30 p10 c10 T10 V O hT10;refine ⟨(O.sub [1,2]),?_⟩;refine Kt [10] [(4,C p10 ((lo7++j).length) c10)] V [] c0 ?_;clear V J; intro J V;exact Aq (Aa (⟨p10,c10,lo7++j,T10,(Td7++T9),V.sb,((Ow.subP (A:=[_,_,_]) O (.cons _ (.cons_cons _ (.cons_cons _ .slnil))))).tt,hT10,(by unfold inA; rw [if_neg oo,List.map_append,hxo7] <;> rfl),(Bu (Ah.l hdo7) (Ah.r (Gg hT9.holds))),trivial⟩))
   refine Sb [(30,I (wr != (-1)))] V [Z wr] (cc (O.l1 1 5 3 (Z wr)) c0) ?_;clear V J; intro J V;rcases jK (wr != (-1)) with h4 | h4
   · rw [h4] at V;have h4p:=A5 h4;refine cT V ?_;have hS:Ow jP Ag w _ a:=O.sub [0,1];refine rP [(0,true),(1,true),(2,true),(3,true),(4,true),(5,true),(6,true),(8,true),(9,true),(7,false),(10,false),(11,false),(12,false),(13,true)] hS ?_;intro w31 ho; replace O:=O.st ho; clear ho;refine Ke 9 [(31,C po5 lo5.length ko5),(35,D #[Z 12,Z wr,Z 1,Z 0,g]),(37,Z wr),(40,Z rd)] V [Z wr,Z wr,Z rd] (cc (hS.s1 1 5 3 (Z wr)) (cc (hS.s1 1 5 3 (Z wr)) (cc (hS.s1 1 4 3 (Z rd)) c0))) ?_;clear V J; intro J V;refine Am (mK (d:=(E 38)) V O Tryz.func35 (Bp 8 wr _) ?_);clear V O J; intro J w32 V O;refine ⟨(O.sub [0,1]),?_⟩;refine Am (mK (d:=(E 41)) V O Tryz.func35 (Bp 8 rd _) ?_);clear V O J; intro J w33 V O;refine ⟨(O.sub [0,1]),?_⟩;refine Am (mN (l:=[Z 12,Z wr,Z 1,Z 0,g,Z 8,Z wr,Z 0,Z 0,g,Z 8,Z rd,Z 0,Z 0,g]) (t:=59) (v:=fun b=> C (E ⟨b,0,F⟩) 3 3) (d:=42) V O ?_);clear V O J; intro J w34 b8 V O;refine ⟨(O.sub [1,2]),?_⟩
     refine Am (mA (f:=fP) (el:=59) (sz:=5) (bytes:=56) (p:=po5) (c:=ko5) (l:=lo5) (l':=([⟨F,0,⟨12,wr,1,0,[]⟩⟩,⟨F,0,⟨8,wr,0,0,[]⟩⟩,⟨F,0,⟨8,rd,0,0,[]⟩⟩]:List PV)) (T:=To5) (t:=52) (tx:=52) (ty:=52) (x:= C (E ⟨b8,0,F⟩) 3 3) (d:=43) [(b8,59,[Z 12,Z wr,Z 1,Z 0,C F 0 0,Z 8,Z wr,Z 0,Z 0,C F 0 0,Z 8,Z rd,Z 0,Z 0,C F 0 0]),(b2,73,[C (E ad3) yd1.words.length yc1,Y yd1.inp,Y yd1.out,I yd1.app]),(b1,54,(cS mo ((k:Nat):Int) inp (E ad1) lj.length kj rd wr pv pn ln.length kn pp lp.length kp))] (Td5++([])) A7 V O h1o5 (Vw.src (e':=59) A7 ((O.b 0).vw (off:=0) (xs:=([⟨F,0,⟨12,wr,1,0,[]⟩⟩,⟨F,0,⟨8,wr,0,0,[]⟩⟩,⟨F,0,⟨8,rd,0,0,[]⟩⟩]:List PV)) kR) kR) (by (simp only [jR,jS,jT]; omega)) (by unfold maxLen; (simp only [jR,jS,jT]; omega)) ?_);clear V O J; intro J w35 p11 c11 T11 V O hT11;refine ⟨(O.sub [1,2]),?_⟩;refine Kd 1 [(4,C p11 ((lo5++o).length) c11)] V ?_;clear V J; intro J V;exact Ar (Aa (⟨p11,c11,lo5++o,T11,Td5,V.sb,((Ow.subP (A:=[_,_,_]) O (.cons _ (.cons_cons _ (.cons_cons _ .slnil))))).tt,hT11,(by unfold wrA; rw [if_pos oo,List.map_append,hxo5] <;> rfl),(Bu hdo5 G4),trivial⟩))
   rw [h4] at V;have h4p:=Au h4;exact cF V (wp_skip (Aa (⟨po5,ko5,lo5,To5,Td5,V.sb,(O).tt,h1o5,(by unfold wrA; rw [if_neg oo,hxo5] <;> (exact (kC _).symm)),hdo5,trivial⟩)))
 refine Sb [(17,I (pv != (-1)))] V [Z pv] (cc (O.l1 1 6 3 (Z pv)) c0) ?_;clear V J; intro J V;rcases jK (pv != (-1)) with h5 | h5
 · rw [h5] at V;have h5p:=A5 h5;refine cT V ?_;have hS:=O.pk [0,1];refine rP [(0,true),(1,true),(2,true),(3,true),(4,true),(5,true),(6,true),(7,false),(8,false),(9,false),(10,true)] hS ?_;intro w36 ho; replace O:=O.st ho; clear ho;refine Ke 7 [(18,g),(22,D #[Z 12,Z pv,Z 0,Z 0,g]),(24,Z pv)] V [Z pv,Z pv] (cc (hS.s1 1 6 3 (Z pv)) (cc (hS.s1 1 6 3 (Z pv)) c0)) ?_;clear V J; intro J V;refine Am (mK (d:=(E 25)) V O Tryz.func35 (Bp 8 pv _) ?_);clear V O J; intro J w37 V O;refine ⟨(O.sub [0,1]),?_⟩;refine Am (mN (l:=[Z 12,Z pv,Z 0,Z 0,g,Z 8,Z pv,Z 0,Z 0,g]) (t:=59) (v:=fun b=> C (E ⟨b,0,F⟩) 2 2) (d:=26) V O ?_);clear V O J; intro J w38 b9 V O;refine ⟨(O.sub [1,2]),?_⟩
   refine Am (mA (f:=fP) (el:=59) (sz:=5) (bytes:=56) (p:=F) (c:=0) (l:=([]:List PV)) (l':=([⟨F,0,⟨12,pv,0,0,[]⟩⟩,⟨F,0,⟨8,pv,0,0,[]⟩⟩]:List PV)) (T:=([]:OwL)) (t:=52) (tx:=52) (ty:=52) (x:= C (E ⟨b9,0,F⟩) 2 2) (d:=27) [(b9,59,[Z 12,Z pv,Z 0,Z 0,C F 0 0,Z 8,Z pv,Z 0,Z 0,C F 0 0]),(b2,73,[C (E ad3) yd1.words.length yc1,Y yd1.inp,Y yd1.out,I yd1.app]),(b1,54,(cS mo ((k:Nat):Int) inp (E ad1) lj.length kj rd wr pv pn ln.length kn pp lp.length kp))] (([]:OwL)++([])) A7 V O h1i (Vw.src (e':=59) A7 ((O.b 0).vw (off:=0) (xs:=([⟨F,0,⟨12,pv,0,0,[]⟩⟩,⟨F,0,⟨8,pv,0,0,[]⟩⟩]:List PV)) kR) kR) (by (simp only [jR,jS,jT]; omega)) (by unfold maxLen; (simp only [jR,jS,jT]; omega)) ?_);clear V O J; intro J w39 p12 c12 T12 V O hT12;refine ⟨(O.sub [1,2]),?_⟩;refine Kd 1 [(4,C p12 ((([]:List PV)++q).length) c12)] V ?_;clear V J; intro J V;exact Ar (Aa (⟨p12,c12,([]:List PV)++q,T12,([]:OwL),V.sb,((Ow.subP (A:=[_,_,_]) O (.cons _ (.cons_cons _ (.cons_cons _ .slnil))))).tt,hT12,(by unfold pvA; rw [if_pos oo,List.map_append,hxi] <;> rfl),(Bu hdi G4),trivial⟩))
 rw [h5] at V;have h5p:=Au h5;exact cF V (wp_skip (Aa (⟨F,0,([]:List PV),([]:OwL),([]:OwL),V.sb,(O).tt,h1i,(by unfold pvA; rw [if_neg oo,hxi] <;> (rfl)),hdi,trivial⟩)))
open Go Go.RowKit Go.Proofs.Sx
abbrev cSt (v:SV):Value:= D #[Z v.mo,Z v.po,Y v.inp,C v.pj v.lj.length v.cj,Z v.rd,Z v.wr,Z v.pv,C v.pc v.lc.length v.cc,C v.pp v.lp.length v.cp]
abbrev cCa (x:PV):Value:= D #[Z x.d.call,Z x.d.a0,Z x.d.a1,Z x.d.a2,C x.p x.d.data.length x.c]
abbrev Ao (B:World->Prop) (T:OwL) (Q:World->Prop):Prop:=Ah T fun w=>B w->Q w
abbrev Ex (B:World->Prop) (T:OwL) (w:World) (q:StL×CallL) (e:Ending) (w':World):Prop :=
 ∃ (v:SV) (x:PV) (Tn:OwL),q=(v.d,x.d)/\e = .returned (.tuple #[cSt v,cCa x])/\Ow jP Ag w w' Tn/\Ao B (T++Tn) v.ok/\Ao B (T++Tn) fun w=>VP w x
section
variable {B:World->Prop} {T Tn:OwL} {v:SV}
theorem okB (h1:Ao B T fun w=>VL w (C v.pj v.lj.length v.cj) v.lj) (h2:Ao B T fun w=>Vw fN w (C v.pc v.lc.length v.cc) v.lc) (h3:Ao B T fun w=>PL w (C v.pp v.lp.length v.cp) v.lp):Ao B T v.ok:=fun X w₀ w O b=>⟨h1 X w₀ w O b,h2 X w₀ w O b,h3 X w₀ w O b⟩
theorem Ao.old {Q R:World->Prop} (h:Ao B T Q) (hq : ∀ w,Q w->R w):Ao B (T++Tn) R:=Ah.l (h.mono fun w f b=>hq w (f b))
theorem Ao.new {Q:World->Prop} (h:Ah Tn Q):Ao B (T++Tn) Q:=Ah.r (h.mono fun w f _=>f)
theorem Ao.all {Q:World->Prop} (h : ∀ w,Q w):Ao B T Q:=fun _ _ w _ _=>h w
theorem B2 (n a b c:Int):Ao B T fun w=>VP w ⟨F,0,⟨n,a,b,c,[]⟩⟩:=Ao.all fun w=>Bf (Bn _ _ _ _) w _ (List.mem_singleton.2 rfl)
theorem J1 {w:World} {p:Option Addr} {x:JV} {r:List JV} {m c c':Nat} (hr:r.length=0) (h:VL w (C p m c) (x::r)):VL w (C p r.length c') r:=by
 obtain rfl:=List.length_eq_zero_iff.1 hr
 exact ⟨Vw.nil_any h.1 _,fun x hx=>absurd hx jY⟩
end
open Go Go.RowKit Go.Proofs.Sx
def rl (s:ByteArray) (n:Nat):Nat:=if kd s n=8 then 1 else tl s n
def rt (s:ByteArray) (n:Nat):ByteArray:=s.extract n (n+rl s n)
def rx (s:ByteArray) (n:Nat):Nat:=sk s (n+rl s n)
section
variable {s:ByteArray} {n:Nat}
theorem Yv (s:ByteArray) (n:Nat):rl s n<=s.size - n:=by
 unfold rl
 have h1:=Bo s n
 have h2:=N7 s n
 split <;> omega
theorem Jc (s:ByteArray) (n:Nat):(kd s n=0/\rl s n=0)\/(kd s n=1/\rl s n=wl s n/\1<=wl s n)\/(kd s n=4/\rl s n=2)\/((kd s n=2\/kd s n=3\/kd s n=5\/kd s n=6\/kd s n=7\/kd s n=8)/\rl s n=1):=by
 have h:=Dx s n
 unfold rl
 split <;> omega
theorem Hf (h:n < s.size):n < rx s n:=by
 unfold rx
 have h1:=U5 s (n+rl s n)
 have h2:=Jc s n
 have h3:=Bo s n
 omega
theorem rx_le (h:n<=s.size):rx s n<=s.size:=by unfold rx; have:=Yv s n; exact Mr (by omega)
theorem Qk (h:kd s n≠8):rx s n=nx s n:=by unfold rx nx rl; rw [if_neg h]
theorem Fm (s:ByteArray) (n:Nat):(rt s n).size=rl s n:=by
 unfold rt
 have:=Yv s n
 rw [kH]; omega
theorem Ym (h:kd s n≠8):rt s n=tk s n:=by unfold rt tk rl; rw [if_neg h]
theorem fG {i:Nat} (h:i < rl s n):sb (rt s n) i=sb s (n+i):=Mu (by omega)
theorem J6 (s:ByteArray) (n:Nat):((rt s n).toList == (⟨#[]⟩:ByteArray).toList)=decide (kd s n=0):=by
 rw [Aw,Fm]
 have:=Jc s n
 exact decide_eq_decide.2 (by omega)
theorem My (x:UInt8) (k:Nat) (hx:(x.toNat=60/\k=2)\/(x.toNat=62/\k=3)\/(x.toNat=59/\k=5)\/(x.toNat=38/\k=6)\/(x.toNat=124/\k=7)) (s:ByteArray) (n:Nat):((rt s n).toList == (⟨#[x]⟩:ByteArray).toList)=decide (kd s n=k):=by
 by_cases h:kd s n=8
 · rw [Ug,Fm]
   refine decide_eq_decide.2 ?_
   have h1:=Jc s n
   have h2:=Bo s n
   constructor
   · rintro ⟨e1,e2⟩
     rw [fG (by omega),Nat.add_zero] at e2
     omega
   · intro e; omega
 · rw [Ym h]; exact Mi x k hx s n
theorem Jn (s:ByteArray) (n:Nat):((rt s n).toList == (⟨#[62,62]⟩:ByteArray).toList)=decide (kd s n=4):=by
 by_cases h:kd s n=8
 · rw [O6,Fm]
   have h1:=Jc s n
   rw [jO (by omega),jO (by omega)]
 · rw [Ym h]; exact Mm s n
theorem fL (s:ByteArray) (n:Nat):((rt s n).toList == (⟨#[60]⟩:ByteArray).toList)=decide (kd s n=2):=My 60 2 (by decide) s n
theorem Yn (s:ByteArray) (n:Nat):((rt s n).toList == (⟨#[62]⟩:ByteArray).toList)=decide (kd s n=3):=My 62 3 (by decide) s n
theorem Uo (s:ByteArray) (n:Nat):((rt s n).toList == (⟨#[59]⟩:ByteArray).toList)=decide (kd s n=5):=My 59 5 (by decide) s n
theorem Fw (s:ByteArray) (n:Nat):((rt s n).toList == (⟨#[38]⟩:ByteArray).toList)=decide (kd s n=6):=My 38 6 (by decide) s n
theorem gZ (s:ByteArray) (n:Nat):((rt s n).toList == (⟨#[124]⟩:ByteArray).toList)=decide (kd s n=7):=My 124 7 (by decide) s n
theorem cG (h : ¬ kd s n=0):A2 (sb (rt s n) 0)=decide (kd s n=1):=by
 have h1:=Bo s n
 have h2:=Jc s n
 rw [fG (by omega),Nat.add_zero]
 rcases h1 with h1 | ⟨h1,_,h3⟩ | ⟨h1,h3,h4⟩
 · omega
 · rw [h3]; exact (jN h1).symm
 · rw [h3]; exact (jO (by omega)).symm
theorem gY (h : ¬ n < s.size):rt s n=⟨#[]⟩:=by
 have h1:=Fm s n
 have h2:=Yv s n
 have h3:(rt s n).data.toList.length=0:=by rw [Bt]; omega
 exact P5 (List.length_eq_zero_iff.1 h3)
end
def tks (s:ByteArray) (n:Nat):List (ByteArray×Nat) :=
 if h:n < s.size then (rt s n,n)::tks s (rx s n) else [(⟨#[]⟩,s.size)]
 termination_by s.size - n
 decreasing_by have:=Hf h; omega
section
variable {s:ByteArray} {n:Nat}
theorem Hc (h:n < s.size):tks s n=(rt s n,n)::tks s (rx s n):=by rw [tks]; rw [dif_pos h]
theorem O3 (h : ¬ n < s.size):tks s n=[(⟨#[]⟩,s.size)]:=by rw [tks]; rw [dif_neg h]
theorem Ya (hn:n<=s.size):(tks s n)[0]? = E (rt s n,n):=by
 by_cases h:n < s.size
 · rw [Hc h]; rfl
 · rw [O3 h,gY h,show n=s.size by omega]; rfl
theorem Bk (s:ByteArray) (n:Nat) : 1<=(tks s n).length:=by
 by_cases h:n < s.size
 · rw [Hc h]; simp
 · rw [O3 h]; simp
theorem O2 (h:n < s.size):(tks s n).length - 1=(tks s (rx s n)).length:=by rw [Hc h]; simp
end
def fK (x:ByteArray×Nat):List Value:=[.string x.1,.int .i64 ((x.2:Nat):Int)]
theorem Js:Enc fK 2:=⟨fun _=>rfl,fun x v hv=>by
 simp only [fK,List.mem_cons,jY,or_false] at hv
 rcases hv with rfl | rfl <;> rfl⟩
structure TV (toks:List (ByteArray×Nat)) (CT:List Value) (s:ByteArray) (j n k:Nat):Prop where
 drop:toks.drop j=tks s n
 cap:(tks s n).length<=k
 pos:n<=s.size
 cells : ∃ r,CT=toks.flatMap fK++r
section
variable {toks:List (ByteArray×Nat)} {CT:List Value} {s:ByteArray} {j n k:Nat} {P:Program} {w:World} {tb:Nat} {t:TypeId}
theorem TV.at (h:TV toks CT s j n k):toks[j]? = E (rt s n,n):=by
 have:=Ya h.pos
 rw [← h.drop,List.getElem?_drop] at this
 simpa using this
theorem TV.cell (h:TV toks CT s j n k) {i:Nat} {v:Value} (hv:(fK (rt s n,n))[i]? = E v):CT[2*j+i]? = E v:=by
 obtain ⟨r,rfl⟩:=h.cells
 have h1:=Px Js toks j _ i v h.at hv
 rw [Nat.mul_comm] at h1
 rw [List.getElem?_append_left (List.getElem?_eq_some_iff.1 h1).1]; exact h1
theorem TV.ldn (h:TV toks CT s j n k) (hB:Blk w tb t CT) {u:TypeId} (ht:Tv P u=some 2:=by kernel_rfl):Ld P w ((⟨tb,2*j,F⟩:Addr).add 0) u (D #[.string (rt s n),.int .i64 ((n:Nat):Int)]) :=
 S4 (cs:=[.string (rt s n),.int .i64 ((n:Nat):Int)]) ht rfl fun i v hv=>by
  rw [Er,Er,Nat.add_zero]
  exact hB.cell (h.cell hv)
theorem TV.ld0 (h:TV toks CT s j n k) (hB:Blk w tb t CT) {u:TypeId} (ht:K6 P u=true:=by kernel_rfl):Ld P w ((⟨tb,2*j,F⟩:Addr).add 0) u (.string (rt s n)):=E1 ht (by rw [Er]; exact hB.cell (h.cell (i:=0) rfl))
theorem TV.ld1 (h:TV toks CT s j n k) (hB:Blk w tb t CT) {u:TypeId} (ht:K6 P u=true:=by kernel_rfl):Ld P w (((⟨tb,2*j,F⟩:Addr).add 0).add 1) u (.int .i64 ((n:Nat):Int)):=E1 ht (by rw [Er,Er]; exact hB.cell (h.cell (i:=1) rfl))
theorem TV.next (h:TV toks CT s j n k) (hn:n < s.size):TV toks CT s (j+1) (rx s n) (k - 1):=by
 have h1:=Hc hn
 have h2:=h.drop
 refine ⟨?_,by have:=O2 hn; have:=h.cap; omega,rx_le h.pos,h.cells⟩
 rw [h1] at h2
 have h3:=congrArg List.tail h2
 rwa [List.tail_drop,List.tail_cons] at h3
theorem TV.two (h:TV toks CT s j n k) (hn:n < s.size) : 2<=(tks s n).length:=by have h1:=O2 hn; have h2:=Bk s (rx s n); omega
end
abbrev RP (pb tb:Nat) (CT:List Value) (s:ByteArray) (j k n a:Nat) (er:Int):OwL:=[(pb,138,[C (E ⟨tb,2*j,F⟩) (tks s n).length k,Z ((a:Nat):Int),Z er]),(tb,140,CT)]
def r0 {α:Type} (a:Nat) (er:Int) (r:PR α):PR α:=if er=0 then r else .error (a,er)
def St {α:Type} (r:PR α) (v : α) (n' a':Nat) (er':Int):Prop:=(er'=0/\r = .ok (v,n'))\/(er'≠0/\r = .error (a',er'))
theorem Od {α:Type} {a:Nat} {er:Int} {r:PR α} (h:er≠0):r0 a er r = .error (a,er):=by unfold r0; rw [if_neg h]
theorem Kv (sv:ByteArray) (n:Nat) (w:World) :
 Calls jP 113 #[D #[Y (rt sv n),Z ((n:Nat):Int)]] w fun e w'=>e = .returned (.bool (decide (kd sv n=1)))/\Only Ag w w':=by
 refine Ak (args:=[D #[Y (rt sv n),Z ((n:Nat):Int)]]) (m:=11) (n:=12) Tryz.func113 rfl kR kR fun J V=>?_;have O:=Ow.nil jP Ag w;have hrl:=Jc sv n;have hrz:=Fm sv n;have hsb:=Kw (rt sv n) 0;refine sr 2 (Mn [Y (rt sv n),Z ((n:Nat):Int)] 140 1 V O fun J w1 b1 V O=>Ka 1 [(2,I false)] V fun J V=>Ab (Aa (sr 10 (Kb 4 [(5,I (!((rt sv n).toList == (⟨#[]⟩:ByteArray).toList))),(6,I (!((rt sv n).toList == (⟨#[]⟩:ByteArray).toList)))] V [Y (rt sv n)] (cc (O.l1 0 0 9 (Y (rt sv n))) c0) fun J V=>?_))));rw [(J6 sv n:((rt sv n).toList == (⟨#[]⟩:ByteArray).toList)=(decide (kd sv n=0)))] at V;rcases dC (kd sv n=0) with ⟨h1,h1p⟩|⟨h1,h1p⟩
 · rw [h1] at V;exact Ka 6 [] V fun J V=>Ab (Aa (wp_ret (cv [I false] V (⟨rB (by exact (jO oo).symm),O.only⟩))))
 rw [h1] at V;refine Kb 3 [(6,I true),(9,u8 (sb (rt sv n) 0))] V [Y (rt sv n)] (cc (O.l1 0 0 9 (Y (rt sv n))) (cc (oo:(0:Int)<=0/\0 < (((rt sv n).size:Nat):Int)) c0)) fun J V=>Mk 10 V O Tryz.func88 (H3 (sb (rt sv n) 0) _ oo oo) fun J w2 V O=>Ka 2 [(2,I (A2 (sb (rt sv n) 0)))] V fun J V=>?_;rw [(cG oo:(A2 (sb (rt sv n) 0))=(decide (kd sv n=1)))] at V;exact Ab (Aa (wp_ret (cv [I (decide (kd sv n=1))] V (⟨rB (by rfl),O.only⟩))))
theorem Ln (sv:ByteArray) (n:Nat) (w:World) :
 Calls jP 100 #[D #[Y (rt sv n),Z ((n:Nat):Int)]] w fun e w'=>e = .returned (.bool (Ce (kd sv n)))/\Only Ag w w':=by
 let a:=(D #[Y (rt sv n),Z ((n:Nat):Int)]:Value);let b:=[Y (rt sv n),Z ((n:Nat):Int)];let c:=[Y (rt sv n)];refine Ak (args:=[a]) (m:=19) (n:=20) Tryz.func100 rfl kR kR fun J V=>?_;have O:=Ow.nil jP Ag w;refine sr 2 (Mn b 140 1 V O fun J w1 b1 V O=>Ka 1 [(2,I false)] V fun J V=>Ab (Aa (sr 18 (Kb 1 [(3,a)] V [a] (cc (O.ln 0 0 140 b) c0) fun J V=>Mk 4 V O Tryz.func113 (Kv sv n _) fun J w2 V O=>Ka 1 [(5,I (decide (kd sv n=1)))] V fun J V=>?_))));rcases dC (kd sv n=1) with ⟨h1,h1p⟩|⟨h1,h1p⟩
 · rw [h1] at V;refine Ka 15 [(2,I true)] V fun J V=>Ab (Aa (wp_ret (cv [I true] V (⟨rB ?_,O.only⟩))));unfold Ce;exact (jN oo).symm
 rw [h1] at V;refine Kb 5 [(8,I ((rt sv n).toList == (⟨#[60]⟩:ByteArray).toList)),(9,I ((rt sv n).toList == (⟨#[60]⟩:ByteArray).toList)),(10,I ((rt sv n).toList == (⟨#[60]⟩:ByteArray).toList))] V c (cc (O.l1 0 0 9 (Y (rt sv n))) c0) fun J V=>?_;rw [(fL sv n:((rt sv n).toList == (⟨#[60]⟩:ByteArray).toList)=(decide (kd sv n=2)))] at V;rcases dC (kd sv n=2) with ⟨h2,h2p⟩|⟨h2,h2p⟩
 · rw [h2] at V;refine Ka 10 [(2,I true)] V fun J V=>Ab (Aa (wp_ret (cv [I true] V (⟨rB ?_,O.only⟩))));unfold Ce;exact (jN oo).symm
 rw [h2] at V;refine Kb 5 [(13,I ((rt sv n).toList == (⟨#[62]⟩:ByteArray).toList)),(14,I ((rt sv n).toList == (⟨#[62]⟩:ByteArray).toList)),(15,I ((rt sv n).toList == (⟨#[62]⟩:ByteArray).toList))] V c (cc (O.l1 0 0 9 (Y (rt sv n))) c0) fun J V=>?_;rw [(Yn sv n:((rt sv n).toList == (⟨#[62]⟩:ByteArray).toList)=(decide (kd sv n=3)))] at V;rcases dC (kd sv n=3) with ⟨h3,h3p⟩|⟨h3,h3p⟩
 · rw [h3] at V;refine Ka 5 [(2,I true)] V fun J V=>Ab (Aa (wp_ret (cv [I true] V (⟨rB ?_,O.only⟩))));unfold Ce;exact (jN oo).symm
 rw [h3] at V;refine Kb 5 [(2,I ((rt sv n).toList == (⟨#[62,62]⟩:ByteArray).toList))] V c (cc (O.l1 0 0 9 (Y (rt sv n))) c0) fun J V=>?_;rw [(Jn sv n:((rt sv n).toList == (⟨#[62,62]⟩:ByteArray).toList)=(decide (kd sv n=4)))] at V;refine Ab (Aa (wp_ret (cv [I (decide (kd sv n=4))] V (⟨rB ?_,O.only⟩))));unfold Ce;exact decide_eq_decide.2 oo
theorem U7 {s:ByteArray} {n:Nat} (h:A2 (sb s n)=false):kd s n≠1:=fun e=>by
 rcases Bo s n with q | ⟨_,_,q⟩ | ⟨_,_,q⟩
 · omega
 · rw [h] at q; cases q
 · omega
theorem kd_p {s:ByteArray} {n:Nat} (hn:n < s.size) (h:A2 (sb s n)=true):kd s n=1:=by
 rcases Bo s n with q | ⟨q,_,_⟩ | ⟨_,q,_⟩
 · omega
 · exact q
 rw [h] at q; cases q
theorem Fz {s:ByteArray} {i m:Nat} {o:List (ByteArray×Nat)} (ho:o++tks s (sk s i)=tks s (sk s 0)) (hi:i < s.size) (hb : ¬ C6 (sb s i)=true) (hm:m=rl s i) :
 (o++[(s.extract i (i+m),i)])++tks s (sk s (i+m))=tks s (sk s 0):=by
 rw [Pa (n:=i) (by rintro ⟨_,q⟩; exact hb q),Hc hi] at ho;subst hm;rw [← ho,List.append_assoc]; rfl
theorem Se (sv:ByteArray) (w:World) (hs:sv.size<=1000000) :
 Calls jP 99 #[Y sv] w fun e w'=>∃ p c T,e = .returned (C p (tks sv (sk sv 0)).length c)/\One fK 140 2 p c (tks sv (sk sv 0)) T/\Ow jP Ag w w' T:=by
 let k:=((2,C F 0 0):Nat×Value);refine Ak (args:=[Y sv]) (m:=82) (n:=83) Tryz.func99 rfl kR kR fun J V=>?_;have O:=Ow.nil jP Ag w;refine Sa [k] V fun J V=>Sa [(3,C F 0 0)] V fun J V=>wp_seq (Sa [(4,Z 0)] V fun J V=>wp_block ?_);have hT1:=One.nil fK 140 2;refine Ay (fun mm J W=>∃ (i:Nat) (o:List (ByteArray×Nat)) (pL1:Option Addr) (cL1:Nat) (TL1:OwL),mm=sv.size - i/\Holds 83 [] J [(0,Y sv),k,(3,C pL1 o.length cL1),(4,Z ((i:Nat):Int))]/\Ow jP Ag w W ([]++(TL1++([])))/\One fK 140 2 pL1 cL1 o TL1/\i<=sv.size/\o++tks sv (sk sv i)=tks sv (sk sv 0)/\o.length<=i/\True) ?_ ?_
 · exact ⟨_,0,[],F,0,[],rfl,V.ss,O.tt,hT1,(Nat.zero_le _),rfl,(Nat.le_refl _),trivial⟩
 rintro _ J w1 ⟨i,o,pL1,cL1,TL1,rfl,V,O,hTL1,hi,ho,hol,-⟩;let a:=(C pL1 o.length cL1:Value);let b:=(D #[Y (sv.extract i ((((i:Nat):Int)+1).toNat)),Z ((i:Nat):Int)]:Value);let g:=[Y (sv.extract i ((((i:Nat):Int)+1).toNat)),Z ((i:Nat):Int)];have hsb:=Kw sv i;have hkd:=Bo sv i;have hrl:=Jc sv i;refine wp_seq (Sa [(9,I (decide (((i:Nat):Int) < ((sv.size:Nat):Int))))] V fun J V=>?_);rcases dC (((i:Nat):Int) < ((sv.size:Nat):Int)) with ⟨h1,h1p⟩|⟨h1,h1p⟩
 · rw [h1] at V;refine cT V (wp_skip (Aa (wp_block (Sa [(5,Z 1)] V fun J V=>wp_seq (wp_block (sr 11 (Kb 5 [(14,I ((sb sv i) == 32)),(15,I ((sb sv i) == 32))] V [] (cc (oo:(0:Int)<=((i:Nat):Int)/\((i:Nat):Int) < ((sv.size:Nat):Int)) c0) fun J V=>?_)))))));rcases bC (sb sv i) 32 with ⟨h2,h2p⟩|⟨h2,h2p⟩
   · rw [h2] at V;refine Ka 6 [(10,I true)] V fun J V=>Ab (Aa (cT V (Sb [(4,Z (((i:Nat):Int)+1))] V [I true] (cc ((An oo oo):inK .i64 (((i:Nat):Int)+1)) c0) fun J V=>?_)));rw [(rfl:((i:Nat):Int)+1=((i+1:Nat):Int))] at V;exact wp_exit (A8 dD (Ai (Aj (Aa (⟨_,oo,i+1,o,pL1,cL1,TL1,rfl,V.ss,O,hTL1,oo,(by rw [← L5 oo (by unfold C6; exact jN oo)]; exact ho),oo,trivial⟩)))))
   rw [h2] at V;refine Kb 6 [(10,I ((sb sv i) == 9))] V [] (cc (oo:(0:Int)<=((i:Nat):Int)/\((i:Nat):Int) < ((sv.size:Nat):Int)) c0) fun J V=>Ab (Aa ?_);rcases bC (sb sv i) 9 with ⟨h3,h3p⟩|⟨h3,h3p⟩
   · rw [h3] at V;refine cT V (Sb [(4,Z (((i:Nat):Int)+1))] V [I true] (cc ((An oo oo):inK .i64 (((i:Nat):Int)+1)) c0) fun J V=>?_);rw [(rfl:((i:Nat):Int)+1=((i+1:Nat):Int))] at V;exact wp_exit (A8 dD (Ai (Aj (Aa (⟨_,oo,i+1,o,pL1,cL1,TL1,rfl,V.ss,O,hTL1,oo,(by rw [← L5 oo (by unfold C6; exact jN oo)]; exact ho),oo,trivial⟩)))))
   rw [h3] at V;refine cF V (sr 5 (Kb 3 [(26,u8 (sb sv i))] V [] (cc (oo:(0:Int)<=((i:Nat):Int)/\((i:Nat):Int) < ((sv.size:Nat):Int)) c0) fun J V=>Mk 27 V O Tryz.func88 (H3 (sb sv i) _ oo oo) fun J w2 V O=>Ka 1 [(23,I (A2 (sb sv i)))] V fun J V=>Ab (Aa ?_)));rcases jK (A2 (sb sv i)) with h4 | h4
   · rw [h4] at V;refine cT V (wp_block (Ay (fun mm J W=>∃ (m:Nat),mm=sv.size - i - m/\Holds 83 [] J [(0,Y sv),k,(3,a),(4,Z ((i:Nat):Int)),(5,Z ((m:Nat):Int))]/\Ow jP Ag w W ([]++(TL1++([])))/\i+m<=sv.size/\wl sv (i+m)+m=wl sv i/\1<=m/\True) ?_ ?_))
     · exact ⟨_,1,rfl,V.ss,O.tt,oo,(L4 oo aM).symm,(Nat.le_refl _),trivial⟩
     rintro _ J w3 ⟨m,rfl,V,O,hm,hk,hm1,-⟩;let h:=#[Y (sv.extract i ((((i:Nat):Int)+((m:Nat):Int)).toNat)),Z ((i:Nat):Int)];let j:=[Y (sv.extract i ((((i:Nat):Int)+((m:Nat):Int)).toNat)),Z ((i:Nat):Int)];have hsm:=Kw sv (i+m);refine wp_seq (sr 14 (Kb 7 [(33,I (decide ((((i:Nat):Int)+((m:Nat):Int)) < ((sv.size:Nat):Int)))),(34,I (decide ((((i:Nat):Int)+((m:Nat):Int)) < ((sv.size:Nat):Int))))] V [I true] (cc ((An oo oo):inK .i64 (((i:Nat):Int)+((m:Nat):Int))) c0) fun J V=>?_));rcases dC ((((i:Nat):Int)+((m:Nat):Int)) < ((sv.size:Nat):Int)) with ⟨h5,h5p⟩|⟨h5,h5p⟩
     · rw [h5] at V;refine Kb 5 [(34,I true),(39,u8 (sb sv ((((i:Nat):Int)+((m:Nat):Int)).toNat)))] V [I true] (cc ((An oo oo):inK .i64 (((i:Nat):Int)+((m:Nat):Int))) (cc (oo:(0:Int)<=((i:Nat):Int)+((m:Nat):Int)/\((i:Nat):Int)+((m:Nat):Int) < ((sv.size:Nat):Int)) c0)) fun J V=>?_;rw [(rfl:sb sv ((((i:Nat):Int)+((m:Nat):Int)).toNat)=sb sv (i+m))] at V;refine Mk 40 V O Tryz.func88 (H3 (sb sv (i+m)) _ oo oo) fun J w4 V O=>Ka 1 [(41,I (A2 (sb sv (i+m))))] V fun J V=>Ab (Aa ?_);rcases jK (A2 (sb sv (i+m))) with h6 | h6
       · rw [h6] at V;exact cT V (wp_skip (Aa (wp_block (Rc [(5,Z (((m:Nat):Int)+1))] V [I true] (cc ((An oo oo):inK .i64 (((m:Nat):Int)+1)) c0) fun J V=>Af (Aa (⟨_,oo,m+1,rfl,V.ss,O.tt,oo,(by rw [← hk,L4 (n:=i+m) oo aM]; rw [Nat.add_assoc i m 1]; omega),oo,trivial⟩))))))
       rw [h6] at V;refine cF V (wp_exit (Ai (Ai (Aj (Af (Aa (sr 12 (Kb 9 [(63,a),(71,D h)] V [I true] (cc ((An oo oo):inK .i64 (((i:Nat):Int)+((m:Nat):Int))) (cc (oo:(0:Int)<=((i:Nat):Int)/\(((i:Nat):Int):Int)<=((i:Nat):Int)+((m:Nat):Int)/\(((i:Nat):Int)+((m:Nat):Int):Int)<=((sv.size:Nat):Int)) c0)) fun J V=>Mv j 140 1 72 V O fun J w5 b1 V O=>Ae (mA (f:=fK) (el:=140) (sz:=2) (bytes:=24) (p:=pL1) (c:=cL1) (l:=o) (l':=([(sv.extract i ((((i:Nat):Int)+((m:Nat):Int)).toNat),i)]:List (ByteArray×Nat))) (T:=TL1) (t:=135) (tx:=135) (ty:=135) (x:= C (E ⟨b1,0,F⟩) 1 1) (d:=73) [(b1,140,[Y (sv.extract i ((((i:Nat):Int)+((m:Nat):Int)).toNat)),Z ((i:Nat):Int)])] ([]) Js V O hTL1 (Vw.src (e':=140) Js ((O.b 0).vw (off:=0) (xs:=([(sv.extract i ((((i:Nat):Int)+((m:Nat):Int)).toNat),i)]:List (ByteArray×Nat))) kR) kR) (by (simp only [jR,jS,jT]; omega)) (by unfold maxLen; (simp only [jR,jS,jT]; omega)) fun J w6 p1 c1 T2 V O hT2=>Ka 1 [(3,C p1 ((o++([(sv.extract i ((((i:Nat):Int)+((m:Nat):Int)).toNat),i)]:List (ByteArray×Nat))).length) c1)] V fun J V=>Ab (Aa (Rc [(4,Z (((i:Nat):Int)+((m:Nat):Int)))] V [I true] (cc ((An oo oo):inK .i64 (((i:Nat):Int)+((m:Nat):Int))) c0) fun J V=>?_)))))))))));rw [(rfl:((i:Nat):Int)+((m:Nat):Int)=((i+m:Nat):Int))] at V;refine Af (Aa ?_)
       have hw0_:wl sv (i+m)=0:=Dn (by rintro ⟨q1_,q2_⟩; simp_all);have hk1_:kd sv i=1:=kd_p oo aM;exact ⟨_,oo,i+m,o++([(sv.extract i ((((i:Nat):Int)+((m:Nat):Int)).toNat),i)]:List (ByteArray×Nat)),p1,c1,T2,rfl,V.ss,(Ow.subP (A:=[_]) O (.cons _ .slnil)),hT2,oo,(Fz (m:=m) ho oo (by unfold C6; intro q_; have:=jL q_; omega) oo),(by simp only [jR,jS,jT]; omega),trivial⟩
     rw [h5] at V;refine Ka 7 [(41,I false)] V fun J V=>Ab (Aa (cF V (wp_exit (Ai (Ai (Aj (Af (Aa (sr 12 (Kb 9 [(63,a),(71,D h)] V [I true] (cc ((An oo oo):inK .i64 (((i:Nat):Int)+((m:Nat):Int))) (cc (oo:(0:Int)<=((i:Nat):Int)/\(((i:Nat):Int):Int)<=((i:Nat):Int)+((m:Nat):Int)/\(((i:Nat):Int)+((m:Nat):Int):Int)<=((sv.size:Nat):Int)) c0)) fun J V=>Mv j 140 1 72 V O fun J w7 b2 V O=>Ae (mA (f:=fK) (el:=140) (sz:=2) (bytes:=24) (p:=pL1) (c:=cL1) (l:=o) (l':=([(sv.extract i ((((i:Nat):Int)+((m:Nat):Int)).toNat),i)]:List (ByteArray×Nat))) (T:=TL1) (t:=135) (tx:=135) (ty:=135) (x:= C (E ⟨b2,0,F⟩) 1 1) (d:=73) [(b2,140,[Y (sv.extract i ((((i:Nat):Int)+((m:Nat):Int)).toNat)),Z ((i:Nat):Int)])] ([]) Js V O hTL1 (Vw.src (e':=140) Js ((O.b 0).vw (off:=0) (xs:=([(sv.extract i ((((i:Nat):Int)+((m:Nat):Int)).toNat),i)]:List (ByteArray×Nat))) kR) kR) (by (simp only [jR,jS,jT]; omega)) (by unfold maxLen; (simp only [jR,jS,jT]; omega)) fun J w8 p2 c2 T3 V O hT3=>Ka 1 [(3,C p2 ((o++([(sv.extract i ((((i:Nat):Int)+((m:Nat):Int)).toNat),i)]:List (ByteArray×Nat))).length) c2)] V fun J V=>Ab (Aa (Rc [(4,Z (((i:Nat):Int)+((m:Nat):Int)))] V [I true] (cc ((An oo oo):inK .i64 (((i:Nat):Int)+((m:Nat):Int))) c0) fun J V=>?_)))))))))))));rw [(rfl:((i:Nat):Int)+((m:Nat):Int)=((i+m:Nat):Int))] at V
     refine Af (Aa ?_);have hw0_:wl sv (i+m)=0:=Dn (by rintro ⟨q1_,q2_⟩; omega);have hk1_:kd sv i=1:=kd_p oo aM;exact ⟨_,oo,i+m,o++([(sv.extract i ((((i:Nat):Int)+((m:Nat):Int)).toNat),i)]:List (ByteArray×Nat)),p2,c2,T3,rfl,V.ss,(Ow.subP (A:=[_]) O (.cons _ .slnil)),hT3,oo,(Fz (m:=m) ho oo (by unfold C6; intro q_; have:=jL q_; omega) oo),(by simp only [jR,jS,jT]; omega),trivial⟩
   rw [h4] at V;refine cF V (sr 19 (Kb 5 [(48,I ((sb sv i) == 62)),(49,I ((sb sv i) == 62))] V [] (cc (oo:(0:Int)<=((i:Nat):Int)/\((i:Nat):Int) < ((sv.size:Nat):Int)) c0) fun J V=>?_));rcases bC (sb sv i) 62 with ⟨h7,h7p⟩|⟨h7,h7p⟩
   · rw [h7] at V;refine Kb 7 [(54,I (decide ((((i:Nat):Int)+1) < ((sv.size:Nat):Int)))),(55,I (decide ((((i:Nat):Int)+1) < ((sv.size:Nat):Int)))),(56,I (decide ((((i:Nat):Int)+1) < ((sv.size:Nat):Int))))] V [I true] (cc ((An oo oo):inK .i64 (((i:Nat):Int)+1)) c0) fun J V=>?_;rcases dC ((((i:Nat):Int)+1) < ((sv.size:Nat):Int)) with ⟨h8,h8p⟩|⟨h8,h8p⟩
     · rw [h8] at V;refine Kb 7 [(44,I ((sb sv ((((i:Nat):Int)+1).toNat)) == 62))] V [I true] (cc ((An oo oo):inK .i64 (((i:Nat):Int)+1)) (cc (oo:(0:Int)<=((i:Nat):Int)+1/\((i:Nat):Int)+1 < ((sv.size:Nat):Int)) c0)) fun J V=>?_;rw [(rfl:((sb sv ((((i:Nat):Int)+1).toNat)) == 62)=(sb sv (i+1) == 62))] at V;refine Ab (Aa ?_);rcases bC (sb sv (i+1)) 62 with ⟨h9,h9p⟩|⟨h9,h9p⟩
       · replace V:=V.ss.bool (f:=fun z_=>[(0,Y sv),k,(3,a),(4,Z ((i:Nat):Int)),(5,Z 1),(44,.bool z_)]) h9;refine cT V (Rc [(5,Z 2)] V [] c0 fun J V=>Af (Aa (sr 12 (Kb 9 [(63,a),(71,D #[Y (sv.extract i ((((i:Nat):Int)+2).toNat)),Z ((i:Nat):Int)])] V [I true] (cc ((An oo oo):inK .i64 (((i:Nat):Int)+2)) (cc (oo:(0:Int)<=((i:Nat):Int)/\(((i:Nat):Int):Int)<=((i:Nat):Int)+2/\(((i:Nat):Int)+2:Int)<=((sv.size:Nat):Int)) c0)) fun J V=>Mv [Y (sv.extract i ((((i:Nat):Int)+2).toNat)),Z ((i:Nat):Int)] 140 1 72 V O fun J w9 b3 V O=>Ae (mA (f:=fK) (el:=140) (sz:=2) (bytes:=24) (p:=pL1) (c:=cL1) (l:=o) (l':=([(sv.extract i ((((i:Nat):Int)+2).toNat),i)]:List (ByteArray×Nat))) (T:=TL1) (t:=135) (tx:=135) (ty:=135) (x:= C (E ⟨b3,0,F⟩) 1 1) (d:=73) [(b3,140,[Y (sv.extract i ((((i:Nat):Int)+2).toNat)),Z ((i:Nat):Int)])] ([]) Js V O hTL1 (Vw.src (e':=140) Js ((O.b 0).vw (off:=0) (xs:=([(sv.extract i ((((i:Nat):Int)+2).toNat),i)]:List (ByteArray×Nat))) kR) kR) (by (simp only [jR,jS,jT]; omega)) (by unfold maxLen; (simp only [jR,jS,jT]; omega)) fun J w10 p3 c3 T4 V O hT4=>Ka 1 [(3,C p3 ((o++([(sv.extract i ((((i:Nat):Int)+2).toNat),i)]:List (ByteArray×Nat))).length) c3)] V fun J V=>Ab (Aa (Rc [(4,Z (((i:Nat):Int)+2))] V [I true] (cc ((An oo oo):inK .i64 (((i:Nat):Int)+2)) c0) fun J V=>?_)))))))
         rw [(rfl:((i:Nat):Int)+2=((i+2:Nat):Int))] at V;refine Af (Aa ?_);have hk1_:kd sv i≠1:=U7 aM;exact ⟨_,oo,i+2,o++([(sv.extract i ((((i:Nat):Int)+2).toNat),i)]:List (ByteArray×Nat)),p3,c3,T4,rfl,V.ss,(Ow.subP (A:=[_]) O (.cons _ .slnil)),hT4,oo,(Fz (m:=2) ho oo (by unfold C6; intro q_; have:=jL q_; omega) oo),(by simp only [jR,jS,jT]; omega),trivial⟩
       replace V:=V.ss.bool (f:=fun z_=>[(0,Y sv),k,(3,a),(4,Z ((i:Nat):Int)),(5,Z 1),(44,.bool z_)]) h9;refine cF V (wp_skip (Af (Aa (sr 12 (Kb 9 [(63,a),(71,b)] V [I true] (cc ((An oo oo):inK .i64 (((i:Nat):Int)+1)) (cc (oo:(0:Int)<=((i:Nat):Int)/\(((i:Nat):Int):Int)<=((i:Nat):Int)+1/\(((i:Nat):Int)+1:Int)<=((sv.size:Nat):Int)) c0)) fun J V=>Mv g 140 1 72 V O fun J w11 b4 V O=>Ae (mA (f:=fK) (el:=140) (sz:=2) (bytes:=24) (p:=pL1) (c:=cL1) (l:=o) (l':=([(sv.extract i ((((i:Nat):Int)+1).toNat),i)]:List (ByteArray×Nat))) (T:=TL1) (t:=135) (tx:=135) (ty:=135) (x:= C (E ⟨b4,0,F⟩) 1 1) (d:=73) [(b4,140,[Y (sv.extract i ((((i:Nat):Int)+1).toNat)),Z ((i:Nat):Int)])] ([]) Js V O hTL1 (Vw.src (e':=140) Js ((O.b 0).vw (off:=0) (xs:=([(sv.extract i ((((i:Nat):Int)+1).toNat),i)]:List (ByteArray×Nat))) kR) kR) (by (simp only [jR,jS,jT]; omega)) (by unfold maxLen; (simp only [jR,jS,jT]; omega)) fun J w12 p4 c4 T5 V O hT5=>Ka 1 [(3,C p4 ((o++([(sv.extract i ((((i:Nat):Int)+1).toNat),i)]:List (ByteArray×Nat))).length) c4)] V fun J V=>Ab (Aa (Rc [(4,Z (((i:Nat):Int)+1))] V [I true] (cc ((An oo oo):inK .i64 (((i:Nat):Int)+1)) c0) fun J V=>?_))))))));rw [(rfl:((i:Nat):Int)+1=((i+1:Nat):Int))] at V;refine Af (Aa ?_);have hk1_:kd sv i≠1:=U7 aM
       exact ⟨_,oo,i+1,o++([(sv.extract i ((((i:Nat):Int)+1).toNat),i)]:List (ByteArray×Nat)),p4,c4,T5,rfl,V.ss,(Ow.subP (A:=[_]) O (.cons _ .slnil)),hT5,oo,(Fz (m:=1) ho oo (by unfold C6; intro q_; have:=jL q_; omega) oo),(by simp only [jR,jS,jT]; omega),trivial⟩
     rw [h8] at V;refine Ka 7 [(44,I false)] V fun J V=>Ab (Aa (cF V (wp_skip (Af (Aa (sr 12 (Kb 9 [(63,a),(71,b)] V [I true] (cc ((An oo oo):inK .i64 (((i:Nat):Int)+1)) (cc (oo:(0:Int)<=((i:Nat):Int)/\(((i:Nat):Int):Int)<=((i:Nat):Int)+1/\(((i:Nat):Int)+1:Int)<=((sv.size:Nat):Int)) c0)) fun J V=>Mv g 140 1 72 V O fun J w13 b5 V O=>Ae (mA (f:=fK) (el:=140) (sz:=2) (bytes:=24) (p:=pL1) (c:=cL1) (l:=o) (l':=([(sv.extract i ((((i:Nat):Int)+1).toNat),i)]:List (ByteArray×Nat))) (T:=TL1) (t:=135) (tx:=135) (ty:=135) (x:= C (E ⟨b5,0,F⟩) 1 1) (d:=73) [(b5,140,[Y (sv.extract i ((((i:Nat):Int)+1).toNat)),Z ((i:Nat):Int)])] ([]) Js V O hTL1 (Vw.src (e':=140) Js ((O.b 0).vw (off:=0) (xs:=([(sv.extract i ((((i:Nat):Int)+1).toNat),i)]:List (ByteArray×Nat))) kR) kR) (by (simp only [jR,jS,jT]; omega)) (by unfold maxLen; (simp only [jR,jS,jT]; omega)) fun J w14 p5 c5 T6 V O hT6=>Ka 1 [(3,C p5 ((o++([(sv.extract i ((((i:Nat):Int)+1).toNat),i)]:List (ByteArray×Nat))).length) c5)] V fun J V=>Ab (Aa (Rc [(4,Z (((i:Nat):Int)+1))] V [I true] (cc ((An oo oo):inK .i64 (((i:Nat):Int)+1)) c0) fun J V=>?_))))))))));rw [(rfl:((i:Nat):Int)+1=((i+1:Nat):Int))] at V;refine Af (Aa ?_);have hk1_:kd sv i≠1:=U7 aM
     exact ⟨_,oo,i+1,o++([(sv.extract i ((((i:Nat):Int)+1).toNat),i)]:List (ByteArray×Nat)),p5,c5,T6,rfl,V.ss,(Ow.subP (A:=[_]) O (.cons _ .slnil)),hT6,oo,(Fz (m:=1) ho oo (by unfold C6; intro q_; have:=jL q_; omega) oo),(by simp only [jR,jS,jT]; omega),trivial⟩
   rw [h7] at V;refine Ka 14 [(44,I false)] V fun J V=>Ab (Aa (cF V (wp_skip (Af (Aa (sr 12 (Kb 9 [(63,a),(71,b)] V [I true] (cc ((An oo oo):inK .i64 (((i:Nat):Int)+1)) (cc (oo:(0:Int)<=((i:Nat):Int)/\(((i:Nat):Int):Int)<=((i:Nat):Int)+1/\(((i:Nat):Int)+1:Int)<=((sv.size:Nat):Int)) c0)) fun J V=>Mv g 140 1 72 V O fun J w15 b6 V O=>Ae (mA (f:=fK) (el:=140) (sz:=2) (bytes:=24) (p:=pL1) (c:=cL1) (l:=o) (l':=([(sv.extract i ((((i:Nat):Int)+1).toNat),i)]:List (ByteArray×Nat))) (T:=TL1) (t:=135) (tx:=135) (ty:=135) (x:= C (E ⟨b6,0,F⟩) 1 1) (d:=73) [(b6,140,[Y (sv.extract i ((((i:Nat):Int)+1).toNat)),Z ((i:Nat):Int)])] ([]) Js V O hTL1 (Vw.src (e':=140) Js ((O.b 0).vw (off:=0) (xs:=([(sv.extract i ((((i:Nat):Int)+1).toNat),i)]:List (ByteArray×Nat))) kR) kR) (by (simp only [jR,jS,jT]; omega)) (by unfold maxLen; (simp only [jR,jS,jT]; omega)) fun J w16 p6 c6 T7 V O hT7=>Ka 1 [(3,C p6 ((o++([(sv.extract i ((((i:Nat):Int)+1).toNat),i)]:List (ByteArray×Nat))).length) c6)] V fun J V=>Ab (Aa (Rc [(4,Z (((i:Nat):Int)+1))] V [I true] (cc ((An oo oo):inK .i64 (((i:Nat):Int)+1)) c0) fun J V=>?_))))))))));rw [(rfl:((i:Nat):Int)+1=((i+1:Nat):Int))] at V;refine Af (Aa ?_);have hk1_:kd sv i≠1:=U7 aM
   exact ⟨_,oo,i+1,o++([(sv.extract i ((((i:Nat):Int)+1).toNat),i)]:List (ByteArray×Nat)),p6,c6,T7,rfl,V.ss,(Ow.subP (A:=[_]) O (.cons _ .slnil)),hT7,oo,(Fz (m:=1) ho oo (by unfold C6; intro q_; have:=jL q_; omega) oo),(by simp only [jR,jS,jT]; omega),trivial⟩
 rw [h1] at V;refine cF V (wp_exit (Ai (Ai (Aj (Aa (sr 7 (Ka 4 [(77,a),(80,D #[Y (⟨#[]⟩),Z ((sv.size:Nat):Int)])] V fun J V=>Mv [Y (⟨#[]⟩),Z ((sv.size:Nat):Int)] 140 1 81 V O fun J w17 b7 V O=>Ae (mA (f:=fK) (el:=140) (sz:=2) (bytes:=24) (p:=pL1) (c:=cL1) (l:=o) (l':=([(⟨#[]⟩,sv.size)]:List (ByteArray×Nat))) (T:=TL1) (t:=135) (tx:=135) (ty:=135) (x:= C (E ⟨b7,0,F⟩) 1 1) (d:=82) [(b7,140,[Y (⟨#[]⟩),Z ((sv.size:Nat):Int)])] ([]) Js V O hTL1 (Vw.src (e':=140) Js ((O.b 0).vw (off:=0) (xs:=([(⟨#[]⟩,sv.size)]:List (ByteArray×Nat))) kR) kR) (by (simp only [jR,jS,jT]; omega)) (by unfold maxLen; (simp only [jR,jS,jT]; omega)) fun J w18 p7 c7 T8 V O hT8=>Ka 1 [(2,C p7 ((o++([(⟨#[]⟩,sv.size)]:List (ByteArray×Nat))).length) c7)] V fun J V=>Ab (Aa (wp_ret (cv [C p7 ((o++([(⟨#[]⟩,sv.size)]:List (ByteArray×Nat))).length) c7] V ?_)))))))))));have hend:sk sv i=sv.size:=by have h1_:=Mr hi; have h2_:=U5 sv i; omega
 rw [hend,O3 oo] at ho;rw [ho] at hT8;refine ⟨_,_,_,by rw [← ho]; rfl,hT8,((Ow.subP (A:=[_]) O (.cons _ .slnil))).tt⟩
theorem B1 (pb tb:Nat) (toks:List (ByteArray×Nat)) (CT:List Value) (sv:ByteArray) (j k n a:Nat) (er:Int) (w:World) (hv:TV toks CT sv j n k) (hs:sv.size<=1000000) (cd:Int) (h0:Ow jP (inT (RP pb tb CT sv j k n a er)) w w (RP pb tb CT sv j k n a er)) :
 Calls jP 101 #[pt pb,Z cd] w fun e w'=>∃ a' er',e = .returned (.tuple #[])/\((er=0/\a'=n/\er'=cd)\/(er≠0/\a'=a/\er'=er))/\Ow jP (inT (RP pb tb CT sv j k n a er)) w w' (RP pb tb CT sv j k n a' er'):=by
 let b:=(C (E (⟨tb,2*j,F⟩:Addr)) ((tks sv n).length) k:Value);refine Ak (args:=[pt pb,Z cd]) (m:=21) (n:=23) Tryz.func101 rfl kR kR fun J V=>?_;have O:Ow jP (inT (RP pb tb CT sv j k n a er)) w w [(pb,138,[b,Z ((a:Nat):Int),Z er]),(tb,140,CT)]:=h0;have hp1a:=Bk sv n;have hp1b:=hv.pos;have hp1c:=Bo sv n;have hp1d:=Jc sv n;have hp1e:=Fm sv n;refine Sb [(8,I (er == 0))] V [Z er] (cc (O.l1 0 2 25 (Z er)) c0) fun J V=>?_;rcases bC er 0 with ⟨h1,h1p⟩|⟨h1,h1p⟩
 · rw [h1] at V;exact cT V (rr 16 (Kb 12 [(10,pt pb),(17,Z ((n:Nat):Int)),(18,Z cd),(20,pf pb 1)] V [b,Z ((n:Nat):Int)] (cc (O.l1 0 0 135 (b)) (cc (oo:(0:Int)<=0/\0 < (((tks sv n).length:Nat):Int)) (cc ((hv.ld1 (O.b 1)):Ld jP w (((⟨tb,2*j,F⟩:Addr).add 0).add 1) 3 (Z ((n:Nat):Int))) c0))) fun J V=>Ms 1 [Z ((n:Nat):Int)] 0 V O fun w1 O=>Ka 2 [(22,pf pb 2)] V fun J V=>Ms 2 [Z cd] 0 V O fun w2 O=>Ab (Ew (cv [] V (⟨n,cd,rfl,by exact Or.inl ⟨aM,rfl,rfl⟩,O.tt⟩)))))
 rw [h1] at V;exact cF V (wp_skip (Ew (cv [] V (⟨a,er,rfl,by exact Or.inr ⟨aM,rfl,rfl⟩,O.tt⟩))))
theorem Bq (pb tb:Nat) (toks:List (ByteArray×Nat)) (CT:List Value) (sv:ByteArray) (j k n a:Nat) (er:Int) (w:World) (hv:TV toks CT sv j n k) (hs:sv.size<=1000000)  (h0:Ow jP (inT (RP pb tb CT sv j k n a er)) w w (RP pb tb CT sv j k n a er)) :
 Calls jP 103 #[pt pb] w fun e w'=>∃ j' k' n',e = .returned (D #[Y (rt sv n),Z ((n:Nat):Int)])/\((n < sv.size/\n'=rx sv n)\/(¬ n < sv.size/\n'=n))/\TV toks CT sv j' n' k'/\Ow jP (inT (RP pb tb CT sv j k n a er)) w w' (RP pb tb CT sv j' k' n' a er):=by
 let b:=(D #[Y (rt sv n),Z ((n:Nat):Int)]:Value);let c:=(C (E (⟨tb,2*j,F⟩:Addr)) ((tks sv n).length) k:Value);let d:=[Y (rt sv n),Z ((n:Nat):Int)];refine Ak (args:=[pt pb]) (m:=21) (n:=22) Tryz.func103 rfl kR kR fun J V=>?_;have O:Ow jP (inT (RP pb tb CT sv j k n a er)) w w [(pb,138,[c,Z ((a:Nat):Int),Z er]),(tb,140,CT)]:=h0;have hp1a:=Bk sv n;have hp1b:=hv.pos;have hp1c:=Bo sv n;have hp1d:=Jc sv n;have hp1e:=Fm sv n;refine sr 1 (Mn [Y (⟨#[]⟩),Z 0] 140 2 V O fun J w1 b1 V O=>Ab (Aa (sr 8 (Kb 6 [(9,b)] V [c,b] (cc (O.l1 1 0 135 (c)) (cc (oo:(0:Int)<=0/\0 < (((tks sv n).length:Nat):Int)) (cc ((hv.ldn (O.b 2)):Ld jP w1 ((⟨tb,2*j,F⟩:Addr).add 0) 140 (b)) c0))) fun J V=>Mn [Y (⟨#[]⟩),Z 0] 140 3 V O fun J w2 b2 V O=>Ms 0 d 0 V O fun w3 O=>Ab (Aa (wp_seq (Sb [(12,I (!((rt sv n).toList == (⟨#[]⟩:ByteArray).toList)))] V [Y (rt sv n)] (cc (O.l1 0 0 9 (Y (rt sv n))) c0) fun J V=>?_)))))));rw [(J6 sv n:((rt sv n).toList == (⟨#[]⟩:ByteArray).toList)=(decide (kd sv n=0)))] at V;rcases dC (kd sv n=0) with ⟨h1,h1p⟩|⟨h1,h1p⟩
 · rw [h1] at V;exact cF V (wp_skip (Aa (sr 2 (Kb 1 [(21,b)] V [b] (cc (O.ln 0 0 140 d) c0) fun J V=>Ms 0 d 1 V O fun w4 O=>Ab (Aa (wp_ret (cR (cs:=[E (⟨b1,0,F⟩,140)]) (us:=[b]) V [b] ⟨(O.ln 1 0 140 d),trivial⟩ (⟨j,k,n,rfl,Or.inr ⟨oo,rfl⟩,hv,(O.sub [2,3])⟩))))))))
 rw [h1] at V;refine cT V ?_;have h2t:=hv.two oo;have hcp:=hv.cap;refine rr 9 (Kb 8 [(18,C (E (De (⟨tb,2*j,F⟩:Addr) 2 1)) (((tks sv n).length) - (1)) ((k) - (1))),(20,pt pb)] V [c,I true] (cc (O.l1 2 0 135 (c)) (cc (oo:(0:Int)<=1/\(1:Int)<=((((tks sv n).length):Nat):Int)/\((((tks sv n).length):Nat):Int)<=((k:Nat):Int)/\((k:Nat):Int)<=((k:Nat):Int)/\(1:Int) < ((k:Nat):Int)) c0)) fun J V=>?_);rw [show De (⟨tb,2*j,F⟩:Addr) 2 1=(⟨tb,2*(j+1),F⟩:Addr) from (by rw [Fu,Er]; rfl)] at V;rw [show (((tks sv n).length) - (1))=(tks sv (rx sv n)).length from O2 oo] at V;exact Ms 0 [C (E ⟨tb,2*(j+1),F⟩) ((tks sv (rx sv n)).length) ((k) - (1))] 2 V O fun w5 O=>Ab (Aa (sr 2 (Kb 1 [(21,b)] V [b] (cc (O.ln 0 0 140 d) c0) fun J V=>Ms 0 d 1 V O fun w6 O=>Ab (Aa (wp_ret (cR (cs:=[E (⟨b1,0,F⟩,140)]) (us:=[b]) V [b] ⟨(O.ln 1 0 140 d),trivial⟩ (⟨j+1,k - 1,rx sv n,rfl,Or.inl ⟨oo,rfl⟩,hv.next oo,(O.sub [2,3])⟩)))))))
theorem Uh {α:Type} {r:PR α} {v : α} {n n' a a':Nat} {er er' c:Int} (hr:r = .error (n,c)) (hc:c≠0) (h:(er=0/\a'=n/\er'=c)\/(er≠0/\a'=a/\er'=er)):St (r0 a er r) v n' a' er':=by
 rcases h with ⟨rfl,rfl,rfl⟩ | ⟨h,rfl,rfl⟩
 · exact .inr ⟨hc,hr⟩
 exact .inr ⟨h,Od h⟩
theorem st_ok {α:Type} {r:PR α} {v : α} {n' a:Nat} {er:Int} (hr:er=0->r = .ok (v,n')):St (r0 a er r) v n' a er:=by
 by_cases h:er=0
 · subst h; exact .inl ⟨rfl,hr rfl⟩
 exact .inr ⟨h,Od h⟩
theorem X5 {s:ByteArray} {n n':Nat} (h:kd s n=1) (hl : ¬ 60 < rl s n) (hx:n'=rx s n):Bs s n = .ok (rt s n,n'):=by
 subst hx;have h8:kd s n≠8:=oo
 have ht:rl s n=tl s n:=by unfold rl; rw [if_neg h8]
 unfold Bs;rw [if_neg oo,if_neg oo,Ym h8,Qk h8]
theorem Vs {s:ByteArray} {n:Nat} (h:kd s n=1) (hl : 60 < rl s n):Bs s n = .error (n,6):=by
 have h8:kd s n≠8:=oo
 have ht:rl s n=tl s n:=by unfold rl; rw [if_neg h8]
 unfold Bs;rw [if_neg oo,if_pos oo]
theorem X6 {s:ByteArray} {n:Nat} (h:kd s n≠1):Bs s n = .error (n,3):=by unfold Bs; rw [if_pos h]
theorem C9 (pb tb:Nat) (toks:List (ByteArray×Nat)) (CT:List Value) (sv:ByteArray) (j k n a:Nat) (er:Int) (w:World) (hv:TV toks CT sv j n k) (hs:sv.size<=1000000)  (h0:Ow jP (inT (RP pb tb CT sv j k n a er)) w w (RP pb tb CT sv j k n a er)) :
 Calls jP 121 #[pt pb] w fun e w'=>∃ v j' k' n' a' er',e = .returned (Y v)/\St (r0 a er (Bs sv n)) v n' a' er'/\TV toks CT sv j' n' k'/\n<=n'/\Ow jP (inT (RP pb tb CT sv j k n a er)) w w' (RP pb tb CT sv j' k' n' a' er'):=by
 let b:=(C (E (⟨tb,2*j,F⟩:Addr)) ((tks sv n).length) k:Value);let c:=(D #[Y (rt sv n),Z ((n:Nat):Int)]:Value);refine Ak (args:=[pt pb]) (m:=26) (n:=27) Tryz.func121 rfl kR kR fun J V=>?_;have O:Ow jP (inT (RP pb tb CT sv j k n a er)) w w [(pb,138,[b,Z ((a:Nat):Int),Z er]),(tb,140,CT)]:=h0;have hp1a:=Bk sv n;have hp1b:=hv.pos;have hp1c:=Bo sv n;have hp1d:=Jc sv n;have hp1e:=Fm sv n;refine Sa [(2,Y (⟨#[]⟩))] V fun J V=>wp_seq (sr 8 (Kb 6 [(8,c)] V [b,c] (cc (O.l1 0 0 135 (b)) (cc (oo:(0:Int)<=0/\0 < (((tks sv n).length:Nat):Int)) (cc ((hv.ldn (O.b 1)):Ld jP w ((⟨tb,2*j,F⟩:Addr).add 0) 140 (c)) c0))) fun J V=>Mk 9 V O Tryz.func113 (Kv sv n _) fun J w1 V O=>Ka 1 [(10,I (!(decide (kd sv n=1))))] V fun J V=>Ab (Aa ?_)));rcases dC (kd sv n=1) with ⟨h1,h1p⟩|⟨h1,h1p⟩
 · rw [h1] at V;refine cF V (wp_skip (Aa (wp_seq (Sb [(21,I (decide ((((rt sv n).size:Nat):Int) > 60)))] V [b,Y (rt sv n)] (cc (O.l1 0 0 135 (b)) (cc (oo:(0:Int)<=0/\0 < (((tks sv n).length:Nat):Int)) (cc ((hv.ld0 (O.b 1)):Ld jP w1 ((⟨tb,2*j,F⟩:Addr).add 0) 9 (Y (rt sv n))) c0))) fun J V=>?_))));rcases dC ((((rt sv n).size:Nat):Int) > 60) with ⟨h2,h2p⟩|⟨h2,h2p⟩
   · rw [h2] at V;refine cT V (sr 2 (Ka 1 [(22,pt pb)] V fun J V=>Ae (mC (d:=(E 23)) V Tryz.func101 ((B1 pb tb toks CT sv j k n a er _ hv hs 6 (Ow.self (A:=[]) O)).mono ?_))));rintro en w2 ⟨a1,er1,rfl,hfe1,hW⟩;refine ⟨_,rfl,?_⟩;clear V J; intro J V;replace O:=Ow.pass (A:=[]) O hW; clear hW;exact Ab (Aa (Sa [] V fun J V=>wp_ret (Ac (cv [Y (⟨#[]⟩)] V (⟨_,_,_,_,_,_,rfl,Uh (Vs oo oo) dD hfe1,hv,Nat.le_refl _,O.to⟩)))))
   rw [h2] at V;refine cF V (wp_skip (Aa (sr 4 (Ka 1 [(24,pt pb)] V fun J V=>Ae (mC (d:=(E 25)) V Tryz.func103 ((Bq pb tb toks CT sv j k n a er _ hv hs (Ow.self (A:=[]) O)).mono ?_))))));rintro en w3 ⟨j1,k1,n1,rfl,hnx1,hv1,hW⟩;refine ⟨_,rfl,?_⟩;clear V J; intro J V;replace O:=Ow.pass (A:=[]) O hW; clear hW;have hp2a:=Bk sv n1;have hp2b:=hv1.pos;refine Ka 2 [(2,Y (rt sv n))] V fun J V=>Ab (Aa (wp_ret (cv [Y (rt sv n)] V ?_)));have hgt_:=Hf (s:=sv) (n:=n);exact ⟨_,_,_,_,_,_,rfl,st_ok (fun _=>X5 oo oo oo),hv1,oo,O.to⟩
 rw [h1] at V;refine cT V (sr 2 (Ka 1 [(11,pt pb)] V fun J V=>Ae (mC (d:=(E 12)) V Tryz.func101 ((B1 pb tb toks CT sv j k n a er _ hv hs 3 (Ow.self (A:=[]) O)).mono ?_))));rintro en w4 ⟨a2,er2,rfl,hfe2,hW⟩;refine ⟨_,rfl,?_⟩;clear V J; intro J V;replace O:=Ow.pass (A:=[]) O hW; clear hW;exact Ab (Aa (Sa [] V fun J V=>wp_ret (Ac (cv [Y (⟨#[]⟩)] V (⟨_,_,_,_,_,_,rfl,Uh (X6 oo) dD hfe2,hv,Nat.le_refl _,O.to⟩)))))
end Go.Proofs.YtdljjajjonfjbaaGreatDoor
