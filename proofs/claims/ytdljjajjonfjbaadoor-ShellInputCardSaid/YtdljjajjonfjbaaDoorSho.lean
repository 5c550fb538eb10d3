import Derived.Test.YtdljjajjonfjbaaDoorShn
import Derived.Test.YtdljjajjonfjbaaDoorSn
set_option linter.unusedVariables false
set_option linter.unusedSimpArgs false
set_option maxRecDepth 10000
namespace Go.Proofs.YtdljjajjonfjbaaDoor
open Go Go.Shelf Go.RowKit Go.Proofs Go.Proofs.Sx
def pvA (pv:Int):List CallL:=if 0<=pv then [callL 12 pv 0,callL 8 pv 0] else []
def wrA (rd wr:Int):List CallL:=if 0<=wr then [callL 12 wr 1,callL 8 wr 0,callL 8 rd 0] else []
def inA (d:CmdL):List CallL:=if d.inp.size=0 then [] else opens d.inp 0 0
def outA (d:CmdL):List CallL:=if d.app=true then opens d.out 5 1 else if d.out.size=0 then [] else opens d.out 3 1
theorem planA (s:StL) (c:CmdL):planL s c=(((pvA s.pv++wrA s.rd s.wr)++inA c)++outA c)++[⟨2,0,0,0,sI (word1 c)⟩]:=by
 unfold planL pvA wrA inA outA
 simp only [List.append_assoc]
theorem vp_app {T:OwL} {l1 l2:List PV} (h1:Holds' T fun w=>∀ x∈l1,VP w x) (h2:Holds' T fun w=>∀ x∈l2,VP w x):Holds' T fun w=>∀ x∈l1++l2,VP w x:=fun X w₀ w hO x hx=>(List.mem_append.1 hx).elim (h1 X w₀ w hO x) (h2 X w₀ w hO x)
theorem vp_open {T:OwL} {p:Option Addr} {c:Nat} {nm:ByteArray} {fl fd:Int} (h:Holds' T fun w=>Vw fB w (.slice p (sI nm).length c) (sI nm)):Holds' T fun w=>∀ x∈([⟨p,c,⟨7,fl,0,0,sI nm⟩⟩,⟨none,0,⟨12,-1,fd,0,[]⟩⟩,⟨none,0,⟨8,-1,0,0,[]⟩⟩]:List PV),VP w x:=fun X w₀ w hO x hx=>by
  simp only [List.mem_cons,List.not_mem_nil,or_false] at hx
  rcases hx with rfl | rfl | rfl
  · exact ⟨h X w₀ w hO,sI_u8 _⟩
  · exact bare_vp (bare_one _ _ _ _) w _ (List.mem_singleton.2 rfl)
  · exact bare_vp (bare_one _ _ _ _) w _ (List.mem_singleton.2 rfl)
theorem planL_len (s:StL) (c:CmdL):(planL s c).length<=12:=by
 unfold planL opens
 split <;> split <;> split <;> split <;> (try split) <;> simp
theorem pvl (pv:Int):(pvA pv).length<=2:=by unfold pvA; split <;> simp
theorem wrl (rd wr:Int):(wrA rd wr).length<=3:=by unfold wrA; split <;> simp
theorem inl_ (d:CmdL):(inA d).length<=3:=by unfold inA opens; split <;> simp
theorem outl (d:CmdL):(outA d).length<=3:=by unfold outA opens; (repeat' split) <;> simp
theorem vbare {T:OwL} {l:List PV} (h:(l.all fun x=>x.p.isNone && x.c == 0 && x.d.data.isEmpty)=true:=by rfl):Holds' T fun w=>∀ x∈l,VP w x:=fun _ _ w _=>bare_vp (by
  intro x hx
  have q:=List.all_eq_true.1 h x hx
  simp only [Bool.and_eq_true,beq_iff_eq,List.isEmpty_iff,Option.isNone_iff_eq_none] at q
  exact ⟨q.1.1,q.1.2,q.2⟩) w
theorem planned_any (pb:Nat) (mo po:Int) (inp:ByteArray) (pj:Option Addr) (kj:Nat) (lj:List JV) (rd wr pv:Int) (pn:Option Addr) (kn:Nat) (ln:List Int) (pp:Option Addr) (kp:Nat) (lp:List PV) (ay:Addr) (yc:Nat) (d:CmdL) (z:ByteArray) (w:World) (hB:Blk w pb 31 (cS mo po inp pj lj.length kj rd wr pv pn ln.length kn pp lp.length kp)) (hvw:Vw fT w (.slice (some ay) d.words.length yc) d.words) (hz:d.words[0]? = some z) (hzs:z.size<=60) (his:d.inp.size<=60) (hos:d.out.size<=60) :
    Calls Tryd.prog 46 #[pt pb,.agg #[.slice (some ay) d.words.length yc,str d.inp,str d.out,bl d.app]] w fun e w'=>∃ p k l T0 T1,e = .returned (.slice p l.length k)/\l.map PV.d=planL (SV.d (⟨mo,po,inp,pj,kj,lj,rd,wr,pv,pn,kn,ln,pp,kp,lp⟩:SV)) d/\One fP 35 5 p k l T0/\Holds' T1 (fun w=>∀ x∈l,VP w x)/\Ow Tryd.prog none' w w' (T0++T1):=by
 refine c_enter (args:=[pt pb,.agg #[.slice (some ay) d.words.length yc,str d.inp,str d.out,bl d.app]]) (m:=86) (n:=88) Tryd.func46 rfl (by kernel_rfl) (by kernel_rfl) fun fr hA=>?_
 have hO:=Ow.nil Tryd.prog none' w
 have hlen_:=(List.getElem?_eq_some_iff.1 hz).1
 refine sr 2 ?_
 refine Mn [.slice (some ay) d.words.length yc,str d.inp,str d.out,bl d.app] 66 3 hA hO fun fr w1 b1 hA hO=>?_
 refine Ka 1 [(4,.slice none 0 0)] hA fun fr hA=>?_
 refine end_ops ?_
 refine then_normal ?_
 refine sr 1 ?_
 refine Mn [.slice none 0 0] 29 5 hA hO fun fr w2 b2 hA hO=>?_
 refine end_ops ?_
 refine then_normal ?_
 have h1i:One fP 35 5 none 0 ([]:List PV) ([]:OwL):=One.nil _ _ _
 have hxi:([]:List PV).map PV.d=[]:=rfl
 have hdi:Holds' ([]:OwL) (fun w=>∀ x∈([]:List PV),VP w x):=fun _ _ _ _ x hx=>absurd hx List.not_mem_nil
 refine sJ (fun fr W=>∃ (po4:Option Addr) (ko4:Nat) (lo4:List PV) (To4:OwL) (Td4:OwL),Holds 88 [] fr [(0,pt pb),(3,pt b1),(4,.slice none 0 0),(5,pt b2)]/\Ow Tryd.prog none' w W ([(b2,29,[.slice po4 lo4.length ko4]),(b1,66,[.slice (some ay) d.words.length yc,str d.inp,str d.out,bl d.app])]++(To4++(Td4++([]))))/\One fP 35 5 po4 ko4 lo4 To4/\lo4.map PV.d=pvA pv/\Holds' Td4 (fun w=>∀ x∈lo4,VP w x)/\True) ?_ ?_
 · rintro fr w3 ⟨po4,ko4,lo4,To4,Td4,hA,hO,h1o4,hxo4,hdo4,-⟩
   have hll4:lo4.length<=12:=by have q_:=congrArg List.length hxo4; simp only [List.length_map,List.length_append] at q_; have q1_:=pvl pv; have q2_:=wrl rd wr; have q3_:=inl_ d; have q4_:=outl d; omega
   refine sJ (fun fr W=>∃ (po7:Option Addr) (ko7:Nat) (lo7:List PV) (To7:OwL) (Td7:OwL),Holds 88 [] fr [(3,pt b1),(4,.slice none 0 0),(5,pt b2)]/\Ow Tryd.prog none' w W ([(b2,29,[.slice po7 lo7.length ko7]),(b1,66,[.slice (some ay) d.words.length yc,str d.inp,str d.out,bl d.app])]++(To7++(Td7++([]))))/\One fP 35 5 po7 ko7 lo7 To7/\lo7.map PV.d=pvA pv++wrA rd wr/\Holds' Td7 (fun w=>∀ x∈lo7,VP w x)/\True) ?_ ?_
   · rintro fr w4 ⟨po7,ko7,lo7,To7,Td7,hA,hO,h1o7,hxo7,hdo7,-⟩
     have hll7:lo7.length<=12:=by have q_:=congrArg List.length hxo7; simp only [List.length_map,List.length_append] at q_; have q1_:=pvl pv; have q2_:=wrl rd wr; have q3_:=inl_ d; have q4_:=outl d; omega
     refine Sa [(6,.func (.func 56) #[] #[pt b2])] hA fun fr hA=>?_
     refine sJ (fun fr W=>∃ (po10:Option Addr) (ko10:Nat) (lo10:List PV) (To10:OwL) (Td10:OwL),Holds 88 [] fr [(3,pt b1),(4,.slice none 0 0),(5,pt b2),(6,.func (.func 56) #[] #[pt b2])]/\Ow Tryd.prog none' w W ([(b2,29,[.slice po10 lo10.length ko10]),(b1,66,[.slice (some ay) d.words.length yc,str d.inp,str d.out,bl d.app])]++(To10++(Td10++([]))))/\One fP 35 5 po10 ko10 lo10 To10/\lo10.map PV.d=(pvA pv++wrA rd wr)++inA d/\Holds' Td10 (fun w=>∀ x∈lo10,VP w x)/\True) ?_ ?_
     · rintro fr w5 ⟨po10,ko10,lo10,To10,Td10,hA,hO,h1o10,hxo10,hdo10,-⟩
       have hll10:lo10.length<=12:=by have q_:=congrArg List.length hxo10; simp only [List.length_map,List.length_append] at q_; have q1_:=pvl pv; have q2_:=wrl rd wr; have q3_:=inl_ d; have q4_:=outl d; omega
       refine sJ (fun fr W=>∃ (po14:Option Addr) (ko14:Nat) (lo14:List PV) (To14:OwL) (Td14:OwL),Holds 88 [] fr [(3,pt b1),(4,.slice none 0 0),(5,pt b2)]/\Ow Tryd.prog none' w W ([(b2,29,[.slice po14 lo14.length ko14]),(b1,66,[.slice (some ay) d.words.length yc,str d.inp,str d.out,bl d.app])]++(To14++(Td14++([]))))/\One fP 35 5 po14 ko14 lo14 To14/\lo14.map PV.d=((pvA pv++wrA rd wr)++inA d)++outA d/\Holds' Td14 (fun w=>∀ x∈lo14,VP w x)/\True) ?_ ?_
       · rintro fr w6 ⟨po14,ko14,lo14,To14,Td14,hA,hO,h1o14,hxo14,hdo14,-⟩
         have hll14:lo14.length<=12:=by have q_:=congrArg List.length hxo14; simp only [List.length_map,List.length_append] at q_; have q1_:=pvl pv; have q2_:=wrl rd wr; have q3_:=inl_ d; have q4_:=outl d; omega
         refine wp_seq ?_
         have hS:Ow Tryd.prog none' w _ [(b2,29,[.slice po14 lo14.length ko14]),(b1,66,[.slice (some ay) d.words.length yc,str d.inp,str d.out,bl d.app])]:=hO.sub [0,1]
         refine rP [(0,true),(1,true),(2,true),(3,true),(4,true),(5,false),(6,true),(7,false),(8,false),(9,true)] hS ?_
         intro w7 ho; replace hO:=hO.st ho; clear ho
         refine Ke 5 [(79,.slice po14 lo14.length ko14),(83,str z)] hA [.slice po14 lo14.length ko14,.slice (some ay) d.words.length yc,str z] (cc (hS.s1 0 0 29 (.slice po14 lo14.length ko14)) (cc (hS.s1 1 0 25 (.slice (some ay) d.words.length yc)) (cc (⟨by omega,by omega⟩:(0:Int)<=0/\0 < ((d.words.length:Nat):Int)) (cc (hS.sx (ay.add 0) 9 (str z) fun _ hO=>(((hvw.keep hO.only)).ldT hz)) c0)))) fun fr hA=>?_
         replace hO:Ow Tryd.prog none' w w7 ([(b2,29,[.slice po14 lo14.length ko14]),(b1,66,[.slice (some ay) d.words.length yc,str d.inp,str d.out,bl d.app])]++(To14++(Td14++([])))):=hO
         refine plan_mem (mB (t0:=9) (t:=33) (el:=5) (s:=z) (d:=84) hA hO (by unfold maxLen; omega) fun fr w8 p1 c1 T1 hA hO hT1=>?_)
         replace hO:Ow Tryd.prog none' w w8 ([(b2,29,[.slice po14 lo14.length ko14]),(b1,66,[.slice (some ay) d.words.length yc,str d.inp,str d.out,bl d.app])]++(To14++(Td14++(T1++([]))))):=hO.to (by first | rfl | (simp only [TP,apd]))
         refine ⟨(hO.sub [0,1]),?_⟩
         refine Kd 1 [(85,.agg #[i64 2,i64 0,i64 0,i64 0,.slice p1 ((sI z).length) c1])] hA fun fr hA=>?_
         refine plan_mem (mN (l:=[i64 2,i64 0,i64 0,i64 0,.slice p1 ((sI z).length) c1]) (t:=35) (v:=fun b=> .slice (some ⟨b,0,none⟩) 1 1) (d:=86) hA hO fun fr w9 b3 hA hO=>?_)
         refine ⟨(hO.sub [1,2]),?_⟩
         replace hO:Ow Tryd.prog none' w w9 ([(b3,35,[i64 2,i64 0,i64 0,i64 0,.slice p1 ((sI z).length) c1]),(b2,29,[.slice po14 lo14.length ko14]),(b1,66,[.slice (some ay) d.words.length yc,str d.inp,str d.out,bl d.app])]++(To14++(Td14++(T1++([]))))):=hO
         refine plan_mem (mA (f:=fP) (el:=35) (sz:=5) (bytes:=56) (p:=po14) (c:=ko14) (l:=lo14) (l':=([⟨p1,c1,⟨2,0,0,0,sI z⟩⟩]:List PV)) (T:=To14) (t:=29) (tx:=29) (ty:=29) (x:= .slice (some ⟨b3,0,none⟩) 1 1) (d:=87) [(b3,35,[i64 2,i64 0,i64 0,i64 0,.slice p1 ((sI z).length) c1]),(b2,29,[.slice po14 lo14.length ko14]),(b1,66,[.slice (some ay) d.words.length yc,str d.inp,str d.out,bl d.app])] (Td14++(T1++([]))) encP hA hO h1o14 (Vw.src (e':=35) encP ((hO.b 0).vw (off:=0) (xs:=([⟨p1,c1,⟨2,0,0,0,sI z⟩⟩]:List PV)) (by kernel_rfl)) (by kernel_rfl)) (by first | omega | (simp only [List.length_append,List.length_cons,List.length_nil]; omega)) (by unfold maxLen; first | omega | (simp only [List.length_append,List.length_cons,List.length_nil]; omega)) fun fr w10 p2 c2 T2 hA hO hT2=>?_)
         refine ⟨(hO.sub [1,2]),?_⟩
         refine Kd 1 [(4,.slice p2 ((lo14++([⟨p1,c1,⟨2,0,0,0,sI z⟩⟩]:List PV)).length) c2)] hA fun fr hA=>?_
         refine end_plan ?_
         refine then_normal ?_
         refine wp_ret ?_
         refine cv [.slice p2 ((lo14++([⟨p1,c1,⟨2,0,0,0,sI z⟩⟩]:List PV)).length) c2] hA ?_
         replace hO:Ow Tryd.prog none' w w10 ([(b3,35,[i64 2,i64 0,i64 0,i64 0,.slice p1 ((sI z).length) c1]),(b2,29,[.slice po14 lo14.length ko14]),(b1,66,[.slice (some ay) d.words.length yc,str d.inp,str d.out,bl d.app])]++(T2++(Td14++(T1++([]))))):=hO
         exact ⟨_,_,_,T2,Td14++T1,rfl,(by rw [planA,List.map_append,hxo14,show word1 d=z from gD_of hz]; rfl),hT2,(vp_app (Holds'.l hdo14) (Holds'.r (vp_one hT1.holds (sI_u8 _)))),((Ow.subP (A:=[_,_,_]) hO (.cons _ (.cons _ (.cons _ .slnil))))).to (by simp only [List.nil_append,List.append_nil])⟩
       refine wp_block ?_
       refine Sb [(64,bl d.app)] hA [bl d.app] (cc (hO.l1 1 3 4 (bl d.app)) c0) fun fr hA=>?_
       rcases Bool.eq_false_or_eq_true (d.app) with h1 | h1
       · rw [h1] at hA
         refine cT hA ?_
         refine rr 4 ?_
         refine Kb 3 [(67,.func (.func 56) #[] #[pt b2]),(69,str d.out)] hA [str d.out] (cc (hO.l1 1 2 9 (str d.out)) c0) fun fr hA=>?_
         replace hO:Ow Tryd.prog none' w w5 ([(b2,29,[.slice po10 lo10.length ko10]),(b1,66,[.slice (some ay) d.words.length yc,str d.inp,str d.out,bl d.app])]++(To10++(Td10++([])))):=hO
         refine wpOps_cons' (mC (d:=(some 70)) hA Tryd.func56 ((open_any d.out 5 1 b2 po10 ko10 lo10 To10 _ h1o10 (mself2 (A:=[]) (hO.tt:Ow Tryd.prog none' w _ (([]++[(b2,29,[.slice po10 lo10.length ko10]),(b1,66,[.slice (some ay) d.words.length yc,str d.inp,str d.out,bl d.app])])++(To10++(Td10++([])))))) (by omega) (by omega)).mono ?_))
         rintro en w11 ⟨rfl,p3,c3,T3,pd1,cd1,T4,hT3,hT4,hW⟩
         refine ⟨_,rfl,?_⟩
         clear hA fr; intro fr hA
         replace hO:=mcall2 (A:=[]) hO hW; clear hW
         replace hO:Ow Tryd.prog none' w _ ([(b2,29,[.slice p3 ((lo10++([⟨pd1,cd1,⟨7,5,0,0,sI d.out⟩⟩,⟨none,0,⟨12,-1,1,0,[]⟩⟩,⟨none,0,⟨8,-1,0,0,[]⟩⟩]:List PV)).length) c3]),(b1,66,[.slice (some ay) d.words.length yc,str d.inp,str d.out,bl d.app])]++(T3++(T4++(Td10++([]))))):=hO.to (by first | rfl | (simp only [TP,apd]))
         refine end_ops ?_
         refine inBlock_normal ?_
         replace hO:Ow Tryd.prog none' w w11 ([(b2,29,[.slice p3 ((lo10++([⟨pd1,cd1,⟨7,5,0,0,sI d.out⟩⟩,⟨none,0,⟨12,-1,1,0,[]⟩⟩,⟨none,0,⟨8,-1,0,0,[]⟩⟩]:List PV)).length) c3]),(b1,66,[.slice (some ay) d.words.length yc,str d.inp,str d.out,bl d.app])]++(T3++(T4++(Td10++([]))))):=hO
         refine then_normal ?_
         exact ⟨p3,c3,lo10++([⟨pd1,cd1,⟨7,5,0,0,sI d.out⟩⟩,⟨none,0,⟨12,-1,1,0,[]⟩⟩,⟨none,0,⟨8,-1,0,0,[]⟩⟩]:List PV),T3,(T4++Td10),hA.sb,(hO).tt,hT3,(by unfold outA; rw [if_pos h1,List.map_append,hxo10] <;> rfl),(vp_app (Holds'.r hdo10) (Holds'.l (vp_open hT4.holds))),trivial⟩
       rw [h1] at hA
       refine cF hA ?_
       refine Sb [(71,bl (!(d.out.toList == (⟨#[]⟩:ByteArray).toList)))] hA [str d.out] (cc (hO.l1 1 2 9 (str d.out)) c0) fun fr hA=>?_
       rw [(str_empty d.out:(d.out.toList == (⟨#[]⟩:ByteArray).toList)=(decide (d.out.size=0)))] at hA
       rcases Bool.eq_false_or_eq_true (decide (d.out.size=0)) with h2 | h2
       · rw [h2] at hA
         have h2p:=of_decide_eq_true h2
         refine cF hA ?_
         refine wp_skip ?_
         refine inBlock_normal ?_
         replace hO:Ow Tryd.prog none' w w5 ([(b2,29,[.slice po10 lo10.length ko10]),(b1,66,[.slice (some ay) d.words.length yc,str d.inp,str d.out,bl d.app])]++(To10++(Td10++([])))):=hO
         refine then_normal ?_
         exact ⟨po10,ko10,lo10,To10,Td10,hA.sb,(hO).tt,h1o10,(by unfold outA; rw [if_neg (by rw [h1]; decide),if_pos (of_decide_eq_true h2),hxo10] <;> (first | rfl | exact (List.append_nil _).symm)),hdo10,trivial⟩
       rw [h2] at hA
       have h2p:=of_decide_eq_false h2
       refine cT hA ?_
       refine rr 4 ?_
       refine Kb 3 [(75,.func (.func 56) #[] #[pt b2]),(77,str d.out)] hA [str d.out] (cc (hO.l1 1 2 9 (str d.out)) c0) fun fr hA=>?_
       replace hO:Ow Tryd.prog none' w w5 ([(b2,29,[.slice po10 lo10.length ko10]),(b1,66,[.slice (some ay) d.words.length yc,str d.inp,str d.out,bl d.app])]++(To10++(Td10++([])))):=hO
       refine wpOps_cons' (mC (d:=(some 78)) hA Tryd.func56 ((open_any d.out 3 1 b2 po10 ko10 lo10 To10 _ h1o10 (mself2 (A:=[]) (hO.tt:Ow Tryd.prog none' w _ (([]++[(b2,29,[.slice po10 lo10.length ko10]),(b1,66,[.slice (some ay) d.words.length yc,str d.inp,str d.out,bl d.app])])++(To10++(Td10++([])))))) (by omega) (by omega)).mono ?_))
       rintro en w12 ⟨rfl,p4,c4,T5,pd2,cd2,T6,hT5,hT6,hW⟩
       refine ⟨_,rfl,?_⟩
       clear hA fr; intro fr hA
       replace hO:=mcall2 (A:=[]) hO hW; clear hW
       replace hO:Ow Tryd.prog none' w _ ([(b2,29,[.slice p4 ((lo10++([⟨pd2,cd2,⟨7,3,0,0,sI d.out⟩⟩,⟨none,0,⟨12,-1,1,0,[]⟩⟩,⟨none,0,⟨8,-1,0,0,[]⟩⟩]:List PV)).length) c4]),(b1,66,[.slice (some ay) d.words.length yc,str d.inp,str d.out,bl d.app])]++(T5++(T6++(Td10++([]))))):=hO.to (by first | rfl | (simp only [TP,apd]))
       refine end_ops ?_
       refine inBlock_normal ?_
       replace hO:Ow Tryd.prog none' w w12 ([(b2,29,[.slice p4 ((lo10++([⟨pd2,cd2,⟨7,3,0,0,sI d.out⟩⟩,⟨none,0,⟨12,-1,1,0,[]⟩⟩,⟨none,0,⟨8,-1,0,0,[]⟩⟩]:List PV)).length) c4]),(b1,66,[.slice (some ay) d.words.length yc,str d.inp,str d.out,bl d.app])]++(T5++(T6++(Td10++([]))))):=hO
       refine then_normal ?_
       exact ⟨p4,c4,lo10++([⟨pd2,cd2,⟨7,3,0,0,sI d.out⟩⟩,⟨none,0,⟨12,-1,1,0,[]⟩⟩,⟨none,0,⟨8,-1,0,0,[]⟩⟩]:List PV),T5,(T6++Td10),hA.sb,(hO).tt,hT5,(by unfold outA; rw [if_neg (by rw [h1]; decide),if_neg (of_decide_eq_false h2),List.map_append,hxo10] <;> rfl),(vp_app (Holds'.r hdo10) (Holds'.l (vp_open hT6.holds))),trivial⟩
     refine Sb [(59,bl (!(d.inp.toList == (⟨#[]⟩:ByteArray).toList)))] hA [str d.inp] (cc (hO.l1 1 1 9 (str d.inp)) c0) fun fr hA=>?_
     rw [(str_empty d.inp:(d.inp.toList == (⟨#[]⟩:ByteArray).toList)=(decide (d.inp.size=0)))] at hA
     rcases Bool.eq_false_or_eq_true (decide (d.inp.size=0)) with h3 | h3
     · rw [h3] at hA
       have h3p:=of_decide_eq_true h3
       refine cF hA ?_
       refine wp_skip ?_
       replace hO:Ow Tryd.prog none' w w4 ([(b2,29,[.slice po7 lo7.length ko7]),(b1,66,[.slice (some ay) d.words.length yc,str d.inp,str d.out,bl d.app])]++(To7++(Td7++([])))):=hO
       refine then_normal ?_
       exact ⟨po7,ko7,lo7,To7,Td7,hA.sb,(hO).tt,h1o7,(by unfold inA; rw [if_pos (of_decide_eq_true h3),hxo7] <;> (first | rfl | exact (List.append_nil _).symm)),hdo7,trivial⟩
     rw [h3] at hA
     have h3p:=of_decide_eq_false h3
     refine cT hA ?_
     refine rr 4 ?_
     refine Kb 3 [(60,.func (.func 56) #[] #[pt b2]),(62,str d.inp)] hA [str d.inp] (cc (hO.l1 1 1 9 (str d.inp)) c0) fun fr hA=>?_
     replace hO:Ow Tryd.prog none' w w4 ([(b2,29,[.slice po7 lo7.length ko7]),(b1,66,[.slice (some ay) d.words.length yc,str d.inp,str d.out,bl d.app])]++(To7++(Td7++([])))):=hO
     refine wpOps_cons' (mC (d:=(some 63)) hA Tryd.func56 ((open_any d.inp 0 0 b2 po7 ko7 lo7 To7 _ h1o7 (mself2 (A:=[]) (hO.tt:Ow Tryd.prog none' w _ (([]++[(b2,29,[.slice po7 lo7.length ko7]),(b1,66,[.slice (some ay) d.words.length yc,str d.inp,str d.out,bl d.app])])++(To7++(Td7++([])))))) (by omega) (by omega)).mono ?_))
     rintro en w13 ⟨rfl,p5,c5,T7,pd3,cd3,T8,hT7,hT8,hW⟩
     refine ⟨_,rfl,?_⟩
     clear hA fr; intro fr hA
     replace hO:=mcall2 (A:=[]) hO hW; clear hW
     replace hO:Ow Tryd.prog none' w _ ([(b2,29,[.slice p5 ((lo7++([⟨pd3,cd3,⟨7,0,0,0,sI d.inp⟩⟩,⟨none,0,⟨12,-1,0,0,[]⟩⟩,⟨none,0,⟨8,-1,0,0,[]⟩⟩]:List PV)).length) c5]),(b1,66,[.slice (some ay) d.words.length yc,str d.inp,str d.out,bl d.app])]++(T7++(T8++(Td7++([]))))):=hO.to (by first | rfl | (simp only [TP,apd]))
     refine end_ops ?_
     replace hO:Ow Tryd.prog none' w w13 ([(b2,29,[.slice p5 ((lo7++([⟨pd3,cd3,⟨7,0,0,0,sI d.inp⟩⟩,⟨none,0,⟨12,-1,0,0,[]⟩⟩,⟨none,0,⟨8,-1,0,0,[]⟩⟩]:List PV)).length) c5]),(b1,66,[.slice (some ay) d.words.length yc,str d.inp,str d.out,bl d.app])]++(T7++(T8++(Td7++([]))))):=hO
     refine then_normal ?_
     exact ⟨p5,c5,lo7++([⟨pd3,cd3,⟨7,0,0,0,sI d.inp⟩⟩,⟨none,0,⟨12,-1,0,0,[]⟩⟩,⟨none,0,⟨8,-1,0,0,[]⟩⟩]:List PV),T7,(T8++Td7),hA.sb,(hO).tt,hT7,(by unfold inA; rw [if_neg (of_decide_eq_false h3),List.map_append,hxo7] <;> rfl),(vp_app (Holds'.r hdo7) (Holds'.l (vp_open hT8.holds))),trivial⟩
   refine Sb [(31,bl (decide (wr ≥ 0)))] hA [i64 wr] (cc (((hB.keep hO.only (fun h=>h)).ld1 (i:=5) (by kernel_rfl) (by kernel_rfl)):Ld Tryd.prog w3 ⟨pb,5,none⟩ 3 (i64 wr)) c0) fun fr hA=>?_
   rcases Bool.eq_false_or_eq_true (decide (wr ≥ 0)) with h4 | h4
   · rw [h4] at hA
     have h4p:=of_decide_eq_true h4
     refine cT hA ?_
     refine sJ (fun fr W=>∃ (pJ1:Option Addr) (cJ1:Nat) (TJ1:OwL),Holds 88 [] fr [(0,pt pb),(3,pt b1),(4,.slice none 0 0),(5,pt b2)]/\Ow Tryd.prog none' w W ([(b2,29,[.slice pJ1 ((lo4++([⟨none,0,⟨12,wr,1,0,[]⟩⟩,⟨none,0,⟨8,wr,0,0,[]⟩⟩]:List PV)).length) cJ1]),(b1,66,[.slice (some ay) d.words.length yc,str d.inp,str d.out,bl d.app])]++(TJ1++(Td4++([]))))/\One fP 35 5 pJ1 cJ1 (lo4++([⟨none,0,⟨12,wr,1,0,[]⟩⟩,⟨none,0,⟨8,wr,0,0,[]⟩⟩]:List PV)) TJ1/\True) ?_ ?_
     · rintro fr w14 ⟨pJ1,cJ1,TJ1,hA,hO,hTJ1,-⟩
       have hS:Ow Tryd.prog none' w _ [(b1,66,[.slice (some ay) d.words.length yc,str d.inp,str d.out,bl d.app])]:=hO.sub [1]
       refine rT (.q 1 (.q 2 (.q 3 (.q 4 (.m 0 (.m 5 (.m 6 (.m 7 (.m 8 (.m 9 .fin .non) .non) .non) .non) .non) (.m 5 (.m 0 (.m 6 (.m 7 (.m 8 (.m 9 .fin .non) .non) .non) .non) (.m 6 (.m 0 (.m 7 (.m 8 (.m 9 .fin .non) .non) .non) (.m 7 (.m 0 (.m 8 (.m 9 .fin .non) .non) .non) .non)) .non)) .non)))))) hS ?_
       intro w15 ho; replace hO:=hO.st ho; clear ho
       refine tree_let (t1:= .m 7 (.m 8 (.m 9 .fin .non) .non) .non) (fun fr W=>Holds 88 [] fr [(3,pt b1),(4,.slice none 0 0),(5,pt b2),(47,.slice pJ1 ((lo4++([⟨none,0,⟨12,wr,1,0,[]⟩⟩,⟨none,0,⟨8,wr,0,0,[]⟩⟩]:List PV)).length) cJ1),(53,.agg #[i64 8,i64 rd,i64 0,i64 0,.slice none 0 0])]/\Ow Tryd.prog none' w W ([(b2,29,[.slice pJ1 ((lo4++([⟨none,0,⟨12,wr,1,0,[]⟩⟩,⟨none,0,⟨8,wr,0,0,[]⟩⟩]:List PV)).length) cJ1]),(b1,66,[.slice (some ay) d.words.length yc,str d.inp,str d.out,bl d.app])]++(TJ1++(Td4++([]))))/\True) ?_ ?_
       · rintro fr w16 ⟨hA,hO,-⟩
         refine tree_mem ?_ ?_
         · refine (mN (l:=[i64 8,i64 rd,i64 0,i64 0,.slice none 0 0]) (t:=35) (v:=fun b=> .slice (some ⟨b,0,none⟩) 1 1) (d:=54) hA hO fun fr w17 b4 hA hO=>?_)
           refine ⟨(hO.sub [2]),?_⟩
           refine tree_mem ?_ ?_
           · replace hO:Ow Tryd.prog none' w w17 ([(b4,35,[i64 8,i64 rd,i64 0,i64 0,.slice none 0 0]),(b2,29,[.slice pJ1 ((lo4++([⟨none,0,⟨12,wr,1,0,[]⟩⟩,⟨none,0,⟨8,wr,0,0,[]⟩⟩]:List PV)).length) cJ1]),(b1,66,[.slice (some ay) d.words.length yc,str d.inp,str d.out,bl d.app])]++(TJ1++(Td4++([])))):=hO
             refine (mA (f:=fP) (el:=35) (sz:=5) (bytes:=56) (p:=pJ1) (c:=cJ1) (l:=lo4++([⟨none,0,⟨12,wr,1,0,[]⟩⟩,⟨none,0,⟨8,wr,0,0,[]⟩⟩]:List PV)) (l':=([⟨none,0,⟨8,rd,0,0,[]⟩⟩]:List PV)) (T:=TJ1) (t:=29) (tx:=29) (ty:=29) (x:= .slice (some ⟨b4,0,none⟩) 1 1) (d:=55) [(b4,35,[i64 8,i64 rd,i64 0,i64 0,.slice none 0 0]),(b2,29,[.slice pJ1 ((lo4++([⟨none,0,⟨12,wr,1,0,[]⟩⟩,⟨none,0,⟨8,wr,0,0,[]⟩⟩]:List PV)).length) cJ1]),(b1,66,[.slice (some ay) d.words.length yc,str d.inp,str d.out,bl d.app])] (Td4++([])) encP hA hO hTJ1 (Vw.src (e':=35) encP ((hO.b 0).vw (off:=0) (xs:=([⟨none,0,⟨8,rd,0,0,[]⟩⟩]:List PV)) (by kernel_rfl)) (by kernel_rfl)) (by first | omega | (simp only [List.length_append,List.length_cons,List.length_nil]; omega)) (by unfold maxLen; first | omega | (simp only [List.length_append,List.length_cons,List.length_nil]; omega)) fun fr w18 p6 c6 T9 hA hO hT9=>?_)
             refine ⟨(hO.sub [2]),?_⟩
             refine tree_mem ?_ ?_
             · refine (mS (off:=0) (vc:=[.slice p6 (((lo4++([⟨none,0,⟨12,wr,1,0,[]⟩⟩,⟨none,0,⟨8,wr,0,0,[]⟩⟩]:List PV))++([⟨none,0,⟨8,rd,0,0,[]⟩⟩]:List PV)).length) c6]) 1 hA hO fun w19 hO=>?_)
               refine ⟨(hO.sub [2]),?_⟩
               refine tree_fin ?_
               refine then_normal ?_
               exact ⟨p6,c6,(lo4++([⟨none,0,⟨12,wr,1,0,[]⟩⟩,⟨none,0,⟨8,wr,0,0,[]⟩⟩]:List PV))++([⟨none,0,⟨8,rd,0,0,[]⟩⟩]:List PV),T9,Td4,hA.sb,((Ow.subP (A:=[_,_,_]) hO (.cons _ (.cons_cons _ (.cons_cons _ .slnil))))).tt,hT9,(by unfold wrA; rw [if_pos (of_decide_eq_true h4),List.map_append,List.map_append,hxo4,List.append_assoc] <;> rfl),(vp_app (vp_app hdo4 vbare) vbare),trivial⟩
             exact trivial
           exact trivial
         exact trivial
       intro ht1
       refine tree_let (t1:= .m 6 (.m 7 (.m 8 (.m 9 .fin .non) .non) .non) .non) (fun fr W=>∃ (s1:Nat),Holds 88 [] fr [(3,pt b1),(4,.slice none 0 0),(5,pt b2),(47,.slice pJ1 ((lo4++([⟨none,0,⟨12,wr,1,0,[]⟩⟩,⟨none,0,⟨8,wr,0,0,[]⟩⟩]:List PV)).length) cJ1),(52,.slice (some ⟨s1,0,none⟩) 1 1)]/\Ow Tryd.prog none' w W ([(s1,3,[i64 rd]),(b2,29,[.slice pJ1 ((lo4++([⟨none,0,⟨12,wr,1,0,[]⟩⟩,⟨none,0,⟨8,wr,0,0,[]⟩⟩]:List PV)).length) cJ1]),(b1,66,[.slice (some ay) d.words.length yc,str d.inp,str d.out,bl d.app])]++(TJ1++(Td4++([]))))/\True) ?_ ?_
       · rintro fr w20 ⟨s1,hA,hO,-⟩
         refine tree_mem ?_ ?_
         · refine (mK (d:=(some 53)) hA hO Tryd.func12 (call_1 8 rd ⟨s1,0,none⟩ 1 _ ((hO.b 0).vw (off:=0) (xs:=[rd]) (by kernel_rfl))) fun fr w21 hA hO=>?_)
           refine ⟨(hO.sub [2]),?_⟩
           exact ht1 _ _ ⟨hA.sb,(Ow.subP (A:=[_,_,_]) hO (.cons _ (.cons_cons _ (.cons_cons _ .slnil)))),trivial⟩
         exact trivial
       intro ht2
       refine Kt [1,2,3,4] [(51,i64 rd)] hA [i64 rd] (cc (hS.sx ⟨pb,4,none⟩ 3 (i64 rd) fun _ hO=>((hB.keep hO.only (fun h=>h)).ld1 (i:=4) (by kernel_rfl) (by kernel_rfl))) c0) fun fr hA=>?_
       refine tree_mem ?_ ?_
       · refine (Qc [(47,.slice pJ1 ((lo4++([⟨none,0,⟨12,wr,1,0,[]⟩⟩,⟨none,0,⟨8,wr,0,0,[]⟩⟩]:List PV)).length) cJ1)] hA [.slice pJ1 ((lo4++([⟨none,0,⟨12,wr,1,0,[]⟩⟩,⟨none,0,⟨8,wr,0,0,[]⟩⟩]:List PV)).length) cJ1] (cc (hO.l1 0 0 29 (.slice pJ1 ((lo4++([⟨none,0,⟨12,wr,1,0,[]⟩⟩,⟨none,0,⟨8,wr,0,0,[]⟩⟩]:List PV)).length) cJ1)) c0) fun fr hA=>?_)
         refine ⟨(hO.sub [1]),?_⟩
         refine tree_mem ?_ ?_
         · refine (mN (l:=[i64 rd]) (t:=3) (v:=fun b=> .slice (some ⟨b,0,none⟩) 1 1) (d:=52) hA hO fun fr w22 b5 hA hO=>?_)
           refine ⟨(hO.sub [2]),?_⟩
           exact ht2 _ _ ⟨b5,hA.sb,hO.tt,trivial⟩
         exact trivial
       refine tree_mem ?_ ?_
       · refine (mN (l:=[i64 rd]) (t:=3) (v:=fun b=> .slice (some ⟨b,0,none⟩) 1 1) (d:=52) hA hO fun fr w23 b6 hA hO=>?_)
         refine ⟨(hO.sub [2]),?_⟩
         refine tree_mem ?_ ?_
         · refine (Qc [(47,.slice pJ1 ((lo4++([⟨none,0,⟨12,wr,1,0,[]⟩⟩,⟨none,0,⟨8,wr,0,0,[]⟩⟩]:List PV)).length) cJ1)] hA [.slice pJ1 ((lo4++([⟨none,0,⟨12,wr,1,0,[]⟩⟩,⟨none,0,⟨8,wr,0,0,[]⟩⟩]:List PV)).length) cJ1] (cc (hO.l1 1 0 29 (.slice pJ1 ((lo4++([⟨none,0,⟨12,wr,1,0,[]⟩⟩,⟨none,0,⟨8,wr,0,0,[]⟩⟩]:List PV)).length) cJ1)) c0) fun fr hA=>?_)
           refine ⟨(hO.sub [2]),?_⟩
           exact ht2 _ _ ⟨b6,hA.sb,hO.tt,trivial⟩
         refine tree_mem ?_ ?_
         · refine (mK (d:=(some 53)) hA hO Tryd.func12 (call_1 8 rd ⟨b6,0,none⟩ 1 _ ((hO.b 0).vw (off:=0) (xs:=[rd]) (by kernel_rfl))) fun fr w24 hA hO=>?_)
           refine ⟨(hO.sub [2]),?_⟩
           refine tree_mem ?_ ?_
           · refine (Qc [(47,.slice pJ1 ((lo4++([⟨none,0,⟨12,wr,1,0,[]⟩⟩,⟨none,0,⟨8,wr,0,0,[]⟩⟩]:List PV)).length) cJ1)] hA [.slice pJ1 ((lo4++([⟨none,0,⟨12,wr,1,0,[]⟩⟩,⟨none,0,⟨8,wr,0,0,[]⟩⟩]:List PV)).length) cJ1] (cc (hO.l1 1 0 29 (.slice pJ1 ((lo4++([⟨none,0,⟨12,wr,1,0,[]⟩⟩,⟨none,0,⟨8,wr,0,0,[]⟩⟩]:List PV)).length) cJ1)) c0) fun fr hA=>?_)
             refine ⟨(hO.sub [2]),?_⟩
             exact ht1 _ _ ⟨hA.sb,(Ow.subP (A:=[_,_,_]) hO (.cons _ (.cons_cons _ (.cons_cons _ .slnil)))),trivial⟩
           refine tree_mem ?_ ?_
           · refine (mN (l:=[i64 8,i64 rd,i64 0,i64 0,.slice none 0 0]) (t:=35) (v:=fun b=> .slice (some ⟨b,0,none⟩) 1 1) (d:=54) hA hO fun fr w25 b7 hA hO=>?_)
             refine ⟨(hO.sub [3]),?_⟩
             refine tree_mem ?_ ?_
             · refine (Qc [(47,.slice pJ1 ((lo4++([⟨none,0,⟨12,wr,1,0,[]⟩⟩,⟨none,0,⟨8,wr,0,0,[]⟩⟩]:List PV)).length) cJ1)] hA [.slice pJ1 ((lo4++([⟨none,0,⟨12,wr,1,0,[]⟩⟩,⟨none,0,⟨8,wr,0,0,[]⟩⟩]:List PV)).length) cJ1] (cc (hO.l1 2 0 29 (.slice pJ1 ((lo4++([⟨none,0,⟨12,wr,1,0,[]⟩⟩,⟨none,0,⟨8,wr,0,0,[]⟩⟩]:List PV)).length) cJ1)) c0) fun fr hA=>?_)
               refine ⟨(hO.sub [3]),?_⟩
               refine tree_mem ?_ ?_
               · replace hO:Ow Tryd.prog none' w w25 ([(b7,35,[i64 8,i64 rd,i64 0,i64 0,.slice none 0 0]),(b6,3,[i64 rd]),(b2,29,[.slice pJ1 ((lo4++([⟨none,0,⟨12,wr,1,0,[]⟩⟩,⟨none,0,⟨8,wr,0,0,[]⟩⟩]:List PV)).length) cJ1]),(b1,66,[.slice (some ay) d.words.length yc,str d.inp,str d.out,bl d.app])]++(TJ1++(Td4++([])))):=hO
                 refine (mA (f:=fP) (el:=35) (sz:=5) (bytes:=56) (p:=pJ1) (c:=cJ1) (l:=lo4++([⟨none,0,⟨12,wr,1,0,[]⟩⟩,⟨none,0,⟨8,wr,0,0,[]⟩⟩]:List PV)) (l':=([⟨none,0,⟨8,rd,0,0,[]⟩⟩]:List PV)) (T:=TJ1) (t:=29) (tx:=29) (ty:=29) (x:= .slice (some ⟨b7,0,none⟩) 1 1) (d:=55) [(b7,35,[i64 8,i64 rd,i64 0,i64 0,.slice none 0 0]),(b6,3,[i64 rd]),(b2,29,[.slice pJ1 ((lo4++([⟨none,0,⟨12,wr,1,0,[]⟩⟩,⟨none,0,⟨8,wr,0,0,[]⟩⟩]:List PV)).length) cJ1]),(b1,66,[.slice (some ay) d.words.length yc,str d.inp,str d.out,bl d.app])] (Td4++([])) encP hA hO hTJ1 (Vw.src (e':=35) encP ((hO.b 0).vw (off:=0) (xs:=([⟨none,0,⟨8,rd,0,0,[]⟩⟩]:List PV)) (by kernel_rfl)) (by kernel_rfl)) (by first | omega | (simp only [List.length_append,List.length_cons,List.length_nil]; omega)) (by unfold maxLen; first | omega | (simp only [List.length_append,List.length_cons,List.length_nil]; omega)) fun fr w26 p7 c7 T10 hA hO hT10=>?_)
                 refine ⟨(hO.sub [3]),?_⟩
                 refine tree_mem ?_ ?_
                 · refine (mS (off:=0) (vc:=[.slice p7 (((lo4++([⟨none,0,⟨12,wr,1,0,[]⟩⟩,⟨none,0,⟨8,wr,0,0,[]⟩⟩]:List PV))++([⟨none,0,⟨8,rd,0,0,[]⟩⟩]:List PV)).length) c7]) 2 hA hO fun w27 hO=>?_)
                   refine ⟨(hO.sub [3]),?_⟩
                   refine tree_fin ?_
                   refine then_normal ?_
                   exact ⟨p7,c7,(lo4++([⟨none,0,⟨12,wr,1,0,[]⟩⟩,⟨none,0,⟨8,wr,0,0,[]⟩⟩]:List PV))++([⟨none,0,⟨8,rd,0,0,[]⟩⟩]:List PV),T10,Td4,hA.sb,((Ow.subP (A:=[_,_,_,_]) hO (.cons _ (.cons _ (.cons_cons _ (.cons_cons _ .slnil)))))).tt,hT10,(by unfold wrA; rw [if_pos (of_decide_eq_true h4),List.map_append,List.map_append,hxo4,List.append_assoc] <;> rfl),(vp_app (vp_app hdo4 vbare) vbare),trivial⟩
                 exact trivial
               exact trivial
             exact trivial
           exact trivial
         exact trivial
       exact trivial
     have hS:=hO.pk [1]
     refine rT (.q 1 (.q 2 (.q 3 (.q 4 (.q 7 (.q 8 (.q 9 (.q 10 (.m 0 (.m 5 (.m 6 (.m 11 (.m 12 (.m 13 (.m 14 (.m 15 .fin .non) .non) .non) .non) .non) (.m 11 (.m 6 (.m 12 (.m 13 (.m 14 (.m 15 .fin .non) .non) .non) .non) .non) .non)) (.m 11 (.m 5 (.m 6 (.m 12 (.m 13 (.m 14 (.m 15 .fin .non) .non) .non) .non) .non) .non) .non)) (.m 5 (.m 0 (.m 6 (.m 11 (.m 12 (.m 13 (.m 14 (.m 15 .fin .non) .non) .non) .non) .non) (.m 11 (.m 6 (.m 12 (.m 13 (.m 14 (.m 15 .fin .non) .non) .non) .non) .non) .non)) (.m 6 (.m 0 (.m 11 (.m 12 (.m 13 (.m 14 (.m 15 .fin .non) .non) .non) .non) .non) (.m 11 (.m 0 (.m 12 (.m 13 (.m 14 (.m 15 .fin .non) .non) .non) .non) (.m 12 (.m 0 (.m 13 (.m 14 (.m 15 .fin .non) .non) .non) (.m 13 (.m 0 (.m 14 (.m 15 .fin .non) .non) .non) .non)) .non)) .non)) (.m 11 (.m 0 (.m 6 (.m 12 (.m 13 (.m 14 (.m 15 .fin .non) .non) .non) .non) .non) (.m 6 (.m 0 (.m 12 (.m 13 (.m 14 (.m 15 .fin .non) .non) .non) .non) (.m 12 (.m 0 (.m 13 (.m 14 (.m 15 .fin .non) .non) .non) (.m 13 (.m 0 (.m 14 (.m 15 .fin .non) .non) .non) .non)) .non)) .non)) .non))) (.m 11 (.m 0 (.m 5 (.m 6 (.m 12 (.m 13 (.m 14 (.m 15 .fin .non) .non) .non) .non) .non) .non) (.m 5 (.m 0 (.m 6 (.m 12 (.m 13 (.m 14 (.m 15 .fin .non) .non) .non) .non) .non) (.m 6 (.m 0 (.m 12 (.m 13 (.m 14 (.m 15 .fin .non) .non) .non) .non) (.m 12 (.m 0 (.m 13 (.m 14 (.m 15 .fin .non) .non) .non) (.m 13 (.m 0 (.m 14 (.m 15 .fin .non) .non) .non) .non)) .non)) .non)) .non)) .non))))))))))) hS ?_
     intro w28 ho; replace hO:=hO.st ho; clear ho
     refine tree_let (t1:= .m 13 (.m 14 (.m 15 .fin .non) .non) .non) (fun fr W=>Holds 88 [] fr [(0,pt pb),(3,pt b1),(4,.slice none 0 0),(5,pt b2),(32,.slice po4 lo4.length ko4),(38,.agg #[i64 12,i64 wr,i64 1,i64 0,.slice none 0 0]),(44,.agg #[i64 8,i64 wr,i64 0,i64 0,.slice none 0 0])]/\Ow Tryd.prog none' w W ([(b2,29,[.slice po4 lo4.length ko4]),(b1,66,[.slice (some ay) d.words.length yc,str d.inp,str d.out,bl d.app])]++(To4++(Td4++([]))))/\True) ?_ ?_
     · rintro fr w29 ⟨hA,hO,-⟩
       refine tree_mem ?_ ?_
       · refine (mN (l:=[i64 12,i64 wr,i64 1,i64 0,.slice none 0 0,i64 8,i64 wr,i64 0,i64 0,.slice none 0 0]) (t:=35) (v:=fun b=> .slice (some ⟨b,0,none⟩) 2 2) (d:=45) hA hO fun fr w30 b8 hA hO=>?_)
         refine ⟨(hO.sub [2]),?_⟩
         refine tree_mem ?_ ?_
         · replace hO:Ow Tryd.prog none' w w30 ([(b8,35,[i64 12,i64 wr,i64 1,i64 0,.slice none 0 0,i64 8,i64 wr,i64 0,i64 0,.slice none 0 0]),(b2,29,[.slice po4 lo4.length ko4]),(b1,66,[.slice (some ay) d.words.length yc,str d.inp,str d.out,bl d.app])]++(To4++(Td4++([])))):=hO
           refine (mA (f:=fP) (el:=35) (sz:=5) (bytes:=56) (p:=po4) (c:=ko4) (l:=lo4) (l':=([⟨none,0,⟨12,wr,1,0,[]⟩⟩,⟨none,0,⟨8,wr,0,0,[]⟩⟩]:List PV)) (T:=To4) (t:=29) (tx:=29) (ty:=29) (x:= .slice (some ⟨b8,0,none⟩) 2 2) (d:=46) [(b8,35,[i64 12,i64 wr,i64 1,i64 0,.slice none 0 0,i64 8,i64 wr,i64 0,i64 0,.slice none 0 0]),(b2,29,[.slice po4 lo4.length ko4]),(b1,66,[.slice (some ay) d.words.length yc,str d.inp,str d.out,bl d.app])] (Td4++([])) encP hA hO h1o4 (Vw.src (e':=35) encP ((hO.b 0).vw (off:=0) (xs:=([⟨none,0,⟨12,wr,1,0,[]⟩⟩,⟨none,0,⟨8,wr,0,0,[]⟩⟩]:List PV)) (by kernel_rfl)) (by kernel_rfl)) (by first | omega | (simp only [List.length_append,List.length_cons,List.length_nil]; omega)) (by unfold maxLen; first | omega | (simp only [List.length_append,List.length_cons,List.length_nil]; omega)) fun fr w31 p8 c8 T11 hA hO hT11=>?_)
           refine ⟨(hO.sub [2]),?_⟩
           refine tree_mem ?_ ?_
           · refine (mS (off:=0) (vc:=[.slice p8 ((lo4++([⟨none,0,⟨12,wr,1,0,[]⟩⟩,⟨none,0,⟨8,wr,0,0,[]⟩⟩]:List PV)).length) c8]) 1 hA hO fun w32 hO=>?_)
             refine ⟨(hO.sub [2]),?_⟩
             refine tree_fin ?_
             refine then_normal ?_
             exact ⟨p8,c8,T11,hA.sb,(Ow.subP (A:=[_,_,_]) hO (.cons _ (.cons_cons _ (.cons_cons _ .slnil)))),hT11,trivial⟩
           exact trivial
         exact trivial
       exact trivial
     intro ht3
     refine tree_let (t1:= .m 12 (.m 13 (.m 14 (.m 15 .fin .non) .non) .non) .non) (fun fr W=>∃ (s2:Nat),Holds 88 [] fr [(0,pt pb),(3,pt b1),(4,.slice none 0 0),(5,pt b2),(32,.slice po4 lo4.length ko4),(38,.agg #[i64 12,i64 wr,i64 1,i64 0,.slice none 0 0]),(43,.slice (some ⟨s2,0,none⟩) 1 1)]/\Ow Tryd.prog none' w W ([(s2,3,[i64 wr]),(b2,29,[.slice po4 lo4.length ko4]),(b1,66,[.slice (some ay) d.words.length yc,str d.inp,str d.out,bl d.app])]++(To4++(Td4++([]))))/\True) ?_ ?_
     · rintro fr w33 ⟨s2,hA,hO,-⟩
       refine tree_mem ?_ ?_
       · refine (mK (d:=(some 44)) hA hO Tryd.func12 (call_1 8 wr ⟨s2,0,none⟩ 1 _ ((hO.b 0).vw (off:=0) (xs:=[wr]) (by kernel_rfl))) fun fr w34 hA hO=>?_)
         refine ⟨(hO.sub [2]),?_⟩
         exact ht3 _ _ ⟨hA.sb,(Ow.subP (A:=[_,_,_]) hO (.cons _ (.cons_cons _ (.cons_cons _ .slnil)))),trivial⟩
       exact trivial
     intro ht4
     refine tree_let (t1:= .m 11 (.m 12 (.m 13 (.m 14 (.m 15 .fin .non) .non) .non) .non) .non) (fun fr W=>Holds 88 [] fr [(0,pt pb),(3,pt b1),(4,.slice none 0 0),(5,pt b2),(32,.slice po4 lo4.length ko4),(38,.agg #[i64 12,i64 wr,i64 1,i64 0,.slice none 0 0]),(42,i64 wr)]/\Ow Tryd.prog none' w W ([(b2,29,[.slice po4 lo4.length ko4]),(b1,66,[.slice (some ay) d.words.length yc,str d.inp,str d.out,bl d.app])]++(To4++(Td4++([]))))/\True) ?_ ?_
     · rintro fr w35 ⟨hA,hO,-⟩
       refine tree_mem ?_ ?_
       · refine (mN (l:=[i64 wr]) (t:=3) (v:=fun b=> .slice (some ⟨b,0,none⟩) 1 1) (d:=43) hA hO fun fr w36 b9 hA hO=>?_)
         refine ⟨(hO.sub [2]),?_⟩
         exact ht4 _ _ ⟨b9,hA.sb,hO.tt,trivial⟩
       exact trivial
     intro ht5
     refine tree_let (t1:= .m 6 (.m 12 (.m 13 (.m 14 (.m 15 .fin .non) .non) .non) .non) .non) (fun fr W=>∃ (s3:Nat) (s4:Nat),Holds 88 [] fr [(0,pt pb),(3,pt b1),(4,.slice none 0 0),(5,pt b2),(32,.slice po4 lo4.length ko4),(37,.slice (some ⟨s3,0,none⟩) 2 2),(43,.slice (some ⟨s4,0,none⟩) 1 1)]/\Ow Tryd.prog none' w W ([(s4,3,[i64 wr]),(s3,3,[i64 wr,i64 1]),(b2,29,[.slice po4 lo4.length ko4]),(b1,66,[.slice (some ay) d.words.length yc,str d.inp,str d.out,bl d.app])]++(To4++(Td4++([]))))/\True) ?_ ?_
     · rintro fr w37 ⟨s3,s4,hA,hO,-⟩
       refine tree_mem ?_ ?_
       · refine (mK (d:=(some 38)) hA hO Tryd.func12 (call_2 12 wr 1 ⟨s3,0,none⟩ 2 _ ((hO.b 1).vw (off:=0) (xs:=[wr,1]) (by kernel_rfl))) fun fr w38 hA hO=>?_)
         refine ⟨(hO.sub [3]),?_⟩
         exact ht4 _ _ ⟨s4,hA.sb,(Ow.subP (A:=[_,_,_,_]) hO (.cons_cons _ (.cons _ (.cons_cons _ (.cons_cons _ .slnil))))),trivial⟩
       exact trivial
     intro ht6
     refine tree_let (t1:= .m 0 (.m 12 (.m 13 (.m 14 (.m 15 .fin .non) .non) .non) .non) (.m 12 (.m 0 (.m 13 (.m 14 (.m 15 .fin .non) .non) .non) (.m 13 (.m 0 (.m 14 (.m 15 .fin .non) .non) .non) .non)) .non)) (fun fr W=>∃ (s5:Nat),Holds 88 [] fr [(0,pt pb),(3,pt b1),(4,.slice none 0 0),(5,pt b2),(38,.agg #[i64 12,i64 wr,i64 1,i64 0,.slice none 0 0]),(43,.slice (some ⟨s5,0,none⟩) 1 1)]/\Ow Tryd.prog none' w W ([(s5,3,[i64 wr]),(b2,29,[.slice po4 lo4.length ko4]),(b1,66,[.slice (some ay) d.words.length yc,str d.inp,str d.out,bl d.app])]++(To4++(Td4++([]))))/\True) ?_ ?_
     · rintro fr w39 ⟨s5,hA,hO,-⟩
       refine tree_mem ?_ ?_
       · refine (Qc [(32,.slice po4 lo4.length ko4)] hA [.slice po4 lo4.length ko4] (cc (hO.l1 1 0 29 (.slice po4 lo4.length ko4)) c0) fun fr hA=>?_)
         refine ⟨(hO.sub [2]),?_⟩
         exact ht4 _ _ ⟨s5,hA.sb,hO,trivial⟩
       refine tree_mem ?_ ?_
       · refine (mK (d:=(some 44)) hA hO Tryd.func12 (call_1 8 wr ⟨s5,0,none⟩ 1 _ ((hO.b 0).vw (off:=0) (xs:=[wr]) (by kernel_rfl))) fun fr w40 hA hO=>?_)
         refine ⟨(hO.sub [2]),?_⟩
         refine tree_mem ?_ ?_
         · refine (Qc [(32,.slice po4 lo4.length ko4)] hA [.slice po4 lo4.length ko4] (cc (hO.l1 1 0 29 (.slice po4 lo4.length ko4)) c0) fun fr hA=>?_)
           refine ⟨(hO.sub [2]),?_⟩
           exact ht3 _ _ ⟨hA.sb,(Ow.subP (A:=[_,_,_]) hO (.cons _ (.cons_cons _ (.cons_cons _ .slnil)))),trivial⟩
         refine tree_mem ?_ ?_
         · refine (mN (l:=[i64 12,i64 wr,i64 1,i64 0,.slice none 0 0,i64 8,i64 wr,i64 0,i64 0,.slice none 0 0]) (t:=35) (v:=fun b=> .slice (some ⟨b,0,none⟩) 2 2) (d:=45) hA hO fun fr w41 b10 hA hO=>?_)
           refine ⟨(hO.sub [3]),?_⟩
           refine tree_mem ?_ ?_
           · refine (Qc [(32,.slice po4 lo4.length ko4)] hA [.slice po4 lo4.length ko4] (cc (hO.l1 2 0 29 (.slice po4 lo4.length ko4)) c0) fun fr hA=>?_)
             refine ⟨(hO.sub [3]),?_⟩
             refine tree_mem ?_ ?_
             · replace hO:Ow Tryd.prog none' w w41 ([(b10,35,[i64 12,i64 wr,i64 1,i64 0,.slice none 0 0,i64 8,i64 wr,i64 0,i64 0,.slice none 0 0]),(s5,3,[i64 wr]),(b2,29,[.slice po4 lo4.length ko4]),(b1,66,[.slice (some ay) d.words.length yc,str d.inp,str d.out,bl d.app])]++(To4++(Td4++([])))):=hO
               refine (mA (f:=fP) (el:=35) (sz:=5) (bytes:=56) (p:=po4) (c:=ko4) (l:=lo4) (l':=([⟨none,0,⟨12,wr,1,0,[]⟩⟩,⟨none,0,⟨8,wr,0,0,[]⟩⟩]:List PV)) (T:=To4) (t:=29) (tx:=29) (ty:=29) (x:= .slice (some ⟨b10,0,none⟩) 2 2) (d:=46) [(b10,35,[i64 12,i64 wr,i64 1,i64 0,.slice none 0 0,i64 8,i64 wr,i64 0,i64 0,.slice none 0 0]),(s5,3,[i64 wr]),(b2,29,[.slice po4 lo4.length ko4]),(b1,66,[.slice (some ay) d.words.length yc,str d.inp,str d.out,bl d.app])] (Td4++([])) encP hA hO h1o4 (Vw.src (e':=35) encP ((hO.b 0).vw (off:=0) (xs:=([⟨none,0,⟨12,wr,1,0,[]⟩⟩,⟨none,0,⟨8,wr,0,0,[]⟩⟩]:List PV)) (by kernel_rfl)) (by kernel_rfl)) (by first | omega | (simp only [List.length_append,List.length_cons,List.length_nil]; omega)) (by unfold maxLen; first | omega | (simp only [List.length_append,List.length_cons,List.length_nil]; omega)) fun fr w42 p9 c9 T12 hA hO hT12=>?_)
               refine ⟨(hO.sub [3]),?_⟩
               refine tree_mem ?_ ?_
               · refine (mS (off:=0) (vc:=[.slice p9 ((lo4++([⟨none,0,⟨12,wr,1,0,[]⟩⟩,⟨none,0,⟨8,wr,0,0,[]⟩⟩]:List PV)).length) c9]) 2 hA hO fun w43 hO=>?_)
                 refine ⟨(hO.sub [3]),?_⟩
                 refine tree_fin ?_
                 refine then_normal ?_
                 exact ⟨p9,c9,T12,hA.sb,(Ow.subP (A:=[_,_,_,_]) hO (.cons _ (.cons _ (.cons_cons _ (.cons_cons _ .slnil))))),hT12,trivial⟩
               exact trivial
             exact trivial
           exact trivial
         exact trivial
       exact trivial
     intro ht7
     refine tree_let (t1:= .m 6 (.m 11 (.m 12 (.m 13 (.m 14 (.m 15 .fin .non) .non) .non) .non) .non) (.m 11 (.m 6 (.m 12 (.m 13 (.m 14 (.m 15 .fin .non) .non) .non) .non) .non) .non)) (fun fr W=>∃ (s6:Nat),Holds 88 [] fr [(0,pt pb),(3,pt b1),(4,.slice none 0 0),(5,pt b2),(32,.slice po4 lo4.length ko4),(37,.slice (some ⟨s6,0,none⟩) 2 2),(42,i64 wr)]/\Ow Tryd.prog none' w W ([(s6,3,[i64 wr,i64 1]),(b2,29,[.slice po4 lo4.length ko4]),(b1,66,[.slice (some ay) d.words.length yc,str d.inp,str d.out,bl d.app])]++(To4++(Td4++([]))))/\True) ?_ ?_
     · rintro fr w44 ⟨s6,hA,hO,-⟩
       refine tree_mem ?_ ?_
       · refine (mK (d:=(some 38)) hA hO Tryd.func12 (call_2 12 wr 1 ⟨s6,0,none⟩ 2 _ ((hO.b 0).vw (off:=0) (xs:=[wr,1]) (by kernel_rfl))) fun fr w45 hA hO=>?_)
         refine ⟨(hO.sub [2]),?_⟩
         exact ht5 _ _ ⟨hA.sb,(Ow.subP (A:=[_,_,_]) hO (.cons _ (.cons_cons _ (.cons_cons _ .slnil)))),trivial⟩
       refine tree_mem ?_ ?_
       · refine (mN (l:=[i64 wr]) (t:=3) (v:=fun b=> .slice (some ⟨b,0,none⟩) 1 1) (d:=43) hA hO fun fr w46 b11 hA hO=>?_)
         refine ⟨(hO.sub [3]),?_⟩
         exact ht6 _ _ ⟨s6,b11,hA.sb,hO.tt,trivial⟩
       exact trivial
     intro ht8
     refine tree_let (t1:= .m 5 (.m 6 (.m 12 (.m 13 (.m 14 (.m 15 .fin .non) .non) .non) .non) .non) .non) (fun fr W=>∃ (s7:Nat),Holds 88 [] fr [(0,pt pb),(3,pt b1),(4,.slice none 0 0),(5,pt b2),(32,.slice po4 lo4.length ko4),(36,i64 wr),(43,.slice (some ⟨s7,0,none⟩) 1 1)]/\Ow Tryd.prog none' w W ([(s7,3,[i64 wr]),(b2,29,[.slice po4 lo4.length ko4]),(b1,66,[.slice (some ay) d.words.length yc,str d.inp,str d.out,bl d.app])]++(To4++(Td4++([]))))/\True) ?_ ?_
     · rintro fr w47 ⟨s7,hA,hO,-⟩
       refine tree_mem ?_ ?_
       · refine (mN (l:=[i64 wr,i64 1]) (t:=3) (v:=fun b=> .slice (some ⟨b,0,none⟩) 2 2) (d:=37) hA hO fun fr w48 b12 hA hO=>?_)
         refine ⟨(hO.sub [3]),?_⟩
         exact ht6 _ _ ⟨b12,s7,hA.sb,(permA (A:=[_,_,_,_]) (hO) (List.Perm.swap _ _ _)),trivial⟩
       exact trivial
     intro ht9
     refine tree_let (t1:= .m 0 (.m 6 (.m 12 (.m 13 (.m 14 (.m 15 .fin .non) .non) .non) .non) .non) (.m 6 (.m 0 (.m 12 (.m 13 (.m 14 (.m 15 .fin .non) .non) .non) .non) (.m 12 (.m 0 (.m 13 (.m 14 (.m 15 .fin .non) .non) .non) (.m 13 (.m 0 (.m 14 (.m 15 .fin .non) .non) .non) .non)) .non)) .non)) (fun fr W=>∃ (s8:Nat) (s9:Nat),Holds 88 [] fr [(0,pt pb),(3,pt b1),(4,.slice none 0 0),(5,pt b2),(37,.slice (some ⟨s8,0,none⟩) 2 2),(43,.slice (some ⟨s9,0,none⟩) 1 1)]/\Ow Tryd.prog none' w W ([(s9,3,[i64 wr]),(s8,3,[i64 wr,i64 1]),(b2,29,[.slice po4 lo4.length ko4]),(b1,66,[.slice (some ay) d.words.length yc,str d.inp,str d.out,bl d.app])]++(To4++(Td4++([]))))/\True) ?_ ?_
     · rintro fr w49 ⟨s8,s9,hA,hO,-⟩
       refine tree_mem ?_ ?_
       · refine (Qc [(32,.slice po4 lo4.length ko4)] hA [.slice po4 lo4.length ko4] (cc (hO.l1 2 0 29 (.slice po4 lo4.length ko4)) c0) fun fr hA=>?_)
         refine ⟨(hO.sub [3]),?_⟩
         exact ht6 _ _ ⟨s8,s9,hA.sb,hO,trivial⟩
       refine tree_mem ?_ ?_
       · refine (mK (d:=(some 38)) hA hO Tryd.func12 (call_2 12 wr 1 ⟨s8,0,none⟩ 2 _ ((hO.b 1).vw (off:=0) (xs:=[wr,1]) (by kernel_rfl))) fun fr w50 hA hO=>?_)
         refine ⟨(hO.sub [3]),?_⟩
         exact ht7 _ _ ⟨s9,hA.sb,(Ow.subP (A:=[_,_,_,_]) hO (.cons_cons _ (.cons _ (.cons_cons _ (.cons_cons _ .slnil))))),trivial⟩
       exact trivial
     intro ht10
     refine Kt [1,2,3,4,7,8,9,10] [(36,i64 wr),(42,i64 wr)] hA [i64 wr,i64 wr] (cc (hS.sx ⟨pb,5,none⟩ 3 (i64 wr) fun _ hO=>((hB.keep hO.only (fun h=>h)).ld1 (i:=5) (by kernel_rfl) (by kernel_rfl))) (cc (hS.sx ⟨pb,5,none⟩ 3 (i64 wr) fun _ hO=>((hB.keep hO.only (fun h=>h)).ld1 (i:=5) (by kernel_rfl) (by kernel_rfl))) c0)) fun fr hA=>?_
     refine tree_mem ?_ ?_
     · refine (Qc [(32,.slice po4 lo4.length ko4)] hA [.slice po4 lo4.length ko4] (cc (hO.l1 0 0 29 (.slice po4 lo4.length ko4)) c0) fun fr hA=>?_)
       refine ⟨(hO.sub [1]),?_⟩
       refine tree_mem ?_ ?_
       · refine (mN (l:=[i64 wr,i64 1]) (t:=3) (v:=fun b=> .slice (some ⟨b,0,none⟩) 2 2) (d:=37) hA hO fun fr w51 b13 hA hO=>?_)
         refine ⟨(hO.sub [2]),?_⟩
         exact ht8 _ _ ⟨b13,hA.sb,hO.tt,trivial⟩
       refine tree_mem ?_ ?_
       · refine (mN (l:=[i64 wr]) (t:=3) (v:=fun b=> .slice (some ⟨b,0,none⟩) 1 1) (d:=43) hA hO fun fr w52 b14 hA hO=>?_)
         refine ⟨(hO.sub [2]),?_⟩
         exact ht9 _ _ ⟨b14,hA.sb,hO.tt,trivial⟩
       exact trivial
     refine tree_mem ?_ ?_
     · refine (mN (l:=[i64 wr,i64 1]) (t:=3) (v:=fun b=> .slice (some ⟨b,0,none⟩) 2 2) (d:=37) hA hO fun fr w53 b15 hA hO=>?_)
       refine ⟨(hO.sub [2]),?_⟩
       refine tree_mem ?_ ?_
       · refine (Qc [(32,.slice po4 lo4.length ko4)] hA [.slice po4 lo4.length ko4] (cc (hO.l1 1 0 29 (.slice po4 lo4.length ko4)) c0) fun fr hA=>?_)
         refine ⟨(hO.sub [2]),?_⟩
         exact ht8 _ _ ⟨b15,hA.sb,hO.tt,trivial⟩
       refine tree_mem ?_ ?_
       · refine (mK (d:=(some 38)) hA hO Tryd.func12 (call_2 12 wr 1 ⟨b15,0,none⟩ 2 _ ((hO.b 0).vw (off:=0) (xs:=[wr,1]) (by kernel_rfl))) fun fr w54 hA hO=>?_)
         refine ⟨(hO.sub [2]),?_⟩
         refine tree_mem ?_ ?_
         · refine (Qc [(32,.slice po4 lo4.length ko4)] hA [.slice po4 lo4.length ko4] (cc (hO.l1 1 0 29 (.slice po4 lo4.length ko4)) c0) fun fr hA=>?_)
           refine ⟨(hO.sub [2]),?_⟩
           exact ht5 _ _ ⟨hA.sb,(Ow.subP (A:=[_,_,_]) hO (.cons _ (.cons_cons _ (.cons_cons _ .slnil)))),trivial⟩
         refine tree_mem ?_ ?_
         · refine (mN (l:=[i64 wr]) (t:=3) (v:=fun b=> .slice (some ⟨b,0,none⟩) 1 1) (d:=43) hA hO fun fr w55 b16 hA hO=>?_)
           refine ⟨(hO.sub [3]),?_⟩
           exact ht7 _ _ ⟨b16,hA.sb,(Ow.subP (A:=[_,_,_,_]) hO (.cons_cons _ (.cons _ (.cons_cons _ (.cons_cons _ .slnil))))),trivial⟩
         exact trivial
       refine tree_mem ?_ ?_
       · refine (mN (l:=[i64 wr]) (t:=3) (v:=fun b=> .slice (some ⟨b,0,none⟩) 1 1) (d:=43) hA hO fun fr w56 b17 hA hO=>?_)
         refine ⟨(hO.sub [3]),?_⟩
         exact ht10 _ _ ⟨b15,b17,hA.sb,hO.tt,trivial⟩
       exact trivial
     refine tree_mem ?_ ?_
     · refine (mN (l:=[i64 wr]) (t:=3) (v:=fun b=> .slice (some ⟨b,0,none⟩) 1 1) (d:=43) hA hO fun fr w57 b18 hA hO=>?_)
       refine ⟨(hO.sub [2]),?_⟩
       refine tree_mem ?_ ?_
       · refine (Qc [(32,.slice po4 lo4.length ko4)] hA [.slice po4 lo4.length ko4] (cc (hO.l1 1 0 29 (.slice po4 lo4.length ko4)) c0) fun fr hA=>?_)
         refine ⟨(hO.sub [2]),?_⟩
         exact ht9 _ _ ⟨b18,hA.sb,hO.tt,trivial⟩
       refine tree_mem ?_ ?_
       · refine (mN (l:=[i64 wr,i64 1]) (t:=3) (v:=fun b=> .slice (some ⟨b,0,none⟩) 2 2) (d:=37) hA hO fun fr w58 b19 hA hO=>?_)
         refine ⟨(hO.sub [3]),?_⟩
         exact ht10 _ _ ⟨b19,b18,hA.sb,(permA (A:=[_,_,_,_]) (hO) (List.Perm.swap _ _ _)),trivial⟩
       exact trivial
     exact trivial
   rw [h4] at hA
   have h4p:=of_decide_eq_false h4
   refine cF hA ?_
   refine wp_skip ?_
   refine then_normal ?_
   exact ⟨po4,ko4,lo4,To4,Td4,hA.sb,(hO).tt,h1o4,(by unfold wrA; rw [if_neg (of_decide_eq_false h4),hxo4] <;> (first | rfl | exact (List.append_nil _).symm)),hdo4,trivial⟩
 refine Sb [(11,bl (decide (pv ≥ 0)))] hA [i64 pv] (cc (((hB.keep hO.only (fun h=>h)).ld1 (i:=6) (by kernel_rfl) (by kernel_rfl)):Ld Tryd.prog w2 ⟨pb,6,none⟩ 3 (i64 pv)) c0) fun fr hA=>?_
 rcases Bool.eq_false_or_eq_true (decide (pv ≥ 0)) with h5 | h5
 · rw [h5] at hA
   have h5p:=of_decide_eq_true h5
   refine cT hA ?_
   have hS:=hO.pk [1]
   refine rT (.q 1 (.q 2 (.q 3 (.q 4 (.q 7 (.q 8 (.q 9 (.q 10 (.m 0 (.m 5 (.m 6 (.m 11 (.m 12 (.m 13 (.m 14 (.m 15 .fin .non) .non) .non) .non) .non) (.m 11 (.m 6 (.m 12 (.m 13 (.m 14 (.m 15 .fin .non) .non) .non) .non) .non) .non)) (.m 11 (.m 5 (.m 6 (.m 12 (.m 13 (.m 14 (.m 15 .fin .non) .non) .non) .non) .non) .non) .non)) (.m 5 (.m 0 (.m 6 (.m 11 (.m 12 (.m 13 (.m 14 (.m 15 .fin .non) .non) .non) .non) .non) (.m 11 (.m 6 (.m 12 (.m 13 (.m 14 (.m 15 .fin .non) .non) .non) .non) .non) .non)) (.m 6 (.m 0 (.m 11 (.m 12 (.m 13 (.m 14 (.m 15 .fin .non) .non) .non) .non) .non) (.m 11 (.m 0 (.m 12 (.m 13 (.m 14 (.m 15 .fin .non) .non) .non) .non) (.m 12 (.m 0 (.m 13 (.m 14 (.m 15 .fin .non) .non) .non) (.m 13 (.m 0 (.m 14 (.m 15 .fin .non) .non) .non) .non)) .non)) .non)) (.m 11 (.m 0 (.m 6 (.m 12 (.m 13 (.m 14 (.m 15 .fin .non) .non) .non) .non) .non) (.m 6 (.m 0 (.m 12 (.m 13 (.m 14 (.m 15 .fin .non) .non) .non) .non) (.m 12 (.m 0 (.m 13 (.m 14 (.m 15 .fin .non) .non) .non) (.m 13 (.m 0 (.m 14 (.m 15 .fin .non) .non) .non) .non)) .non)) .non)) .non))) (.m 11 (.m 0 (.m 5 (.m 6 (.m 12 (.m 13 (.m 14 (.m 15 .fin .non) .non) .non) .non) .non) .non) (.m 5 (.m 0 (.m 6 (.m 12 (.m 13 (.m 14 (.m 15 .fin .non) .non) .non) .non) .non) (.m 6 (.m 0 (.m 12 (.m 13 (.m 14 (.m 15 .fin .non) .non) .non) .non) (.m 12 (.m 0 (.m 13 (.m 14 (.m 15 .fin .non) .non) .non) (.m 13 (.m 0 (.m 14 (.m 15 .fin .non) .non) .non) .non)) .non)) .non)) .non)) .non))))))))))) hS ?_
   intro w59 ho; replace hO:=hO.st ho; clear ho
   refine tree_let (t1:= .m 13 (.m 14 (.m 15 .fin .non) .non) .non) (fun fr W=>Holds 88 [] fr [(0,pt pb),(3,pt b1),(4,.slice none 0 0),(5,pt b2),(12,.slice none 0 0),(18,.agg #[i64 12,i64 pv,i64 0,i64 0,.slice none 0 0]),(24,.agg #[i64 8,i64 pv,i64 0,i64 0,.slice none 0 0])]/\Ow Tryd.prog none' w W ([(b2,29,[.slice none 0 0]),(b1,66,[.slice (some ay) d.words.length yc,str d.inp,str d.out,bl d.app])]++(([]:OwL)++(([]:OwL)++([]))))/\True) ?_ ?_
   · rintro fr w60 ⟨hA,hO,-⟩
     refine tree_mem ?_ ?_
     · refine (mN (l:=[i64 12,i64 pv,i64 0,i64 0,.slice none 0 0,i64 8,i64 pv,i64 0,i64 0,.slice none 0 0]) (t:=35) (v:=fun b=> .slice (some ⟨b,0,none⟩) 2 2) (d:=25) hA hO fun fr w61 b20 hA hO=>?_)
       refine ⟨(hO.sub [2]),?_⟩
       refine tree_mem ?_ ?_
       · replace hO:Ow Tryd.prog none' w w61 ([(b20,35,[i64 12,i64 pv,i64 0,i64 0,.slice none 0 0,i64 8,i64 pv,i64 0,i64 0,.slice none 0 0]),(b2,29,[.slice none 0 0]),(b1,66,[.slice (some ay) d.words.length yc,str d.inp,str d.out,bl d.app])]++(([]:OwL)++(([]:OwL)++([])))):=hO
         refine (mA (f:=fP) (el:=35) (sz:=5) (bytes:=56) (p:=none) (c:=0) (l:=([]:List PV)) (l':=([⟨none,0,⟨12,pv,0,0,[]⟩⟩,⟨none,0,⟨8,pv,0,0,[]⟩⟩]:List PV)) (T:=([]:OwL)) (t:=29) (tx:=29) (ty:=29) (x:= .slice (some ⟨b20,0,none⟩) 2 2) (d:=26) [(b20,35,[i64 12,i64 pv,i64 0,i64 0,.slice none 0 0,i64 8,i64 pv,i64 0,i64 0,.slice none 0 0]),(b2,29,[.slice none 0 0]),(b1,66,[.slice (some ay) d.words.length yc,str d.inp,str d.out,bl d.app])] (([]:OwL)++([])) encP hA hO h1i (Vw.src (e':=35) encP ((hO.b 0).vw (off:=0) (xs:=([⟨none,0,⟨12,pv,0,0,[]⟩⟩,⟨none,0,⟨8,pv,0,0,[]⟩⟩]:List PV)) (by kernel_rfl)) (by kernel_rfl)) (by first | omega | (simp only [List.length_append,List.length_cons,List.length_nil]; omega)) (by unfold maxLen; first | omega | (simp only [List.length_append,List.length_cons,List.length_nil]; omega)) fun fr w62 p10 c10 T13 hA hO hT13=>?_)
         refine ⟨(hO.sub [2]),?_⟩
         refine tree_mem ?_ ?_
         · refine (mS (off:=0) (vc:=[.slice p10 ((([]:List PV)++([⟨none,0,⟨12,pv,0,0,[]⟩⟩,⟨none,0,⟨8,pv,0,0,[]⟩⟩]:List PV)).length) c10]) 1 hA hO fun w63 hO=>?_)
           refine ⟨(hO.sub [2]),?_⟩
           refine tree_fin ?_
           refine then_normal ?_
           exact ⟨p10,c10,([]:List PV)++([⟨none,0,⟨12,pv,0,0,[]⟩⟩,⟨none,0,⟨8,pv,0,0,[]⟩⟩]:List PV),T13,([]:OwL),hA.sb,((Ow.subP (A:=[_,_,_]) hO (.cons _ (.cons_cons _ (.cons_cons _ .slnil))))).tt,hT13,(by unfold pvA; rw [if_pos (of_decide_eq_true h5),List.map_append,hxi] <;> rfl),(vp_app hdi vbare),trivial⟩
         exact trivial
       exact trivial
     exact trivial
   intro ht11
   refine tree_let (t1:= .m 12 (.m 13 (.m 14 (.m 15 .fin .non) .non) .non) .non) (fun fr W=>∃ (s10:Nat),Holds 88 [] fr [(0,pt pb),(3,pt b1),(4,.slice none 0 0),(5,pt b2),(12,.slice none 0 0),(18,.agg #[i64 12,i64 pv,i64 0,i64 0,.slice none 0 0]),(23,.slice (some ⟨s10,0,none⟩) 1 1)]/\Ow Tryd.prog none' w W ([(s10,3,[i64 pv]),(b2,29,[.slice none 0 0]),(b1,66,[.slice (some ay) d.words.length yc,str d.inp,str d.out,bl d.app])]++(([]:OwL)++(([]:OwL)++([]))))/\True) ?_ ?_
   · rintro fr w64 ⟨s10,hA,hO,-⟩
     refine tree_mem ?_ ?_
     · refine (mK (d:=(some 24)) hA hO Tryd.func12 (call_1 8 pv ⟨s10,0,none⟩ 1 _ ((hO.b 0).vw (off:=0) (xs:=[pv]) (by kernel_rfl))) fun fr w65 hA hO=>?_)
       refine ⟨(hO.sub [2]),?_⟩
       exact ht11 _ _ ⟨hA.sb,(Ow.subP (A:=[_,_,_]) hO (.cons _ (.cons_cons _ (.cons_cons _ .slnil)))),trivial⟩
     exact trivial
   intro ht12
   refine tree_let (t1:= .m 11 (.m 12 (.m 13 (.m 14 (.m 15 .fin .non) .non) .non) .non) .non) (fun fr W=>Holds 88 [] fr [(0,pt pb),(3,pt b1),(4,.slice none 0 0),(5,pt b2),(12,.slice none 0 0),(18,.agg #[i64 12,i64 pv,i64 0,i64 0,.slice none 0 0]),(22,i64 pv)]/\Ow Tryd.prog none' w W ([(b2,29,[.slice none 0 0]),(b1,66,[.slice (some ay) d.words.length yc,str d.inp,str d.out,bl d.app])]++(([]:OwL)++(([]:OwL)++([]))))/\True) ?_ ?_
   · rintro fr w66 ⟨hA,hO,-⟩
     refine tree_mem ?_ ?_
     · refine (mN (l:=[i64 pv]) (t:=3) (v:=fun b=> .slice (some ⟨b,0,none⟩) 1 1) (d:=23) hA hO fun fr w67 b21 hA hO=>?_)
       refine ⟨(hO.sub [2]),?_⟩
       exact ht12 _ _ ⟨b21,hA.sb,hO.tt,trivial⟩
     exact trivial
   intro ht13
   refine tree_let (t1:= .m 6 (.m 12 (.m 13 (.m 14 (.m 15 .fin .non) .non) .non) .non) .non) (fun fr W=>∃ (s11:Nat) (s12:Nat),Holds 88 [] fr [(0,pt pb),(3,pt b1),(4,.slice none 0 0),(5,pt b2),(12,.slice none 0 0),(17,.slice (some ⟨s11,0,none⟩) 2 2),(23,.slice (some ⟨s12,0,none⟩) 1 1)]/\Ow Tryd.prog none' w W ([(s12,3,[i64 pv]),(s11,3,[i64 pv,i64 0]),(b2,29,[.slice none 0 0]),(b1,66,[.slice (some ay) d.words.length yc,str d.inp,str d.out,bl d.app])]++(([]:OwL)++(([]:OwL)++([]))))/\True) ?_ ?_
   · rintro fr w68 ⟨s11,s12,hA,hO,-⟩
     refine tree_mem ?_ ?_
     · refine (mK (d:=(some 18)) hA hO Tryd.func12 (call_2 12 pv 0 ⟨s11,0,none⟩ 2 _ ((hO.b 1).vw (off:=0) (xs:=[pv,0]) (by kernel_rfl))) fun fr w69 hA hO=>?_)
       refine ⟨(hO.sub [3]),?_⟩
       exact ht12 _ _ ⟨s12,hA.sb,(Ow.subP (A:=[_,_,_,_]) hO (.cons_cons _ (.cons _ (.cons_cons _ (.cons_cons _ .slnil))))),trivial⟩
     exact trivial
   intro ht14
   refine tree_let (t1:= .m 0 (.m 12 (.m 13 (.m 14 (.m 15 .fin .non) .non) .non) .non) (.m 12 (.m 0 (.m 13 (.m 14 (.m 15 .fin .non) .non) .non) (.m 13 (.m 0 (.m 14 (.m 15 .fin .non) .non) .non) .non)) .non)) (fun fr W=>∃ (s13:Nat),Holds 88 [] fr [(0,pt pb),(3,pt b1),(4,.slice none 0 0),(5,pt b2),(18,.agg #[i64 12,i64 pv,i64 0,i64 0,.slice none 0 0]),(23,.slice (some ⟨s13,0,none⟩) 1 1)]/\Ow Tryd.prog none' w W ([(s13,3,[i64 pv]),(b2,29,[.slice none 0 0]),(b1,66,[.slice (some ay) d.words.length yc,str d.inp,str d.out,bl d.app])]++(([]:OwL)++(([]:OwL)++([]))))/\True) ?_ ?_
   · rintro fr w70 ⟨s13,hA,hO,-⟩
     refine tree_mem ?_ ?_
     · refine (Qc [(12,.slice none 0 0)] hA [.slice none 0 0] (cc (hO.l1 1 0 29 (.slice none 0 0)) c0) fun fr hA=>?_)
       refine ⟨(hO.sub [2]),?_⟩
       exact ht12 _ _ ⟨s13,hA.sb,hO,trivial⟩
     refine tree_mem ?_ ?_
     · refine (mK (d:=(some 24)) hA hO Tryd.func12 (call_1 8 pv ⟨s13,0,none⟩ 1 _ ((hO.b 0).vw (off:=0) (xs:=[pv]) (by kernel_rfl))) fun fr w71 hA hO=>?_)
       refine ⟨(hO.sub [2]),?_⟩
       refine tree_mem ?_ ?_
       · refine (Qc [(12,.slice none 0 0)] hA [.slice none 0 0] (cc (hO.l1 1 0 29 (.slice none 0 0)) c0) fun fr hA=>?_)
         refine ⟨(hO.sub [2]),?_⟩
         exact ht11 _ _ ⟨hA.sb,(Ow.subP (A:=[_,_,_]) hO (.cons _ (.cons_cons _ (.cons_cons _ .slnil)))),trivial⟩
       refine tree_mem ?_ ?_
       · refine (mN (l:=[i64 12,i64 pv,i64 0,i64 0,.slice none 0 0,i64 8,i64 pv,i64 0,i64 0,.slice none 0 0]) (t:=35) (v:=fun b=> .slice (some ⟨b,0,none⟩) 2 2) (d:=25) hA hO fun fr w72 b22 hA hO=>?_)
         refine ⟨(hO.sub [3]),?_⟩
         refine tree_mem ?_ ?_
         · refine (Qc [(12,.slice none 0 0)] hA [.slice none 0 0] (cc (hO.l1 2 0 29 (.slice none 0 0)) c0) fun fr hA=>?_)
           refine ⟨(hO.sub [3]),?_⟩
           refine tree_mem ?_ ?_
           · replace hO:Ow Tryd.prog none' w w72 ([(b22,35,[i64 12,i64 pv,i64 0,i64 0,.slice none 0 0,i64 8,i64 pv,i64 0,i64 0,.slice none 0 0]),(s13,3,[i64 pv]),(b2,29,[.slice none 0 0]),(b1,66,[.slice (some ay) d.words.length yc,str d.inp,str d.out,bl d.app])]++(([]:OwL)++(([]:OwL)++([])))):=hO
             refine (mA (f:=fP) (el:=35) (sz:=5) (bytes:=56) (p:=none) (c:=0) (l:=([]:List PV)) (l':=([⟨none,0,⟨12,pv,0,0,[]⟩⟩,⟨none,0,⟨8,pv,0,0,[]⟩⟩]:List PV)) (T:=([]:OwL)) (t:=29) (tx:=29) (ty:=29) (x:= .slice (some ⟨b22,0,none⟩) 2 2) (d:=26) [(b22,35,[i64 12,i64 pv,i64 0,i64 0,.slice none 0 0,i64 8,i64 pv,i64 0,i64 0,.slice none 0 0]),(s13,3,[i64 pv]),(b2,29,[.slice none 0 0]),(b1,66,[.slice (some ay) d.words.length yc,str d.inp,str d.out,bl d.app])] (([]:OwL)++([])) encP hA hO h1i (Vw.src (e':=35) encP ((hO.b 0).vw (off:=0) (xs:=([⟨none,0,⟨12,pv,0,0,[]⟩⟩,⟨none,0,⟨8,pv,0,0,[]⟩⟩]:List PV)) (by kernel_rfl)) (by kernel_rfl)) (by first | omega | (simp only [List.length_append,List.length_cons,List.length_nil]; omega)) (by unfold maxLen; first | omega | (simp only [List.length_append,List.length_cons,List.length_nil]; omega)) fun fr w73 p11 c11 T14 hA hO hT14=>?_)
             refine ⟨(hO.sub [3]),?_⟩
             refine tree_mem ?_ ?_
             · refine (mS (off:=0) (vc:=[.slice p11 ((([]:List PV)++([⟨none,0,⟨12,pv,0,0,[]⟩⟩,⟨none,0,⟨8,pv,0,0,[]⟩⟩]:List PV)).length) c11]) 2 hA hO fun w74 hO=>?_)
               refine ⟨(hO.sub [3]),?_⟩
               refine tree_fin ?_
               refine then_normal ?_
               exact ⟨p11,c11,([]:List PV)++([⟨none,0,⟨12,pv,0,0,[]⟩⟩,⟨none,0,⟨8,pv,0,0,[]⟩⟩]:List PV),T14,([]:OwL),hA.sb,((Ow.subP (A:=[_,_,_,_]) hO (.cons _ (.cons _ (.cons_cons _ (.cons_cons _ .slnil)))))).tt,hT14,(by unfold pvA; rw [if_pos (of_decide_eq_true h5),List.map_append,hxi] <;> rfl),(vp_app hdi vbare),trivial⟩
             exact trivial
           exact trivial
         exact trivial
       exact trivial
     exact trivial
   intro ht15
   refine tree_let (t1:= .m 6 (.m 11 (.m 12 (.m 13 (.m 14 (.m 15 .fin .non) .non) .non) .non) .non) (.m 11 (.m 6 (.m 12 (.m 13 (.m 14 (.m 15 .fin .non) .non) .non) .non) .non) .non)) (fun fr W=>∃ (s14:Nat),Holds 88 [] fr [(0,pt pb),(3,pt b1),(4,.slice none 0 0),(5,pt b2),(12,.slice none 0 0),(17,.slice (some ⟨s14,0,none⟩) 2 2),(22,i64 pv)]/\Ow Tryd.prog none' w W ([(s14,3,[i64 pv,i64 0]),(b2,29,[.slice none 0 0]),(b1,66,[.slice (some ay) d.words.length yc,str d.inp,str d.out,bl d.app])]++(([]:OwL)++(([]:OwL)++([]))))/\True) ?_ ?_
   · rintro fr w75 ⟨s14,hA,hO,-⟩
     refine tree_mem ?_ ?_
     · refine (mK (d:=(some 18)) hA hO Tryd.func12 (call_2 12 pv 0 ⟨s14,0,none⟩ 2 _ ((hO.b 0).vw (off:=0) (xs:=[pv,0]) (by kernel_rfl))) fun fr w76 hA hO=>?_)
       refine ⟨(hO.sub [2]),?_⟩
       exact ht13 _ _ ⟨hA.sb,(Ow.subP (A:=[_,_,_]) hO (.cons _ (.cons_cons _ (.cons_cons _ .slnil)))),trivial⟩
     refine tree_mem ?_ ?_
     · refine (mN (l:=[i64 pv]) (t:=3) (v:=fun b=> .slice (some ⟨b,0,none⟩) 1 1) (d:=23) hA hO fun fr w77 b23 hA hO=>?_)
       refine ⟨(hO.sub [3]),?_⟩
       exact ht14 _ _ ⟨s14,b23,hA.sb,hO.tt,trivial⟩
     exact trivial
   intro ht16
   refine tree_let (t1:= .m 5 (.m 6 (.m 12 (.m 13 (.m 14 (.m 15 .fin .non) .non) .non) .non) .non) .non) (fun fr W=>∃ (s15:Nat),Holds 88 [] fr [(0,pt pb),(3,pt b1),(4,.slice none 0 0),(5,pt b2),(12,.slice none 0 0),(16,i64 pv),(23,.slice (some ⟨s15,0,none⟩) 1 1)]/\Ow Tryd.prog none' w W ([(s15,3,[i64 pv]),(b2,29,[.slice none 0 0]),(b1,66,[.slice (some ay) d.words.length yc,str d.inp,str d.out,bl d.app])]++(([]:OwL)++(([]:OwL)++([]))))/\True) ?_ ?_
   · rintro fr w78 ⟨s15,hA,hO,-⟩
     refine tree_mem ?_ ?_
     · refine (mN (l:=[i64 pv,i64 0]) (t:=3) (v:=fun b=> .slice (some ⟨b,0,none⟩) 2 2) (d:=17) hA hO fun fr w79 b24 hA hO=>?_)
       refine ⟨(hO.sub [3]),?_⟩
       exact ht14 _ _ ⟨b24,s15,hA.sb,(permA (A:=[_,_,_,_]) (hO) (List.Perm.swap _ _ _)),trivial⟩
     exact trivial
   intro ht17
   refine tree_let (t1:= .m 0 (.m 6 (.m 12 (.m 13 (.m 14 (.m 15 .fin .non) .non) .non) .non) .non) (.m 6 (.m 0 (.m 12 (.m 13 (.m 14 (.m 15 .fin .non) .non) .non) .non) (.m 12 (.m 0 (.m 13 (.m 14 (.m 15 .fin .non) .non) .non) (.m 13 (.m 0 (.m 14 (.m 15 .fin .non) .non) .non) .non)) .non)) .non)) (fun fr W=>∃ (s16:Nat) (s17:Nat),Holds 88 [] fr [(0,pt pb),(3,pt b1),(4,.slice none 0 0),(5,pt b2),(17,.slice (some ⟨s16,0,none⟩) 2 2),(23,.slice (some ⟨s17,0,none⟩) 1 1)]/\Ow Tryd.prog none' w W ([(s17,3,[i64 pv]),(s16,3,[i64 pv,i64 0]),(b2,29,[.slice none 0 0]),(b1,66,[.slice (some ay) d.words.length yc,str d.inp,str d.out,bl d.app])]++(([]:OwL)++(([]:OwL)++([]))))/\True) ?_ ?_
   · rintro fr w80 ⟨s16,s17,hA,hO,-⟩
     refine tree_mem ?_ ?_
     · refine (Qc [(12,.slice none 0 0)] hA [.slice none 0 0] (cc (hO.l1 2 0 29 (.slice none 0 0)) c0) fun fr hA=>?_)
       refine ⟨(hO.sub [3]),?_⟩
       exact ht14 _ _ ⟨s16,s17,hA.sb,hO,trivial⟩
     refine tree_mem ?_ ?_
     · refine (mK (d:=(some 18)) hA hO Tryd.func12 (call_2 12 pv 0 ⟨s16,0,none⟩ 2 _ ((hO.b 1).vw (off:=0) (xs:=[pv,0]) (by kernel_rfl))) fun fr w81 hA hO=>?_)
       refine ⟨(hO.sub [3]),?_⟩
       exact ht15 _ _ ⟨s17,hA.sb,(Ow.subP (A:=[_,_,_,_]) hO (.cons_cons _ (.cons _ (.cons_cons _ (.cons_cons _ .slnil))))),trivial⟩
     exact trivial
   intro ht18
   refine Kt [1,2,3,4,7,8,9,10] [(16,i64 pv),(22,i64 pv)] hA [i64 pv,i64 pv] (cc (hS.sx ⟨pb,6,none⟩ 3 (i64 pv) fun _ hO=>((hB.keep hO.only (fun h=>h)).ld1 (i:=6) (by kernel_rfl) (by kernel_rfl))) (cc (hS.sx ⟨pb,6,none⟩ 3 (i64 pv) fun _ hO=>((hB.keep hO.only (fun h=>h)).ld1 (i:=6) (by kernel_rfl) (by kernel_rfl))) c0)) fun fr hA=>?_
   refine tree_mem ?_ ?_
   · refine (Qc [(12,.slice none 0 0)] hA [.slice none 0 0] (cc (hO.l1 0 0 29 (.slice none 0 0)) c0) fun fr hA=>?_)
     refine ⟨(hO.sub [1]),?_⟩
     refine tree_mem ?_ ?_
     · refine (mN (l:=[i64 pv,i64 0]) (t:=3) (v:=fun b=> .slice (some ⟨b,0,none⟩) 2 2) (d:=17) hA hO fun fr w82 b25 hA hO=>?_)
       refine ⟨(hO.sub [2]),?_⟩
       exact ht16 _ _ ⟨b25,hA.sb,hO.tt,trivial⟩
     refine tree_mem ?_ ?_
     · refine (mN (l:=[i64 pv]) (t:=3) (v:=fun b=> .slice (some ⟨b,0,none⟩) 1 1) (d:=23) hA hO fun fr w83 b26 hA hO=>?_)
       refine ⟨(hO.sub [2]),?_⟩
       exact ht17 _ _ ⟨b26,hA.sb,hO.tt,trivial⟩
     exact trivial
   refine tree_mem ?_ ?_
   · refine (mN (l:=[i64 pv,i64 0]) (t:=3) (v:=fun b=> .slice (some ⟨b,0,none⟩) 2 2) (d:=17) hA hO fun fr w84 b27 hA hO=>?_)
     refine ⟨(hO.sub [2]),?_⟩
     refine tree_mem ?_ ?_
     · refine (Qc [(12,.slice none 0 0)] hA [.slice none 0 0] (cc (hO.l1 1 0 29 (.slice none 0 0)) c0) fun fr hA=>?_)
       refine ⟨(hO.sub [2]),?_⟩
       exact ht16 _ _ ⟨b27,hA.sb,hO.tt,trivial⟩
     refine tree_mem ?_ ?_
     · refine (mK (d:=(some 18)) hA hO Tryd.func12 (call_2 12 pv 0 ⟨b27,0,none⟩ 2 _ ((hO.b 0).vw (off:=0) (xs:=[pv,0]) (by kernel_rfl))) fun fr w85 hA hO=>?_)
       refine ⟨(hO.sub [2]),?_⟩
       refine tree_mem ?_ ?_
       · refine (Qc [(12,.slice none 0 0)] hA [.slice none 0 0] (cc (hO.l1 1 0 29 (.slice none 0 0)) c0) fun fr hA=>?_)
         refine ⟨(hO.sub [2]),?_⟩
         exact ht13 _ _ ⟨hA.sb,(Ow.subP (A:=[_,_,_]) hO (.cons _ (.cons_cons _ (.cons_cons _ .slnil)))),trivial⟩
       refine tree_mem ?_ ?_
       · refine (mN (l:=[i64 pv]) (t:=3) (v:=fun b=> .slice (some ⟨b,0,none⟩) 1 1) (d:=23) hA hO fun fr w86 b28 hA hO=>?_)
         refine ⟨(hO.sub [3]),?_⟩
         exact ht15 _ _ ⟨b28,hA.sb,(Ow.subP (A:=[_,_,_,_]) hO (.cons_cons _ (.cons _ (.cons_cons _ (.cons_cons _ .slnil))))),trivial⟩
       exact trivial
     refine tree_mem ?_ ?_
     · refine (mN (l:=[i64 pv]) (t:=3) (v:=fun b=> .slice (some ⟨b,0,none⟩) 1 1) (d:=23) hA hO fun fr w87 b29 hA hO=>?_)
       refine ⟨(hO.sub [3]),?_⟩
       exact ht18 _ _ ⟨b27,b29,hA.sb,hO.tt,trivial⟩
     exact trivial
   refine tree_mem ?_ ?_
   · refine (mN (l:=[i64 pv]) (t:=3) (v:=fun b=> .slice (some ⟨b,0,none⟩) 1 1) (d:=23) hA hO fun fr w88 b30 hA hO=>?_)
     refine ⟨(hO.sub [2]),?_⟩
     refine tree_mem ?_ ?_
     · refine (Qc [(12,.slice none 0 0)] hA [.slice none 0 0] (cc (hO.l1 1 0 29 (.slice none 0 0)) c0) fun fr hA=>?_)
       refine ⟨(hO.sub [2]),?_⟩
       exact ht17 _ _ ⟨b30,hA.sb,hO.tt,trivial⟩
     refine tree_mem ?_ ?_
     · refine (mN (l:=[i64 pv,i64 0]) (t:=3) (v:=fun b=> .slice (some ⟨b,0,none⟩) 2 2) (d:=17) hA hO fun fr w89 b31 hA hO=>?_)
       refine ⟨(hO.sub [3]),?_⟩
       exact ht18 _ _ ⟨b31,b30,hA.sb,(permA (A:=[_,_,_,_]) (hO) (List.Perm.swap _ _ _)),trivial⟩
     exact trivial
   exact trivial
 rw [h5] at hA
 have h5p:=of_decide_eq_false h5
 refine cF hA ?_
 refine wp_skip ?_
 refine then_normal ?_
 exact ⟨none,0,([]:List PV),([]:OwL),([]:OwL),hA.sb,(hO).tt,h1i,(by unfold pvA; rw [if_neg (of_decide_eq_false h5),hxi] <;> (first | rfl | exact (List.append_nil _).symm)),hdi,trivial⟩
end Go.Proofs.YtdljjajjonfjbaaDoor
