import Derived.Test.YtdljjajjonfjbaaDoorSwe
import Derived.Test.YtdljjajjonfjbaaDoorSn
set_option linter.unusedVariables false
set_option linter.unusedSimpArgs false
set_option maxRecDepth 10000
namespace Go.Proofs.YtdljjajjonfjbaaDoor
open Go Go.Shelf Go.RowKit Go.Proofs Go.Proofs.Sx
theorem tl_eq {a b:ByteArray}:(a.toList == b.toList)=true↔a=b:=by
 rw [beq_iff_eq,bytes_toList,bytes_toList]
 exact ⟨fun h=>ba_ext h,fun h=>by rw [h]⟩
def runEqB (x y:RunL):Bool:=(x.path.toList == y.path.toList) && (((x.fl.f0.toList == y.fl.f0.toList) && ((x.fl.f1.toList == y.fl.f1.toList) && ((x.fl.f2.toList == y.fl.f2.toList) && ((x.fl.f3.toList == y.fl.f3.toList) && ((x.fl.f4.toList == y.fl.f4.toList) && ((x.fl.f5.toList == y.fl.f5.toList) && ((x.fl.f6.toList == y.fl.f6.toList) && ((x.fl.f7.toList == y.fl.f7.toList) && true)))))))) && true)
theorem runEq_iff {x y:RunL}:runEqB x y=true↔x=y:=by
 obtain ⟨p,⟨a0,a1,a2,a3,a4,a5,a6,a7⟩⟩:=x
 obtain ⟨q,⟨b0,b1,b2,b3,b4,b5,b6,b7⟩⟩:=y
 unfold runEqB
 simp only [Bool.and_eq_true,tl_eq,and_true,RunL.mk.injEq,F8.mk.injEq]
theorem take_eq_step {l1 l2:List RunL} {i:Nat} {x y:RunL} (h:l1.take i=l2.take i) (hx:l1[i]? = some x) (hy:l2[i]? = some y) (he:runEqB x y=true):l1.take (i+1)=l2.take (i+1):=by
 rw [List.take_add_one,List.take_add_one,h,hx,hy,runEq_iff.1 he]
theorem same_any (p1:Option Addr) (c1:Nat) (l1:List RunL) (p2:Option Addr) (c2:Nat) (l2:List RunL) (w:World) (hv1:Vw fR w (.slice p1 l1.length c1) l1) (hv2:Vw fR w (.slice p2 l2.length c2) l2) (hl1:l1.length<=1000000) (hl2:l2.length<=1000000) :
    Calls Tryd.prog 7 #[.slice p1 l1.length c1,.slice p2 l2.length c2] w fun e w'=>∃ r:Bool,e = .returned (.bool r)/\(r=true↔l1=l2)/\Only none' w w':=by
 refine c_enter (args:=[.slice p1 l1.length c1,.slice p2 l2.length c2]) (m:=24) (n:=26) Tryd.func7 rfl (by kernel_rfl) (by kernel_rfl) fun fr hA=>?_
 have hO:=Ow.nil Tryd.prog none' w
 refine Sa [(4,bl false)] hA fun fr hA=>?_
 refine wp_seq ?_
 refine Sa [(10,bl (((l1.length:Nat):Int) != ((l2.length:Nat):Int)))] hA fun fr hA=>?_
 rcases Bool.eq_false_or_eq_true (((l1.length:Nat):Int) != ((l2.length:Nat):Int)) with h1 | h1
 · rw [h1] at hA
   have h1p:=ne_of_bne h1
   refine cT hA ?_
   refine Sa [] hA fun fr hA=>?_
   refine wp_ret ?_
   refine then_ret ?_
   refine cv [bl false] hA ?_
   have hF:=hO.only; clear hA hO
   exact ⟨false,rfl,⟨fun h=>absurd h (by decide),fun h=>absurd (congrArg List.length h) (by omega)⟩,hF⟩
 rw [h1] at hA
 have h1p:=eq_of_bne_false h1
 refine cF hA ?_
 refine wp_skip ?_
 refine then_normal ?_
 refine wp_seq ?_
 refine Sa [(5,i64 0)] hA fun fr hA=>?_
 refine wp_block ?_
 refine c_loop (fun mm fr W=>∃ (i:Nat),mm=l1.length - i/\Holds 26 [] fr [(0,.slice p1 l1.length c1),(1,.slice p2 l2.length c2),(4,bl false),(5,i64 ((i:Nat):Int))]/\Ow Tryd.prog none' w W []/\i<=l1.length/\l1.take i=l2.take i/\True) ?_ ?_
 · exact ⟨_,0,rfl,hA.ss,hO.to,(Nat.zero_le _),rfl,trivial⟩
 rintro _ fr w1 ⟨i,rfl,hA,hO,hi,ht,-⟩
 refine wp_seq ?_
 refine Sa [(14,bl (decide (((i:Nat):Int) < ((l1.length:Nat):Int))))] hA fun fr hA=>?_
 rcases Bool.eq_false_or_eq_true (decide (((i:Nat):Int) < ((l1.length:Nat):Int))) with h2 | h2
 · rw [h2] at hA
   have h2p:=of_decide_eq_true h2
   obtain ⟨x,hx⟩ : ∃ x,l1[i]? = some x:=⟨_,List.getElem?_eq_getElem (by omega)⟩
   obtain ⟨y,hy⟩ : ∃ x,l2[i]? = some x:=⟨_,List.getElem?_eq_getElem (by omega)⟩
   obtain ⟨ad1,rfl⟩:=hv1.pos (by omega)
   obtain ⟨ad2,rfl⟩:=hv2.pos (by omega)
   refine cT hA ?_
   refine wp_skip ?_
   refine then_normal ?_
   refine wp_seq ?_
   refine wp_block ?_
   refine wp_seq ?_
   have hS:=hO
   refine rP [(0,true),(1,true),(2,true),(3,true),(4,true),(5,true),(6,true),(7,true),(8,true)] hS ?_
   intro w2 ho; replace hO:=hO.st ho; clear ho
   refine Ke 9 [(0,.slice (some ad1) l1.length c1),(1,.slice (some ad2) l2.length c2),(25,bl (!((x.path.toList == y.path.toList) && (((x.fl.f0.toList == y.fl.f0.toList) && ((x.fl.f1.toList == y.fl.f1.toList) && ((x.fl.f2.toList == y.fl.f2.toList) && ((x.fl.f3.toList == y.fl.f3.toList) && ((x.fl.f4.toList == y.fl.f4.toList) && ((x.fl.f5.toList == y.fl.f5.toList) && ((x.fl.f6.toList == y.fl.f6.toList) && ((x.fl.f7.toList == y.fl.f7.toList) && true)))))))) && true))))] hA [.agg #[str x.path,str x.fl.f0,str x.fl.f1,str x.fl.f2,str x.fl.f3,str x.fl.f4,str x.fl.f5,str x.fl.f6,str x.fl.f7],.agg #[str y.path,str y.fl.f0,str y.fl.f1,str y.fl.f2,str y.fl.f3,str y.fl.f4,str y.fl.f5,str y.fl.f6,str y.fl.f7],bl ((x.path.toList == y.path.toList) && (((x.fl.f0.toList == y.fl.f0.toList) && ((x.fl.f1.toList == y.fl.f1.toList) && ((x.fl.f2.toList == y.fl.f2.toList) && ((x.fl.f3.toList == y.fl.f3.toList) && ((x.fl.f4.toList == y.fl.f4.toList) && ((x.fl.f5.toList == y.fl.f5.toList) && ((x.fl.f6.toList == y.fl.f6.toList) && ((x.fl.f7.toList == y.fl.f7.toList) && true)))))))) && true))] (cc (⟨by omega,by omega⟩:(0:Int)<=((i:Nat):Int)/\((i:Nat):Int) < ((l1.length:Nat):Int)) (cc (hS.sx (ad1.add (i*9)) 47 (.agg #[str x.path,str x.fl.f0,str x.fl.f1,str x.fl.f2,str x.fl.f3,str x.fl.f4,str x.fl.f5,str x.fl.f6,str x.fl.f7]) fun _ hO=>(((hv1.keep hO.only)).ldn encR hx)) (cc (⟨by omega,by omega⟩:(0:Int)<=((i:Nat):Int)/\((i:Nat):Int) < ((l2.length:Nat):Int)) (cc (hS.sx (ad2.add (i*9)) 47 (.agg #[str y.path,str y.fl.f0,str y.fl.f1,str y.fl.f2,str y.fl.f3,str y.fl.f4,str y.fl.f5,str y.fl.f6,str y.fl.f7]) fun _ hO=>(((hv2.keep hO.only)).ldn encR hy)) (cc ((eqG_of (by kernel_rfl) (by kernel_rfl)):EqG Tryd.prog 47 (.agg #[str x.path,str x.fl.f0,str x.fl.f1,str x.fl.f2,str x.fl.f3,str x.fl.f4,str x.fl.f5,str x.fl.f6,str x.fl.f7]) (.agg #[str y.path,str y.fl.f0,str y.fl.f1,str y.fl.f2,str y.fl.f3,str y.fl.f4,str y.fl.f5,str y.fl.f6,str y.fl.f7]) ((x.path.toList == y.path.toList) && (((x.fl.f0.toList == y.fl.f0.toList) && ((x.fl.f1.toList == y.fl.f1.toList) && ((x.fl.f2.toList == y.fl.f2.toList) && ((x.fl.f3.toList == y.fl.f3.toList) && ((x.fl.f4.toList == y.fl.f4.toList) && ((x.fl.f5.toList == y.fl.f5.toList) && ((x.fl.f6.toList == y.fl.f6.toList) && ((x.fl.f7.toList == y.fl.f7.toList) && true)))))))) && true))) c0))))) fun fr hA=>?_
   rw [(rfl:((x.path.toList == y.path.toList) && (((x.fl.f0.toList == y.fl.f0.toList) && ((x.fl.f1.toList == y.fl.f1.toList) && ((x.fl.f2.toList == y.fl.f2.toList) && ((x.fl.f3.toList == y.fl.f3.toList) && ((x.fl.f4.toList == y.fl.f4.toList) && ((x.fl.f5.toList == y.fl.f5.toList) && ((x.fl.f6.toList == y.fl.f6.toList) && ((x.fl.f7.toList == y.fl.f7.toList) && true)))))))) && true))=(runEqB x y))] at hA
   refine end_plan ?_
   refine then_normal ?_
   rcases Bool.eq_false_or_eq_true (runEqB x y) with h3 | h3
   · replace hA:=hA.ss.bool (f:=fun z_=>[(0,.slice (some ad1) l1.length c1),(1,.slice (some ad2) l2.length c2),(4,bl false),(5,i64 ((i:Nat):Int)),(25,.bool !z_)]) h3
     refine cF hA ?_
     refine wp_skip ?_
     refine inBlock_normal ?_
     refine then_normal ?_
     refine Rc [(5,i64 (((i:Nat):Int)+1))] hA [bl true] (cc ((inK_i64 (by omega) (by omega)):inK .i64 (((i:Nat):Int)+1)) c0) fun fr hA=>?_
     refine then_normal ?_
     exact ⟨_,by omega,i+1,rfl,hA.ss,hO.to,(by omega),(take_eq_step ht hx hy (by assumption)),trivial⟩
   replace hA:=hA.ss.bool (f:=fun z_=>[(0,.slice (some ad1) l1.length c1),(1,.slice (some ad2) l2.length c2),(4,bl false),(5,i64 ((i:Nat):Int)),(25,.bool !z_)]) h3
   refine cT hA ?_
   refine Sa [] hA fun fr hA=>?_
   refine wp_ret ?_
   refine inBlock_ret ?_
   refine then_ret ?_
   refine then_ret ?_
   refine inBlock_ret ?_
   refine then_ret ?_
   refine cv [bl false] hA ?_
   have hF:=hO.only; clear hA hO
   exact ⟨false,rfl,⟨fun h=>absurd h (by decide),fun h=>absurd (show runEqB x y=true from runEq_iff.2 (by subst h; rw [hx] at hy; exact Option.some.inj hy)) (by rw [show runEqB x y=false by assumption]; decide)⟩,hF⟩
 rw [h2] at hA
 have h2p:=of_decide_eq_false h2
 refine cF hA ?_
 refine wp_exit ?_
 refine then_exit ?_
 refine then_exit ?_
 refine inBlock_exit ?_
 refine then_normal ?_
 refine Sa [(4,bl true)] hA fun fr hA=>?_
 refine wp_ret ?_
 refine cv [bl true] hA ?_
 have hF:=hO.only; clear hA hO
 exact ⟨true,rfl,⟨fun _=>(by rw [List.take_of_length_le (show l1.length<=i by omega),List.take_of_length_le (show l2.length<=i by omega)] at ht; exact ht),fun _=>rfl⟩,hF⟩
def awS1:StL:={newS with mode:=1}
def awS2:StL:=⟨3,0,⟨#[]⟩,[⟨[⟨[⟨#[97]⟩],⟨#[]⟩,⟨#[]⟩,false⟩,⟨[⟨#[98]⟩],⟨#[]⟩,⟨#[]⟩,false⟩],false⟩],-1,-1,-1,[],[]⟩
theorem aw_1:stepP newS 0 []=(awS1,callL 9 0 80):=by kernel_rfl
theorem aw_2:stepP awS1 6 ([97,32,124,32,98,10]:List Int)=(awS2,callL 11 0 0):=by kernel_rfl
theorem aw_3:(stepP awS2 772 []).2=callL 1 0 0:=by kernel_rfl
set_option maxHeartbeats 4000000 in
theorem awake_any (w:World) (hE:ErrOk w) :
    Calls Tryd.prog 4 #[] w fun e w'=>e = .returned (.bool true)/\Only none' w w':=by
 refine c_enter (args:=[]) (m:=47) (n:=47) Tryd.func4 rfl (by kernel_rfl) (by kernel_rfl) fun fr hA=>?_
 have hO:=Ow.nil Tryd.prog none' w
 refine Sa [(0,bl false)] hA fun fr hA=>?_
 refine sr 9 ?_
 refine Mk 8 hA hO Tryd.func9 (new_any _) fun fr w1 hA hO=>?_
 refine wpOps_cons' (mC (d:=(some 9)) hA Tryd.func8 ((Step_n nSV 0 _ (nSV_ok _) nSV_sm (hE.keep hO.only) (by omega) (by omega)).mono ?_))
 rintro en w2 ⟨u1,xa1,TA1,hu1,hxa1,hsm1,rfl,hW_,hG1,hXX1⟩
 refine ⟨_,rfl,?_⟩
 clear hA fr; intro fr hA
 replace hO:Ow Tryd.prog none' w _ ([]++[]):=hO.to (List.append_nil _).symm
 replace hO:=Ow.join hO hW_; clear hW_
 replace hO:Ow Tryd.prog none' w _ ([]++(TA1++([]))):=hO.to (by first | rfl | (simp only [TP,apd]))
 have hPTA1:Holds' TA1 (fun w_=>SV.ok u1 w_/\VP w_ xa1):=Holds'.and hG1 hXX1
 rw [nSV_d,aw_1] at hu1 hxa1
 refine Ka 3 [(10,.agg #[i64 u1.mo,i64 u1.po,str u1.inp,.slice u1.pj u1.lj.length u1.cj,i64 u1.rd,i64 u1.wr,i64 u1.pv,.slice u1.pc u1.lc.length u1.cc,.slice u1.pp u1.lp.length u1.cp]),(11,.agg #[i64 xa1.d.call,i64 xa1.d.a0,i64 xa1.d.a1,i64 xa1.d.a2,.slice xa1.p xa1.d.data.length xa1.c])] hA fun fr hA=>?_
 refine Mn (cS 0 0 (⟨#[]⟩:ByteArray) none 0 0 0 0 0 none 0 0 none 0 0) 31 1 hA hO fun fr w3 b1 hA hO=>?_
 refine Mn [i64 0,i64 0,i64 0,i64 0,.slice none 0 0] 35 2 hA hO fun fr w4 b2 hA hO=>?_
 refine Ms 0 (cS u1.mo u1.po u1.inp u1.pj u1.lj.length u1.cj u1.rd u1.wr u1.pv u1.pc u1.lc.length u1.cc u1.pp u1.lp.length u1.cp) 1 hA hO fun w5 hO=>?_
 refine Ms 0 [i64 xa1.d.call,i64 xa1.d.a0,i64 xa1.d.a1,i64 xa1.d.a2,.slice xa1.p xa1.d.data.length xa1.c] 0 hA hO fun w6 hO=>?_
 refine end_ops ?_
 refine then_normal ?_
 refine sr 11 ?_
 refine Kb 1 [(13,.agg #[i64 u1.mo,i64 u1.po,str u1.inp,.slice u1.pj u1.lj.length u1.cj,i64 u1.rd,i64 u1.wr,i64 u1.pv,.slice u1.pc u1.lc.length u1.cc,.slice u1.pp u1.lp.length u1.cp])] hA [.agg #[i64 u1.mo,i64 u1.po,str u1.inp,.slice u1.pj u1.lj.length u1.cj,i64 u1.rd,i64 u1.wr,i64 u1.pv,.slice u1.pc u1.lc.length u1.cc,.slice u1.pp u1.lp.length u1.cp]] (cc (hO.ln 1 0 31 (cS u1.mo u1.po u1.inp u1.pj u1.lj.length u1.cj u1.rd u1.wr u1.pv u1.pc u1.lc.length u1.cc u1.pp u1.lp.length u1.cp)) c0) fun fr hA=>?_
 refine Mv [u8 97,u8 32,u8 124,u8 32,u8 98,u8 10] 5 6 14 hA hO fun fr w7 b3 hA hO=>?_
 refine wpOps_cons' (mV (L:=([(b3,5,[u8 97,u8 32,u8 124,u8 32,u8 98,u8 10]),(b2,35,[i64 xa1.d.call,i64 xa1.d.a0,i64 xa1.d.a1,i64 xa1.d.a2,.slice xa1.p xa1.d.data.length xa1.c]),(b1,31,(cS u1.mo u1.po u1.inp u1.pj u1.lj.length u1.cj u1.rd u1.wr u1.pv u1.pc u1.lc.length u1.cc u1.pp u1.lp.length u1.cp))]++(TA1++([])))) (t:=33) (el:=5) (off:=0) (m:=6) (c:=6) (d:=15) 0 hA hO fun fr w8 hA hO=>?_)
 refine wpOps_cons' (mC (d:=(some 16)) hA Tryd.func8 ((Step_v u1 6 (some ⟨b3,0,none⟩) 6 ([97,32,124,32,98,10]:List Int) _ (Holds'.at (A:=[_,_,_]) hPTA1 hO.m).1 hsm1 (show Vw fB _ (.slice (some ⟨b3,0,none⟩) ([97,32,124,32,98,10]:List Int).length 6) ([97,32,124,32,98,10]:List Int) from (hO.b 0).vw (off:=0) (xs:=([97,32,124,32,98,10]:List Int)) (by kernel_rfl)) (U8s.cons (inK_u8 (by decide) (by decide)) (U8s.cons (inK_u8 (by decide) (by decide)) (U8s.cons (inK_u8 (by decide) (by decide)) (U8s.cons (inK_u8 (by decide) (by decide)) (U8s.cons (inK_u8 (by decide) (by decide)) (U8s.cons (inK_u8 (by decide) (by decide)) U8s.nil)))))) (by decide) (by decide) (hE.keep hO.only) (by omega) (by omega)).mono ?_))
 rintro en w9 ⟨u2,xa2,TA2,hu2,hxa2,hsm2,rfl,hW_,hG2,hXX2⟩
 refine ⟨_,rfl,?_⟩
 clear hA fr; intro fr hA
 replace hO:=Ow.join hO hW_; clear hW_
 replace hO:Ow Tryd.prog none' w _ ([(b3,5,[u8 97,u8 32,u8 124,u8 32,u8 98,u8 10]),(b2,35,[i64 xa1.d.call,i64 xa1.d.a0,i64 xa1.d.a1,i64 xa1.d.a2,.slice xa1.p xa1.d.data.length xa1.c]),(b1,31,(cS u1.mo u1.po u1.inp u1.pj u1.lj.length u1.cj u1.rd u1.wr u1.pv u1.pc u1.lc.length u1.cc u1.pp u1.lp.length u1.cp))]++(TA1++(TA2++([])))):=hO.to (by first | rfl | (simp only [TP,apd]))
 have hPTA2:Holds' TA2 (fun w_=>SV.ok u2 w_/\VP w_ xa2):=Holds'.and hG2 hXX2
 rw [hu1,aw_2] at hu2 hxa2
 refine Ka 3 [(17,.agg #[i64 u2.mo,i64 u2.po,str u2.inp,.slice u2.pj u2.lj.length u2.cj,i64 u2.rd,i64 u2.wr,i64 u2.pv,.slice u2.pc u2.lc.length u2.cc,.slice u2.pp u2.lp.length u2.cp]),(18,.agg #[i64 xa2.d.call,i64 xa2.d.a0,i64 xa2.d.a1,i64 xa2.d.a2,.slice xa2.p xa2.d.data.length xa2.c])] hA fun fr hA=>?_
 refine Mn (cS 0 0 (⟨#[]⟩:ByteArray) none 0 0 0 0 0 none 0 0 none 0 0) 31 3 hA hO fun fr w10 b4 hA hO=>?_
 refine Mn [i64 0,i64 0,i64 0,i64 0,.slice none 0 0] 35 4 hA hO fun fr w11 b5 hA hO=>?_
 refine Ms 0 (cS u2.mo u2.po u2.inp u2.pj u2.lj.length u2.cj u2.rd u2.wr u2.pv u2.pc u2.lc.length u2.cc u2.pp u2.lp.length u2.cp) 1 hA hO fun w12 hO=>?_
 refine Ms 0 [i64 xa2.d.call,i64 xa2.d.a0,i64 xa2.d.a1,i64 xa2.d.a2,.slice xa2.p xa2.d.data.length xa2.c] 0 hA hO fun w13 hO=>?_
 refine end_ops ?_
 refine then_normal ?_
 refine sr 9 ?_
 refine Kb 1 [(20,.agg #[i64 u2.mo,i64 u2.po,str u2.inp,.slice u2.pj u2.lj.length u2.cj,i64 u2.rd,i64 u2.wr,i64 u2.pv,.slice u2.pc u2.lc.length u2.cc,.slice u2.pp u2.lp.length u2.cp])] hA [.agg #[i64 u2.mo,i64 u2.po,str u2.inp,.slice u2.pj u2.lj.length u2.cj,i64 u2.rd,i64 u2.wr,i64 u2.pv,.slice u2.pc u2.lc.length u2.cc,.slice u2.pp u2.lp.length u2.cp]] (cc (hO.ln 1 0 31 (cS u2.mo u2.po u2.inp u2.pj u2.lj.length u2.cj u2.rd u2.wr u2.pv u2.pc u2.lc.length u2.cc u2.pp u2.lp.length u2.cp)) c0) fun fr hA=>?_
 replace hO:Ow Tryd.prog none' w w13 ([(b5,35,[i64 xa2.d.call,i64 xa2.d.a0,i64 xa2.d.a1,i64 xa2.d.a2,.slice xa2.p xa2.d.data.length xa2.c]),(b4,31,(cS u2.mo u2.po u2.inp u2.pj u2.lj.length u2.cj u2.rd u2.wr u2.pv u2.pc u2.lc.length u2.cc u2.pp u2.lp.length u2.cp)),(b3,5,[u8 97,u8 32,u8 124,u8 32,u8 98,u8 10]),(b2,35,[i64 xa1.d.call,i64 xa1.d.a0,i64 xa1.d.a1,i64 xa1.d.a2,.slice xa1.p xa1.d.data.length xa1.c]),(b1,31,(cS u1.mo u1.po u1.inp u1.pj u1.lj.length u1.cj u1.rd u1.wr u1.pv u1.pc u1.lc.length u1.cc u1.pp u1.lp.length u1.cp))]++(TA1++(TA2++([])))):=hO
 refine wpOps_cons' (mC (d:=(some 21)) hA Tryd.func8 ((Step_n u2 772 _ (Holds'.at hPTA2 (hO.tt:Ow Tryd.prog none' w _ (([(b5,35,[i64 xa2.d.call,i64 xa2.d.a0,i64 xa2.d.a1,i64 xa2.d.a2,.slice xa2.p xa2.d.data.length xa2.c]),(b4,31,(cS u2.mo u2.po u2.inp u2.pj u2.lj.length u2.cj u2.rd u2.wr u2.pv u2.pc u2.lc.length u2.cc u2.pp u2.lp.length u2.cp)),(b3,5,[u8 97,u8 32,u8 124,u8 32,u8 98,u8 10]),(b2,35,[i64 xa1.d.call,i64 xa1.d.a0,i64 xa1.d.a1,i64 xa1.d.a2,.slice xa1.p xa1.d.data.length xa1.c]),(b1,31,(cS u1.mo u1.po u1.inp u1.pj u1.lj.length u1.cj u1.rd u1.wr u1.pv u1.pc u1.lc.length u1.cc u1.pp u1.lp.length u1.cp))]++(TA1++([])))++(TA2++([])))).m).1 hsm2 (hE.keep hO.only) (by omega) (by omega)).mono ?_))
 rintro en w14 ⟨u3,xa3,TA3,hu3,hxa3,hsm3,rfl,hW_,hG3,hXX3⟩
 refine ⟨_,rfl,?_⟩
 clear hA fr; intro fr hA
 replace hO:=Ow.join hO hW_; clear hW_
 replace hO:Ow Tryd.prog none' w _ ([(b5,35,[i64 xa2.d.call,i64 xa2.d.a0,i64 xa2.d.a1,i64 xa2.d.a2,.slice xa2.p xa2.d.data.length xa2.c]),(b4,31,(cS u2.mo u2.po u2.inp u2.pj u2.lj.length u2.cj u2.rd u2.wr u2.pv u2.pc u2.lc.length u2.cc u2.pp u2.lp.length u2.cp)),(b3,5,[u8 97,u8 32,u8 124,u8 32,u8 98,u8 10]),(b2,35,[i64 xa1.d.call,i64 xa1.d.a0,i64 xa1.d.a1,i64 xa1.d.a2,.slice xa1.p xa1.d.data.length xa1.c]),(b1,31,(cS u1.mo u1.po u1.inp u1.pj u1.lj.length u1.cj u1.rd u1.wr u1.pv u1.pc u1.lc.length u1.cc u1.pp u1.lp.length u1.cp))]++(TA1++(TA2++(TA3++([]))))):=hO.to (by first | rfl | (simp only [TP,apd]))
 have hPTA3:Holds' TA3 (fun w_=>SV.ok u3 w_/\VP w_ xa3):=Holds'.and hG3 hXX3
 rw [hu2,aw_3] at hxa3
 refine Ka 3 [(22,.agg #[i64 u3.mo,i64 u3.po,str u3.inp,.slice u3.pj u3.lj.length u3.cj,i64 u3.rd,i64 u3.wr,i64 u3.pv,.slice u3.pc u3.lc.length u3.cc,.slice u3.pp u3.lp.length u3.cp]),(23,.agg #[i64 xa3.d.call,i64 xa3.d.a0,i64 xa3.d.a1,i64 xa3.d.a2,.slice xa3.p xa3.d.data.length xa3.c])] hA fun fr hA=>?_
 refine Mn (cS 0 0 (⟨#[]⟩:ByteArray) none 0 0 0 0 0 none 0 0 none 0 0) 31 5 hA hO fun fr w15 b6 hA hO=>?_
 refine Mn [i64 0,i64 0,i64 0,i64 0,.slice none 0 0] 35 6 hA hO fun fr w16 b7 hA hO=>?_
 refine Ms 0 (cS u3.mo u3.po u3.inp u3.pj u3.lj.length u3.cj u3.rd u3.wr u3.pv u3.pc u3.lc.length u3.cc u3.pp u3.lp.length u3.cp) 1 hA hO fun w17 hO=>?_
 refine Ms 0 [i64 xa3.d.call,i64 xa3.d.a0,i64 xa3.d.a1,i64 xa3.d.a2,.slice xa3.p xa3.d.data.length xa3.c] 0 hA hO fun w18 hO=>?_
 refine end_ops ?_
 refine then_normal ?_
 refine sr 24 ?_
 refine Kb 4 [(26,bl (xa1.d.call == 9)),(27,bl (xa1.d.call == 9))] hA [i64 xa1.d.call] (cc (hO.l1 5 0 3 (i64 xa1.d.call)) c0) fun fr hA=>?_
 rw [((by rw [hxa1]; rfl):(xa1.d.call == 9)=true)] at hA
 refine Kb 6 [(31,bl ((xa1.d.a0 == 0) && ((xa1.d.a1 == 80) && ((xa1.d.a2 == 0) && true)))),(32,bl ((xa1.d.a0 == 0) && ((xa1.d.a1 == 80) && ((xa1.d.a2 == 0) && true)))),(33,bl ((xa1.d.a0 == 0) && ((xa1.d.a1 == 80) && ((xa1.d.a2 == 0) && true))))] hA [.agg #[i64 xa1.d.a0,i64 xa1.d.a1,i64 xa1.d.a2],bl ((xa1.d.a0 == 0) && ((xa1.d.a1 == 80) && ((xa1.d.a2 == 0) && true)))] (cc (hO.ln 5 1 32 [i64 xa1.d.a0,i64 xa1.d.a1,i64 xa1.d.a2]) (cc ((eqG_of (by kernel_rfl) (by kernel_rfl)):EqG Tryd.prog 32 (.agg #[i64 xa1.d.a0,i64 xa1.d.a1,i64 xa1.d.a2]) (.agg #[i64 0,i64 80,i64 0]) ((xa1.d.a0 == 0) && ((xa1.d.a1 == 80) && ((xa1.d.a2 == 0) && true)))) c0)) fun fr hA=>?_
 rw [((by rw [hxa1]; rfl):((xa1.d.a0 == 0) && ((xa1.d.a1 == 80) && ((xa1.d.a2 == 0) && true)))=true)] at hA
 refine Kb 5 [(36,bl (xa2.d.call == 11)),(37,bl (xa2.d.call == 11)),(38,bl (xa2.d.call == 11))] hA [i64 xa2.d.call] (cc (hO.l1 2 0 3 (i64 xa2.d.call)) c0) fun fr hA=>?_
 rw [((by rw [hxa2]; rfl):(xa2.d.call == 11)=true)] at hA
 refine Kb 5 [(41,bl (xa3.d.call == 1)),(42,bl (xa3.d.call == 1)),(43,bl (xa3.d.call == 1))] hA [i64 xa3.d.call] (cc (hO.l1 0 0 3 (i64 xa3.d.call)) c0) fun fr hA=>?_
 rw [((by rw [hxa3]; rfl):(xa3.d.call == 1)=true)] at hA
 refine Kb 1 [(43,bl true),(44,.agg #[i64 u2.mo,i64 u2.po,str u2.inp,.slice u2.pj u2.lj.length u2.cj,i64 u2.rd,i64 u2.wr,i64 u2.pv,.slice u2.pc u2.lc.length u2.cc,.slice u2.pp u2.lp.length u2.cp])] hA [.agg #[i64 u2.mo,i64 u2.po,str u2.inp,.slice u2.pj u2.lj.length u2.cj,i64 u2.rd,i64 u2.wr,i64 u2.pv,.slice u2.pc u2.lc.length u2.cc,.slice u2.pp u2.lp.length u2.cp]] (cc (hO.ln 3 0 31 (cS u2.mo u2.po u2.inp u2.pj u2.lj.length u2.cj u2.rd u2.wr u2.pv u2.pc u2.lc.length u2.cc u2.pp u2.lp.length u2.cp)) c0) fun fr hA=>?_
 replace hO:Ow Tryd.prog none' w w18 ([(b7,35,[i64 xa3.d.call,i64 xa3.d.a0,i64 xa3.d.a1,i64 xa3.d.a2,.slice xa3.p xa3.d.data.length xa3.c]),(b6,31,(cS u3.mo u3.po u3.inp u3.pj u3.lj.length u3.cj u3.rd u3.wr u3.pv u3.pc u3.lc.length u3.cc u3.pp u3.lp.length u3.cp)),(b5,35,[i64 xa2.d.call,i64 xa2.d.a0,i64 xa2.d.a1,i64 xa2.d.a2,.slice xa2.p xa2.d.data.length xa2.c]),(b4,31,(cS u2.mo u2.po u2.inp u2.pj u2.lj.length u2.cj u2.rd u2.wr u2.pv u2.pc u2.lc.length u2.cc u2.pp u2.lp.length u2.cp)),(b3,5,[u8 97,u8 32,u8 124,u8 32,u8 98,u8 10]),(b2,35,[i64 xa1.d.call,i64 xa1.d.a0,i64 xa1.d.a1,i64 xa1.d.a2,.slice xa1.p xa1.d.data.length xa1.c]),(b1,31,(cS u1.mo u1.po u1.inp u1.pj u1.lj.length u1.cj u1.rd u1.wr u1.pv u1.pc u1.lc.length u1.cc u1.pp u1.lp.length u1.cp))]++(TA1++(TA2++(TA3++([]))))):=hO
 refine Mk 45 hA hO Tryd.func10 (rs (svalid_any u2.mo u2.po u2.inp u2.pj u2.cj u2.lj u2.rd u2.wr u2.pv u2.pc u2.cc u2.lc u2.pp u2.cp u2.lp _ (Holds'.at hPTA2 (hO.tt:Ow Tryd.prog none' w _ (([(b7,35,[i64 xa3.d.call,i64 xa3.d.a0,i64 xa3.d.a1,i64 xa3.d.a2,.slice xa3.p xa3.d.data.length xa3.c]),(b6,31,(cS u3.mo u3.po u3.inp u3.pj u3.lj.length u3.cj u3.rd u3.wr u3.pv u3.pc u3.lc.length u3.cc u3.pp u3.lp.length u3.cp)),(b5,35,[i64 xa2.d.call,i64 xa2.d.a0,i64 xa2.d.a1,i64 xa2.d.a2,.slice xa2.p xa2.d.data.length xa2.c]),(b4,31,(cS u2.mo u2.po u2.inp u2.pj u2.lj.length u2.cj u2.rd u2.wr u2.pv u2.pc u2.lc.length u2.cc u2.pp u2.lp.length u2.cp)),(b3,5,[u8 97,u8 32,u8 124,u8 32,u8 98,u8 10]),(b2,35,[i64 xa1.d.call,i64 xa1.d.a0,i64 xa1.d.a1,i64 xa1.d.a2,.slice xa1.p xa1.d.data.length xa1.c]),(b1,31,(cS u1.mo u1.po u1.inp u1.pj u1.lj.length u1.cj u1.rd u1.wr u1.pv u1.pc u1.lc.length u1.cc u1.pp u1.lp.length u1.cp))]++(TA1++([])))++(TA2++(TA3++([]))))).m).1 hsm2) (congrArg Value.bool (show validS u2.d=true by rw [hu2]; kernel_rfl))) fun fr w19 hA hO=>?_
 refine Ka 2 [(0,bl true)] hA fun fr hA=>?_
 refine end_ops ?_
 refine then_normal ?_
 refine wp_ret ?_
 refine cv [bl true] hA ?_
 exact ⟨rfl,hO.only⟩
end Go.Proofs.YtdljjajjonfjbaaDoor
