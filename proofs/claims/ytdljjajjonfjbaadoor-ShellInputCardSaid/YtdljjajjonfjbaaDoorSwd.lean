import Derived.Test.YtdljjajjonfjbaaDoorSwc
import Derived.Test.YtdljjajjonfjbaaDoorSn
set_option linter.unusedVariables false
set_option linter.unusedSimpArgs false
set_option maxRecDepth 10000
namespace Go.Proofs.YtdljjajjonfjbaaDoor
open Go Go.Shelf Go.RowKit Go.Proofs Go.Proofs.Sx
structure WOk (a:WV) (TR TA TW TS:OwL):Prop where
  sm:a.sv.sm
  xl:a.x.d.data.length<=128
  r:One fR 47 9 a.rp a.rc a.rl TR
  al:OneO fN 3 1 a.ap a.ac a.al TA
  wl:One fN 3 1 a.wp a.wk a.wl TW
  s:Holds' TS (fun w=>SV.ok a.sv w/\VP w a.x)
  ic:a.il.length<=a.ic
  fc:a.ff.length<=a.fc
structure WX (w:World) (a:WV):Prop where
  e:ErrOk w
  i:Vw fT w (.slice a.ip a.il.length a.ic) a.il
  f:Vw fB w (.slice a.fp a.ff.length a.fc) a.ff
theorem Ow.cut {P:Program} {X:Nat->Prop} {w₀ w:World} {A T B:OwL} (h:Ow P X w₀ w (A++(T++B))):Ow P X w₀ w (A++B):=Ow.pan3 (A:=A) (T:=T) (B:=B) h (Only.refl _ _)
section
variable {w:WL} {c:ByteArray} {r:List ByteArray} {t:Int} {al:List Int}
theorem sw_exit (h:w.x.call=0):stepW w = {w with exit:=w.x.a0}:=by unfold stepW; rw [if_pos h]
theorem sw_read0 (h:w.x.call=9) (hi:w.inp=[]):stepW w=goW (leakW w) 0 []:=by unfold stepW; rw [if_neg (by omega),if_pos h,hi]
theorem sw_read (h:w.x.call=9) (hi:w.inp=c::r):stepW w=goW {leakW w with inp:=r} (c.size:Int) (sI c):=by unfold stepW; rw [if_neg (by omega),if_pos h,hi]
theorem sw_wait0 (h:w.x.call=3) (hi:w.alive=[]):stepW w=goW (leakW w) (-8) []:=by unfold stepW; rw [if_neg (by omega),if_neg (by omega),if_pos h,hi]
theorem sw_wait (h:w.x.call=3) (hi:w.alive=t::al):stepW w=goW {leakW w with alive:=al} (256*t) []:=by unfold stepW; rw [if_neg (by omega),if_neg (by omega),if_pos h,hi]
theorem sw_file {q:Int×Bool×F8×Int} (h:w.x.call=8\/w.x.call=10) (hq:fileF w.x w.fl=q):stepW w=goW {w with fl:=q.2.2.1,told:=w.told+q.2.2.2,ok:=w.ok && q.2.1} q.1 []:=by
 subst hq
 unfold stepW; rw [if_neg (by omega),if_neg (by omega),if_neg (by omega),if_pos h]
def elseC (w:WL):Prop:=¬ w.x.call=0/\¬ w.x.call=9/\¬ w.x.call=3/\¬ (w.x.call=8\/w.x.call=10)
theorem sw_else (h:elseC w):stepW w=if failB w=true then goW (failT w) (-13) [] else if w.x.call=11 then pipeW (failT w) else if w.x.call=1 then (if w.tasks < 15 then forkW (failT w) else goW (failT w) (-13) []) else goW {failT w with ok:=false} (-13) []:=by
 unfold stepW; rw [if_neg h.1,if_neg h.2.1,if_neg h.2.2.1,if_neg h.2.2.2]
theorem sw_fail (h:elseC w) (hf:failB w=true):stepW w=goW (failT w) (-13) []:=by rw [sw_else h,if_pos hf]
theorem sw_pipe (h:elseC w) (hf:failB w=false) (h1:w.x.call=11):stepW w=pipeW (failT w):=by rw [sw_else h,if_neg (by rw [hf]; decide),if_pos h1]
theorem sw_fork (h:elseC w) (hf:failB w=false) (h1:w.x.call=1) (ht:w.tasks < 15):stepW w=forkW (failT w):=by rw [sw_else h,if_neg (by rw [hf]; decide),if_neg (by omega),if_pos h1,if_pos ht]
theorem sw_full (h:elseC w) (hf:failB w=false) (h1:w.x.call=1) (ht : ¬ w.tasks < 15):stepW w=goW (failT w) (-13) []:=by rw [sw_else h,if_neg (by rw [hf]; decide),if_neg (by omega),if_pos h1,if_neg ht]
theorem sw_none (h:elseC w) (hf:failB w=false) (h1 : ¬ w.x.call=11) (h2 : ¬ w.x.call=1):stepW w=goW {failT w with ok:=false} (-13) []:=by rw [sw_else h,if_neg (by rw [hf]; decide),if_neg h1,if_neg h2]
theorem pipe_y {f:F8} (hf:w.fl=f) (ha:freeF f ≥ 0) (h:freeF (f.set (freeF f).toNat ⟨#[114]⟩) ≥ 0):pipeW w=goW {w with pipes:=w.pipes+1,fl:=(w.fl.set (freeF f).toNat (chP 114 (w.pipes+1))).set (freeF (f.set (freeF f).toNat ⟨#[114]⟩)).toNat (chP 119 (w.pipes+1))} (256*freeF f+freeF (f.set (freeF f).toNat ⟨#[114]⟩)) []:=by
 subst hf
 have e:mid w.fl=w.fl.set (freeF w.fl).toNat ⟨#[114]⟩:=if_pos ha
 unfold pipeW
 rw [e,if_pos h]
theorem pipe_n {f:F8} (hf:w.fl=f) (ha:freeF f ≥ 0) (h : ¬ freeF (f.set (freeF f).toNat ⟨#[114]⟩) ≥ 0):pipeW w=goW w (-13) []:=by
 subst hf
 have e:mid w.fl=w.fl.set (freeF w.fl).toNat ⟨#[114]⟩:=if_pos ha
 unfold pipeW
 rw [e,if_neg h]
theorem pipe_0 {f:F8} (hf:w.fl=f) (ha : ¬ freeF f ≥ 0):pipeW w=goW w (-13) []:=by
 subst hf
 have e:mid w.fl=w.fl:=if_neg ha
 unfold pipeW
 rw [e,if_neg ha]
end
theorem mid_ne {f:F8} (ha:freeF f ≥ 0) (h:freeF (f.set (freeF f).toNat ⟨#[114]⟩) ≥ 0):freeF f≠freeF (f.set (freeF f).toNat ⟨#[114]⟩):=by
 have e:mid f=f.set (freeF f).toNat ⟨#[114]⟩:=if_pos ha
 have:=(mid_free (f:=f) (by rw [e]; exact h)).2
 rwa [e] at this
theorem vw_tlT {w:World} {ad:Addr} {x:ByteArray} {r:List ByteArray} {c c':Nat} (h:Vw fT w (.slice (some ad) (x::r).length c) (x::r)):Vw fT w (.slice (some (ad.add 1)) r.length c') r:=Vw.tail encT h
theorem vw_tl1 {w:World} {ad:Addr} {x:ByteArray} {r:List ByteArray} {c c':Nat} (hr:r.length=0) (h:Vw fT w (.slice (some ad) (x::r).length c) (x::r)):Vw fT w (.slice (some ad) r.length c') r:=by
 obtain rfl:=List.length_eq_zero_iff.1 hr
 exact Vw.nil_any h c'
theorem in_last {T A:OwL} {Q:World->Prop} (h:Holds' T Q) {X:Nat->Prop} {w₀ w:World} (hO:OwM X w₀ w (A++T)):Q w:=h X w₀ w (hO.less (List.sublist_append_right A T))
theorem h810 {n:Int} (h:((n == 8) || (n == 10))=true):n=8\/n=10:=by simpa using h
theorem n810 {n:Int} (h:((n == 8) || (n == 10))=false) : ¬ (n=8\/n=10):=by
 intro q
 rcases q with rfl | rfl <;> cases h
set_option maxHeartbeats 8000000 in
theorem wstep_any (wb:Nat) (a:WV) (TR TA TW TS:OwL) (n:Nat) (w:World) (h0:Ow Tryd.prog (inT ((wb,39,wc a)::(TR++(TA++(TW++TS))))) w w ((wb,39,wc a)::(TR++(TA++(TW++TS))))) (hW:WOk a TR TA TW TS) (hX : ∀ w',Only (inT ((wb,39,wc a)::(TR++(TA++(TW++TS))))) w w'->WX w' a) (hsw:smW n a.d) (hn:n<=1000) (hch : ∀ c∈a.il,c.size<=1000) :
    Calls Tryd.prog 11 #[pt wb] w fun e w'=>∃ (a':WV) (TR' TA' TW' TS':OwL),stepW a.d=a'.d/\WOk a' TR' TA' TW' TS'/\(∀ w,WX w a->WX w a')/\e = .returned (.tuple #[])/\Ow Tryd.prog (inT ((wb,39,wc a)::(TR++(TA++(TW++TS))))) w w' ((wb,39,wc a')::(TR'++(TA'++(TW'++TS')))):=by
 refine c_enter (args:=[pt wb]) (m:=281) (n:=282) Tryd.func11 rfl (by kernel_rfl) (by kernel_rfl) fun fr hA=>?_
 generalize inT ((wb,39,wc a)::(TR++(TA++(TW++TS))))=M at *
 have hO:Ow Tryd.prog M w w ([(wb,39,(wc a))]++(TR++(TA++(TW++(TS++([])))))):=h0.to (by first | rfl | first | rfl | (simp only [TP,apd]))
 have htold_ : 0<=a.told/\a.told<=50*n:=hsw.told
 have hpipes_ : 0<=a.pipes/\a.pipes<=n:=hsw.pipes
 have htasks_ : 0<=a.tasks/\a.tasks<=15:=hsw.tasks
 have hal_:a.al.length<=n:=hsw.alive
 have hrl_:a.rl.length<=n:=hsw.runs
 have hwl_:a.wl.length<=n:=hsw.waited
 have hic_:=hW.ic
 have hfc_:=hW.fc
 have hac_:=hW.al.le
 have hxl1:a.x.d.data.length<=128:=hW.xl
 have hfr_:=free_lt a.fl
 refine sr 6 ?_
 refine Kb 4 [(14,.agg #[i64 a.x.d.call,i64 a.x.d.a0,i64 a.x.d.a1,i64 a.x.d.a2,.slice a.x.p a.x.d.data.length a.x.c])] hA [.agg #[i64 a.x.d.call,i64 a.x.d.a0,i64 a.x.d.a1,i64 a.x.d.a2,.slice a.x.p a.x.d.data.length a.x.c]] (cc (hO.ln 0 9 35 [i64 a.x.d.call,i64 a.x.d.a0,i64 a.x.d.a1,i64 a.x.d.a2,.slice a.x.p a.x.d.data.length a.x.c]) c0) fun fr hA=>?_
 refine Mn [i64 0,i64 0,i64 0,i64 0,.slice none 0 0] 35 2 hA hO fun fr w1 b1 hA hO=>?_
 refine Ms 0 [i64 a.x.d.call,i64 a.x.d.a0,i64 a.x.d.a1,i64 a.x.d.a2,.slice a.x.p a.x.d.data.length a.x.c] 0 hA hO fun w2 hO=>?_
 refine end_ops ?_
 refine then_normal ?_
 refine Sa [(3,i64 (-13))] hA fun fr hA=>?_
 refine Sa [(4,.slice none 0 0)] hA fun fr hA=>?_
 refine sJ (fun fr W=>∃ (a1:WV) (r1:Int) (dp:Option Addr) (dc:Nat) (dl:List Int) (R1 A1 W1 S1 D1:OwL),Holds 282 [] fr [(0,pt wb),(3,i64 r1),(4,.slice dp dl.length dc)]/\Ow Tryd.prog M w W ([(wb,39,(wc a1))]++(R1++(A1++(W1++(S1++(D1++([])))))))/\One fB 5 1 dp dc dl D1/\U8s dl/\dl.length<=100000/\(-100<=r1/\r1<=100000)/\stepW a.d=goW a1.d r1 dl/\WOk a1 R1 A1 W1 S1/\(∀ w,WX w a->WX w a1)) ?_ ?_
 · rintro fr w3 ⟨a1,r1,dp,dc,dl,R1,A1,W1,S1,D1,hA,hO,hD1,hud,hdl,hr1,heq,hW1,hX1⟩
   refine rr 18 ?_
   refine Kb 8 [(267,pt wb),(268,pt wb),(272,.agg #[i64 a1.sv.mo,i64 a1.sv.po,str a1.sv.inp,.slice a1.sv.pj a1.sv.lj.length a1.sv.cj,i64 a1.sv.rd,i64 a1.sv.wr,i64 a1.sv.pv,.slice a1.sv.pc a1.sv.lc.length a1.sv.cc,.slice a1.sv.pp a1.sv.lp.length a1.sv.cp]),(273,i64 r1),(274,.slice dp dl.length dc)] hA [.agg #[i64 a1.sv.mo,i64 a1.sv.po,str a1.sv.inp,.slice a1.sv.pj a1.sv.lj.length a1.sv.cj,i64 a1.sv.rd,i64 a1.sv.wr,i64 a1.sv.pv,.slice a1.sv.pc a1.sv.lc.length a1.sv.cc,.slice a1.sv.pp a1.sv.lp.length a1.sv.cp]] (cc (hO.ln 0 0 31 (cS a1.sv.mo a1.sv.po a1.sv.inp a1.sv.pj a1.sv.lj.length a1.sv.cj a1.sv.rd a1.sv.wr a1.sv.pv a1.sv.pc a1.sv.lc.length a1.sv.cc a1.sv.pp a1.sv.lp.length a1.sv.cp)) c0) fun fr hA=>?_
   replace hO:Ow Tryd.prog M w w3 ([(wb,39,(wc a1))]++(R1++(A1++(W1++(S1++(D1++([]))))))):=hO
   refine wpOps_cons' (mC (d:=(some 275)) hA Tryd.func8 ((Step_v a1.sv r1 dp dc dl _ (Holds'.at hW1.s (hO.tt:Ow Tryd.prog M w _ (([(wb,39,(wc a1))]++(R1++(A1++(W1++([])))))++(S1++(D1++([]))))).m).1 hW1.sm (hD1.vw (hO.tt:Ow Tryd.prog M w _ (([(wb,39,(wc a1))]++(R1++(A1++(W1++(S1++([]))))))++(D1++([])))).m) hud (by omega) hD1.le (hX1 _ (hX _ hO.only)).e (by omega) (by omega)).mono ?_))
   rintro en w4 ⟨u1,x1,T1,hu1,hx1,hsm1,rfl,hW_,hG1,hXX1⟩
   refine ⟨_,rfl,?_⟩
   clear hA fr; intro fr hA
   replace hO:=Ow.join hO hW_; clear hW_
   have hPT:Holds' T1 (fun w_=>SV.ok u1 w_/\VP w_ x1):=Holds'.and hG1 hXX1
   replace hO:=Ow.cut (A:=([(wb,39,(wc a1))]++(R1++(A1++(W1++([])))))) (T:=S1) (B:=D1++(T1++([]))) hO.tt
   replace hO:=Ow.cut (A:=([(wb,39,(wc a1))]++(R1++(A1++(W1++([])))))) (T:=D1) (B:=T1++([])) hO.tt
   replace hO:Ow Tryd.prog M w _ ([(wb,39,(wc a1))]++(R1++(A1++(W1++(T1++([])))))):=hO.to (by first | rfl | (simp only [TP,apd]))
   refine Ka 5 [(276,.agg #[i64 u1.mo,i64 u1.po,str u1.inp,.slice u1.pj u1.lj.length u1.cj,i64 u1.rd,i64 u1.wr,i64 u1.pv,.slice u1.pc u1.lc.length u1.cc,.slice u1.pp u1.lp.length u1.cp]),(277,.agg #[i64 x1.d.call,i64 x1.d.a0,i64 x1.d.a1,i64 x1.d.a2,.slice x1.p x1.d.data.length x1.c]),(279,pt wb)] hA fun fr hA=>?_
   refine wpOps_cons' (mSR (off:=0) (ad:=⟨wb,0,none⟩) (vc:=(cS u1.mo u1.po u1.inp u1.pj u1.lj.length u1.cj u1.rd u1.wr u1.pv u1.pc u1.lc.length u1.cc u1.pp u1.lp.length u1.cp)) (l':=(wc {a1 with sv:=u1})) 0 hA hO rfl (by kernel_rfl) (by kernel_rfl) fun w5 hO=>?_)
   refine Ka 2 [(281,pf wb 9)] hA fun fr hA=>?_
   refine wpOps_cons' (mSR (off:=9) (ad:=⟨wb,9,none⟩) (vc:=[i64 x1.d.call,i64 x1.d.a0,i64 x1.d.a1,i64 x1.d.a2,.slice x1.p x1.d.data.length x1.c]) (l':=(wc {a1 with sv:=u1,x:=x1})) 0 hA hO rfl (by kernel_rfl) (by kernel_rfl) fun w6 hO=>?_)
   refine end_ops ?_
   refine c_end ?_
   refine cv [] hA ?_
   replace hO:Ow Tryd.prog M w w6 ([(wb,39,(wc {a1 with sv:=u1,x:=x1}))]++(R1++(A1++(W1++(T1++([])))))):=hO
   exact ⟨{a1 with sv:=u1,x:=x1},R1,A1,W1,T1,(heq.trans (by unfold goW; rw [show a1.d.st=a1.sv.d from rfl,← hu1,← hx1]; rfl)),⟨hsm1,(by show x1.d.data.length<=128; rw [hx1]; exact ok_len (good_stepP _ _ _).2),hW1.r,hW1.al,hW1.wl,hPT,hW1.ic,hW1.fc⟩,(fun w_ h_=>⟨(hX1 w_ h_).e,(hX1 w_ h_).i,(hX1 w_ h_).f⟩),rfl,(hO).to (by simp only [List.append_nil,List.cons_append,List.nil_append])⟩
 refine wp_block ?_
 refine Sb [(18,bl (a.x.d.call == 0))] hA [i64 a.x.d.call] (cc (hO.l1 0 0 3 (i64 a.x.d.call)) c0) fun fr hA=>?_
 rcases Bool.eq_false_or_eq_true (a.x.d.call == 0) with h1 | h1
 · rw [h1] at hA
   have h1p:=eq_of_beq h1
   refine cT hA ?_
   refine sr 7 ?_
   refine Kb 6 [(25,i64 a.x.d.a0),(27,pf wb 30)] hA [i64 a.x.d.a0] (cc (⟨by omega,by omega⟩:(0:Int)<=0/\0 < ((3:Nat):Int)) (cc (hO.l1 0 1 3 (i64 a.x.d.a0)) c0)) fun fr hA=>?_
   refine wpOps_cons' (mSR (off:=30) (ad:=⟨wb,30,none⟩) (vc:=[i64 a.x.d.a0]) (l':=(wc {a with exit:=a.x.d.a0})) 1 hA hO rfl (by kernel_rfl) (by kernel_rfl) fun w7 hO=>?_)
   refine end_ops ?_
   refine then_normal ?_
   refine wp_ret ?_
   refine inBlock_ret ?_
   refine then_ret ?_
   refine cv [] hA ?_
   exact ⟨{a with exit:=a.x.d.a0},TR,TA,TW,TS,(sw_exit (w:=a.d) h1p),⟨hW.sm,hW.xl,hW.r,hW.al,hW.wl,hW.s,hW.ic,hW.fc⟩,(fun w_ h_=>⟨h_.e,h_.i,h_.f⟩),rfl,((Ow.subP (A:=[_,_]) hO (.cons _ (.cons_cons _ .slnil)))).to (by simp only [List.append_nil,List.cons_append,List.nil_append])⟩
 rw [h1] at hA
 have h1p:=ne_of_beq_false h1
 refine cF hA ?_
 refine Sb [(28,bl (a.x.d.call == 9))] hA [i64 a.x.d.call] (cc (hO.l1 0 0 3 (i64 a.x.d.call)) c0) fun fr hA=>?_
 rcases Bool.eq_false_or_eq_true (a.x.d.call == 9) with h2 | h2
 · rw [h2] at hA
   have h2p:=eq_of_beq h2
   refine cT hA ?_
   refine sJ (fun fr W=>Holds 282 [] fr [(0,pt wb),(3,i64 (-13)),(4,.slice none 0 0)]/\Ow Tryd.prog M w W ([(b1,35,[i64 a.x.d.call,i64 a.x.d.a0,i64 a.x.d.a1,i64 a.x.d.a2,.slice a.x.p a.x.d.data.length a.x.c]),(wb,39,(wc {a with leak:=a.leak || !plainB a.fl}))]++(TR++(TA++(TW++(TS++([]))))))/\True) ?_ ?_
   · rintro fr w8 ⟨hA,hO,-⟩
     refine Sa [(3,i64 0)] hA fun fr hA=>?_
     refine Sb [(52,bl (decide (((a.il.length:Nat):Int) > 0)))] hA [.slice a.ip a.il.length a.ic] (cc (hO.l1 1 22 25 (.slice a.ip a.il.length a.ic)) c0) fun fr hA=>?_
     rcases Bool.eq_false_or_eq_true (decide (((a.il.length:Nat):Int) > 0)) with h3 | h3
     · rw [h3] at hA
       have h3p:=of_decide_eq_true h3
       obtain ⟨ch0,ir,hil⟩ : ∃ x r,a.il=x::r:=by (cases hq_:a.il with | nil=>(rw [hq_] at h3; simp at h3) | cons x r=>exact ⟨x,r,rfl⟩)
       obtain ⟨iad,hip⟩:=(hX _ (Only.refl _ _)).i.pos (by rw [hil]; exact Nat.zero_lt_succ _)
       have hvi : ∀ w_,WX w_ a->Vw fT w_ (.slice (some iad) (ch0::ir).length a.ic) (ch0::ir):=fun w_ h_=>by (have q_:=h_.i; rw [hip,hil] at q_; exact q_)
       have hc0_:ch0.size<=1000:=hch ch0 (by rw [hil]; exact List.mem_cons_self)
       have hsl_:(sI ch0).length=ch0.size:=sI_len _
       rw [hil] at hic_
       have hic2_:ir.length+1<=a.ic:=hic_
       have hicl_:(ch0::ir).length=ir.length+1:=rfl
       replace hO:Ow Tryd.prog M w w8 ([(b1,35,[i64 a.x.d.call,i64 a.x.d.a0,i64 a.x.d.a1,i64 a.x.d.a2,.slice a.x.p a.x.d.data.length a.x.c]),(wb,39,(wc {a with leak:=a.leak || !plainB a.fl}))]++(TR++(TA++(TW++(TS++([])))))):=hO
       replace hO:Ow Tryd.prog M w w8 ([(b1,35,[i64 a.x.d.call,i64 a.x.d.a0,i64 a.x.d.a1,i64 a.x.d.a2,.slice a.x.p a.x.d.data.length a.x.c]),(wb,39,(wc {a with leak:=a.leak || !plainB a.fl,ip:=some iad,il:=(ch0::ir)}))]++(TR++(TA++(TW++(TS++([])))))):=hO.to (by rw [← hip,← hil])
       refine cT hA ?_
       refine sr 8 ?_
       refine Kb 6 [(58,str ch0)] hA [.slice (some iad) ((ch0::ir).length) a.ic,str ch0] (cc (hO.l1 1 22 25 (.slice (some iad) ((ch0::ir).length) a.ic)) (cc (⟨by omega,by omega⟩:(0:Int)<=0/\0 < (((ch0::ir).length:Nat):Int)) (cc ((show Ld Tryd.prog _ (iad.add (0*1)) 9 (.string ch0) from ld_cell (by kernel_rfl) ((hvi _ (hX _ hO.only)).cell encT (k:=0) (i:=0) (x:=ch0) rfl rfl)):Ld Tryd.prog w8 (iad.add 0) 9 (str ch0)) c0))) fun fr hA=>?_
       refine wpOps_cons' (mB (t0:=9) (t:=33) (el:=5) (s:=ch0) (d:=59) hA hO (by unfold maxLen; omega) fun fr w9 p1 c1 T1 hA hO hT1=>?_)
       replace hO:Ow Tryd.prog M w w9 ([(b1,35,[i64 a.x.d.call,i64 a.x.d.a0,i64 a.x.d.a1,i64 a.x.d.a2,.slice a.x.p a.x.d.data.length a.x.c]),(wb,39,(wc {a with leak:=a.leak || !plainB a.fl,ip:=some iad,il:=(ch0::ir)}))]++(TR++(TA++(TW++(TS++(T1++([]))))))):=hO.to (by first | rfl | (simp only [TP,apd]))
       refine Ka 1 [(4,.slice p1 ((sI ch0).length) c1)] hA fun fr hA=>?_
       refine end_ops ?_
       refine then_normal ?_
       rcases Nat.lt_or_ge 1 a.ic with hk1 | hk1
       · have hS:Ow Tryd.prog M w _ [(b1,35,[i64 a.x.d.call,i64 a.x.d.a0,i64 a.x.d.a1,i64 a.x.d.a2,.slice a.x.p a.x.d.data.length a.x.c])]:=hO.sub [0]
         refine rP [(0,true),(1,true),(2,true),(3,true),(4,true),(5,true),(8,true),(6,false),(7,true),(9,true),(10,true),(11,false)] hS ?_
         intro w10 ho; replace hO:=hO.st ho; clear ho
         refine Kd 7 [(3,i64 (((sI ch0).length:Nat):Int)),(60,pt wb),(65,pf wb 22)] hA fun fr hA=>?_
         refine plan_mem (Qc [(66,.slice (some iad) ((ch0::ir).length) a.ic)] hA [.slice (some iad) ((ch0::ir).length) a.ic] (cc (hO.l1 1 22 25 (.slice (some iad) ((ch0::ir).length) a.ic)) c0) fun fr hA=>?_)
         refine ⟨(hO.sub [0]),?_⟩
         refine Ke 3 [(67,.slice (some (atIx (iad:Addr) 1 1)) (((ch0::ir).length) - (1)) ((a.ic) - (1))),(69,pf wb 22)] hA [bl true] (cc (⟨by omega,by omega,by omega,by omega,by omega⟩:(0:Int)<=1/\(1:Int)<=(((ch0::ir).length:Nat):Int)/\(((ch0::ir).length:Nat):Int)<=((a.ic:Nat):Int)/\((a.ic:Nat):Int)<=((a.ic:Nat):Int)/\(1:Int) < ((a.ic:Nat):Int)) c0) fun fr hA=>?_
         rw [show atIx iad 1 1=((iad.add 1):Addr) from (atIx_one _ 1)] at hA
         rw [show (((ch0::ir).length) - (1))=ir.length from rfl] at hA
         rw [show ((a.ic) - (1))=(a.ic - 1) from rfl] at hA
         refine plan_mem (mSR (off:=22) (ad:=⟨wb,22,none⟩) (vc:=[.slice (some (iad.add 1)) ir.length (a.ic - 1)]) (l':=(wc {a with leak:=a.leak || !plainB a.fl,ip:=some (iad.add 1),il:=ir,ic:=(a.ic - 1)})) 1 hA hO rfl (by kernel_rfl) (by kernel_rfl) fun w11 hO=>?_)
         refine ⟨(hO.sub [0]),?_⟩
         refine end_plan ?_
         refine inBlock_normal ?_
         replace hO:Ow Tryd.prog M w w11 ([(b1,35,[i64 a.x.d.call,i64 a.x.d.a0,i64 a.x.d.a1,i64 a.x.d.a2,.slice a.x.p a.x.d.data.length a.x.c]),(wb,39,(wc {a with leak:=a.leak || !plainB a.fl,ip:=some (iad.add 1),il:=ir,ic:=(a.ic - 1)}))]++(TR++(TA++(TW++(TS++(T1++([]))))))):=hO
         refine then_normal ?_
         exact ⟨{a with leak:=a.leak || !plainB a.fl,ip:=some (iad.add 1),il:=ir,ic:=(a.ic - 1)},(((sI ch0).length:Nat):Int),p1,c1,sI ch0,TR,TA,TW,TS,T1,hA.ss,((Ow.subP (A:=[_,_]) hO (.cons _ (.cons_cons _ .slnil)))).tt,hT1,(sI_u8 _),(by rw [sI_len]; omega),⟨by omega,by omega⟩,(by rw [sI_len]; exact sw_read (w:=a.d) (c:=ch0) (r:=ir) h2p hil),⟨hW.sm,hW.xl,hW.r,hW.al,hW.wl,hW.s,(by show ir.length<=a.ic - 1; omega),hW.fc⟩,(fun w_ h_=>⟨h_.e,(vw_tlT (hvi _ h_)),h_.f⟩)⟩
       have hl0_:ir.length=0:=by omega
       have hS:Ow Tryd.prog M w _ [(b1,35,[i64 a.x.d.call,i64 a.x.d.a0,i64 a.x.d.a1,i64 a.x.d.a2,.slice a.x.p a.x.d.data.length a.x.c])]:=hO.sub [0]
       refine rP [(0,true),(1,true),(2,true),(3,true),(4,true),(5,true),(8,true),(6,false),(7,true),(9,true),(10,true),(11,false)] hS ?_
       intro w12 ho; replace hO:=hO.st ho; clear ho
       refine Kd 7 [(3,i64 (((sI ch0).length:Nat):Int)),(60,pt wb),(65,pf wb 22)] hA fun fr hA=>?_
       refine plan_mem (Qc [(66,.slice (some iad) ((ch0::ir).length) a.ic)] hA [.slice (some iad) ((ch0::ir).length) a.ic] (cc (hO.l1 1 22 25 (.slice (some iad) ((ch0::ir).length) a.ic)) c0) fun fr hA=>?_)
       refine ⟨(hO.sub [0]),?_⟩
       refine Ke 3 [(67,.slice (some iad) (((ch0::ir).length) - (1)) ((a.ic) - (1))),(69,pf wb 22)] hA [bl false] (cc (⟨by omega,by omega,by omega,by omega,by omega⟩:(0:Int)<=1/\(1:Int)<=(((ch0::ir).length:Nat):Int)/\(((ch0::ir).length:Nat):Int)<=((a.ic:Nat):Int)/\((a.ic:Nat):Int)<=((a.ic:Nat):Int)/\((1:Int)=((a.ic:Nat):Int)\/(1:Int)=0)) c0) fun fr hA=>?_
       rw [show (((ch0::ir).length) - (1))=ir.length from rfl] at hA
       rw [show ((a.ic) - (1))=(a.ic - 1) from rfl] at hA
       refine plan_mem (mSR (off:=22) (ad:=⟨wb,22,none⟩) (vc:=[.slice (some iad) ir.length (a.ic - 1)]) (l':=(wc {a with leak:=a.leak || !plainB a.fl,ip:=some iad,il:=ir,ic:=(a.ic - 1)})) 1 hA hO rfl (by kernel_rfl) (by kernel_rfl) fun w13 hO=>?_)
       refine ⟨(hO.sub [0]),?_⟩
       refine end_plan ?_
       refine inBlock_normal ?_
       replace hO:Ow Tryd.prog M w w13 ([(b1,35,[i64 a.x.d.call,i64 a.x.d.a0,i64 a.x.d.a1,i64 a.x.d.a2,.slice a.x.p a.x.d.data.length a.x.c]),(wb,39,(wc {a with leak:=a.leak || !plainB a.fl,ip:=some iad,il:=ir,ic:=(a.ic - 1)}))]++(TR++(TA++(TW++(TS++(T1++([]))))))):=hO
       refine then_normal ?_
       exact ⟨{a with leak:=a.leak || !plainB a.fl,ip:=some iad,il:=ir,ic:=(a.ic - 1)},(((sI ch0).length:Nat):Int),p1,c1,sI ch0,TR,TA,TW,TS,T1,hA.ss,((Ow.subP (A:=[_,_]) hO (.cons _ (.cons_cons _ .slnil)))).tt,hT1,(sI_u8 _),(by rw [sI_len]; omega),⟨by omega,by omega⟩,(by rw [sI_len]; exact sw_read (w:=a.d) (c:=ch0) (r:=ir) h2p hil),⟨hW.sm,hW.xl,hW.r,hW.al,hW.wl,hW.s,(by show ir.length<=a.ic - 1; omega),hW.fc⟩,(fun w_ h_=>⟨h_.e,(vw_tl1 hl0_ (hvi _ h_)),h_.f⟩)⟩
     rw [h3] at hA
     have h3p:=of_decide_eq_false h3
     have hil0:a.il=[]:=List.length_eq_zero_iff.1 (by omega)
     refine cF hA ?_
     refine wp_skip ?_
     refine inBlock_normal ?_
     replace hO:Ow Tryd.prog M w w8 ([(b1,35,[i64 a.x.d.call,i64 a.x.d.a0,i64 a.x.d.a1,i64 a.x.d.a2,.slice a.x.p a.x.d.data.length a.x.c]),(wb,39,(wc {a with leak:=a.leak || !plainB a.fl}))]++(TR++(TA++(TW++(TS++([])))))):=hO
     refine then_normal ?_
     exact ⟨{a with leak:=a.leak || !plainB a.fl},0,none,0,([]:List Int),TR,TA,TW,TS,([]:OwL),hA.ss,((Ow.subP (A:=[_,_]) hO (.cons _ (.cons_cons _ .slnil)))).tt,(One.nil _ _ _),(fun x h=>absurd h List.not_mem_nil),(Nat.zero_le _),⟨by omega,by omega⟩,(sw_read0 (w:=a.d) h2p hil0),⟨hW.sm,hW.xl,hW.r,hW.al,hW.wl,hW.s,hW.ic,hW.fc⟩,(fun w_ h_=>⟨h_.e,h_.i,h_.f⟩)⟩
   refine rr 16 ?_
   refine Kb 6 [(32,pt wb),(36,bl a.leak),(37,bl a.leak)] hA [bl a.leak] (cc (hO.l1 1 31 4 (bl a.leak)) c0) fun fr hA=>?_
   rcases Bool.eq_false_or_eq_true (a.leak) with h4 | h4
   · rw [h4] at hA
     refine Ka 9 [(44,bl true),(46,pf wb 31)] hA fun fr hA=>?_
     refine wpOps_cons' (mSR (off:=31) (ad:=⟨wb,31,none⟩) (vc:=[bl true]) (l':=(wc {a with leak:=true})) 1 hA hO rfl (by kernel_rfl) (by kernel_rfl) fun w14 hO=>?_)
     refine end_ops ?_
     refine then_normal ?_
     replace hO:Ow Tryd.prog M w w14 ([(b1,35,[i64 a.x.d.call,i64 a.x.d.a0,i64 a.x.d.a1,i64 a.x.d.a2,.slice a.x.p a.x.d.data.length a.x.c]),(wb,39,(wc {a with leak:=true}))]++(TR++(TA++(TW++(TS++([])))))):=hO
     exact ⟨hA.sb,(hO).to (by rw [show (a.leak || !plainB a.fl)=(true) from by rw [h4]; rfl]),trivial⟩
   rw [h4] at hA
   refine Kb 4 [(37,bl false),(41,.agg (List.toArray (fl8 a.fl)))] hA [.agg (List.toArray (fl8 a.fl))] (cc (hO.ln 1 14 36 (fl8 a.fl)) c0) fun fr hA=>?_
   refine Mk 42 hA hO Tryd.func19 (plain_any a.fl _) fun fr w15 hA hO=>?_
   refine Ka 4 [(44,bl (!(plainB a.fl))),(46,pf wb 31)] hA fun fr hA=>?_
   refine wpOps_cons' (mSR (off:=31) (ad:=⟨wb,31,none⟩) (vc:=[bl (!(plainB a.fl))]) (l':=(wc {a with leak:=!(plainB a.fl)})) 1 hA hO rfl (by kernel_rfl) (by kernel_rfl) fun w16 hO=>?_)
   refine end_ops ?_
   refine then_normal ?_
   replace hO:Ow Tryd.prog M w w16 ([(b1,35,[i64 a.x.d.call,i64 a.x.d.a0,i64 a.x.d.a1,i64 a.x.d.a2,.slice a.x.p a.x.d.data.length a.x.c]),(wb,39,(wc {a with leak:=!(plainB a.fl)}))]++(TR++(TA++(TW++(TS++([])))))):=hO
   exact ⟨hA.sb,(hO).to (by rw [show (a.leak || !plainB a.fl)=(!(plainB a.fl)) from by rw [h4]; rfl]),trivial⟩
 rw [h2] at hA
 have h2p:=ne_of_beq_false h2
 refine cF hA ?_
 refine Sb [(70,bl (a.x.d.call == 3))] hA [i64 a.x.d.call] (cc (hO.l1 0 0 3 (i64 a.x.d.call)) c0) fun fr hA=>?_
 rcases Bool.eq_false_or_eq_true (a.x.d.call == 3) with h5 | h5
 · rw [h5] at hA
   have h5p:=eq_of_beq h5
   refine cT hA ?_
   refine sJ (fun fr W=>Holds 282 [] fr [(0,pt wb),(3,i64 (-13)),(4,.slice none 0 0)]/\Ow Tryd.prog M w W ([(b1,35,[i64 a.x.d.call,i64 a.x.d.a0,i64 a.x.d.a1,i64 a.x.d.a2,.slice a.x.p a.x.d.data.length a.x.c]),(wb,39,(wc {a with leak:=a.leak || !plainB a.fl}))]++(TR++(TA++(TW++(TS++([]))))))/\True) ?_ ?_
   · rintro fr w17 ⟨hA,hO,-⟩
     refine Sa [(3,i64 (-8))] hA fun fr hA=>?_
     refine Sb [(94,bl (decide (((a.al.length:Nat):Int) > 0)))] hA [.slice a.ap a.al.length a.ac] (cc (hO.l1 1 26 28 (.slice a.ap a.al.length a.ac)) c0) fun fr hA=>?_
     rcases Bool.eq_false_or_eq_true (decide (((a.al.length:Nat):Int) > 0)) with h6 | h6
     · rw [h6] at hA
       have h6p:=of_decide_eq_true h6
       obtain ⟨t0,ar,hal⟩ : ∃ x r,a.al=x::r:=by (cases hq_:a.al with | nil=>(rw [hq_] at h6; simp at h6) | cons x r=>exact ⟨x,r,rfl⟩)
       have ht0_:=hsw.av t0 (by show t0∈a.al; rw [hal]; exact List.mem_cons_self)
       replace hO:Ow Tryd.prog M w w17 ([(b1,35,[i64 a.x.d.call,i64 a.x.d.a0,i64 a.x.d.a1,i64 a.x.d.a2,.slice a.x.p a.x.d.data.length a.x.c]),(wb,39,(wc {a with leak:=a.leak || !plainB a.fl}))]++(TR++(TA++(TW++(TS++([])))))):=hO
       obtain ⟨aad,hap⟩:=((show Vw fN _ (.slice a.ap a.al.length a.ac) a.al from hW.al.vw (A:=([(b1,35,[i64 a.x.d.call,i64 a.x.d.a0,i64 a.x.d.a1,i64 a.x.d.a2,.slice a.x.p a.x.d.data.length a.x.c]),(wb,39,(wc {a with leak:=a.leak || !plainB a.fl}))]++(TR++([])))) (B:=TW++(TS++([]))) (hO.tt:Ow Tryd.prog M w _ (([(b1,35,[i64 a.x.d.call,i64 a.x.d.a0,i64 a.x.d.a1,i64 a.x.d.a2,.slice a.x.p a.x.d.data.length a.x.c]),(wb,39,(wc {a with leak:=a.leak || !plainB a.fl}))]++(TR++([])))++(TA++(TW++(TS++([])))))).m)).pos (by rw [hal]; exact Nat.zero_lt_succ _)
       have hPA:=hW.al
       rw [hal,hap] at hPA
       rw [hal] at hac_
       have hac2_:ar.length+1<=a.ac:=hac_
       have hacl_:(t0::ar).length=ar.length+1:=rfl
       replace hO:Ow Tryd.prog M w w17 ([(b1,35,[i64 a.x.d.call,i64 a.x.d.a0,i64 a.x.d.a1,i64 a.x.d.a2,.slice a.x.p a.x.d.data.length a.x.c]),(wb,39,(wc {a with leak:=a.leak || !plainB a.fl,ap:=some aad,al:=(t0::ar)}))]++(TR++(TA++(TW++(TS++([])))))):=hO.to (by rw [← hap,← hal])
       refine cT hA ?_
       rcases Nat.lt_or_ge 1 a.ac with hk1 | hk1
       · have hS:=hO.pk [0]
         refine rT (.q 0 (.q 1 (.q 2 (.q 3 (.q 8 (.q 9 (.q 10 (.m 4 (.q 5 (.m 6 (.q 7 (.q 13 (.m 11 (.q 12 (.q 14 (.q 15 (.m 16 .fin .non)))) .non))) (.m 11 (.q 12 (.m 6 (.q 7 (.q 13 (.q 14 (.q 15 (.m 16 .fin .non))))) .non)) .non))) (.m 11 (.q 12 (.m 4 (.q 5 (.m 6 (.q 7 (.q 13 (.q 14 (.q 15 (.m 16 .fin .non))))) .non)) .non)) .non))))))))) hS ?_
         intro w18 ho; replace hO:=hO.st ho; clear ho
         refine tree_let (t1:= .q 7 (.q 13 (.q 14 (.q 15 (.m 16 .fin .non))))) (fun fr W=>Holds 282 [] fr [(0,pt wb),(3,i64 (-8)),(4,.slice none 0 0),(95,pt wb),(101,i64 t0),(107,.slice (some (aad.add 1)) ar.length (a.ac - 1))]/\Ow Tryd.prog M w W ([(b1,35,[i64 a.x.d.call,i64 a.x.d.a0,i64 a.x.d.a1,i64 a.x.d.a2,.slice a.x.p a.x.d.data.length a.x.c]),(wb,39,(wc {a with leak:=a.leak || !plainB a.fl,ap:=some aad,al:=(t0::ar)}))]++(TR++(TA++(TW++(TS++([]))))))/\True) ?_ ?_
         · rintro fr w19 ⟨hA,hO,-⟩
           refine Kt [7,13,14,15] [(3,i64 (256*t0)),(109,pf wb 26)] hA [bl true] (cc ((inK_i64 (by omega) (by omega)):inK .i64 (256*t0)) c0) fun fr hA=>?_
           refine tree_mem ?_ ?_
           · have hPA1:=OneO.tl encN hPA hk1
             refine (mSR (off:=26) (ad:=⟨wb,26,none⟩) (vc:=[.slice (some (aad.add 1)) ar.length (a.ac - 1)]) (l':=(wc {a with leak:=a.leak || !plainB a.fl,ap:=some (aad.add 1),al:=ar,ac:=(a.ac - 1)})) 1 hA hO rfl (by kernel_rfl) (by kernel_rfl) fun w20 hO=>?_)
             refine ⟨(hO.sub [0]),?_⟩
             refine tree_fin ?_
             refine inBlock_normal ?_
             refine then_normal ?_
             exact ⟨{a with leak:=a.leak || !plainB a.fl,ap:=some (aad.add 1),al:=ar,ac:=(a.ac - 1)},256*t0,none,0,([]:List Int),TR,TA,TW,TS,([]:OwL),hA.ss,((Ow.subP (A:=[_,_]) hO (.cons _ (.cons_cons _ .slnil)))).tt,(One.nil _ _ _),(fun x h=>absurd h List.not_mem_nil),(Nat.zero_le _),⟨by omega,by omega⟩,(sw_wait (w:=a.d) (t:=t0) (al:=ar) h5p hal),⟨hW.sm,hW.xl,hW.r,hPA1,hW.wl,hW.s,hW.ic,hW.fc⟩,(fun w_ h_=>⟨h_.e,h_.i,h_.f⟩)⟩
           exact trivial
         intro ht1
         refine Kt [0,1,2,3,8,9,10] [(95,pt wb),(98,pf wb 26),(105,pf wb 26)] hA [] c0 fun fr hA=>?_
         refine tree_mem ?_ ?_
         · refine (Qc [(99,.slice (some aad) ((t0::ar).length) a.ac)] hA [.slice (some aad) ((t0::ar).length) a.ac] (cc (hO.l1 1 26 28 (.slice (some aad) ((t0::ar).length) a.ac)) c0) fun fr hA=>?_)
           refine ⟨(hO.sub [0]),?_⟩
           refine Kt [5] [(100,.pointer (some (aad.add 0)))] hA [] (cc (⟨by omega,by omega⟩:(0:Int)<=0/\0 < (((t0::ar).length:Nat):Int)) c0) fun fr hA=>?_
           refine tree_mem ?_ ?_
           · refine (Qc [(101,i64 t0)] hA [i64 t0] (cc ((show Ld Tryd.prog _ (aad.add (0*1)) 3 (.int .i64 t0) from ld_cell (by kernel_rfl) ((show Vw fN _ (.slice (some aad) (t0::ar).length a.ac) (t0::ar) from hPA.vw (A:=([(b1,35,[i64 a.x.d.call,i64 a.x.d.a0,i64 a.x.d.a1,i64 a.x.d.a2,.slice a.x.p a.x.d.data.length a.x.c]),(wb,39,(wc {a with leak:=a.leak || !plainB a.fl,ap:=some aad,al:=(t0::ar)}))]++(TR++([])))) (B:=TW++(TS++([]))) (hO.tt:Ow Tryd.prog M w _ (([(b1,35,[i64 a.x.d.call,i64 a.x.d.a0,i64 a.x.d.a1,i64 a.x.d.a2,.slice a.x.p a.x.d.data.length a.x.c]),(wb,39,(wc {a with leak:=a.leak || !plainB a.fl,ap:=some aad,al:=(t0::ar)}))]++(TR++([])))++(TA++(TW++(TS++([])))))).m).cell encN (k:=0) (i:=0) (x:=t0) rfl rfl)):Ld Tryd.prog w18 (aad.add 0) 3 (i64 t0)) c0) fun fr hA=>?_)
             refine ⟨(hO.sub [0]),?_⟩
             refine Kt [7,13] [(3,i64 (256*t0))] hA [bl true] (cc ((inK_i64 (by omega) (by omega)):inK .i64 (256*t0)) c0) fun fr hA=>?_
             refine tree_mem ?_ ?_
             · refine (Qc [(106,.slice (some aad) ((t0::ar).length) a.ac)] hA [.slice (some aad) ((t0::ar).length) a.ac] (cc (hO.l1 1 26 28 (.slice (some aad) ((t0::ar).length) a.ac)) c0) fun fr hA=>?_)
               refine ⟨(hO.sub [0]),?_⟩
               refine Kt [12,14,15] [(107,.slice (some (atIx (aad:Addr) 1 1)) (((t0::ar).length) - (1)) ((a.ac) - (1))),(109,pf wb 26)] hA [bl true] (cc (⟨by omega,by omega,by omega,by omega,by omega⟩:(0:Int)<=1/\(1:Int)<=(((t0::ar).length:Nat):Int)/\(((t0::ar).length:Nat):Int)<=((a.ac:Nat):Int)/\((a.ac:Nat):Int)<=((a.ac:Nat):Int)/\(1:Int) < ((a.ac:Nat):Int)) c0) fun fr hA=>?_
               rw [show atIx aad 1 1=((aad.add 1):Addr) from (atIx_one _ 1)] at hA
               rw [show (((t0::ar).length) - (1))=ar.length from rfl] at hA
               rw [show ((a.ac) - (1))=(a.ac - 1) from rfl] at hA
               refine tree_mem ?_ ?_
               · have hPA2:=OneO.tl encN hPA hk1
                 refine (mSR (off:=26) (ad:=⟨wb,26,none⟩) (vc:=[.slice (some (aad.add 1)) ar.length (a.ac - 1)]) (l':=(wc {a with leak:=a.leak || !plainB a.fl,ap:=some (aad.add 1),al:=ar,ac:=(a.ac - 1)})) 1 hA hO rfl (by kernel_rfl) (by kernel_rfl) fun w21 hO=>?_)
                 refine ⟨(hO.sub [0]),?_⟩
                 refine tree_fin ?_
                 refine inBlock_normal ?_
                 refine then_normal ?_
                 exact ⟨{a with leak:=a.leak || !plainB a.fl,ap:=some (aad.add 1),al:=ar,ac:=(a.ac - 1)},256*t0,none,0,([]:List Int),TR,TA,TW,TS,([]:OwL),hA.ss,((Ow.subP (A:=[_,_]) hO (.cons _ (.cons_cons _ .slnil)))).tt,(One.nil _ _ _),(fun x h=>absurd h List.not_mem_nil),(Nat.zero_le _),⟨by omega,by omega⟩,(sw_wait (w:=a.d) (t:=t0) (al:=ar) h5p hal),⟨hW.sm,hW.xl,hW.r,hPA2,hW.wl,hW.s,hW.ic,hW.fc⟩,(fun w_ h_=>⟨h_.e,h_.i,h_.f⟩)⟩
               exact trivial
             exact trivial
           refine tree_mem ?_ ?_
           · refine (Qc [(106,.slice (some aad) ((t0::ar).length) a.ac)] hA [.slice (some aad) ((t0::ar).length) a.ac] (cc (hO.l1 1 26 28 (.slice (some aad) ((t0::ar).length) a.ac)) c0) fun fr hA=>?_)
             refine ⟨(hO.sub [0]),?_⟩
             refine Kt [12] [(107,.slice (some (atIx (aad:Addr) 1 1)) (((t0::ar).length) - (1)) ((a.ac) - (1)))] hA [bl true] (cc (⟨by omega,by omega,by omega,by omega,by omega⟩:(0:Int)<=1/\(1:Int)<=(((t0::ar).length:Nat):Int)/\(((t0::ar).length:Nat):Int)<=((a.ac:Nat):Int)/\((a.ac:Nat):Int)<=((a.ac:Nat):Int)/\(1:Int) < ((a.ac:Nat):Int)) c0) fun fr hA=>?_
             rw [show atIx aad 1 1=((aad.add 1):Addr) from (atIx_one _ 1)] at hA
             rw [show (((t0::ar).length) - (1))=ar.length from rfl] at hA
             rw [show ((a.ac) - (1))=(a.ac - 1) from rfl] at hA
             refine tree_mem ?_ ?_
             · refine (Qc [(101,i64 t0),(107,.slice (some (aad.add 1)) ar.length (a.ac - 1))] hA [i64 t0] (cc ((show Ld Tryd.prog _ (aad.add (0*1)) 3 (.int .i64 t0) from ld_cell (by kernel_rfl) ((show Vw fN _ (.slice (some aad) (t0::ar).length a.ac) (t0::ar) from hPA.vw (A:=([(b1,35,[i64 a.x.d.call,i64 a.x.d.a0,i64 a.x.d.a1,i64 a.x.d.a2,.slice a.x.p a.x.d.data.length a.x.c]),(wb,39,(wc {a with leak:=a.leak || !plainB a.fl,ap:=some aad,al:=(t0::ar)}))]++(TR++([])))) (B:=TW++(TS++([]))) (hO.tt:Ow Tryd.prog M w _ (([(b1,35,[i64 a.x.d.call,i64 a.x.d.a0,i64 a.x.d.a1,i64 a.x.d.a2,.slice a.x.p a.x.d.data.length a.x.c]),(wb,39,(wc {a with leak:=a.leak || !plainB a.fl,ap:=some aad,al:=(t0::ar)}))]++(TR++([])))++(TA++(TW++(TS++([])))))).m).cell encN (k:=0) (i:=0) (x:=t0) rfl rfl)):Ld Tryd.prog w18 (aad.add 0) 3 (i64 t0)) c0) fun fr hA=>?_)
               refine ⟨(hO.sub [0]),?_⟩
               exact ht1 _ _ ⟨hA.sb,hO.tt,trivial⟩
             exact trivial
           exact trivial
         refine tree_mem ?_ ?_
         · refine (Qc [(106,.slice (some aad) ((t0::ar).length) a.ac)] hA [.slice (some aad) ((t0::ar).length) a.ac] (cc (hO.l1 1 26 28 (.slice (some aad) ((t0::ar).length) a.ac)) c0) fun fr hA=>?_)
           refine ⟨(hO.sub [0]),?_⟩
           refine Kt [12] [(107,.slice (some (atIx (aad:Addr) 1 1)) (((t0::ar).length) - (1)) ((a.ac) - (1)))] hA [bl true] (cc (⟨by omega,by omega,by omega,by omega,by omega⟩:(0:Int)<=1/\(1:Int)<=(((t0::ar).length:Nat):Int)/\(((t0::ar).length:Nat):Int)<=((a.ac:Nat):Int)/\((a.ac:Nat):Int)<=((a.ac:Nat):Int)/\(1:Int) < ((a.ac:Nat):Int)) c0) fun fr hA=>?_
           rw [show atIx aad 1 1=((aad.add 1):Addr) from (atIx_one _ 1)] at hA
           rw [show (((t0::ar).length) - (1))=ar.length from rfl] at hA
           rw [show ((a.ac) - (1))=(a.ac - 1) from rfl] at hA
           refine tree_mem ?_ ?_
           · refine (Qc [(99,.slice (some aad) ((t0::ar).length) a.ac),(107,.slice (some (aad.add 1)) ar.length (a.ac - 1))] hA [.slice (some aad) ((t0::ar).length) a.ac] (cc (hO.l1 1 26 28 (.slice (some aad) ((t0::ar).length) a.ac)) c0) fun fr hA=>?_)
             refine ⟨(hO.sub [0]),?_⟩
             refine Kt [5] [(100,.pointer (some (aad.add 0)))] hA [] (cc (⟨by omega,by omega⟩:(0:Int)<=0/\0 < (((t0::ar).length:Nat):Int)) c0) fun fr hA=>?_
             refine tree_mem ?_ ?_
             · refine (Qc [(101,i64 t0)] hA [i64 t0] (cc ((show Ld Tryd.prog _ (aad.add (0*1)) 3 (.int .i64 t0) from ld_cell (by kernel_rfl) ((show Vw fN _ (.slice (some aad) (t0::ar).length a.ac) (t0::ar) from hPA.vw (A:=([(b1,35,[i64 a.x.d.call,i64 a.x.d.a0,i64 a.x.d.a1,i64 a.x.d.a2,.slice a.x.p a.x.d.data.length a.x.c]),(wb,39,(wc {a with leak:=a.leak || !plainB a.fl,ap:=some aad,al:=(t0::ar)}))]++(TR++([])))) (B:=TW++(TS++([]))) (hO.tt:Ow Tryd.prog M w _ (([(b1,35,[i64 a.x.d.call,i64 a.x.d.a0,i64 a.x.d.a1,i64 a.x.d.a2,.slice a.x.p a.x.d.data.length a.x.c]),(wb,39,(wc {a with leak:=a.leak || !plainB a.fl,ap:=some aad,al:=(t0::ar)}))]++(TR++([])))++(TA++(TW++(TS++([])))))).m).cell encN (k:=0) (i:=0) (x:=t0) rfl rfl)):Ld Tryd.prog w18 (aad.add 0) 3 (i64 t0)) c0) fun fr hA=>?_)
               refine ⟨(hO.sub [0]),?_⟩
               exact ht1 _ _ ⟨hA.sb,hO.tt,trivial⟩
             exact trivial
           exact trivial
         exact trivial
       have hl0_:ar.length=0:=by omega
       have hS:=hO.pk [0]
       refine rT (.q 0 (.q 1 (.q 2 (.q 3 (.q 8 (.q 9 (.q 10 (.m 4 (.q 5 (.m 6 (.q 7 (.q 13 (.m 11 (.q 12 (.q 14 (.q 15 (.m 16 .fin .non)))) .non))) (.m 11 (.q 12 (.m 6 (.q 7 (.q 13 (.q 14 (.q 15 (.m 16 .fin .non))))) .non)) .non))) (.m 11 (.q 12 (.m 4 (.q 5 (.m 6 (.q 7 (.q 13 (.q 14 (.q 15 (.m 16 .fin .non))))) .non)) .non)) .non))))))))) hS ?_
       intro w22 ho; replace hO:=hO.st ho; clear ho
       refine tree_let (t1:= .q 7 (.q 13 (.q 14 (.q 15 (.m 16 .fin .non))))) (fun fr W=>Holds 282 [] fr [(0,pt wb),(3,i64 (-8)),(4,.slice none 0 0),(95,pt wb),(101,i64 t0),(107,.slice (some aad) ar.length (a.ac - 1))]/\Ow Tryd.prog M w W ([(b1,35,[i64 a.x.d.call,i64 a.x.d.a0,i64 a.x.d.a1,i64 a.x.d.a2,.slice a.x.p a.x.d.data.length a.x.c]),(wb,39,(wc {a with leak:=a.leak || !plainB a.fl,ap:=some aad,al:=(t0::ar)}))]++(TR++(TA++(TW++(TS++([]))))))/\True) ?_ ?_
       · rintro fr w23 ⟨hA,hO,-⟩
         refine Kt [7,13,14,15] [(3,i64 (256*t0)),(109,pf wb 26)] hA [bl true] (cc ((inK_i64 (by omega) (by omega)):inK .i64 (256*t0)) c0) fun fr hA=>?_
         refine tree_mem ?_ ?_
         · have hPA3:=(show OneO fN 3 1 (some aad) (a.ac - 1) ar _ from (by rw [show a.ac - 1=0 by omega]; exact OneO.tl1 hPA hl0_))
           refine (mSR (off:=26) (ad:=⟨wb,26,none⟩) (vc:=[.slice (some aad) ar.length (a.ac - 1)]) (l':=(wc {a with leak:=a.leak || !plainB a.fl,ap:=some aad,al:=ar,ac:=(a.ac - 1)})) 1 hA hO rfl (by kernel_rfl) (by kernel_rfl) fun w24 hO=>?_)
           refine ⟨(hO.sub [0]),?_⟩
           refine tree_fin ?_
           refine inBlock_normal ?_
           refine then_normal ?_
           exact ⟨{a with leak:=a.leak || !plainB a.fl,ap:=some aad,al:=ar,ac:=(a.ac - 1)},256*t0,none,0,([]:List Int),TR,TA,TW,TS,([]:OwL),hA.ss,((Ow.subP (A:=[_,_]) hO (.cons _ (.cons_cons _ .slnil)))).tt,(One.nil _ _ _),(fun x h=>absurd h List.not_mem_nil),(Nat.zero_le _),⟨by omega,by omega⟩,(sw_wait (w:=a.d) (t:=t0) (al:=ar) h5p hal),⟨hW.sm,hW.xl,hW.r,hPA3,hW.wl,hW.s,hW.ic,hW.fc⟩,(fun w_ h_=>⟨h_.e,h_.i,h_.f⟩)⟩
         exact trivial
       intro ht2
       refine Kt [0,1,2,3,8,9,10] [(95,pt wb),(98,pf wb 26),(105,pf wb 26)] hA [] c0 fun fr hA=>?_
       refine tree_mem ?_ ?_
       · refine (Qc [(99,.slice (some aad) ((t0::ar).length) a.ac)] hA [.slice (some aad) ((t0::ar).length) a.ac] (cc (hO.l1 1 26 28 (.slice (some aad) ((t0::ar).length) a.ac)) c0) fun fr hA=>?_)
         refine ⟨(hO.sub [0]),?_⟩
         refine Kt [5] [(100,.pointer (some (aad.add 0)))] hA [] (cc (⟨by omega,by omega⟩:(0:Int)<=0/\0 < (((t0::ar).length:Nat):Int)) c0) fun fr hA=>?_
         refine tree_mem ?_ ?_
         · refine (Qc [(101,i64 t0)] hA [i64 t0] (cc ((show Ld Tryd.prog _ (aad.add (0*1)) 3 (.int .i64 t0) from ld_cell (by kernel_rfl) ((show Vw fN _ (.slice (some aad) (t0::ar).length a.ac) (t0::ar) from hPA.vw (A:=([(b1,35,[i64 a.x.d.call,i64 a.x.d.a0,i64 a.x.d.a1,i64 a.x.d.a2,.slice a.x.p a.x.d.data.length a.x.c]),(wb,39,(wc {a with leak:=a.leak || !plainB a.fl,ap:=some aad,al:=(t0::ar)}))]++(TR++([])))) (B:=TW++(TS++([]))) (hO.tt:Ow Tryd.prog M w _ (([(b1,35,[i64 a.x.d.call,i64 a.x.d.a0,i64 a.x.d.a1,i64 a.x.d.a2,.slice a.x.p a.x.d.data.length a.x.c]),(wb,39,(wc {a with leak:=a.leak || !plainB a.fl,ap:=some aad,al:=(t0::ar)}))]++(TR++([])))++(TA++(TW++(TS++([])))))).m).cell encN (k:=0) (i:=0) (x:=t0) rfl rfl)):Ld Tryd.prog w22 (aad.add 0) 3 (i64 t0)) c0) fun fr hA=>?_)
           refine ⟨(hO.sub [0]),?_⟩
           refine Kt [7,13] [(3,i64 (256*t0))] hA [bl true] (cc ((inK_i64 (by omega) (by omega)):inK .i64 (256*t0)) c0) fun fr hA=>?_
           refine tree_mem ?_ ?_
           · refine (Qc [(106,.slice (some aad) ((t0::ar).length) a.ac)] hA [.slice (some aad) ((t0::ar).length) a.ac] (cc (hO.l1 1 26 28 (.slice (some aad) ((t0::ar).length) a.ac)) c0) fun fr hA=>?_)
             refine ⟨(hO.sub [0]),?_⟩
             refine Kt [12,14,15] [(107,.slice (some aad) (((t0::ar).length) - (1)) ((a.ac) - (1))),(109,pf wb 26)] hA [bl false] (cc (⟨by omega,by omega,by omega,by omega,by omega⟩:(0:Int)<=1/\(1:Int)<=(((t0::ar).length:Nat):Int)/\(((t0::ar).length:Nat):Int)<=((a.ac:Nat):Int)/\((a.ac:Nat):Int)<=((a.ac:Nat):Int)/\((1:Int)=((a.ac:Nat):Int)\/(1:Int)=0)) c0) fun fr hA=>?_
             rw [show (((t0::ar).length) - (1))=ar.length from rfl] at hA
             rw [show ((a.ac) - (1))=(a.ac - 1) from rfl] at hA
             refine tree_mem ?_ ?_
             · have hPA4:=(show OneO fN 3 1 (some aad) (a.ac - 1) ar _ from (by rw [show a.ac - 1=0 by omega]; exact OneO.tl1 hPA hl0_))
               refine (mSR (off:=26) (ad:=⟨wb,26,none⟩) (vc:=[.slice (some aad) ar.length (a.ac - 1)]) (l':=(wc {a with leak:=a.leak || !plainB a.fl,ap:=some aad,al:=ar,ac:=(a.ac - 1)})) 1 hA hO rfl (by kernel_rfl) (by kernel_rfl) fun w25 hO=>?_)
               refine ⟨(hO.sub [0]),?_⟩
               refine tree_fin ?_
               refine inBlock_normal ?_
               refine then_normal ?_
               exact ⟨{a with leak:=a.leak || !plainB a.fl,ap:=some aad,al:=ar,ac:=(a.ac - 1)},256*t0,none,0,([]:List Int),TR,TA,TW,TS,([]:OwL),hA.ss,((Ow.subP (A:=[_,_]) hO (.cons _ (.cons_cons _ .slnil)))).tt,(One.nil _ _ _),(fun x h=>absurd h List.not_mem_nil),(Nat.zero_le _),⟨by omega,by omega⟩,(sw_wait (w:=a.d) (t:=t0) (al:=ar) h5p hal),⟨hW.sm,hW.xl,hW.r,hPA4,hW.wl,hW.s,hW.ic,hW.fc⟩,(fun w_ h_=>⟨h_.e,h_.i,h_.f⟩)⟩
             exact trivial
           exact trivial
         refine tree_mem ?_ ?_
         · refine (Qc [(106,.slice (some aad) ((t0::ar).length) a.ac)] hA [.slice (some aad) ((t0::ar).length) a.ac] (cc (hO.l1 1 26 28 (.slice (some aad) ((t0::ar).length) a.ac)) c0) fun fr hA=>?_)
           refine ⟨(hO.sub [0]),?_⟩
           refine Kt [12] [(107,.slice (some aad) (((t0::ar).length) - (1)) ((a.ac) - (1)))] hA [bl false] (cc (⟨by omega,by omega,by omega,by omega,by omega⟩:(0:Int)<=1/\(1:Int)<=(((t0::ar).length:Nat):Int)/\(((t0::ar).length:Nat):Int)<=((a.ac:Nat):Int)/\((a.ac:Nat):Int)<=((a.ac:Nat):Int)/\((1:Int)=((a.ac:Nat):Int)\/(1:Int)=0)) c0) fun fr hA=>?_
           rw [show (((t0::ar).length) - (1))=ar.length from rfl] at hA
           rw [show ((a.ac) - (1))=(a.ac - 1) from rfl] at hA
           refine tree_mem ?_ ?_
           · refine (Qc [(101,i64 t0),(107,.slice (some aad) ar.length (a.ac - 1))] hA [i64 t0] (cc ((show Ld Tryd.prog _ (aad.add (0*1)) 3 (.int .i64 t0) from ld_cell (by kernel_rfl) ((show Vw fN _ (.slice (some aad) (t0::ar).length a.ac) (t0::ar) from hPA.vw (A:=([(b1,35,[i64 a.x.d.call,i64 a.x.d.a0,i64 a.x.d.a1,i64 a.x.d.a2,.slice a.x.p a.x.d.data.length a.x.c]),(wb,39,(wc {a with leak:=a.leak || !plainB a.fl,ap:=some aad,al:=(t0::ar)}))]++(TR++([])))) (B:=TW++(TS++([]))) (hO.tt:Ow Tryd.prog M w _ (([(b1,35,[i64 a.x.d.call,i64 a.x.d.a0,i64 a.x.d.a1,i64 a.x.d.a2,.slice a.x.p a.x.d.data.length a.x.c]),(wb,39,(wc {a with leak:=a.leak || !plainB a.fl,ap:=some aad,al:=(t0::ar)}))]++(TR++([])))++(TA++(TW++(TS++([])))))).m).cell encN (k:=0) (i:=0) (x:=t0) rfl rfl)):Ld Tryd.prog w22 (aad.add 0) 3 (i64 t0)) c0) fun fr hA=>?_)
             refine ⟨(hO.sub [0]),?_⟩
             exact ht2 _ _ ⟨hA.sb,hO.tt,trivial⟩
           exact trivial
         exact trivial
       refine tree_mem ?_ ?_
       · refine (Qc [(106,.slice (some aad) ((t0::ar).length) a.ac)] hA [.slice (some aad) ((t0::ar).length) a.ac] (cc (hO.l1 1 26 28 (.slice (some aad) ((t0::ar).length) a.ac)) c0) fun fr hA=>?_)
         refine ⟨(hO.sub [0]),?_⟩
         refine Kt [12] [(107,.slice (some aad) (((t0::ar).length) - (1)) ((a.ac) - (1)))] hA [bl false] (cc (⟨by omega,by omega,by omega,by omega,by omega⟩:(0:Int)<=1/\(1:Int)<=(((t0::ar).length:Nat):Int)/\(((t0::ar).length:Nat):Int)<=((a.ac:Nat):Int)/\((a.ac:Nat):Int)<=((a.ac:Nat):Int)/\((1:Int)=((a.ac:Nat):Int)\/(1:Int)=0)) c0) fun fr hA=>?_
         rw [show (((t0::ar).length) - (1))=ar.length from rfl] at hA
         rw [show ((a.ac) - (1))=(a.ac - 1) from rfl] at hA
         refine tree_mem ?_ ?_
         · refine (Qc [(99,.slice (some aad) ((t0::ar).length) a.ac),(107,.slice (some aad) ar.length (a.ac - 1))] hA [.slice (some aad) ((t0::ar).length) a.ac] (cc (hO.l1 1 26 28 (.slice (some aad) ((t0::ar).length) a.ac)) c0) fun fr hA=>?_)
           refine ⟨(hO.sub [0]),?_⟩
           refine Kt [5] [(100,.pointer (some (aad.add 0)))] hA [] (cc (⟨by omega,by omega⟩:(0:Int)<=0/\0 < (((t0::ar).length:Nat):Int)) c0) fun fr hA=>?_
           refine tree_mem ?_ ?_
           · refine (Qc [(101,i64 t0)] hA [i64 t0] (cc ((show Ld Tryd.prog _ (aad.add (0*1)) 3 (.int .i64 t0) from ld_cell (by kernel_rfl) ((show Vw fN _ (.slice (some aad) (t0::ar).length a.ac) (t0::ar) from hPA.vw (A:=([(b1,35,[i64 a.x.d.call,i64 a.x.d.a0,i64 a.x.d.a1,i64 a.x.d.a2,.slice a.x.p a.x.d.data.length a.x.c]),(wb,39,(wc {a with leak:=a.leak || !plainB a.fl,ap:=some aad,al:=(t0::ar)}))]++(TR++([])))) (B:=TW++(TS++([]))) (hO.tt:Ow Tryd.prog M w _ (([(b1,35,[i64 a.x.d.call,i64 a.x.d.a0,i64 a.x.d.a1,i64 a.x.d.a2,.slice a.x.p a.x.d.data.length a.x.c]),(wb,39,(wc {a with leak:=a.leak || !plainB a.fl,ap:=some aad,al:=(t0::ar)}))]++(TR++([])))++(TA++(TW++(TS++([])))))).m).cell encN (k:=0) (i:=0) (x:=t0) rfl rfl)):Ld Tryd.prog w22 (aad.add 0) 3 (i64 t0)) c0) fun fr hA=>?_)
             refine ⟨(hO.sub [0]),?_⟩
             exact ht2 _ _ ⟨hA.sb,hO,trivial⟩
           exact trivial
         exact trivial
       exact trivial
     rw [h6] at hA
     have h6p:=of_decide_eq_false h6
     have hal0:a.al=[]:=List.length_eq_zero_iff.1 (by omega)
     refine cF hA ?_
     refine wp_skip ?_
     refine inBlock_normal ?_
     replace hO:Ow Tryd.prog M w w17 ([(b1,35,[i64 a.x.d.call,i64 a.x.d.a0,i64 a.x.d.a1,i64 a.x.d.a2,.slice a.x.p a.x.d.data.length a.x.c]),(wb,39,(wc {a with leak:=a.leak || !plainB a.fl}))]++(TR++(TA++(TW++(TS++([])))))):=hO
     refine then_normal ?_
     exact ⟨{a with leak:=a.leak || !plainB a.fl},(-8),none,0,([]:List Int),TR,TA,TW,TS,([]:OwL),hA.ss,((Ow.subP (A:=[_,_]) hO (.cons _ (.cons_cons _ .slnil)))).tt,(One.nil _ _ _),(fun x h=>absurd h List.not_mem_nil),(Nat.zero_le _),⟨by omega,by omega⟩,(sw_wait0 (w:=a.d) h5p hal0),⟨hW.sm,hW.xl,hW.r,hW.al,hW.wl,hW.s,hW.ic,hW.fc⟩,(fun w_ h_=>⟨h_.e,h_.i,h_.f⟩)⟩
   refine rr 16 ?_
   refine Kb 6 [(74,pt wb),(78,bl a.leak),(79,bl a.leak)] hA [bl a.leak] (cc (hO.l1 1 31 4 (bl a.leak)) c0) fun fr hA=>?_
   rcases Bool.eq_false_or_eq_true (a.leak) with h7 | h7
   · rw [h7] at hA
     refine Ka 9 [(86,bl true),(88,pf wb 31)] hA fun fr hA=>?_
     refine wpOps_cons' (mSR (off:=31) (ad:=⟨wb,31,none⟩) (vc:=[bl true]) (l':=(wc {a with leak:=true})) 1 hA hO rfl (by kernel_rfl) (by kernel_rfl) fun w26 hO=>?_)
     refine end_ops ?_
     refine then_normal ?_
     replace hO:Ow Tryd.prog M w w26 ([(b1,35,[i64 a.x.d.call,i64 a.x.d.a0,i64 a.x.d.a1,i64 a.x.d.a2,.slice a.x.p a.x.d.data.length a.x.c]),(wb,39,(wc {a with leak:=true}))]++(TR++(TA++(TW++(TS++([])))))):=hO
     exact ⟨hA.sb,(hO).to (by rw [show (a.leak || !plainB a.fl)=(true) from by rw [h7]; rfl]),trivial⟩
   rw [h7] at hA
   refine Kb 4 [(79,bl false),(83,.agg (List.toArray (fl8 a.fl)))] hA [.agg (List.toArray (fl8 a.fl))] (cc (hO.ln 1 14 36 (fl8 a.fl)) c0) fun fr hA=>?_
   refine Mk 84 hA hO Tryd.func19 (plain_any a.fl _) fun fr w27 hA hO=>?_
   refine Ka 4 [(86,bl (!(plainB a.fl))),(88,pf wb 31)] hA fun fr hA=>?_
   refine wpOps_cons' (mSR (off:=31) (ad:=⟨wb,31,none⟩) (vc:=[bl (!(plainB a.fl))]) (l':=(wc {a with leak:=!(plainB a.fl)})) 1 hA hO rfl (by kernel_rfl) (by kernel_rfl) fun w28 hO=>?_)
   refine end_ops ?_
   refine then_normal ?_
   replace hO:Ow Tryd.prog M w w28 ([(b1,35,[i64 a.x.d.call,i64 a.x.d.a0,i64 a.x.d.a1,i64 a.x.d.a2,.slice a.x.p a.x.d.data.length a.x.c]),(wb,39,(wc {a with leak:=!(plainB a.fl)}))]++(TR++(TA++(TW++(TS++([])))))):=hO
   exact ⟨hA.sb,(hO).to (by rw [show (a.leak || !plainB a.fl)=(!(plainB a.fl)) from by rw [h7]; rfl]),trivial⟩
 rw [h5] at hA
 have h5p:=ne_of_beq_false h5
 refine cF hA ?_
 refine sJ (fun fr W=>Holds 282 [] fr [(0,pt wb),(2,pt b1),(3,i64 (-13)),(4,.slice none 0 0),(110,bl ((a.x.d.call == 8) || (a.x.d.call == 10)))]/\Ow Tryd.prog M w W ([(b1,35,[i64 a.x.d.call,i64 a.x.d.a0,i64 a.x.d.a1,i64 a.x.d.a2,.slice a.x.p a.x.d.data.length a.x.c]),(wb,39,(wc a))]++(TR++(TA++(TW++(TS++([]))))))/\True) ?_ ?_
 · rintro fr w29 ⟨hA,hO,-⟩
   rcases Bool.eq_false_or_eq_true ((a.x.d.call == 8) || (a.x.d.call == 10)) with h8 | h8
   · rw [h8] at hA
     refine cT hA ?_
     refine wp_seq ?_
     have hS:Ow Tryd.prog M w _ [(b1,35,[i64 a.x.d.call,i64 a.x.d.a0,i64 a.x.d.a1,i64 a.x.d.a2,.slice a.x.p a.x.d.data.length a.x.c])]:=hO.sub [0]
     refine rP [(0,true),(1,true),(2,true),(3,true),(4,true),(5,false),(6,true),(7,true),(8,true),(9,true),(10,true)] hS ?_
     intro w30 ho; replace hO:=hO.st ho; clear ho
     refine Ke 5 [(120,pt wb),(121,.agg #[i64 a.x.d.call,i64 a.x.d.a0,i64 a.x.d.a1,i64 a.x.d.a2,.slice a.x.p a.x.d.data.length a.x.c]),(124,pf wb 14)] hA [.agg #[i64 a.x.d.call,i64 a.x.d.a0,i64 a.x.d.a1,i64 a.x.d.a2,.slice a.x.p a.x.d.data.length a.x.c]] (cc (hS.sn 0 0 35 [i64 a.x.d.call,i64 a.x.d.a0,i64 a.x.d.a1,i64 a.x.d.a2,.slice a.x.p a.x.d.data.length a.x.c]) c0) fun fr hA=>?_
     refine plan_mem (mC (d:=(some 125)) hA Tryd.func20 ((file_one wb a a.x.p a.x.c a.x.d _ (Ow.self (A:=[_]) (hO.tt)) (fun w_ k_=>(in_last hW.s ((Ow.pan3 (A:=[_]) (hO.tt) k_).to (by first | (simp only [List.append_assoc,List.append_nil,List.cons_append,List.nil_append]; done) | (simp only [List.append_assoc,List.append_nil,List.cons_append,List.nil_append]; rfl)):Ow Tryd.prog M w w_ (([(b1,35,[i64 a.x.d.call,i64 a.x.d.a0,i64 a.x.d.a1,i64 a.x.d.a2,.slice a.x.p a.x.d.data.length a.x.c])]++(TR++(TA++(TW++([])))))++TS)).m).2) (by show 0<=a.told/\a.told<=1000000; omega) (by omega) (h810 (by assumption))).mono ?_))
     rintro en w31 ⟨q1,t1,hq1,htq1,rfl,hW_⟩
     refine ⟨_,rfl,?_⟩
     clear hA fr; intro fr hA
     replace hO:=Ow.pass (A:=[_]) hO hW_; clear hW_
     have htq1:t1=a.told+q1.2.2.2:=htq1
     have hres_:=fileF_res (x:=a.x.d) (f:=a.fl) hxl1
     have hq1:fileF a.x.d a.fl=q1:=hq1
     rw [hq1] at hres_
     refine ⟨(hO.sub [0]),?_⟩
     refine Kd 5 [(5,i64 q1.1),(6,bl q1.2.1)] hA fun fr hA=>?_
     refine end_plan ?_
     refine then_normal ?_
     refine sJ (fun fr W=>Holds 282 [] fr [(0,pt wb),(3,i64 (-13)),(4,.slice none 0 0),(5,i64 q1.1)]/\Ow Tryd.prog M w W ([(b1,35,[i64 a.x.d.call,i64 a.x.d.a0,i64 a.x.d.a1,i64 a.x.d.a2,.slice a.x.p a.x.d.data.length a.x.c]),(wb,39,(wc {a with fl:=q1.2.2.1,told:=t1,ok:=a.ok && q1.2.1}))]++(TR++(TA++(TW++(TS++([]))))))/\True) ?_ ?_
     · rintro fr w32 ⟨hA,hO,-⟩
       refine Rc [(3,i64 q1.1)] hA [] c0 fun fr hA=>?_
       refine inBlock_normal ?_
       replace hO:Ow Tryd.prog M w w32 ([(b1,35,[i64 a.x.d.call,i64 a.x.d.a0,i64 a.x.d.a1,i64 a.x.d.a2,.slice a.x.p a.x.d.data.length a.x.c]),(wb,39,(wc {a with fl:=q1.2.2.1,told:=t1,ok:=a.ok && q1.2.1}))]++(TR++(TA++(TW++(TS++([])))))):=hO
       refine then_normal ?_
       exact ⟨{a with fl:=q1.2.2.1,told:=t1,ok:=a.ok && q1.2.1},q1.1,none,0,([]:List Int),TR,TA,TW,TS,([]:OwL),hA.ss,((Ow.subP (A:=[_,_]) hO (.cons _ (.cons_cons _ .slnil)))).tt,(One.nil _ _ _),(fun x h=>absurd h List.not_mem_nil),(Nat.zero_le _),⟨by omega,by omega⟩,(by rw [sw_file (w:=a.d) (h810 (by assumption)) hq1]; show goW {a.d with fl:=q1.2.2.1,told:=a.told+q1.2.2.2,ok:=a.ok && q1.2.1} q1.1 []=_; rw [← htq1]; rfl),⟨hW.sm,hW.xl,hW.r,hW.al,hW.wl,hW.s,hW.ic,hW.fc⟩,(fun w_ h_=>⟨h_.e,h_.i,h_.f⟩)⟩
     refine rr 11 ?_
     refine Kb 6 [(128,pt wb),(132,bl a.ok),(133,bl a.ok)] hA [bl a.ok] (cc (hO.l1 1 32 4 (bl a.ok)) c0) fun fr hA=>?_
     rcases Bool.eq_false_or_eq_true (a.ok) with h9 | h9
     · rw [h9] at hA
       refine Ka 4 [(135,bl q1.2.1),(137,pf wb 32)] hA fun fr hA=>?_
       refine wpOps_cons' (mSR (off:=32) (ad:=⟨wb,32,none⟩) (vc:=[bl q1.2.1]) (l':=(wc {a with fl:=q1.2.2.1,told:=t1,ok:=q1.2.1})) 1 hA hO rfl (by kernel_rfl) (by kernel_rfl) fun w33 hO=>?_)
       refine end_ops ?_
       refine then_normal ?_
       replace hO:Ow Tryd.prog M w w33 ([(b1,35,[i64 a.x.d.call,i64 a.x.d.a0,i64 a.x.d.a1,i64 a.x.d.a2,.slice a.x.p a.x.d.data.length a.x.c]),(wb,39,(wc {a with fl:=q1.2.2.1,told:=t1,ok:=q1.2.1}))]++(TR++(TA++(TW++(TS++([])))))):=hO
       exact ⟨hA.sb,(hO).to (by rw [show (a.ok && q1.2.1)=q1.2.1 from by rw [h9]; rfl]),trivial⟩
     rw [h9] at hA
     refine Ka 4 [(135,bl false),(137,pf wb 32)] hA fun fr hA=>?_
     refine wpOps_cons' (mSR (off:=32) (ad:=⟨wb,32,none⟩) (vc:=[bl false]) (l':=(wc {a with fl:=q1.2.2.1,told:=t1,ok:=false})) 1 hA hO rfl (by kernel_rfl) (by kernel_rfl) fun w34 hO=>?_)
     refine end_ops ?_
     refine then_normal ?_
     replace hO:Ow Tryd.prog M w w34 ([(b1,35,[i64 a.x.d.call,i64 a.x.d.a0,i64 a.x.d.a1,i64 a.x.d.a2,.slice a.x.p a.x.d.data.length a.x.c]),(wb,39,(wc {a with fl:=q1.2.2.1,told:=t1,ok:=false}))]++(TR++(TA++(TW++(TS++([])))))):=hO
     exact ⟨hA.sb,(hO).to (by rw [show (a.ok && q1.2.1)=false from by rw [h9]; rfl]),trivial⟩
   rw [h8] at hA
   refine cF hA ?_
   refine sr 3 ?_
   refine Ka 1 [(140,pt wb)] hA fun fr hA=>?_
   replace hO:Ow Tryd.prog M w w29 ([(b1,35,[i64 a.x.d.call,i64 a.x.d.a0,i64 a.x.d.a1,i64 a.x.d.a2,.slice a.x.p a.x.d.data.length a.x.c]),(wb,39,(wc a))]++(TR++(TA++(TW++(TS++([])))))):=hO
   refine wpOps_cons' (mC (d:=(some 141)) hA Tryd.func21 ((failing_any wb a _ (Ow.self (A:=[_]) (hO.tt)) (hX _ hO.only).f hfc_).mono ?_))
   rintro en w35 ⟨rfl,fq1,fk1,hW,hfl1,hfv1⟩
   refine ⟨_,rfl,?_⟩
   clear hA fr; intro fr hA
   replace hO:=Ow.pass (A:=[_]) hO hW; clear hW
   refine Ka 1 [(139,bl (failL a.ff))] hA fun fr hA=>?_
   refine end_ops ?_
   refine then_normal ?_
   rcases Bool.eq_false_or_eq_true (failL a.ff) with h10 | h10
   · rw [h10] at hA
     refine cT hA ?_
     refine wp_skip ?_
     refine inBlock_normal ?_
     refine then_normal ?_
     exact ⟨{a with fp:=fq1,ff:=a.ff.tail,fc:=fk1},(-13),none,0,([]:List Int),TR,TA,TW,TS,([]:OwL),hA.ss,((Ow.subP (A:=[_,_]) hO (.cons _ (.cons_cons _ .slnil)))).tt,(One.nil _ _ _),(fun x h=>absurd h List.not_mem_nil),(Nat.zero_le _),⟨by omega,by omega⟩,(sw_fail (w:=a.d) ⟨h1p,h2p,h5p,n810 (by assumption)⟩ h10),⟨hW.sm,hW.xl,hW.r,hW.al,hW.wl,hW.s,hW.ic,hfl1⟩,(fun w_ h_=>⟨h_.e,h_.i,(hfv1 _ h_.f)⟩)⟩
   rw [h10] at hA
   refine cF hA ?_
   refine Sb [(142,bl (a.x.d.call == 11))] hA [i64 a.x.d.call] (cc (hO.l1 0 0 3 (i64 a.x.d.call)) c0) fun fr hA=>?_
   rcases Bool.eq_false_or_eq_true (a.x.d.call == 11) with h11 | h11
   · rw [h11] at hA
     have h11p:=eq_of_beq h11
     refine cT hA ?_
     refine sr 6 ?_
     refine Kb 4 [(149,.agg (List.toArray (fl8 a.fl)))] hA [.agg (List.toArray (fl8 a.fl))] (cc (hO.ln 1 14 36 (fl8 a.fl)) c0) fun fr hA=>?_
     refine Mn [str (⟨#[]⟩),str (⟨#[]⟩),str (⟨#[]⟩),str (⟨#[]⟩),str (⟨#[]⟩),str (⟨#[]⟩),str (⟨#[]⟩),str (⟨#[]⟩)] 36 7 hA hO fun fr w36 b2 hA hO=>?_
     refine Ms 0 (fl8 a.fl) 0 hA hO fun w37 hO=>?_
     refine end_ops ?_
     refine then_normal ?_
     refine sr 3 ?_
     refine Kb 1 [(150,.agg (List.toArray (fl8 a.fl)))] hA [.agg (List.toArray (fl8 a.fl))] (cc (hO.ln 0 0 36 (fl8 a.fl)) c0) fun fr hA=>?_
     refine Mk 151 hA hO Tryd.func22 (free_any a.fl _) fun fr w38 hA hO=>?_
     refine Ka 1 [(8,i64 (freeF a.fl))] hA fun fr hA=>?_
     refine end_ops ?_
     refine then_normal ?_
     refine wp_seq ?_
     refine Sa [(153,bl (decide ((freeF a.fl) ≥ 0)))] hA fun fr hA=>?_
     rcases Bool.eq_false_or_eq_true (decide ((freeF a.fl) ≥ 0)) with h12 | h12
     · rw [h12] at hA
       have h12p:=of_decide_eq_true h12
       refine cT hA ?_
       refine rr 3 ?_
       refine Kb 2 [(155,.pointer (some ((⟨b2,0,none⟩:Addr).add ((freeF a.fl).toNat))))] hA [] (cc (⟨by omega,by omega⟩:(0:Int)<=freeF a.fl/\freeF a.fl < ((8:Nat):Int)) c0) fun fr hA=>?_
       refine wpOps_cons' (mSR (off:=((freeF a.fl).toNat)) (ad:=(⟨b2,0,none⟩:Addr).add ((freeF a.fl).toNat)) (vc:=[str (⟨#[114]⟩)]) (l':=(fl8 (a.fl.set ((freeF a.fl).toNat) (⟨#[114]⟩:ByteArray)))) 0 hA hO (add_zero_off _ _) (fl8_fit (by omega)) (fl8_set (by omega)) fun w39 hO=>?_)
       refine end_ops ?_
       refine then_normal ?_
       refine sr 3 ?_
       refine Kb 1 [(156,.agg (List.toArray (fl8 (a.fl.set ((freeF a.fl).toNat) (⟨#[114]⟩:ByteArray)))))] hA [.agg (List.toArray (fl8 (a.fl.set ((freeF a.fl).toNat) (⟨#[114]⟩:ByteArray))))] (cc (hO.ln 0 0 36 (fl8 (a.fl.set ((freeF a.fl).toNat) (⟨#[114]⟩:ByteArray)))) c0) fun fr hA=>?_
       refine Mk 157 hA hO Tryd.func22 (free_any (a.fl.set ((freeF a.fl).toNat) (⟨#[114]⟩:ByteArray)) _) fun fr w40 hA hO=>?_
       refine Ka 1 [(9,i64 (freeF (a.fl.set ((freeF a.fl).toNat) (⟨#[114]⟩:ByteArray))))] hA fun fr hA=>?_
       refine end_ops ?_
       refine then_normal ?_
       refine Sa [(159,bl (decide ((freeF (a.fl.set ((freeF a.fl).toNat) (⟨#[114]⟩:ByteArray))) ≥ 0)))] hA fun fr hA=>?_
       rcases Bool.eq_false_or_eq_true (decide ((freeF (a.fl.set ((freeF a.fl).toNat) (⟨#[114]⟩:ByteArray))) ≥ 0)) with h13 | h13
       · rw [h13] at hA
         have h13p:=of_decide_eq_true h13
         have hfb_:=free_lt (a.fl.set (freeF a.fl).toNat ⟨#[114]⟩)
         have hne_:=mid_ne (f:=a.fl) (by assumption) (by assumption)
         refine cT hA ?_
         refine sr 8 ?_
         refine Kb 7 [(164,i64 (a.pipes+1)),(166,pf wb 24)] hA [i64 a.pipes,bl true] (cc (hO.l1 2 24 3 (i64 a.pipes)) (cc ((inK_i64 (by omega) (by omega)):inK .i64 (a.pipes+1)) c0)) fun fr hA=>?_
         refine wpOps_cons' (mSR (off:=24) (ad:=⟨wb,24,none⟩) (vc:=[i64 (a.pipes+1)]) (l':=(wc {a with fp:=fq1,ff:=a.ff.tail,fc:=fk1,pipes:=a.pipes+1})) 2 hA hO rfl (by kernel_rfl) (by kernel_rfl) fun w41 hO=>?_)
         refine end_ops ?_
         refine then_normal ?_
         refine sJ (fun fr W=>Holds 282 [] fr [(0,pt wb),(3,i64 (-13)),(4,.slice none 0 0),(8,i64 (freeF a.fl)),(9,i64 (freeF (a.fl.set ((freeF a.fl).toNat) (⟨#[114]⟩:ByteArray))))]/\Ow Tryd.prog M w W ([(b2,36,(fl8 (a.fl.set ((freeF a.fl).toNat) (⟨#[114]⟩:ByteArray)))),(b1,35,[i64 a.x.d.call,i64 a.x.d.a0,i64 a.x.d.a1,i64 a.x.d.a2,.slice a.x.p a.x.d.data.length a.x.c]),(wb,39,(wc {a with fp:=fq1,ff:=a.ff.tail,fc:=fk1,pipes:=a.pipes+1,fl:=(a.fl.set ((freeF a.fl).toNat) ((⟨#[114]⟩:ByteArray)++(Utf8.encode (97+((a.pipes+1) % 26))))).set ((freeF (a.fl.set ((freeF a.fl).toNat) (⟨#[114]⟩:ByteArray))).toNat) ((⟨#[119]⟩:ByteArray)++(Utf8.encode (97+((a.pipes+1) % 26))))}))]++(TR++(TA++(TW++(TS++([]))))))/\True) ?_ ?_
         · rintro fr w42 ⟨hA,hO,-⟩
           refine Rc [(3,i64 ((256*(freeF a.fl))+(freeF (a.fl.set ((freeF a.fl).toNat) (⟨#[114]⟩:ByteArray)))))] hA [bl true,bl true] (cc ((inK_i64 (by omega) (by omega)):inK .i64 (256*(freeF a.fl))) (cc ((inK_i64 (by omega) (by omega)):inK .i64 ((256*(freeF a.fl))+(freeF (a.fl.set ((freeF a.fl).toNat) (⟨#[114]⟩:ByteArray))))) c0)) fun fr hA=>?_
           refine inBlock_normal ?_
           replace hO:Ow Tryd.prog M w w42 ([(b2,36,(fl8 (a.fl.set ((freeF a.fl).toNat) (⟨#[114]⟩:ByteArray)))),(b1,35,[i64 a.x.d.call,i64 a.x.d.a0,i64 a.x.d.a1,i64 a.x.d.a2,.slice a.x.p a.x.d.data.length a.x.c]),(wb,39,(wc {a with fp:=fq1,ff:=a.ff.tail,fc:=fk1,pipes:=a.pipes+1,fl:=(a.fl.set ((freeF a.fl).toNat) ((⟨#[114]⟩:ByteArray)++(Utf8.encode (97+((a.pipes+1) % 26))))).set ((freeF (a.fl.set ((freeF a.fl).toNat) (⟨#[114]⟩:ByteArray))).toNat) ((⟨#[119]⟩:ByteArray)++(Utf8.encode (97+((a.pipes+1) % 26))))}))]++(TR++(TA++(TW++(TS++([])))))):=hO
           refine then_normal ?_
           exact ⟨{a with fp:=fq1,ff:=a.ff.tail,fc:=fk1,pipes:=a.pipes+1,fl:=(a.fl.set ((freeF a.fl).toNat) ((⟨#[114]⟩:ByteArray)++(Utf8.encode (97+((a.pipes+1) % 26))))).set ((freeF (a.fl.set ((freeF a.fl).toNat) (⟨#[114]⟩:ByteArray))).toNat) ((⟨#[119]⟩:ByteArray)++(Utf8.encode (97+((a.pipes+1) % 26))))},(256*(freeF a.fl))+(freeF (a.fl.set ((freeF a.fl).toNat) (⟨#[114]⟩:ByteArray))),none,0,([]:List Int),TR,TA,TW,TS,([]:OwL),hA.ss,((Ow.subP (A:=[_,_,_]) hO (.cons _ (.cons _ (.cons_cons _ .slnil))))).tt,(One.nil _ _ _),(fun x h=>absurd h List.not_mem_nil),(Nat.zero_le _),⟨by omega,by omega⟩,((sw_pipe (w:=a.d) ⟨h1p,h2p,h5p,n810 (by assumption)⟩ h10 h11p).trans (pipe_y (w:=failT a.d) (f:=a.fl) rfl h12p h13p)),⟨hW.sm,hW.xl,hW.r,hW.al,hW.wl,hW.s,hW.ic,hfl1⟩,(fun w_ h_=>⟨h_.e,h_.i,(hfv1 _ h_.f)⟩)⟩
         have hS:=hO.pk [0,1]
         refine rT (.q 0 (.q 1 (.q 2 (.q 3 (.q 4 (.q 5 (.q 6 (.q 13 (.q 14 (.q 15 (.q 22 (.q 23 (.q 26 (.q 27 (.m 7 (.q 8 (.q 9 (.q 10 (.q 11 (.q 12 (.m 16 (.q 17 (.q 18 (.q 19 (.q 20 (.q 21 (.q 24 (.m 25 (.q 28 (.m 29 .fin .non)) .non))))))) .non)))))) (.m 16 (.q 17 (.q 18 (.q 19 (.q 20 (.q 21 (.m 7 (.q 8 (.q 9 (.q 10 (.q 11 (.q 12 (.q 24 (.m 25 (.q 28 (.m 29 .fin .non)) .non))))))) .non)))))) .non)))))))))))))))) hS ?_
         intro w43 ho; replace hO:=hO.st ho; clear ho
         refine Kt [0,1,2,3,4,5,6,13,14,15,22,23,26,27] [(168,i64 (freeF a.fl)),(170,i64 (freeF (a.fl.set ((freeF a.fl).toNat) (⟨#[114]⟩:ByteArray)))),(173,pf wb 24),(182,pf wb 24),(190,pf wb 14),(193,pf wb 14)] hA [] c0 fun fr hA=>?_
         refine tree_mem ?_ ?_
         · refine (Qc [(174,i64 (a.pipes+1))] hA [i64 (a.pipes+1)] (cc (hO.l1 2 24 3 (i64 (a.pipes+1))) c0) fun fr hA=>?_)
           refine ⟨(hO.sub [0,1]),?_⟩
           refine Kt [8,9,10,11,12] [(179,str ((⟨#[114]⟩:ByteArray)++(Utf8.encode (97+((a.pipes+1) % 26)))))] hA [bl true,bl true,bl true] (cc (⟨by omega,by omega,inK_i64 (by omega) (by omega)⟩:(0:Int)<=a.pipes+1/\(0:Int) < 26/\inK .i64 (a.pipes+1)) (cc ((inK_i64 (by omega) (by omega)):inK .i64 (97+((a.pipes+1) % 26))) (cc ((inK_i32 (by omega) (by omega)):inK .i32 (97+((a.pipes+1) % 26))) (cc ((by have e_:=enc4 (97+(a.pipes+1) % 26); have z1_:(⟨#[114]⟩:ByteArray).size=1:=rfl; have z2_:(⟨#[119]⟩:ByteArray).size=1:=rfl; omega):(⟨#[114]⟩:ByteArray).size+(Utf8.encode (97+((a.pipes+1) % 26))).size<=9223372036854775807) c0)))) fun fr hA=>?_
           refine tree_mem ?_ ?_
           · refine (Qc [(183,i64 (a.pipes+1))] hA [i64 (a.pipes+1)] (cc (hO.l1 2 24 3 (i64 (a.pipes+1))) c0) fun fr hA=>?_)
             refine ⟨(hO.sub [0,1]),?_⟩
             refine Kt [17,18,19,20,21,24] [(188,str ((⟨#[119]⟩:ByteArray)++(Utf8.encode (97+((a.pipes+1) % 26))))),(191,.pointer (some ((⟨wb,14,none⟩:Addr).add ((freeF a.fl).toNat))))] hA [bl true,bl true,bl true] (cc (⟨by omega,by omega,inK_i64 (by omega) (by omega)⟩:(0:Int)<=a.pipes+1/\(0:Int) < 26/\inK .i64 (a.pipes+1)) (cc ((inK_i64 (by omega) (by omega)):inK .i64 (97+((a.pipes+1) % 26))) (cc ((inK_i32 (by omega) (by omega)):inK .i32 (97+((a.pipes+1) % 26))) (cc ((by have e_:=enc4 (97+(a.pipes+1) % 26); have z1_:(⟨#[114]⟩:ByteArray).size=1:=rfl; have z2_:(⟨#[119]⟩:ByteArray).size=1:=rfl; omega):(⟨#[119]⟩:ByteArray).size+(Utf8.encode (97+((a.pipes+1) % 26))).size<=9223372036854775807) (cc (⟨by omega,by omega⟩:(0:Int)<=freeF a.fl/\freeF a.fl < ((8:Nat):Int)) c0))))) fun fr hA=>?_
             refine tree_mem ?_ ?_
             · refine (mSR (off:=14+((freeF a.fl).toNat)) (ad:=(⟨wb,14,none⟩:Addr).add ((freeF a.fl).toNat)) (vc:=[str ((⟨#[114]⟩:ByteArray)++(Utf8.encode (97+((a.pipes+1) % 26))))]) (l':=(wc {a with fp:=fq1,ff:=a.ff.tail,fc:=fk1,pipes:=a.pipes+1,fl:=a.fl.set ((freeF a.fl).toNat) ((⟨#[114]⟩:ByteArray)++(Utf8.encode (97+((a.pipes+1) % 26))))})) 2 hA hO (add_off _ _ _) (wc_fit (by omega)) (wc_set (by omega)) fun w44 hO=>?_)
               refine ⟨(hO.sub [0,1]),?_⟩
               refine Kt [28] [(194,.pointer (some ((⟨wb,14,none⟩:Addr).add ((freeF (a.fl.set ((freeF a.fl).toNat) (⟨#[114]⟩:ByteArray))).toNat))))] hA [] (cc (⟨by omega,by omega⟩:(0:Int)<=freeF (a.fl.set ((freeF a.fl).toNat) (⟨#[114]⟩:ByteArray))/\freeF (a.fl.set ((freeF a.fl).toNat) (⟨#[114]⟩:ByteArray)) < ((8:Nat):Int)) c0) fun fr hA=>?_
               refine tree_mem ?_ ?_
               · refine (mSR (off:=14+((freeF (a.fl.set ((freeF a.fl).toNat) (⟨#[114]⟩:ByteArray))).toNat)) (ad:=(⟨wb,14,none⟩:Addr).add ((freeF (a.fl.set ((freeF a.fl).toNat) (⟨#[114]⟩:ByteArray))).toNat)) (vc:=[str ((⟨#[119]⟩:ByteArray)++(Utf8.encode (97+((a.pipes+1) % 26))))]) (l':=(wc {a with fp:=fq1,ff:=a.ff.tail,fc:=fk1,pipes:=a.pipes+1,fl:=(a.fl.set ((freeF a.fl).toNat) ((⟨#[114]⟩:ByteArray)++(Utf8.encode (97+((a.pipes+1) % 26))))).set ((freeF (a.fl.set ((freeF a.fl).toNat) (⟨#[114]⟩:ByteArray))).toNat) ((⟨#[119]⟩:ByteArray)++(Utf8.encode (97+((a.pipes+1) % 26))))})) 2 hA hO (add_off _ _ _) (wc_fit (by omega)) (wc_set (by omega)) fun w45 hO=>?_)
                 refine ⟨(hO.sub [0,1]),?_⟩
                 refine tree_fin ?_
                 refine then_normal ?_
                 exact ⟨hA.sb,hO,trivial⟩
               exact trivial
             exact trivial
           exact trivial
         refine tree_mem ?_ ?_
         · refine (Qc [(183,i64 (a.pipes+1))] hA [i64 (a.pipes+1)] (cc (hO.l1 2 24 3 (i64 (a.pipes+1))) c0) fun fr hA=>?_)
           refine ⟨(hO.sub [0,1]),?_⟩
           refine Kt [17,18,19,20,21] [(188,str ((⟨#[119]⟩:ByteArray)++(Utf8.encode (97+((a.pipes+1) % 26)))))] hA [bl true,bl true,bl true] (cc (⟨by omega,by omega,inK_i64 (by omega) (by omega)⟩:(0:Int)<=a.pipes+1/\(0:Int) < 26/\inK .i64 (a.pipes+1)) (cc ((inK_i64 (by omega) (by omega)):inK .i64 (97+((a.pipes+1) % 26))) (cc ((inK_i32 (by omega) (by omega)):inK .i32 (97+((a.pipes+1) % 26))) (cc ((by have e_:=enc4 (97+(a.pipes+1) % 26); have z1_:(⟨#[114]⟩:ByteArray).size=1:=rfl; have z2_:(⟨#[119]⟩:ByteArray).size=1:=rfl; omega):(⟨#[119]⟩:ByteArray).size+(Utf8.encode (97+((a.pipes+1) % 26))).size<=9223372036854775807) c0)))) fun fr hA=>?_
           refine tree_mem ?_ ?_
           · refine (Qc [(174,i64 (a.pipes+1))] hA [i64 (a.pipes+1)] (cc (hO.l1 2 24 3 (i64 (a.pipes+1))) c0) fun fr hA=>?_)
             refine ⟨(hO.sub [0,1]),?_⟩
             refine Kt [8,9,10,11,12,24] [(179,str ((⟨#[114]⟩:ByteArray)++(Utf8.encode (97+((a.pipes+1) % 26))))),(191,.pointer (some ((⟨wb,14,none⟩:Addr).add ((freeF a.fl).toNat))))] hA [bl true,bl true,bl true] (cc (⟨by omega,by omega,inK_i64 (by omega) (by omega)⟩:(0:Int)<=a.pipes+1/\(0:Int) < 26/\inK .i64 (a.pipes+1)) (cc ((inK_i64 (by omega) (by omega)):inK .i64 (97+((a.pipes+1) % 26))) (cc ((inK_i32 (by omega) (by omega)):inK .i32 (97+((a.pipes+1) % 26))) (cc ((by have e_:=enc4 (97+(a.pipes+1) % 26); have z1_:(⟨#[114]⟩:ByteArray).size=1:=rfl; have z2_:(⟨#[119]⟩:ByteArray).size=1:=rfl; omega):(⟨#[114]⟩:ByteArray).size+(Utf8.encode (97+((a.pipes+1) % 26))).size<=9223372036854775807) (cc (⟨by omega,by omega⟩:(0:Int)<=freeF a.fl/\freeF a.fl < ((8:Nat):Int)) c0))))) fun fr hA=>?_
             refine tree_mem ?_ ?_
             · refine (mSR (off:=14+((freeF a.fl).toNat)) (ad:=(⟨wb,14,none⟩:Addr).add ((freeF a.fl).toNat)) (vc:=[str ((⟨#[114]⟩:ByteArray)++(Utf8.encode (97+((a.pipes+1) % 26))))]) (l':=(wc {a with fp:=fq1,ff:=a.ff.tail,fc:=fk1,pipes:=a.pipes+1,fl:=a.fl.set ((freeF a.fl).toNat) ((⟨#[114]⟩:ByteArray)++(Utf8.encode (97+((a.pipes+1) % 26))))})) 2 hA hO (add_off _ _ _) (wc_fit (by omega)) (wc_set (by omega)) fun w46 hO=>?_)
               refine ⟨(hO.sub [0,1]),?_⟩
               refine Kt [28] [(194,.pointer (some ((⟨wb,14,none⟩:Addr).add ((freeF (a.fl.set ((freeF a.fl).toNat) (⟨#[114]⟩:ByteArray))).toNat))))] hA [] (cc (⟨by omega,by omega⟩:(0:Int)<=freeF (a.fl.set ((freeF a.fl).toNat) (⟨#[114]⟩:ByteArray))/\freeF (a.fl.set ((freeF a.fl).toNat) (⟨#[114]⟩:ByteArray)) < ((8:Nat):Int)) c0) fun fr hA=>?_
               refine tree_mem ?_ ?_
               · refine (mSR (off:=14+((freeF (a.fl.set ((freeF a.fl).toNat) (⟨#[114]⟩:ByteArray))).toNat)) (ad:=(⟨wb,14,none⟩:Addr).add ((freeF (a.fl.set ((freeF a.fl).toNat) (⟨#[114]⟩:ByteArray))).toNat)) (vc:=[str ((⟨#[119]⟩:ByteArray)++(Utf8.encode (97+((a.pipes+1) % 26))))]) (l':=(wc {a with fp:=fq1,ff:=a.ff.tail,fc:=fk1,pipes:=a.pipes+1,fl:=(a.fl.set ((freeF a.fl).toNat) ((⟨#[114]⟩:ByteArray)++(Utf8.encode (97+((a.pipes+1) % 26))))).set ((freeF (a.fl.set ((freeF a.fl).toNat) (⟨#[114]⟩:ByteArray))).toNat) ((⟨#[119]⟩:ByteArray)++(Utf8.encode (97+((a.pipes+1) % 26))))})) 2 hA hO (add_off _ _ _) (wc_fit (by omega)) (wc_set (by omega)) fun w47 hO=>?_)
                 refine ⟨(hO.sub [0,1]),?_⟩
                 refine tree_fin ?_
                 refine then_normal ?_
                 exact ⟨hA.sb,hO,trivial⟩
               exact trivial
             exact trivial
           exact trivial
         exact trivial
       rw [h13] at hA
       have h13p:=of_decide_eq_false h13
       refine cF hA ?_
       refine wp_skip ?_
       refine inBlock_normal ?_
       refine then_normal ?_
       exact ⟨{a with fp:=fq1,ff:=a.ff.tail,fc:=fk1},(-13),none,0,([]:List Int),TR,TA,TW,TS,([]:OwL),hA.ss,((Ow.subP (A:=[_,_,_]) hO (.cons _ (.cons _ (.cons_cons _ .slnil))))).tt,(One.nil _ _ _),(fun x h=>absurd h List.not_mem_nil),(Nat.zero_le _),⟨by omega,by omega⟩,((sw_pipe (w:=a.d) ⟨h1p,h2p,h5p,n810 (by assumption)⟩ h10 h11p).trans (pipe_n (w:=failT a.d) (f:=a.fl) rfl h12p h13p)),⟨hW.sm,hW.xl,hW.r,hW.al,hW.wl,hW.s,hW.ic,hfl1⟩,(fun w_ h_=>⟨h_.e,h_.i,(hfv1 _ h_.f)⟩)⟩
     rw [h12] at hA
     have h12p:=of_decide_eq_false h12
     refine cF hA ?_
     refine wp_skip ?_
     refine then_normal ?_
     refine sr 3 ?_
     refine Kb 1 [(156,.agg (List.toArray (fl8 a.fl)))] hA [.agg (List.toArray (fl8 a.fl))] (cc (hO.ln 0 0 36 (fl8 a.fl)) c0) fun fr hA=>?_
     refine Mk 157 hA hO Tryd.func22 (free_any a.fl _) fun fr w48 hA hO=>?_
     refine Ka 1 [(9,i64 (freeF a.fl))] hA fun fr hA=>?_
     refine end_ops ?_
     refine then_normal ?_
     refine Sa [(159,bl (decide ((freeF a.fl) ≥ 0)))] hA fun fr hA=>?_
     rw [(h12:(decide ((freeF a.fl) ≥ 0))=false)] at hA
     refine cF hA ?_
     refine wp_skip ?_
     refine inBlock_normal ?_
     refine then_normal ?_
     exact ⟨{a with fp:=fq1,ff:=a.ff.tail,fc:=fk1},(-13),none,0,([]:List Int),TR,TA,TW,TS,([]:OwL),hA.ss,((Ow.subP (A:=[_,_,_]) hO (.cons _ (.cons _ (.cons_cons _ .slnil))))).tt,(One.nil _ _ _),(fun x h=>absurd h List.not_mem_nil),(Nat.zero_le _),⟨by omega,by omega⟩,((sw_pipe (w:=a.d) ⟨h1p,h2p,h5p,n810 (by assumption)⟩ h10 h11p).trans (pipe_0 (w:=failT a.d) (f:=a.fl) rfl h12p)),⟨hW.sm,hW.xl,hW.r,hW.al,hW.wl,hW.s,hW.ic,hfl1⟩,(fun w_ h_=>⟨h_.e,h_.i,(hfv1 _ h_.f)⟩)⟩
   rw [h11] at hA
   have h11p:=ne_of_beq_false h11
   refine cF hA ?_
   refine sr 11 ?_
   refine Kb 4 [(202,bl (a.x.d.call == 1)),(203,bl (a.x.d.call == 1))] hA [i64 a.x.d.call] (cc (hO.l1 0 0 3 (i64 a.x.d.call)) c0) fun fr hA=>?_
   rcases Bool.eq_false_or_eq_true (a.x.d.call == 1) with h14 | h14
   · rw [h14] at hA
     have h14p:=eq_of_beq h14
     refine Kb 7 [(199,bl (decide (a.tasks < 15)))] hA [i64 a.tasks] (cc (hO.l1 1 25 3 (i64 a.tasks)) c0) fun fr hA=>?_
     refine end_ops ?_
     refine then_normal ?_
     rcases Bool.eq_false_or_eq_true (decide (a.tasks < 15)) with h15 | h15
     · rw [h15] at hA
       have h15p:=of_decide_eq_true h15
       refine cT hA ?_
       refine sJ (fun fr W=>∃ (pJ1:Option Addr) (cJ1:Nat) (TJ1:OwL),Holds 282 [] fr [(0,pt wb),(3,i64 (-13)),(4,.slice none 0 0)]/\Ow Tryd.prog M w W ([(b1,35,[i64 a.x.d.call,i64 a.x.d.a0,i64 a.x.d.a1,i64 a.x.d.a2,.slice a.x.p a.x.d.data.length a.x.c]),(wb,39,(wc {a with fp:=fq1,ff:=a.ff.tail,fc:=fk1,wp:=pJ1,wl:=a.wl++([a.tasks - ((a.al.length:Nat):Int)]:List Int),wk:=cJ1}))]++(TR++(TA++(TJ1++(TS++([]))))))/\One fN 3 1 pJ1 cJ1 (a.wl++([a.tasks - ((a.al.length:Nat):Int)]:List Int)) TJ1/\True) ?_ ?_
       · rintro fr w49 ⟨pJ1,cJ1,TJ1,hA,hO,hTJ1,-⟩
         refine sr 8 ?_
         refine Kb 7 [(233,i64 (a.tasks+1)),(235,pf wb 25)] hA [i64 a.tasks,bl true] (cc (hO.l1 1 25 3 (i64 a.tasks)) (cc ((inK_i64 (by omega) (by omega)):inK .i64 (a.tasks+1)) c0)) fun fr hA=>?_
         refine wpOps_cons' (mSR (off:=25) (ad:=⟨wb,25,none⟩) (vc:=[i64 (a.tasks+1)]) (l':=(wc {a with fp:=fq1,ff:=a.ff.tail,fc:=fk1,wp:=pJ1,wl:=a.wl++([a.tasks - ((a.al.length:Nat):Int)]:List Int),wk:=cJ1,tasks:=a.tasks+1})) 1 hA hO rfl (by kernel_rfl) (by kernel_rfl) fun w50 hO=>?_)
         refine end_ops ?_
         refine then_normal ?_
         refine Sb [(10,i64 (16+(a.tasks+1)))] hA [i64 (a.tasks+1),bl true] (cc (hO.l1 1 25 3 (i64 (a.tasks+1))) (cc ((inK_i64 (by omega) (by omega)):inK .i64 (16+(a.tasks+1))) c0)) fun fr hA=>?_
         refine sr 11 ?_
         refine Kb 6 [(241,pt wb),(245,.slice a.ap a.al.length a.ac),(246,i64 (16+(a.tasks+1)))] hA [.slice a.ap a.al.length a.ac] (cc (hO.l1 1 26 28 (.slice a.ap a.al.length a.ac)) c0) fun fr hA=>?_
         refine Mv [i64 (16+(a.tasks+1))] 3 1 247 hA hO fun fr w51 b3 hA hO=>?_
         replace hO:Ow Tryd.prog M w w51 ([(b3,3,[i64 (16+(a.tasks+1))]),(b1,35,[i64 a.x.d.call,i64 a.x.d.a0,i64 a.x.d.a1,i64 a.x.d.a2,.slice a.x.p a.x.d.data.length a.x.c]),(wb,39,(wc {a with fp:=fq1,ff:=a.ff.tail,fc:=fk1,wp:=pJ1,wl:=a.wl++([a.tasks - ((a.al.length:Nat):Int)]:List Int),wk:=cJ1,tasks:=a.tasks+1}))]++(TR++(TA++(TJ1++(TS++([])))))):=hO
         refine wpOps_cons' (mAO (f:=fN) (el:=3) (sz:=1) (bytes:=8) (p:=a.ap) (c:=a.ac) (l:=a.al) (l':=([16+(a.tasks+1)]:List Int)) (T:=TA) (t:=28) (tx:=28) (ty:=28) (x:= .slice (some ⟨b3,0,none⟩) 1 1) (d:=248) ([(b3,3,[i64 (16+(a.tasks+1))]),(b1,35,[i64 a.x.d.call,i64 a.x.d.a0,i64 a.x.d.a1,i64 a.x.d.a2,.slice a.x.p a.x.d.data.length a.x.c]),(wb,39,(wc {a with fp:=fq1,ff:=a.ff.tail,fc:=fk1,wp:=pJ1,wl:=a.wl++([a.tasks - ((a.al.length:Nat):Int)]:List Int),wk:=cJ1,tasks:=a.tasks+1}))]++(TR++([]))) (TJ1++(TS++([]))) encN hA (hO.tt:Ow Tryd.prog M w _ (([(b3,3,[i64 (16+(a.tasks+1))]),(b1,35,[i64 a.x.d.call,i64 a.x.d.a0,i64 a.x.d.a1,i64 a.x.d.a2,.slice a.x.p a.x.d.data.length a.x.c]),(wb,39,(wc {a with fp:=fq1,ff:=a.ff.tail,fc:=fk1,wp:=pJ1,wl:=a.wl++([a.tasks - ((a.al.length:Nat):Int)]:List Int),wk:=cJ1,tasks:=a.tasks+1}))]++(TR++([])))++(TA++(TJ1++(TS++([])))))) hW.al (Vw.src (e':=3) encN ((hO.b 0).vw (off:=0) (xs:=([16+(a.tasks+1)]:List Int)) (by kernel_rfl)) (by kernel_rfl)) (by first | omega | (simp only [List.length_append,List.length_cons,List.length_nil]; omega)) (by unfold maxLen; first | omega | (simp only [List.length_append,List.length_cons,List.length_nil]; omega)) fun fr w52 p2 c2 T2 hA hO hT2=>?_)
         replace hO:Ow Tryd.prog M w w52 ([(b3,3,[i64 (16+(a.tasks+1))]),(b1,35,[i64 a.x.d.call,i64 a.x.d.a0,i64 a.x.d.a1,i64 a.x.d.a2,.slice a.x.p a.x.d.data.length a.x.c]),(wb,39,(wc {a with fp:=fq1,ff:=a.ff.tail,fc:=fk1,wp:=pJ1,wl:=a.wl++([a.tasks - ((a.al.length:Nat):Int)]:List Int),wk:=cJ1,tasks:=a.tasks+1}))]++(TR++(T2++(TJ1++(TS++([])))))):=hO.to (by first | rfl | (simp only [TP,apd]))
         refine Ka 2 [(250,pf wb 26)] hA fun fr hA=>?_
         refine wpOps_cons' (mSR (off:=26) (ad:=⟨wb,26,none⟩) (vc:=[.slice p2 ((a.al++([16+(a.tasks+1)]:List Int)).length) c2]) (l':=(wc {a with fp:=fq1,ff:=a.ff.tail,fc:=fk1,wp:=pJ1,wl:=a.wl++([a.tasks - ((a.al.length:Nat):Int)]:List Int),wk:=cJ1,tasks:=a.tasks+1,ap:=p2,al:=a.al++([16+(a.tasks+1)]:List Int),ac:=c2})) 2 hA hO rfl (by kernel_rfl) (by kernel_rfl) fun w53 hO=>?_)
         refine end_ops ?_
         refine then_normal ?_
         refine wp_seq ?_
         have hS:Ow Tryd.prog M w _ [(b3,3,[i64 (16+(a.tasks+1))]),(b1,35,[i64 a.x.d.call,i64 a.x.d.a0,i64 a.x.d.a1,i64 a.x.d.a2,.slice a.x.p a.x.d.data.length a.x.c])]:=hO.sub [0,1]
         refine rT (.q 0 (.q 1 (.q 2 (.q 3 (.q 5 (.q 6 (.q 7 (.m 4 (.m 8 (.m 9 .fin .non) .non) (.m 8 (.m 4 (.m 9 .fin .non) .non) .non))))))))) hS ?_
         intro w54 ho; replace hO:=hO.st ho; clear ho
         refine tree_let (t1:= .m 9 .fin .non) (fun fr W=>Holds 282 [] fr [(0,pt wb),(3,i64 (-13)),(4,.slice none 0 0),(10,i64 (16+(a.tasks+1))),(251,pt wb),(255,.agg #[i64 a.sv.mo,i64 a.sv.po,str a.sv.inp,.slice a.sv.pj a.sv.lj.length a.sv.cj,i64 a.sv.rd,i64 a.sv.wr,i64 a.sv.pv,.slice a.sv.pc a.sv.lc.length a.sv.cc,.slice a.sv.pp a.sv.lp.length a.sv.cp]),(259,.agg (List.toArray (fl8 a.fl)))]/\Ow Tryd.prog M w W ([(b3,3,[i64 (16+(a.tasks+1))]),(b1,35,[i64 a.x.d.call,i64 a.x.d.a0,i64 a.x.d.a1,i64 a.x.d.a2,.slice a.x.p a.x.d.data.length a.x.c]),(wb,39,(wc {a with fp:=fq1,ff:=a.ff.tail,fc:=fk1,wp:=pJ1,wl:=a.wl++([a.tasks - ((a.al.length:Nat):Int)]:List Int),wk:=cJ1,tasks:=a.tasks+1,ap:=p2,al:=a.al++([16+(a.tasks+1)]:List Int),ac:=c2}))]++(TR++(T2++(TJ1++(TS++([]))))))/\True) ?_ ?_
         · rintro fr w55 ⟨hA,hO,-⟩
           refine tree_mem ?_ ?_
           · replace hO:Ow Tryd.prog M w w55 ([(b3,3,[i64 (16+(a.tasks+1))]),(b1,35,[i64 a.x.d.call,i64 a.x.d.a0,i64 a.x.d.a1,i64 a.x.d.a2,.slice a.x.p a.x.d.data.length a.x.c]),(wb,39,(wc {a with fp:=fq1,ff:=a.ff.tail,fc:=fk1,wp:=pJ1,wl:=a.wl++([a.tasks - ((a.al.length:Nat):Int)]:List Int),wk:=cJ1,tasks:=a.tasks+1,ap:=p2,al:=a.al++([16+(a.tasks+1)]:List Int),ac:=c2}))]++(TR++(T2++(TJ1++(TS++([])))))):=hO
             refine (mC (d:=(some 260)) hA Tryd.func23 ((wchild_any wb ({a with fp:=fq1,ff:=a.ff.tail,fc:=fk1,wp:=pJ1,wl:=a.wl++([a.tasks - ((a.al.length:Nat):Int)]:List Int),wk:=cJ1,tasks:=a.tasks+1,ap:=p2,al:=a.al++([16+(a.tasks+1)]:List Int),ac:=c2}) TR a.sv a.fl _ (Ow.self (A:=[_,_]) (hO.tt:Ow Tryd.prog M w _ ([(b3,3,[i64 (16+(a.tasks+1))]),(b1,35,[i64 a.x.d.call,i64 a.x.d.a0,i64 a.x.d.a1,i64 a.x.d.a2,.slice a.x.p a.x.d.data.length a.x.c])]++(((wb,39,wc {a with fp:=fq1,ff:=a.ff.tail,fc:=fk1,wp:=pJ1,wl:=a.wl++([a.tasks - ((a.al.length:Nat):Int)]:List Int),wk:=cJ1,tasks:=a.tasks+1,ap:=p2,al:=a.al++([16+(a.tasks+1)]:List Int),ac:=c2})::TR)++(T2++(TJ1++(TS++([])))))))) hW.r (fun w_ k_=>(in_last hW.s ((Ow.pan3 (A:=[_,_]) (hO.tt:Ow Tryd.prog M w _ ([(b3,3,[i64 (16+(a.tasks+1))]),(b1,35,[i64 a.x.d.call,i64 a.x.d.a0,i64 a.x.d.a1,i64 a.x.d.a2,.slice a.x.p a.x.d.data.length a.x.c])]++(((wb,39,wc {a with fp:=fq1,ff:=a.ff.tail,fc:=fk1,wp:=pJ1,wl:=a.wl++([a.tasks - ((a.al.length:Nat):Int)]:List Int),wk:=cJ1,tasks:=a.tasks+1,ap:=p2,al:=a.al++([16+(a.tasks+1)]:List Int),ac:=c2})::TR)++(T2++(TJ1++(TS++([]))))))) k_).to (by simp only [List.append_assoc,List.append_nil,List.cons_append,List.nil_append]):Ow Tryd.prog M w w_ (([(b3,3,[i64 (16+(a.tasks+1))]),(b1,35,[i64 a.x.d.call,i64 a.x.d.a0,i64 a.x.d.a1,i64 a.x.d.a2,.slice a.x.p a.x.d.data.length a.x.c])]++(T2++(TJ1++([]))))++TS)).m).1) hW.sm (fun w_ k_=>hfv1 w_ (hX w_ (Ow.pan (A:=[_,_]) (hO.tt:Ow Tryd.prog M w _ ([(b3,3,[i64 (16+(a.tasks+1))]),(b1,35,[i64 a.x.d.call,i64 a.x.d.a0,i64 a.x.d.a1,i64 a.x.d.a2,.slice a.x.p a.x.d.data.length a.x.c])]++(((wb,39,wc {a with fp:=fq1,ff:=a.ff.tail,fc:=fk1,wp:=pJ1,wl:=a.wl++([a.tasks - ((a.al.length:Nat):Int)]:List Int),wk:=cJ1,tasks:=a.tasks+1,ap:=p2,al:=a.al++([16+(a.tasks+1)]:List Int),ac:=c2})::TR)++(T2++(TJ1++(TS++([]))))))) k_)).f) hfl1 (fun w_ k_=>(hX w_ (Ow.pan (A:=[_,_]) (hO.tt:Ow Tryd.prog M w _ ([(b3,3,[i64 (16+(a.tasks+1))]),(b1,35,[i64 a.x.d.call,i64 a.x.d.a0,i64 a.x.d.a1,i64 a.x.d.a2,.slice a.x.p a.x.d.data.length a.x.c])]++(((wb,39,wc {a with fp:=fq1,ff:=a.ff.tail,fc:=fk1,wp:=pJ1,wl:=a.wl++([a.tasks - ((a.al.length:Nat):Int)]:List Int),wk:=cJ1,tasks:=a.tasks+1,ap:=p2,al:=a.al++([16+(a.tasks+1)]:List Int),ac:=c2})::TR)++(T2++(TJ1++(TS++([]))))))) k_)).e) (by show 0<=a.told/\a.told<=900000; omega) (by show a.rl.length<=100000; omega)).mono ?_))
             rintro en w56 ⟨gp1,gf1,gc1,gr1,gl1,gk1,gt1,go1,TG1,hch1,h1g1,hcg1,hvg1,rfl,hW_⟩
             refine ⟨_,rfl,?_⟩
             clear hA fr; intro fr hA
             replace hO:=Ow.pass (A:=[_,_]) hO hW_; clear hW_
             replace hO:Ow Tryd.prog M w _ ([(b3,3,[i64 (16+(a.tasks+1))]),(b1,35,[i64 a.x.d.call,i64 a.x.d.a0,i64 a.x.d.a1,i64 a.x.d.a2,.slice a.x.p a.x.d.data.length a.x.c]),(wb,39,(wc {a with fp:=gp1,ff:=gf1,fc:=gc1,wp:=pJ1,wl:=a.wl++([a.tasks - ((a.al.length:Nat):Int)]:List Int),wk:=cJ1,tasks:=a.tasks+1,ap:=p2,al:=a.al++([16+(a.tasks+1)]:List Int),ac:=c2,rp:=gr1,rl:=gl1,rc:=gk1,told:=gt1,ok:=go1}))]++(TG1++(T2++(TJ1++(TS++([])))))):=hO.to (by simp only [List.append_assoc,List.cons_append,List.nil_append])
             refine ⟨(hO.sub [0,1]),?_⟩
             refine tree_fin ?_
             refine then_normal ?_
             refine Rc [(3,i64 (16+(a.tasks+1)))] hA [] c0 fun fr hA=>?_
             refine inBlock_normal ?_
             replace hO:Ow Tryd.prog M w w56 ([(b3,3,[i64 (16+(a.tasks+1))]),(b1,35,[i64 a.x.d.call,i64 a.x.d.a0,i64 a.x.d.a1,i64 a.x.d.a2,.slice a.x.p a.x.d.data.length a.x.c]),(wb,39,(wc {a with fp:=gp1,ff:=gf1,fc:=gc1,wp:=pJ1,wl:=a.wl++([a.tasks - ((a.al.length:Nat):Int)]:List Int),wk:=cJ1,tasks:=a.tasks+1,ap:=p2,al:=a.al++([16+(a.tasks+1)]:List Int),ac:=c2,rp:=gr1,rl:=gl1,rc:=gk1,told:=gt1,ok:=go1}))]++(TG1++(T2++(TJ1++(TS++([])))))):=hO
             refine then_normal ?_
             exact ⟨{a with fp:=gp1,ff:=gf1,fc:=gc1,wp:=pJ1,wl:=a.wl++([a.tasks - ((a.al.length:Nat):Int)]:List Int),wk:=cJ1,tasks:=a.tasks+1,ap:=p2,al:=a.al++([16+(a.tasks+1)]:List Int),ac:=c2,rp:=gr1,rl:=gl1,rc:=gk1,told:=gt1,ok:=go1},16+(a.tasks+1),none,0,([]:List Int),TG1,T2,TJ1,TS,([]:OwL),hA.ss,((Ow.subP (A:=[_,_,_]) hO (.cons _ (.cons _ (.cons_cons _ .slnil))))).tt,(One.nil _ _ _),(fun x h=>absurd h List.not_mem_nil),(Nat.zero_le _),⟨by omega,by omega⟩,((sw_fork (w:=a.d) ⟨h1p,h2p,h5p,n810 (by assumption)⟩ h10 h14p h15p).trans (congrArg (fun z_=>goW z_ (16+(a.tasks+1)) []) hch1)),⟨hW.sm,hW.xl,h1g1,hT2,hTJ1,hW.s,hW.ic,hcg1⟩,(fun w_ h_=>⟨h_.e,h_.i,(hvg1 _ (hfv1 _ h_.f))⟩)⟩
           exact trivial
         intro ht3
         refine Kt [0,1,2,3,5,6,7] [(251,pt wb),(254,pt wb),(258,pf wb 14)] hA [] c0 fun fr hA=>?_
         refine tree_mem ?_ ?_
         · refine (Qc [(255,.agg #[i64 a.sv.mo,i64 a.sv.po,str a.sv.inp,.slice a.sv.pj a.sv.lj.length a.sv.cj,i64 a.sv.rd,i64 a.sv.wr,i64 a.sv.pv,.slice a.sv.pc a.sv.lc.length a.sv.cc,.slice a.sv.pp a.sv.lp.length a.sv.cp])] hA [.agg #[i64 a.sv.mo,i64 a.sv.po,str a.sv.inp,.slice a.sv.pj a.sv.lj.length a.sv.cj,i64 a.sv.rd,i64 a.sv.wr,i64 a.sv.pv,.slice a.sv.pc a.sv.lc.length a.sv.cc,.slice a.sv.pp a.sv.lp.length a.sv.cp]] (cc (hO.ln 2 0 31 (cS a.sv.mo a.sv.po a.sv.inp a.sv.pj a.sv.lj.length a.sv.cj a.sv.rd a.sv.wr a.sv.pv a.sv.pc a.sv.lc.length a.sv.cc a.sv.pp a.sv.lp.length a.sv.cp)) c0) fun fr hA=>?_)
           refine ⟨(hO.sub [0,1]),?_⟩
           refine tree_mem ?_ ?_
           · refine (Qc [(259,.agg (List.toArray (fl8 a.fl)))] hA [.agg (List.toArray (fl8 a.fl))] (cc (hO.ln 2 14 36 (fl8 a.fl)) c0) fun fr hA=>?_)
             refine ⟨(hO.sub [0,1]),?_⟩
             exact ht3 _ _ ⟨hA.sb,hO,trivial⟩
           exact trivial
         refine tree_mem ?_ ?_
         · refine (Qc [(259,.agg (List.toArray (fl8 a.fl)))] hA [.agg (List.toArray (fl8 a.fl))] (cc (hO.ln 2 14 36 (fl8 a.fl)) c0) fun fr hA=>?_)
           refine ⟨(hO.sub [0,1]),?_⟩
           refine tree_mem ?_ ?_
           · refine (Qc [(255,.agg #[i64 a.sv.mo,i64 a.sv.po,str a.sv.inp,.slice a.sv.pj a.sv.lj.length a.sv.cj,i64 a.sv.rd,i64 a.sv.wr,i64 a.sv.pv,.slice a.sv.pc a.sv.lc.length a.sv.cc,.slice a.sv.pp a.sv.lp.length a.sv.cp])] hA [.agg #[i64 a.sv.mo,i64 a.sv.po,str a.sv.inp,.slice a.sv.pj a.sv.lj.length a.sv.cj,i64 a.sv.rd,i64 a.sv.wr,i64 a.sv.pv,.slice a.sv.pc a.sv.lc.length a.sv.cc,.slice a.sv.pp a.sv.lp.length a.sv.cp]] (cc (hO.ln 2 0 31 (cS a.sv.mo a.sv.po a.sv.inp a.sv.pj a.sv.lj.length a.sv.cj a.sv.rd a.sv.wr a.sv.pv a.sv.pc a.sv.lc.length a.sv.cc a.sv.pp a.sv.lp.length a.sv.cp)) c0) fun fr hA=>?_)
             refine ⟨(hO.sub [0,1]),?_⟩
             exact ht3 _ _ ⟨hA.sb,hO,trivial⟩
           exact trivial
         exact trivial
       have hS:=hO.pk [0]
       refine rT (.q 0 (.q 1 (.q 2 (.q 3 (.q 5 (.q 6 (.q 7 (.q 9 (.q 10 (.q 11 (.m 4 (.m 8 (.m 12 (.q 13 (.q 14 (.m 15 (.m 16 (.q 17 (.q 18 (.m 19 .fin .non))) .non) .non))) .non) (.m 12 (.q 13 (.m 8 (.q 14 (.m 15 (.m 16 (.q 17 (.q 18 (.m 19 .fin .non))) .non) .non)) .non)) .non)) (.m 8 (.m 4 (.m 12 (.q 13 (.q 14 (.m 15 (.m 16 (.q 17 (.q 18 (.m 19 .fin .non))) .non) .non))) .non) (.m 12 (.q 13 (.q 14 (.m 4 (.m 15 (.m 16 (.q 17 (.q 18 (.m 19 .fin .non))) .non) .non) (.m 15 (.m 4 (.m 16 (.q 17 (.q 18 (.m 19 .fin .non))) .non) .non) .non)))) .non)) (.m 12 (.q 13 (.m 4 (.m 8 (.q 14 (.m 15 (.m 16 (.q 17 (.q 18 (.m 19 .fin .non))) .non) .non)) .non) (.m 8 (.q 14 (.m 4 (.m 15 (.m 16 (.q 17 (.q 18 (.m 19 .fin .non))) .non) .non) (.m 15 (.m 4 (.m 16 (.q 17 (.q 18 (.m 19 .fin .non))) .non) .non) .non))) .non))) .non))))))))))))) hS ?_
       intro w57 ho; replace hO:=hO.st ho; clear ho
       refine tree_let (t1:= .m 16 (.q 17 (.q 18 (.m 19 .fin .non))) .non) (fun fr W=>∃ (s1:Nat),Holds 282 [] fr [(0,pt wb),(3,i64 (-13)),(4,.slice none 0 0),(210,pt wb),(214,.slice a.wp a.wl.length a.wk),(225,.slice (some ⟨s1,0,none⟩) 1 1)]/\Ow Tryd.prog M w W ([(s1,3,[i64 (a.tasks - ((a.al.length:Nat):Int))]),(b1,35,[i64 a.x.d.call,i64 a.x.d.a0,i64 a.x.d.a1,i64 a.x.d.a2,.slice a.x.p a.x.d.data.length a.x.c]),(wb,39,(wc {a with fp:=fq1,ff:=a.ff.tail,fc:=fk1}))]++(TR++(TA++(TW++(TS++([]))))))/\True) ?_ ?_
       · rintro fr w58 ⟨s1,hA,hO,-⟩
         refine tree_mem ?_ ?_
         · replace hO:Ow Tryd.prog M w w58 ([(s1,3,[i64 (a.tasks - ((a.al.length:Nat):Int))]),(b1,35,[i64 a.x.d.call,i64 a.x.d.a0,i64 a.x.d.a1,i64 a.x.d.a2,.slice a.x.p a.x.d.data.length a.x.c]),(wb,39,(wc {a with fp:=fq1,ff:=a.ff.tail,fc:=fk1}))]++(TR++(TA++(TW++(TS++([])))))):=hO
           refine (mA (f:=fN) (el:=3) (sz:=1) (bytes:=8) (p:=a.wp) (c:=a.wk) (l:=a.wl) (l':=([a.tasks - ((a.al.length:Nat):Int)]:List Int)) (T:=TW) (t:=28) (tx:=28) (ty:=28) (x:= .slice (some ⟨s1,0,none⟩) 1 1) (d:=226) ([(s1,3,[i64 (a.tasks - ((a.al.length:Nat):Int))]),(b1,35,[i64 a.x.d.call,i64 a.x.d.a0,i64 a.x.d.a1,i64 a.x.d.a2,.slice a.x.p a.x.d.data.length a.x.c]),(wb,39,(wc {a with fp:=fq1,ff:=a.ff.tail,fc:=fk1}))]++(TR++(TA++([])))) (TS++([])) encN hA (hO.tt:Ow Tryd.prog M w _ (([(s1,3,[i64 (a.tasks - ((a.al.length:Nat):Int))]),(b1,35,[i64 a.x.d.call,i64 a.x.d.a0,i64 a.x.d.a1,i64 a.x.d.a2,.slice a.x.p a.x.d.data.length a.x.c]),(wb,39,(wc {a with fp:=fq1,ff:=a.ff.tail,fc:=fk1}))]++(TR++(TA++([]))))++(TW++(TS++([]))))) hW.wl (Vw.src (e':=3) encN ((hO.b 0).vw (off:=0) (xs:=([a.tasks - ((a.al.length:Nat):Int)]:List Int)) (by kernel_rfl)) (by kernel_rfl)) (by first | omega | (simp only [List.length_append,List.length_cons,List.length_nil]; omega)) (by unfold maxLen; first | omega | (simp only [List.length_append,List.length_cons,List.length_nil]; omega)) fun fr w59 p3 c3 T3 hA hO hT3=>?_)
           replace hO:Ow Tryd.prog M w w59 ([(s1,3,[i64 (a.tasks - ((a.al.length:Nat):Int))]),(b1,35,[i64 a.x.d.call,i64 a.x.d.a0,i64 a.x.d.a1,i64 a.x.d.a2,.slice a.x.p a.x.d.data.length a.x.c]),(wb,39,(wc {a with fp:=fq1,ff:=a.ff.tail,fc:=fk1}))]++(TR++(TA++(T3++(TS++([])))))):=hO.to (by first | rfl | (simp only [TP,apd]))
           refine ⟨(hO.sub [1]),?_⟩
           refine Kt [17,18] [(228,pf wb 28)] hA [] c0 fun fr hA=>?_
           refine tree_mem ?_ ?_
           · refine (mSR (off:=28) (ad:=⟨wb,28,none⟩) (vc:=[.slice p3 ((a.wl++([a.tasks - ((a.al.length:Nat):Int)]:List Int)).length) c3]) (l':=(wc {a with fp:=fq1,ff:=a.ff.tail,fc:=fk1,wp:=p3,wl:=a.wl++([a.tasks - ((a.al.length:Nat):Int)]:List Int),wk:=c3})) 2 hA hO rfl (by kernel_rfl) (by kernel_rfl) fun w60 hO=>?_)
             refine ⟨(hO.sub [1]),?_⟩
             refine tree_fin ?_
             refine then_normal ?_
             replace hO:Ow Tryd.prog M w w60 ([(s1,3,[i64 (a.tasks - ((a.al.length:Nat):Int))]),(b1,35,[i64 a.x.d.call,i64 a.x.d.a0,i64 a.x.d.a1,i64 a.x.d.a2,.slice a.x.p a.x.d.data.length a.x.c]),(wb,39,(wc {a with fp:=fq1,ff:=a.ff.tail,fc:=fk1,wp:=p3,wl:=a.wl++([a.tasks - ((a.al.length:Nat):Int)]:List Int),wk:=c3}))]++(TR++(TA++(T3++(TS++([])))))):=hO
             exact ⟨p3,c3,T3,hA.sb,(Ow.subP (A:=[_,_,_]) hO (.cons _ (.cons_cons _ (.cons_cons _ .slnil)))),hT3,trivial⟩
           exact trivial
         exact trivial
       intro ht4
       refine tree_let (t1:= .m 15 (.m 16 (.q 17 (.q 18 (.m 19 .fin .non))) .non) .non) (fun fr W=>Holds 282 [] fr [(0,pt wb),(3,i64 (-13)),(4,.slice none 0 0),(210,pt wb),(214,.slice a.wp a.wl.length a.wk),(224,i64 (a.tasks - ((a.al.length:Nat):Int)))]/\Ow Tryd.prog M w W ([(b1,35,[i64 a.x.d.call,i64 a.x.d.a0,i64 a.x.d.a1,i64 a.x.d.a2,.slice a.x.p a.x.d.data.length a.x.c]),(wb,39,(wc {a with fp:=fq1,ff:=a.ff.tail,fc:=fk1}))]++(TR++(TA++(TW++(TS++([]))))))/\True) ?_ ?_
       · rintro fr w61 ⟨hA,hO,-⟩
         refine tree_mem ?_ ?_
         · refine (mN (l:=[i64 (a.tasks - ((a.al.length:Nat):Int))]) (t:=3) (v:=fun b=> .slice (some ⟨b,0,none⟩) 1 1) (d:=225) hA hO fun fr w62 b4 hA hO=>?_)
           refine ⟨(hO.sub [1]),?_⟩
           exact ht4 _ _ ⟨b4,hA.sb,hO.tt,trivial⟩
         exact trivial
       intro ht5
       refine tree_let (t1:= .m 4 (.m 16 (.q 17 (.q 18 (.m 19 .fin .non))) .non) .non) (fun fr W=>∃ (s2:Nat),Holds 282 [] fr [(0,pt wb),(3,i64 (-13)),(4,.slice none 0 0),(210,pt wb),(213,pf wb 28),(225,.slice (some ⟨s2,0,none⟩) 1 1)]/\Ow Tryd.prog M w W ([(s2,3,[i64 (a.tasks - ((a.al.length:Nat):Int))]),(b1,35,[i64 a.x.d.call,i64 a.x.d.a0,i64 a.x.d.a1,i64 a.x.d.a2,.slice a.x.p a.x.d.data.length a.x.c]),(wb,39,(wc {a with fp:=fq1,ff:=a.ff.tail,fc:=fk1}))]++(TR++(TA++(TW++(TS++([]))))))/\True) ?_ ?_
       · rintro fr w63 ⟨s2,hA,hO,-⟩
         refine tree_mem ?_ ?_
         · refine (Qc [(214,.slice a.wp a.wl.length a.wk)] hA [.slice a.wp a.wl.length a.wk] (cc (hO.l1 2 28 28 (.slice a.wp a.wl.length a.wk)) c0) fun fr hA=>?_)
           refine ⟨(hO.sub [1]),?_⟩
           exact ht4 _ _ ⟨s2,hA.sb,hO.tt,trivial⟩
         exact trivial
       intro ht6
       refine tree_let (t1:= .q 14 (.m 15 (.m 16 (.q 17 (.q 18 (.m 19 .fin .non))) .non) .non)) (fun fr W=>Holds 282 [] fr [(0,pt wb),(3,i64 (-13)),(4,.slice none 0 0),(210,pt wb),(214,.slice a.wp a.wl.length a.wk),(218,i64 a.tasks),(223,i64 ((a.al.length:Nat):Int))]/\Ow Tryd.prog M w W ([(b1,35,[i64 a.x.d.call,i64 a.x.d.a0,i64 a.x.d.a1,i64 a.x.d.a2,.slice a.x.p a.x.d.data.length a.x.c]),(wb,39,(wc {a with fp:=fq1,ff:=a.ff.tail,fc:=fk1}))]++(TR++(TA++(TW++(TS++([]))))))/\True) ?_ ?_
       · rintro fr w64 ⟨hA,hO,-⟩
         refine Kt [14] [(224,i64 (a.tasks - ((a.al.length:Nat):Int)))] hA [bl true] (cc ((inK_i64 (by omega) (by omega)):inK .i64 (a.tasks - ((a.al.length:Nat):Int))) c0) fun fr hA=>?_
         refine tree_mem ?_ ?_
         · refine (mN (l:=[i64 (a.tasks - ((a.al.length:Nat):Int))]) (t:=3) (v:=fun b=> .slice (some ⟨b,0,none⟩) 1 1) (d:=225) hA hO fun fr w65 b5 hA hO=>?_)
           refine ⟨(hO.sub [1]),?_⟩
           exact ht4 _ _ ⟨b5,hA.sb,hO.tt,trivial⟩
         exact trivial
       intro ht7
       refine tree_let (t1:= .m 12 (.q 13 (.q 14 (.m 15 (.m 16 (.q 17 (.q 18 (.m 19 .fin .non))) .non) .non))) .non) (fun fr W=>Holds 282 [] fr [(0,pt wb),(3,i64 (-13)),(4,.slice none 0 0),(210,pt wb),(214,.slice a.wp a.wl.length a.wk),(218,i64 a.tasks),(221,pf wb 26)]/\Ow Tryd.prog M w W ([(b1,35,[i64 a.x.d.call,i64 a.x.d.a0,i64 a.x.d.a1,i64 a.x.d.a2,.slice a.x.p a.x.d.data.length a.x.c]),(wb,39,(wc {a with fp:=fq1,ff:=a.ff.tail,fc:=fk1}))]++(TR++(TA++(TW++(TS++([]))))))/\True) ?_ ?_
       · rintro fr w66 ⟨hA,hO,-⟩
         refine tree_mem ?_ ?_
         · refine (Qc [(222,.slice a.ap a.al.length a.ac)] hA [.slice a.ap a.al.length a.ac] (cc (hO.l1 1 26 28 (.slice a.ap a.al.length a.ac)) c0) fun fr hA=>?_)
           refine ⟨(hO.sub [0]),?_⟩
           refine Kt [13,14] [(224,i64 (a.tasks - ((a.al.length:Nat):Int)))] hA [bl true] (cc ((inK_i64 (by omega) (by omega)):inK .i64 (a.tasks - ((a.al.length:Nat):Int))) c0) fun fr hA=>?_
           refine tree_mem ?_ ?_
           · refine (mN (l:=[i64 (a.tasks - ((a.al.length:Nat):Int))]) (t:=3) (v:=fun b=> .slice (some ⟨b,0,none⟩) 1 1) (d:=225) hA hO fun fr w67 b6 hA hO=>?_)
             refine ⟨(hO.sub [1]),?_⟩
             exact ht4 _ _ ⟨b6,hA.sb,hO.tt,trivial⟩
           exact trivial
         exact trivial
       intro ht8
       refine Kt [0,1,2,3,5,6,7,9,10,11] [(210,pt wb),(213,pf wb 28),(217,pf wb 25),(221,pf wb 26)] hA [] c0 fun fr hA=>?_
       refine tree_mem ?_ ?_
       · refine (Qc [(214,.slice a.wp a.wl.length a.wk)] hA [.slice a.wp a.wl.length a.wk] (cc (hO.l1 1 28 28 (.slice a.wp a.wl.length a.wk)) c0) fun fr hA=>?_)
         refine ⟨(hO.sub [0]),?_⟩
         refine tree_mem ?_ ?_
         · refine (Qc [(218,i64 a.tasks)] hA [i64 a.tasks] (cc (hO.l1 1 25 3 (i64 a.tasks)) c0) fun fr hA=>?_)
           refine ⟨(hO.sub [0]),?_⟩
           exact ht8 _ _ ⟨hA.sb,hO,trivial⟩
         refine tree_mem ?_ ?_
         · refine (Qc [(222,.slice a.ap a.al.length a.ac)] hA [.slice a.ap a.al.length a.ac] (cc (hO.l1 1 26 28 (.slice a.ap a.al.length a.ac)) c0) fun fr hA=>?_)
           refine ⟨(hO.sub [0]),?_⟩
           refine Kt [13] [(223,i64 ((a.al.length:Nat):Int))] hA [] c0 fun fr hA=>?_
           refine tree_mem ?_ ?_
           · refine (Qc [(218,i64 a.tasks)] hA [i64 a.tasks] (cc (hO.l1 1 25 3 (i64 a.tasks)) c0) fun fr hA=>?_)
             refine ⟨(hO.sub [0]),?_⟩
             exact ht7 _ _ ⟨hA.sb,hO,trivial⟩
           exact trivial
         exact trivial
       refine tree_mem ?_ ?_
       · refine (Qc [(218,i64 a.tasks)] hA [i64 a.tasks] (cc (hO.l1 1 25 3 (i64 a.tasks)) c0) fun fr hA=>?_)
         refine ⟨(hO.sub [0]),?_⟩
         refine tree_mem ?_ ?_
         · refine (Qc [(214,.slice a.wp a.wl.length a.wk)] hA [.slice a.wp a.wl.length a.wk] (cc (hO.l1 1 28 28 (.slice a.wp a.wl.length a.wk)) c0) fun fr hA=>?_)
           refine ⟨(hO.sub [0]),?_⟩
           exact ht8 _ _ ⟨hA.sb,hO,trivial⟩
         refine tree_mem ?_ ?_
         · refine (Qc [(222,.slice a.ap a.al.length a.ac)] hA [.slice a.ap a.al.length a.ac] (cc (hO.l1 1 26 28 (.slice a.ap a.al.length a.ac)) c0) fun fr hA=>?_)
           refine ⟨(hO.sub [0]),?_⟩
           refine Kt [13,14] [(224,i64 (a.tasks - ((a.al.length:Nat):Int)))] hA [bl true] (cc ((inK_i64 (by omega) (by omega)):inK .i64 (a.tasks - ((a.al.length:Nat):Int))) c0) fun fr hA=>?_
           refine tree_mem ?_ ?_
           · refine (Qc [(214,.slice a.wp a.wl.length a.wk)] hA [.slice a.wp a.wl.length a.wk] (cc (hO.l1 1 28 28 (.slice a.wp a.wl.length a.wk)) c0) fun fr hA=>?_)
             refine ⟨(hO.sub [0]),?_⟩
             exact ht5 _ _ ⟨hA.sb,hO,trivial⟩
           refine tree_mem ?_ ?_
           · refine (mN (l:=[i64 (a.tasks - ((a.al.length:Nat):Int))]) (t:=3) (v:=fun b=> .slice (some ⟨b,0,none⟩) 1 1) (d:=225) hA hO fun fr w68 b7 hA hO=>?_)
             refine ⟨(hO.sub [1]),?_⟩
             exact ht6 _ _ ⟨b7,hA.sb,hO,trivial⟩
           exact trivial
         exact trivial
       refine tree_mem ?_ ?_
       · refine (Qc [(222,.slice a.ap a.al.length a.ac)] hA [.slice a.ap a.al.length a.ac] (cc (hO.l1 1 26 28 (.slice a.ap a.al.length a.ac)) c0) fun fr hA=>?_)
         refine ⟨(hO.sub [0]),?_⟩
         refine Kt [13] [(223,i64 ((a.al.length:Nat):Int))] hA [] c0 fun fr hA=>?_
         refine tree_mem ?_ ?_
         · refine (Qc [(214,.slice a.wp a.wl.length a.wk)] hA [.slice a.wp a.wl.length a.wk] (cc (hO.l1 1 28 28 (.slice a.wp a.wl.length a.wk)) c0) fun fr hA=>?_)
           refine ⟨(hO.sub [0]),?_⟩
           refine tree_mem ?_ ?_
           · refine (Qc [(218,i64 a.tasks)] hA [i64 a.tasks] (cc (hO.l1 1 25 3 (i64 a.tasks)) c0) fun fr hA=>?_)
             refine ⟨(hO.sub [0]),?_⟩
             exact ht7 _ _ ⟨hA.sb,hO,trivial⟩
           exact trivial
         refine tree_mem ?_ ?_
         · refine (Qc [(218,i64 a.tasks)] hA [i64 a.tasks] (cc (hO.l1 1 25 3 (i64 a.tasks)) c0) fun fr hA=>?_)
           refine ⟨(hO.sub [0]),?_⟩
           refine Kt [14] [(224,i64 (a.tasks - ((a.al.length:Nat):Int)))] hA [bl true] (cc ((inK_i64 (by omega) (by omega)):inK .i64 (a.tasks - ((a.al.length:Nat):Int))) c0) fun fr hA=>?_
           refine tree_mem ?_ ?_
           · refine (Qc [(214,.slice a.wp a.wl.length a.wk)] hA [.slice a.wp a.wl.length a.wk] (cc (hO.l1 1 28 28 (.slice a.wp a.wl.length a.wk)) c0) fun fr hA=>?_)
             refine ⟨(hO.sub [0]),?_⟩
             exact ht5 _ _ ⟨hA.sb,hO,trivial⟩
           refine tree_mem ?_ ?_
           · refine (mN (l:=[i64 (a.tasks - ((a.al.length:Nat):Int))]) (t:=3) (v:=fun b=> .slice (some ⟨b,0,none⟩) 1 1) (d:=225) hA hO fun fr w69 b8 hA hO=>?_)
             refine ⟨(hO.sub [1]),?_⟩
             exact ht6 _ _ ⟨b8,hA.sb,hO,trivial⟩
           exact trivial
         exact trivial
       exact trivial
     rw [h15] at hA
     have h15p:=of_decide_eq_false h15
     refine cF hA ?_
     refine Sb [(262,bl (a.x.d.call == 1))] hA [i64 a.x.d.call] (cc (hO.l1 0 0 3 (i64 a.x.d.call)) c0) fun fr hA=>?_
     rw [(h14:(a.x.d.call == 1)=true)] at hA
     refine cT hA ?_
     refine wp_skip ?_
     refine inBlock_normal ?_
     refine then_normal ?_
     exact ⟨{a with fp:=fq1,ff:=a.ff.tail,fc:=fk1},(-13),none,0,([]:List Int),TR,TA,TW,TS,([]:OwL),hA.ss,((Ow.subP (A:=[_,_]) hO (.cons _ (.cons_cons _ .slnil)))).tt,(One.nil _ _ _),(fun x h=>absurd h List.not_mem_nil),(Nat.zero_le _),⟨by omega,by omega⟩,(sw_full (w:=a.d) ⟨h1p,h2p,h5p,n810 (by assumption)⟩ h10 h14p h15p),⟨hW.sm,hW.xl,hW.r,hW.al,hW.wl,hW.s,hW.ic,hfl1⟩,(fun w_ h_=>⟨h_.e,h_.i,(hfv1 _ h_.f)⟩)⟩
   rw [h14] at hA
   have h14p:=ne_of_beq_false h14
   refine Ka 7 [(199,bl false)] hA fun fr hA=>?_
   refine end_ops ?_
   refine then_normal ?_
   refine cF hA ?_
   refine Sb [(262,bl (a.x.d.call == 1))] hA [i64 a.x.d.call] (cc (hO.l1 0 0 3 (i64 a.x.d.call)) c0) fun fr hA=>?_
   rw [(h14:(a.x.d.call == 1)=false)] at hA
   refine cF hA ?_
   refine rr 4 ?_
   refine Ka 3 [(17,pf wb 32)] hA fun fr hA=>?_
   refine wpOps_cons' (mSR (off:=32) (ad:=⟨wb,32,none⟩) (vc:=[bl false]) (l':=(wc {a with fp:=fq1,ff:=a.ff.tail,fc:=fk1,ok:=false})) 1 hA hO rfl (by kernel_rfl) (by kernel_rfl) fun w70 hO=>?_)
   refine end_ops ?_
   refine inBlock_normal ?_
   refine then_normal ?_
   exact ⟨{a with fp:=fq1,ff:=a.ff.tail,fc:=fk1,ok:=false},(-13),none,0,([]:List Int),TR,TA,TW,TS,([]:OwL),hA.ss,((Ow.subP (A:=[_,_]) hO (.cons _ (.cons_cons _ .slnil)))).tt,(One.nil _ _ _),(fun x h=>absurd h List.not_mem_nil),(Nat.zero_le _),⟨by omega,by omega⟩,(sw_none (w:=a.d) ⟨h1p,h2p,h5p,n810 (by assumption)⟩ h10 h11p h14p),⟨hW.sm,hW.xl,hW.r,hW.al,hW.wl,hW.s,hW.ic,hfl1⟩,(fun w_ h_=>⟨h_.e,h_.i,(hfv1 _ h_.f)⟩)⟩
 refine rr 9 ?_
 refine Kb 4 [(113,bl (a.x.d.call == 8)),(114,bl (a.x.d.call == 8))] hA [i64 a.x.d.call] (cc (hO.l1 0 0 3 (i64 a.x.d.call)) c0) fun fr hA=>?_
 rcases Bool.eq_false_or_eq_true (a.x.d.call == 8) with h16 | h16
 · rw [h16] at hA
   have h16p:=eq_of_beq h16
   refine Ka 5 [(110,bl true)] hA fun fr hA=>?_
   refine end_ops ?_
   refine then_normal ?_
   exact ⟨(hA.sub (e':=[(0,pt wb),(2,pt b1),(3,i64 (-13)),(4,.slice none 0 0),(110,bl true)]) [0,2,3,4,110] (by kernel_rfl)).cast (by rw [show ((a.x.d.call == 8) || (a.x.d.call == 10))=(true) from by rw [h16]; rfl]),hO.tt,trivial⟩
 rw [h16] at hA
 have h16p:=ne_of_beq_false h16
 refine Kb 5 [(110,bl (a.x.d.call == 10))] hA [i64 a.x.d.call] (cc (hO.l1 0 0 3 (i64 a.x.d.call)) c0) fun fr hA=>?_
 refine end_ops ?_
 refine then_normal ?_
 exact ⟨(hA.sub (e':=[(0,pt wb),(2,pt b1),(3,i64 (-13)),(4,.slice none 0 0),(110,bl (a.x.d.call == 10))]) [0,2,3,4,110] (by kernel_rfl)).cast (by rw [show ((a.x.d.call == 8) || (a.x.d.call == 10))=(a.x.d.call == 10) from by rw [h16]; rfl]),hO.tt,trivial⟩
end Go.Proofs.YtdljjajjonfjbaaDoor
