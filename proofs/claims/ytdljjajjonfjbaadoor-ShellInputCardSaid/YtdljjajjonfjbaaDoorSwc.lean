import Derived.Test.YtdljjajjonfjbaaDoorSwb
import Derived.Test.YtdljjajjonfjbaaDoorSn
set_option linter.unusedVariables false
set_option linter.unusedSimpArgs false
set_option maxRecDepth 10000
namespace Go.Proofs.YtdljjajjonfjbaaDoor
open Go Go.Shelf Go.RowKit Go.Proofs Go.Proofs.Sx
theorem Step_v (v:SV) (result:Int) (dp:Option Addr) (cd:Nat) (dl:List Int) (w:World) (hs:v.ok w) (hm:v.sm) (hvd:Vw fB w (.slice dp dl.length cd) dl) (hud:U8s dl) (hdl:dl.length<=1000000) (hcd:dl.length<=cd) (hE:ErrOk w) (hrn : -9223372036854775808<=result) (hrx:result<=9223372036854775807) :
    Calls Tryd.prog 8 #[.agg #[i64 v.mo,i64 v.po,str v.inp,.slice v.pj v.lj.length v.cj,i64 v.rd,i64 v.wr,i64 v.pv,.slice v.pc v.lc.length v.cc,.slice v.pp v.lp.length v.cp],i64 result,.slice dp dl.length cd] w fun e w'=>∃ (u:SV) (x:PV) (T:OwL),u.d=(stepP v.d result dl).1/\x.d=(stepP v.d result dl).2/\u.sm/\e = .returned (.tuple #[.agg #[i64 u.mo,i64 u.po,str u.inp,.slice u.pj u.lj.length u.cj,i64 u.rd,i64 u.wr,i64 u.pv,.slice u.pc u.lc.length u.cc,.slice u.pp u.lp.length u.cp],.agg #[i64 x.d.call,i64 x.d.a0,i64 x.d.a1,i64 x.d.a2,.slice x.p x.d.data.length x.c]])/\Ow Tryd.prog none' w w' T/\Holds' T u.ok/\Holds' T (fun w=>VP w x) :=
  (Step_any v.mo v.po v.inp v.pj v.cj v.lj v.rd v.wr v.pv v.pc v.cc v.lc v.pp v.cp v.lp result dp cd dl w hs hm hvd hud hdl hcd hE hrn hrx).mono fun e w' ⟨u,x,T,h1,h2,h3,h4,h5,h6⟩=>⟨u,x,T,(congrArg Prod.fst h1).symm,(congrArg Prod.snd h1).symm,h2,h3,h4,h5,h6⟩
theorem Step_n (v:SV) (result:Int) (w:World) (hs:v.ok w) (hm:v.sm) (hE:ErrOk w) (hrn : -9223372036854775808<=result) (hrx:result<=9223372036854775807) :
    Calls Tryd.prog 8 #[.agg #[i64 v.mo,i64 v.po,str v.inp,.slice v.pj v.lj.length v.cj,i64 v.rd,i64 v.wr,i64 v.pv,.slice v.pc v.lc.length v.cc,.slice v.pp v.lp.length v.cp],i64 result,.slice none 0 0] w fun e w'=>∃ (u:SV) (x:PV) (T:OwL),u.d=(stepP v.d result []).1/\x.d=(stepP v.d result []).2/\u.sm/\e = .returned (.tuple #[.agg #[i64 u.mo,i64 u.po,str u.inp,.slice u.pj u.lj.length u.cj,i64 u.rd,i64 u.wr,i64 u.pv,.slice u.pc u.lc.length u.cc,.slice u.pp u.lp.length u.cp],.agg #[i64 x.d.call,i64 x.d.a0,i64 x.d.a1,i64 x.d.a2,.slice x.p x.d.data.length x.c]])/\Ow Tryd.prog none' w w' T/\Holds' T u.ok/\Holds' T (fun w=>VP w x) :=
  Step_v v result none 0 [] w hs hm (.inl ⟨rfl,rfl⟩) (fun x h=>absurd h List.not_mem_nil) (Nat.zero_le _) (Nat.le_refl _) hE hrn hrx
def failL:List Int->Bool
  | []=>false
  | f::_=>f == 1
theorem fileF_res {x:CallL} {f:F8} (hd:x.data.length<=128) : -8<=(fileF x f).1/\(fileF x f).1<=128:=by
 have:=free_lt f
 unfold fileF
 repeat' split
 all_goals (first | (show (-8:Int)<=0/\(0:Int)<=128; decide) | (show (-8:Int)<=-8/\(-8:Int)<=128; decide) | (show (-8:Int)<=-6/\(-6:Int)<=128; decide) | (show (-8:Int)<=freeF f/\freeF f<=128; omega) | (show (-8:Int)<=(x.data.length:Int)/\(x.data.length:Int)<=128; omega))
section
variable {k:Nat} {s:StL} {x:CallL} {f:F8} {w:WL}
theorem cw_exit (h:x.call=0):childW (k+1) s x f w=w:=by simp only [childW]; rw [if_pos h]
theorem cw_fail (h : ¬ x.call=0) (hf:failB w=true):childW (k+1) s x f w=childW k (stepP s (-13) []).1 (stepP s (-13) []).2 f (failT w):=by simp only [childW]; rw [if_neg h,if_pos hf]
theorem cw_exec (h : ¬ x.call=0) (hf:failB w=false) (h2:x.call=2):childW (k+1) s x f w = {failT w with runs:=w.runs++[⟨bsI x.data,f⟩]}:=by simp only [childW]; rw [if_neg h,if_neg (by rw [hf]; decide),if_pos h2]
theorem cw_file {q:Int×Bool×F8×Int} (h : ¬ x.call=0) (hf:failB w=false) (h2 : ¬ x.call=2) (hq:fileF x f=q):childW (k+1) s x f w=childW k (stepP s q.1 []).1 (stepP s q.1 []).2 q.2.2.1 {failT w with told:=w.told+q.2.2.2,ok:=w.ok && q.2.1}:=by
 subst hq
 simp only [childW]; rw [if_neg h,if_neg (by rw [hf]; decide),if_neg h2]
end
theorem in3 {T A B C:OwL} {Q:World->Prop} (h:Holds' T Q) {X:Nat->Prop} {w₀ w:World} (hO:OwM X w₀ w (A++(B++(T++C)))):Q w :=
  h X w₀ w (hO.less (((List.sublist_append_left T C).trans (List.sublist_append_right B _)).trans (List.sublist_append_right A _)))
set_option maxHeartbeats 4000000 in
theorem wchild_any (wb:Nat) (a:WV) (T:OwL) (v0:SV) (f0:F8) (w:World) (h0:Ow Tryd.prog (inT ((wb,39,wc a)::T)) w w ((wb,39,wc a)::T)) (h1r:One fR 47 9 a.rp a.rc a.rl T) (hs0 : ∀ w',Only (inT ((wb,39,wc a)::T)) w w'->v0.ok w') (hm0:v0.sm) (hvf : ∀ w',Only (inT ((wb,39,wc a)::T)) w w'->Vw fB w' (.slice a.fp a.ff.length a.fc) a.ff) (hcf:a.ff.length<=a.fc) (hE : ∀ w',Only (inT ((wb,39,wc a)::T)) w w'->ErrOk w') (htold : 0<=a.told/\a.told<=900000) (hrl:a.rl.length<=100000) :
    Calls Tryd.prog 23 #[pt wb,.agg #[i64 v0.mo,i64 v0.po,str v0.inp,.slice v0.pj v0.lj.length v0.cj,i64 v0.rd,i64 v0.wr,i64 v0.pv,.slice v0.pc v0.lc.length v0.cc,.slice v0.pp v0.lp.length v0.cp],.agg (List.toArray (fl8 f0))] w fun e w'=>∃ (fp:Option Addr) (ff:List Int) (fc:Nat) (rp:Option Addr) (rl:List RunL) (rc:Nat) (told:Int) (ok:Bool) (T':OwL),childF v0.d f0 a.d=WV.d {a with fp:=fp,ff:=ff,fc:=fc,rp:=rp,rl:=rl,rc:=rc,told:=told,ok:=ok}/\One fR 47 9 rp rc rl T'/\ff.length<=fc/\(∀ w,Vw fB w (.slice a.fp a.ff.length a.fc) a.ff->Vw fB w (.slice fp ff.length fc) ff)/\e = .returned (.tuple #[])/\Ow Tryd.prog (inT ((wb,39,wc a)::T)) w w' ((wb,39,wc {a with fp:=fp,ff:=ff,fc:=fc,rp:=rp,rl:=rl,rc:=rc,told:=told,ok:=ok})::T'):=by
 refine c_enter (args:=[pt wb,.agg #[i64 v0.mo,i64 v0.po,str v0.inp,.slice v0.pj v0.lj.length v0.cj,i64 v0.rd,i64 v0.wr,i64 v0.pv,.slice v0.pc v0.lc.length v0.cc,.slice v0.pp v0.lp.length v0.cp],.agg (List.toArray (fl8 f0))]) (m:=66) (n:=69) Tryd.func23 rfl (by kernel_rfl) (by kernel_rfl) fun fr hA=>?_
 generalize inT ((wb,39,wc a)::T)=M at *
 have hO:Ow Tryd.prog M w w ([(wb,39,(wc a))]++(T++([]))):=h0.to (by first | rfl | first | rfl | (simp only [TP,apd]))
 refine sr 2 ?_
 refine Mn (cS v0.mo v0.po v0.inp v0.pj v0.lj.length v0.cj v0.rd v0.wr v0.pv v0.pc v0.lc.length v0.cc v0.pp v0.lp.length v0.cp) 31 4 hA hO fun fr w1 b1 hA hO=>?_
 refine Mn (fl8 f0) 36 5 hA hO fun fr w2 b2 hA hO=>?_
 refine end_ops ?_
 refine then_normal ?_
 refine sr 8 ?_
 refine Kb 1 [(12,.agg #[i64 v0.mo,i64 v0.po,str v0.inp,.slice v0.pj v0.lj.length v0.cj,i64 v0.rd,i64 v0.wr,i64 v0.pv,.slice v0.pc v0.lc.length v0.cc,.slice v0.pp v0.lp.length v0.cp])] hA [.agg #[i64 v0.mo,i64 v0.po,str v0.inp,.slice v0.pj v0.lj.length v0.cj,i64 v0.rd,i64 v0.wr,i64 v0.pv,.slice v0.pc v0.lc.length v0.cc,.slice v0.pp v0.lp.length v0.cp]] (cc (hO.ln 1 0 31 (cS v0.mo v0.po v0.inp v0.pj v0.lj.length v0.cj v0.rd v0.wr v0.pv v0.pc v0.lc.length v0.cc v0.pp v0.lp.length v0.cp)) c0) fun fr hA=>?_
 refine wpOps_cons' (mC (d:=(some 13)) hA Tryd.func8 ((Step_n v0 0 _ (hs0 _ hO.only) hm0 (hE _ hO.only) (by omega) (by omega)).mono ?_))
 rintro en w3 ⟨vq1,xq1,Tq1,hdq1,hxq1,hsmq1,rfl,hW,hGq1,hXq1⟩
 refine ⟨_,rfl,?_⟩
 clear hA fr; intro fr hA
 replace hO:=Ow.join hO hW; clear hW
 have hPTq1:Holds' Tq1 (fun w_=>SV.ok vq1 w_/\VP w_ xq1):=Holds'.and hGq1 hXq1
 replace hO:Ow Tryd.prog M w _ ([(b2,36,(fl8 f0)),(b1,31,(cS v0.mo v0.po v0.inp v0.pj v0.lj.length v0.cj v0.rd v0.wr v0.pv v0.pc v0.lc.length v0.cc v0.pp v0.lp.length v0.cp)),(wb,39,(wc a))]++(T++(Tq1++([])))):=hO.to (by first | rfl | (simp only [TP,apd]))
 refine Ka 3 [(14,.agg #[i64 vq1.mo,i64 vq1.po,str vq1.inp,.slice vq1.pj vq1.lj.length vq1.cj,i64 vq1.rd,i64 vq1.wr,i64 vq1.pv,.slice vq1.pc vq1.lc.length vq1.cc,.slice vq1.pp vq1.lp.length vq1.cp]),(15,.agg #[i64 xq1.d.call,i64 xq1.d.a0,i64 xq1.d.a1,i64 xq1.d.a2,.slice xq1.p xq1.d.data.length xq1.c])] hA fun fr hA=>?_
 refine Mn [i64 0,i64 0,i64 0,i64 0,.slice none 0 0] 35 6 hA hO fun fr w4 b3 hA hO=>?_
 refine Ms 0 (cS vq1.mo vq1.po vq1.inp vq1.pj vq1.lj.length vq1.cj vq1.rd vq1.wr vq1.pv vq1.pc vq1.lc.length vq1.cc vq1.pp vq1.lp.length vq1.cp) 2 hA hO fun w5 hO=>?_
 refine Ms 0 [i64 xq1.d.call,i64 xq1.d.a0,i64 xq1.d.a1,i64 xq1.d.a2,.slice xq1.p xq1.d.data.length xq1.c] 0 hA hO fun w6 hO=>?_
 refine end_ops ?_
 refine then_normal ?_
 refine wp_seq ?_
 refine Sa [(7,i64 0)] hA fun fr hA=>?_
 refine wp_block ?_
 replace hO:Ow Tryd.prog M w w6 ([(b3,35,[i64 xq1.d.call,i64 xq1.d.a0,i64 xq1.d.a1,i64 xq1.d.a2,.slice xq1.p xq1.d.data.length xq1.c]),(b2,36,(fl8 f0)),(b1,31,(cS vq1.mo vq1.po vq1.inp vq1.pj vq1.lj.length vq1.cj vq1.rd vq1.wr vq1.pv vq1.pc vq1.lc.length vq1.cc vq1.pp vq1.lp.length vq1.cp)),(wb,39,(wc a))]++(T++(Tq1++([])))):=hO
 replace hO:=permA (A:=[_,_,_,_]) hO (List.Perm.cons _ (List.Perm.swap _ _ _))
 refine c_loop (fun mm fr W=>∃ (k:Nat) (m:Nat) (v1:SV) (x1:PV) (f1:F8) (fp1:Option Addr) (ff1:List Int) (fc1:Nat) (told1:Int) (ok1:Bool) (TL1:OwL),mm=40 - k/\Holds 69 [] fr [(0,pt wb),(4,pt b1),(5,pt b2),(6,pt b3),(7,i64 ((k:Nat):Int))]/\Ow Tryd.prog M w W ([(b3,35,[i64 x1.d.call,i64 x1.d.a0,i64 x1.d.a1,i64 x1.d.a2,.slice x1.p x1.d.data.length x1.c]),(b1,31,(cS v1.mo v1.po v1.inp v1.pj v1.lj.length v1.cj v1.rd v1.wr v1.pv v1.pc v1.lc.length v1.cc v1.pp v1.lp.length v1.cp)),(b2,36,(fl8 f1)),(wb,39,(wc {a with fp:=fp1,ff:=ff1,fc:=fc1,told:=told1,ok:=ok1}))]++(T++(TL1++([]))))/\Holds' TL1 (fun w_=>SV.ok v1 w_/\VP w_ x1)/\m+k=40/\childW m v1.d x1.d f1 (WV.d {a with fp:=fp1,ff:=ff1,fc:=fc1,told:=told1,ok:=ok1})=childF v0.d f0 a.d/\v1.sm/\x1.d.data.length<=128/\ff1.length<=fc1/\(∀ w,Vw fB w (.slice a.fp a.ff.length a.fc) a.ff->Vw fB w (.slice fp1 ff1.length fc1) ff1)/\(a.told<=told1/\told1<=a.told+k)/\True) ?_ ?_
 · exact ⟨_,0,40,vq1,xq1,f0,a.fp,a.ff,a.fc,a.told,a.ok,Tq1,rfl,hA.ss,hO,hPTq1,rfl,(by rw [hdq1,hxq1]; rfl),hsmq1,(by rw [hxq1]; exact ok_len (good_stepP _ _ _).2),hcf,(fun w h=>h),⟨Int.le_refl _,by omega⟩,trivial⟩
 rintro _ fr w7 ⟨k,m,v1,x1,f1,fp1,ff1,fc1,told1,ok1,TL1,rfl,hA,hO,hTL1,hkm,hR,hsm1,hxl1,hcf1,hft1,htl1,-⟩
 refine wp_seq ?_
 refine Sa [(17,bl (decide (((k:Nat):Int) < 40)))] hA fun fr hA=>?_
 rcases Bool.eq_false_or_eq_true (decide (((k:Nat):Int) < 40)) with h1 | h1
 · rw [h1] at hA
   have h1p:=of_decide_eq_true h1
   obtain ⟨m,rfl⟩ : ∃ j,m=j+1:=⟨m - 1,by omega⟩
   refine cT hA ?_
   refine wp_skip ?_
   refine then_normal ?_
   refine wp_seq ?_
   refine wp_block ?_
   refine wp_seq ?_
   refine Sb [(22,bl (x1.d.call == 0))] hA [i64 x1.d.call] (cc (hO.l1 0 0 3 (i64 x1.d.call)) c0) fun fr hA=>?_
   rcases Bool.eq_false_or_eq_true (x1.d.call == 0) with h2 | h2
   · rw [h2] at hA
     have h2p:=eq_of_beq h2
     refine cT hA ?_
     refine wp_ret ?_
     refine then_ret ?_
     refine inBlock_ret ?_
     refine then_ret ?_
     refine then_ret ?_
     refine inBlock_ret ?_
     refine then_ret ?_
     refine cv [] hA ?_
     replace hO:Ow Tryd.prog M w w7 ([(b3,35,[i64 x1.d.call,i64 x1.d.a0,i64 x1.d.a1,i64 x1.d.a2,.slice x1.p x1.d.data.length x1.c]),(b1,31,(cS v1.mo v1.po v1.inp v1.pj v1.lj.length v1.cj v1.rd v1.wr v1.pv v1.pc v1.lc.length v1.cc v1.pp v1.lp.length v1.cp)),(b2,36,(fl8 f1)),(wb,39,(wc {a with fp:=fp1,ff:=ff1,fc:=fc1,told:=told1,ok:=ok1}))]++(T++(TL1++([])))):=hO
     exact ⟨fp1,ff1,fc1,a.rp,a.rl,a.rc,told1,ok1,T,(hR.symm.trans (cw_exit (by assumption))),h1r,hcf1,hft1,rfl,(show Ow Tryd.prog M w _ ((wb,39,wc {a with fp:=fp1,ff:=ff1,fc:=fc1,rp:=a.rp,rl:=a.rl,rc:=a.rc,told:=told1,ok:=ok1})::T) from ((Ow.pan3 (A:=[(wb,39,wc {a with fp:=fp1,ff:=ff1,fc:=fc1,told:=told1,ok:=ok1})]++T) (T:=TL1) (B:=[]) (((Ow.subP (A:=[(b3,35,[i64 x1.d.call,i64 x1.d.a0,i64 x1.d.a1,i64 x1.d.a2,.slice x1.p x1.d.data.length x1.c]),(b1,31,(cS v1.mo v1.po v1.inp v1.pj v1.lj.length v1.cj v1.rd v1.wr v1.pv v1.pc v1.lc.length v1.cc v1.pp v1.lp.length v1.cp)),(b2,36,(fl8 f1)),(wb,39,(wc {a with fp:=fp1,ff:=ff1,fc:=fc1,told:=told1,ok:=ok1}))]) (A':=[(wb,39,(wc {a with fp:=fp1,ff:=ff1,fc:=fc1,told:=told1,ok:=ok1}))]) (B:=T++(TL1++([]))) hO (.cons _ (.cons _ (.cons _ (.cons_cons _ .slnil)))))).to (by simp only [List.append_assoc])) (Only.refl _ _)).to (by simp only [List.append_nil]; rfl)))⟩
   rw [h2] at hA
   have h2p:=ne_of_beq_false h2
   refine cF hA ?_
   refine wp_skip ?_
   refine then_normal ?_
   refine Sa [(8,i64 (-13))] hA fun fr hA=>?_
   refine wp_seq ?_
   refine sr 3 ?_
   refine Ka 1 [(23,pt wb)] hA fun fr hA=>?_
   replace hO:Ow Tryd.prog M w w7 ([(b3,35,[i64 x1.d.call,i64 x1.d.a0,i64 x1.d.a1,i64 x1.d.a2,.slice x1.p x1.d.data.length x1.c]),(b1,31,(cS v1.mo v1.po v1.inp v1.pj v1.lj.length v1.cj v1.rd v1.wr v1.pv v1.pc v1.lc.length v1.cc v1.pp v1.lp.length v1.cp)),(b2,36,(fl8 f1)),(wb,39,(wc {a with fp:=fp1,ff:=ff1,fc:=fc1,told:=told1,ok:=ok1}))]++(T++(TL1++([])))):=hO
   refine wpOps_cons' (mC (d:=(some 24)) hA Tryd.func21 ((failing_any wb ({a with fp:=fp1,ff:=ff1,fc:=fc1,told:=told1,ok:=ok1}) _ (Ow.self (A:=[_,_,_]) (hO.tt)) (hft1 _ (hvf _ hO.only)) hcf1).mono ?_))
   rintro en w8 ⟨rfl,fq1,fk1,hW,hfl1,hfv1⟩
   refine ⟨_,rfl,?_⟩
   clear hA fr; intro fr hA
   replace hO:=Ow.pass (A:=[_,_,_]) hO hW; clear hW
   replace hO:Ow Tryd.prog M w w8 ([(b3,35,[i64 x1.d.call,i64 x1.d.a0,i64 x1.d.a1,i64 x1.d.a2,.slice x1.p x1.d.data.length x1.c]),(b1,31,(cS v1.mo v1.po v1.inp v1.pj v1.lj.length v1.cj v1.rd v1.wr v1.pv v1.pc v1.lc.length v1.cc v1.pp v1.lp.length v1.cp)),(b2,36,(fl8 f1)),(wb,39,(wc {a with fp:=fq1,ff:=ff1.tail,fc:=fk1,told:=told1,ok:=ok1}))]++(T++(TL1++([])))):=hO.to (by first | rfl | (simp only [TP,apd]))
   refine Ka 1 [(25,bl (!(failL ff1)))] hA fun fr hA=>?_
   refine end_ops ?_
   refine then_normal ?_
   rcases Bool.eq_false_or_eq_true (failL ff1) with h3 | h3
   · rw [h3] at hA
     refine cF hA ?_
     refine wp_skip ?_
     refine then_normal ?_
     refine rr 8 ?_
     refine Kb 2 [(61,.agg #[i64 v1.mo,i64 v1.po,str v1.inp,.slice v1.pj v1.lj.length v1.cj,i64 v1.rd,i64 v1.wr,i64 v1.pv,.slice v1.pc v1.lc.length v1.cc,.slice v1.pp v1.lp.length v1.cp]),(62,i64 (-13))] hA [.agg #[i64 v1.mo,i64 v1.po,str v1.inp,.slice v1.pj v1.lj.length v1.cj,i64 v1.rd,i64 v1.wr,i64 v1.pv,.slice v1.pc v1.lc.length v1.cc,.slice v1.pp v1.lp.length v1.cp]] (cc (hO.ln 1 0 31 (cS v1.mo v1.po v1.inp v1.pj v1.lj.length v1.cj v1.rd v1.wr v1.pv v1.pc v1.lc.length v1.cc v1.pp v1.lp.length v1.cp)) c0) fun fr hA=>?_
     replace hO:Ow Tryd.prog M w w8 ([(b3,35,[i64 x1.d.call,i64 x1.d.a0,i64 x1.d.a1,i64 x1.d.a2,.slice x1.p x1.d.data.length x1.c]),(b1,31,(cS v1.mo v1.po v1.inp v1.pj v1.lj.length v1.cj v1.rd v1.wr v1.pv v1.pc v1.lc.length v1.cc v1.pp v1.lp.length v1.cp)),(b2,36,(fl8 f1)),(wb,39,(wc {a with fp:=fq1,ff:=ff1.tail,fc:=fk1,told:=told1,ok:=ok1}))]++(T++(TL1++([])))):=hO
     refine wpOps_cons' (mC (d:=(some 63)) hA Tryd.func8 ((Step_n v1 (-13) _ (Holds'.at hTL1 (hO.tt:Ow Tryd.prog M w _ (([(b3,35,[i64 x1.d.call,i64 x1.d.a0,i64 x1.d.a1,i64 x1.d.a2,.slice x1.p x1.d.data.length x1.c]),(b1,31,(cS v1.mo v1.po v1.inp v1.pj v1.lj.length v1.cj v1.rd v1.wr v1.pv v1.pc v1.lc.length v1.cc v1.pp v1.lp.length v1.cp)),(b2,36,(fl8 f1)),(wb,39,(wc {a with fp:=fq1,ff:=ff1.tail,fc:=fk1,told:=told1,ok:=ok1}))]++(T++([])))++(TL1++([])))).m).1 hsm1 (hE _ hO.only) (by omega) (by omega)).mono ?_))
     rintro en w9 ⟨vq2,xq2,Tq2,hdq2,hxq2,hsmq2,rfl,hW,hGq2,hXq2⟩
     refine ⟨_,rfl,?_⟩
     clear hA fr; intro fr hA
     replace hO:=Ow.join hO hW; clear hW
     have hPTq2:Holds' Tq2 (fun w_=>SV.ok vq2 w_/\VP w_ xq2):=Holds'.and hGq2 hXq2
     replace hO:=Ow.pan3 (hO.to (by first | rfl | (simp only [TP,apd])):Ow Tryd.prog M w _ (([(b3,35,[i64 x1.d.call,i64 x1.d.a0,i64 x1.d.a1,i64 x1.d.a2,.slice x1.p x1.d.data.length x1.c]),(b1,31,(cS v1.mo v1.po v1.inp v1.pj v1.lj.length v1.cj v1.rd v1.wr v1.pv v1.pc v1.lc.length v1.cc v1.pp v1.lp.length v1.cp)),(b2,36,(fl8 f1)),(wb,39,(wc {a with fp:=fq1,ff:=ff1.tail,fc:=fk1,told:=told1,ok:=ok1}))]++(T++([])))++(TL1++(Tq2++([]))))) (Only.refl _ _)
     replace hO:Ow Tryd.prog M w _ ([(b3,35,[i64 x1.d.call,i64 x1.d.a0,i64 x1.d.a1,i64 x1.d.a2,.slice x1.p x1.d.data.length x1.c]),(b1,31,(cS v1.mo v1.po v1.inp v1.pj v1.lj.length v1.cj v1.rd v1.wr v1.pv v1.pc v1.lc.length v1.cc v1.pp v1.lp.length v1.cp)),(b2,36,(fl8 f1)),(wb,39,(wc {a with fp:=fq1,ff:=ff1.tail,fc:=fk1,told:=told1,ok:=ok1}))]++(T++(Tq2++([])))):=hO.to (by first | rfl | (simp only [TP,apd]))
     refine Ka 3 [(64,.agg #[i64 vq2.mo,i64 vq2.po,str vq2.inp,.slice vq2.pj vq2.lj.length vq2.cj,i64 vq2.rd,i64 vq2.wr,i64 vq2.pv,.slice vq2.pc vq2.lc.length vq2.cc,.slice vq2.pp vq2.lp.length vq2.cp]),(65,.agg #[i64 xq2.d.call,i64 xq2.d.a0,i64 xq2.d.a1,i64 xq2.d.a2,.slice xq2.p xq2.d.data.length xq2.c])] hA fun fr hA=>?_
     refine Ms 0 (cS vq2.mo vq2.po vq2.inp vq2.pj vq2.lj.length vq2.cj vq2.rd vq2.wr vq2.pv vq2.pc vq2.lc.length vq2.cc vq2.pp vq2.lp.length vq2.cp) 1 hA hO fun w10 hO=>?_
     refine Ms 0 [i64 xq2.d.call,i64 xq2.d.a0,i64 xq2.d.a1,i64 xq2.d.a2,.slice xq2.p xq2.d.data.length xq2.c] 0 hA hO fun w11 hO=>?_
     refine end_ops ?_
     refine inBlock_normal ?_
     refine then_normal ?_
     refine Rc [(7,i64 (((k:Nat):Int)+1))] hA [bl true] (cc ((inK_i64 (by omega) (by omega)):inK .i64 (((k:Nat):Int)+1)) c0) fun fr hA=>?_
     refine then_normal ?_
     exact ⟨_,by omega,k+1,m,vq2,xq2,f1,fq1,ff1.tail,fk1,told1,ok1,Tq2,rfl,hA.ss,hO,hPTq2,(by omega),(by rw [hdq2,hxq2]; exact (cw_fail (by assumption) (by assumption)).symm.trans hR),hsmq2,(by rw [hxq2]; exact ok_len (good_stepP _ _ _).2),hfl1,(fun w_ h_=>hfv1 w_ (hft1 w_ h_)),(by omega),trivial⟩
   rw [h3] at hA
   refine cT hA ?_
   refine wp_seq ?_
   refine Sb [(28,bl (x1.d.call == 2))] hA [i64 x1.d.call] (cc (hO.l1 0 0 3 (i64 x1.d.call)) c0) fun fr hA=>?_
   rcases Bool.eq_false_or_eq_true (x1.d.call == 2) with h4 | h4
   · rw [h4] at hA
     have h4p:=eq_of_beq h4
     refine cT hA ?_
     replace hO:Ow Tryd.prog M w w8 ([(b3,35,[i64 x1.d.call,i64 x1.d.a0,i64 x1.d.a1,i64 x1.d.a2,.slice x1.p x1.d.data.length x1.c]),(b1,31,(cS v1.mo v1.po v1.inp v1.pj v1.lj.length v1.cj v1.rd v1.wr v1.pv v1.pc v1.lc.length v1.cc v1.pp v1.lp.length v1.cp)),(b2,36,(fl8 f1)),(wb,39,(wc {a with fp:=fq1,ff:=ff1.tail,fc:=fk1,told:=told1,ok:=ok1}))]++(T++(TL1++([])))):=hO
     replace hO:Ow Tryd.prog M w w8 ([(b3,35,[i64 x1.d.call,i64 x1.d.a0,i64 x1.d.a1,i64 x1.d.a2,.slice x1.p x1.d.data.length x1.c]),(b1,31,(cS v1.mo v1.po v1.inp v1.pj v1.lj.length v1.cj v1.rd v1.wr v1.pv v1.pc v1.lc.length v1.cc v1.pp v1.lp.length v1.cp)),(b2,36,(fl8 f1)),(wb,39,(wc {a with fp:=fq1,ff:=ff1.tail,fc:=fk1,told:=told1,ok:=ok1}))]++(T++(TL1++([])))):=hO
     rcases vp_cases ((Holds'.at hTL1 (hO.tt:Ow Tryd.prog M w _ (([(b3,35,[i64 x1.d.call,i64 x1.d.a0,i64 x1.d.a1,i64 x1.d.a2,.slice x1.p x1.d.data.length x1.c]),(b1,31,(cS v1.mo v1.po v1.inp v1.pj v1.lj.length v1.cj v1.rd v1.wr v1.pv v1.pc v1.lc.length v1.cc v1.pp v1.lp.length v1.cp)),(b2,36,(fl8 f1)),(wb,39,(wc {a with fp:=fq1,ff:=ff1.tail,fc:=fk1,told:=told1,ok:=ok1}))]++(T++([])))++(TL1++([])))).m).2) with ⟨hp_ad1,hc_ad1,hd_ad1⟩ | ⟨ad1,hp_ad1⟩
     · have hn_ad1:x1.d.data.length=0:=by rw [hd_ad1]; rfl
       rw [hp_ad1,hc_ad1,hn_ad1] at hO
       refine sJ (fun fr W=>∃ (pJ1:Option Addr) (cJ1:Nat) (TJ1:OwL),Holds 69 [] fr [(0,pt wb),(4,pt b1),(5,pt b2),(6,pt b3),(7,i64 ((k:Nat):Int))]/\Ow Tryd.prog M w W ([(b3,35,[i64 x1.d.call,i64 x1.d.a0,i64 x1.d.a1,i64 x1.d.a2,.slice none 0 0]),(b1,31,(cS v1.mo v1.po v1.inp v1.pj v1.lj.length v1.cj v1.rd v1.wr v1.pv v1.pc v1.lc.length v1.cc v1.pp v1.lp.length v1.cp)),(b2,36,(fl8 f1)),(wb,39,(wc {a with fp:=fq1,ff:=ff1.tail,fc:=fk1,told:=told1,ok:=ok1,rp:=pJ1,rl:=a.rl++([⟨bsI [],f1⟩]:List RunL),rc:=cJ1}))]++(TJ1++(TL1++([]))))/\One fR 47 9 pJ1 cJ1 (a.rl++([⟨bsI [],f1⟩]:List RunL)) TJ1/\True) ?_ ?_
       · rintro fr w12 ⟨pJ1,cJ1,TJ1,hA,hO,hTJ1,-⟩
         refine wp_ret ?_
         refine then_ret ?_
         refine then_ret ?_
         refine inBlock_ret ?_
         refine then_ret ?_
         refine then_ret ?_
         refine inBlock_ret ?_
         refine then_ret ?_
         refine cv [] hA ?_
         replace hO:Ow Tryd.prog M w w12 ([(b3,35,[i64 x1.d.call,i64 x1.d.a0,i64 x1.d.a1,i64 x1.d.a2,.slice none 0 0]),(b1,31,(cS v1.mo v1.po v1.inp v1.pj v1.lj.length v1.cj v1.rd v1.wr v1.pv v1.pc v1.lc.length v1.cc v1.pp v1.lp.length v1.cp)),(b2,36,(fl8 f1)),(wb,39,(wc {a with fp:=fq1,ff:=ff1.tail,fc:=fk1,told:=told1,ok:=ok1,rp:=pJ1,rl:=a.rl++([⟨bsI [],f1⟩]:List RunL),rc:=cJ1}))]++(TJ1++(TL1++([])))):=hO
         exact ⟨fq1,ff1.tail,fk1,pJ1,a.rl++([⟨bsI [],f1⟩]:List RunL),cJ1,told1,ok1,TJ1,(by rw [← hR,cw_exec (by assumption) (by assumption) (by assumption),hd_ad1]; rfl),hTJ1,hfl1,(fun w_ h_=>hfv1 w_ (hft1 w_ h_)),rfl,(show Ow Tryd.prog M w _ ((wb,39,wc {a with fp:=fq1,ff:=ff1.tail,fc:=fk1,rp:=pJ1,rl:=a.rl++([⟨bsI [],f1⟩]:List RunL),rc:=cJ1,told:=told1,ok:=ok1})::TJ1) from ((Ow.pan3 (A:=[(wb,39,wc {a with fp:=fq1,ff:=ff1.tail,fc:=fk1,told:=told1,ok:=ok1,rp:=pJ1,rl:=a.rl++([⟨bsI [],f1⟩]:List RunL),rc:=cJ1})]++TJ1) (T:=TL1) (B:=[]) (((Ow.subP (A:=[(b3,35,[i64 x1.d.call,i64 x1.d.a0,i64 x1.d.a1,i64 x1.d.a2,.slice none 0 0]),(b1,31,(cS v1.mo v1.po v1.inp v1.pj v1.lj.length v1.cj v1.rd v1.wr v1.pv v1.pc v1.lc.length v1.cc v1.pp v1.lp.length v1.cp)),(b2,36,(fl8 f1)),(wb,39,(wc {a with fp:=fq1,ff:=ff1.tail,fc:=fk1,told:=told1,ok:=ok1,rp:=pJ1,rl:=a.rl++([⟨bsI [],f1⟩]:List RunL),rc:=cJ1}))]) (A':=[(wb,39,(wc {a with fp:=fq1,ff:=ff1.tail,fc:=fk1,told:=told1,ok:=ok1,rp:=pJ1,rl:=a.rl++([⟨bsI [],f1⟩]:List RunL),rc:=cJ1}))]) (B:=TJ1++(TL1++([]))) hO (.cons _ (.cons _ (.cons _ (.cons_cons _ .slnil)))))).to (by simp only [List.append_assoc])) (Only.refl _ _)).to (by simp only [List.append_nil]; rfl)))⟩
       have hS:=hO.pk [0,1,2]
       refine rT (.q 0 (.q 1 (.q 2 (.q 3 (.q 5 (.q 6 (.q 8 (.m 4 (.m 7 (.q 9 (.m 10 (.m 11 (.q 12 (.q 13 (.m 14 .fin .non))) .non) .non)) .non) (.m 7 (.q 9 (.m 4 (.m 10 (.m 11 (.q 12 (.q 13 (.m 14 .fin .non))) .non) .non) (.m 10 (.m 4 (.m 11 (.q 12 (.q 13 (.m 14 .fin .non))) .non) .non) .non))) .non))))))))) hS ?_
       intro w13 ho; replace hO:=hO.st ho; clear ho
       refine tree_let (t1:= .m 11 (.q 12 (.q 13 (.m 14 .fin .non))) .non) (fun fr W=>∃ (s1:Nat),Holds 69 [] fr [(0,pt wb),(4,pt b1),(5,pt b2),(6,pt b3),(7,i64 ((k:Nat):Int)),(29,pt wb),(33,.slice a.rp a.rl.length a.rc),(39,.slice (some ⟨s1,0,none⟩) 1 1)]/\Ow Tryd.prog M w W ([(s1,47,[str (bsI []),str f1.f0,str f1.f1,str f1.f2,str f1.f3,str f1.f4,str f1.f5,str f1.f6,str f1.f7]),(b3,35,[i64 x1.d.call,i64 x1.d.a0,i64 x1.d.a1,i64 x1.d.a2,.slice none 0 0]),(b1,31,(cS v1.mo v1.po v1.inp v1.pj v1.lj.length v1.cj v1.rd v1.wr v1.pv v1.pc v1.lc.length v1.cc v1.pp v1.lp.length v1.cp)),(b2,36,(fl8 f1)),(wb,39,(wc {a with fp:=fq1,ff:=ff1.tail,fc:=fk1,told:=told1,ok:=ok1}))]++(T++(TL1++([]))))/\True) ?_ ?_
       · rintro fr w14 ⟨s1,hA,hO,-⟩
         refine tree_mem ?_ ?_
         · replace hO:Ow Tryd.prog M w w14 ([(s1,47,[str (bsI []),str f1.f0,str f1.f1,str f1.f2,str f1.f3,str f1.f4,str f1.f5,str f1.f6,str f1.f7]),(b3,35,[i64 x1.d.call,i64 x1.d.a0,i64 x1.d.a1,i64 x1.d.a2,.slice none 0 0]),(b1,31,(cS v1.mo v1.po v1.inp v1.pj v1.lj.length v1.cj v1.rd v1.wr v1.pv v1.pc v1.lc.length v1.cc v1.pp v1.lp.length v1.cp)),(b2,36,(fl8 f1)),(wb,39,(wc {a with fp:=fq1,ff:=ff1.tail,fc:=fk1,told:=told1,ok:=ok1}))]++(T++(TL1++([])))):=hO
           refine (mA (f:=fR) (el:=47) (sz:=9) (bytes:=144) (p:=a.rp) (c:=a.rc) (l:=a.rl) (l':=([⟨bsI [],f1⟩]:List RunL)) (T:=T) (t:=37) (tx:=37) (ty:=37) (x:= .slice (some ⟨s1,0,none⟩) 1 1) (d:=40) [(s1,47,[str (bsI []),str f1.f0,str f1.f1,str f1.f2,str f1.f3,str f1.f4,str f1.f5,str f1.f6,str f1.f7]),(b3,35,[i64 x1.d.call,i64 x1.d.a0,i64 x1.d.a1,i64 x1.d.a2,.slice none 0 0]),(b1,31,(cS v1.mo v1.po v1.inp v1.pj v1.lj.length v1.cj v1.rd v1.wr v1.pv v1.pc v1.lc.length v1.cc v1.pp v1.lp.length v1.cp)),(b2,36,(fl8 f1)),(wb,39,(wc {a with fp:=fq1,ff:=ff1.tail,fc:=fk1,told:=told1,ok:=ok1}))] (TL1++([])) encR hA hO h1r (Vw.src (e':=47) encR ((hO.b 0).vw (off:=0) (xs:=([⟨bsI [],f1⟩]:List RunL)) (by kernel_rfl)) (by kernel_rfl)) (by first | omega | (simp only [List.length_append,List.length_cons,List.length_nil]; omega)) (by unfold maxLen; first | omega | (simp only [List.length_append,List.length_cons,List.length_nil]; omega)) fun fr w15 p1 c1 T1 hA hO hT1=>?_)
           refine ⟨(hO.sub [1,2,3]),?_⟩
           refine Kt [12,13] [(42,pf wb 27)] hA [] c0 fun fr hA=>?_
           refine tree_mem ?_ ?_
           · refine (mSR (off:=27) (ad:=⟨wb,27,none⟩) (vc:=[.slice p1 ((a.rl++([⟨bsI [],f1⟩]:List RunL)).length) c1]) (l':=(wc {a with fp:=fq1,ff:=ff1.tail,fc:=fk1,told:=told1,ok:=ok1,rp:=p1,rl:=a.rl++([⟨bsI [],f1⟩]:List RunL),rc:=c1})) 4 hA hO rfl (by kernel_rfl) (by kernel_rfl) fun w16 hO=>?_)
             refine ⟨(hO.sub [1,2,3]),?_⟩
             refine tree_fin ?_
             refine then_normal ?_
             exact ⟨p1,c1,T1,hA.sb,(Ow.subP (A:=[_,_,_,_,_]) hO (.cons _ (.cons_cons _ (.cons_cons _ (.cons_cons _ (.cons_cons _ .slnil)))))),hT1,trivial⟩
           exact trivial
         exact trivial
       intro ht1
       refine Kt [0,1,2,3,5,6,8] [(29,pt wb),(32,pf wb 27),(35,.slice none 0 0),(37,.agg (List.toArray (fl8 f1)))] hA [.slice none 0 0,.agg (List.toArray (fl8 f1))] (cc (hS.s1 0 4 33 (.slice none 0 0)) (cc (hS.sn 2 0 36 (fl8 f1)) c0)) fun fr hA=>?_
       refine tree_mem ?_ ?_
       · refine (Qc [(33,.slice a.rp a.rl.length a.rc)] hA [.slice a.rp a.rl.length a.rc] (cc (hO.l1 3 27 37 (.slice a.rp a.rl.length a.rc)) c0) fun fr hA=>?_)
         refine ⟨(hO.sub [0,1,2]),?_⟩
         refine tree_mem ?_ ?_
         · replace hO:Ow Tryd.prog M w w13 ([(b3,35,[i64 x1.d.call,i64 x1.d.a0,i64 x1.d.a1,i64 x1.d.a2,.slice none 0 0]),(b1,31,(cS v1.mo v1.po v1.inp v1.pj v1.lj.length v1.cj v1.rd v1.wr v1.pv v1.pc v1.lc.length v1.cc v1.pp v1.lp.length v1.cp)),(b2,36,(fl8 f1)),(wb,39,(wc {a with fp:=fq1,ff:=ff1.tail,fc:=fk1,told:=told1,ok:=ok1}))]++(T++(TL1++([])))):=hO
           refine (Qc [(36,str (bsI []))] hA [] c0 fun fr hA=>?_)
           refine ⟨(hO.sub [0,1,2]),?_⟩
           refine Kt [9] [(38,.agg #[str (bsI []),str f1.f0,str f1.f1,str f1.f2,str f1.f3,str f1.f4,str f1.f5,str f1.f6,str f1.f7])] hA [] c0 fun fr hA=>?_
           refine tree_mem ?_ ?_
           · refine (mN (l:=[str (bsI []),str f1.f0,str f1.f1,str f1.f2,str f1.f3,str f1.f4,str f1.f5,str f1.f6,str f1.f7]) (t:=47) (v:=fun b=> .slice (some ⟨b,0,none⟩) 1 1) (d:=39) hA hO fun fr w17 b4 hA hO=>?_)
             refine ⟨(hO.sub [1,2,3]),?_⟩
             exact ht1 _ _ ⟨b4,hA.sb,hO.tt,trivial⟩
           exact trivial
         exact trivial
       refine tree_mem ?_ ?_
       · replace hO:Ow Tryd.prog M w w13 ([(b3,35,[i64 x1.d.call,i64 x1.d.a0,i64 x1.d.a1,i64 x1.d.a2,.slice none 0 0]),(b1,31,(cS v1.mo v1.po v1.inp v1.pj v1.lj.length v1.cj v1.rd v1.wr v1.pv v1.pc v1.lc.length v1.cc v1.pp v1.lp.length v1.cp)),(b2,36,(fl8 f1)),(wb,39,(wc {a with fp:=fq1,ff:=ff1.tail,fc:=fk1,told:=told1,ok:=ok1}))]++(T++(TL1++([])))):=hO
         refine (Qc [(36,str (bsI []))] hA [] c0 fun fr hA=>?_)
         refine ⟨(hO.sub [0,1,2]),?_⟩
         refine Kt [9] [(38,.agg #[str (bsI []),str f1.f0,str f1.f1,str f1.f2,str f1.f3,str f1.f4,str f1.f5,str f1.f6,str f1.f7])] hA [] c0 fun fr hA=>?_
         refine tree_mem ?_ ?_
         · refine (Qc [(33,.slice a.rp a.rl.length a.rc)] hA [.slice a.rp a.rl.length a.rc] (cc (hO.l1 3 27 37 (.slice a.rp a.rl.length a.rc)) c0) fun fr hA=>?_)
           refine ⟨(hO.sub [0,1,2]),?_⟩
           refine tree_mem ?_ ?_
           · refine (mN (l:=[str (bsI []),str f1.f0,str f1.f1,str f1.f2,str f1.f3,str f1.f4,str f1.f5,str f1.f6,str f1.f7]) (t:=47) (v:=fun b=> .slice (some ⟨b,0,none⟩) 1 1) (d:=39) hA hO fun fr w18 b5 hA hO=>?_)
             refine ⟨(hO.sub [1,2,3]),?_⟩
             exact ht1 _ _ ⟨b5,hA.sb,hO.tt,trivial⟩
           exact trivial
         refine tree_mem ?_ ?_
         · refine (mN (l:=[str (bsI []),str f1.f0,str f1.f1,str f1.f2,str f1.f3,str f1.f4,str f1.f5,str f1.f6,str f1.f7]) (t:=47) (v:=fun b=> .slice (some ⟨b,0,none⟩) 1 1) (d:=39) hA hO fun fr w19 b6 hA hO=>?_)
           refine ⟨(hO.sub [1,2,3]),?_⟩
           refine tree_mem ?_ ?_
           · refine (Qc [(33,.slice a.rp a.rl.length a.rc)] hA [.slice a.rp a.rl.length a.rc] (cc (hO.l1 4 27 37 (.slice a.rp a.rl.length a.rc)) c0) fun fr hA=>?_)
             refine ⟨(hO.sub [1,2,3]),?_⟩
             exact ht1 _ _ ⟨b6,hA.sb,hO.tt,trivial⟩
           exact trivial
         exact trivial
       exact trivial
     rw [hp_ad1] at hO
     refine sJ (fun fr W=>∃ (pJ2:Option Addr) (cJ2:Nat) (TJ2:OwL),Holds 69 [] fr [(0,pt wb),(4,pt b1),(5,pt b2),(6,pt b3),(7,i64 ((k:Nat):Int))]/\Ow Tryd.prog M w W ([(b3,35,[i64 x1.d.call,i64 x1.d.a0,i64 x1.d.a1,i64 x1.d.a2,.slice (some ad1) x1.d.data.length x1.c]),(b1,31,(cS v1.mo v1.po v1.inp v1.pj v1.lj.length v1.cj v1.rd v1.wr v1.pv v1.pc v1.lc.length v1.cc v1.pp v1.lp.length v1.cp)),(b2,36,(fl8 f1)),(wb,39,(wc {a with fp:=fq1,ff:=ff1.tail,fc:=fk1,told:=told1,ok:=ok1,rp:=pJ2,rl:=a.rl++([⟨bsI x1.d.data,f1⟩]:List RunL),rc:=cJ2}))]++(TJ2++(TL1++([]))))/\One fR 47 9 pJ2 cJ2 (a.rl++([⟨bsI x1.d.data,f1⟩]:List RunL)) TJ2/\True) ?_ ?_
     · rintro fr w20 ⟨pJ2,cJ2,TJ2,hA,hO,hTJ2,-⟩
       refine wp_ret ?_
       refine then_ret ?_
       refine then_ret ?_
       refine inBlock_ret ?_
       refine then_ret ?_
       refine then_ret ?_
       refine inBlock_ret ?_
       refine then_ret ?_
       refine cv [] hA ?_
       replace hO:Ow Tryd.prog M w w20 ([(b3,35,[i64 x1.d.call,i64 x1.d.a0,i64 x1.d.a1,i64 x1.d.a2,.slice (some ad1) x1.d.data.length x1.c]),(b1,31,(cS v1.mo v1.po v1.inp v1.pj v1.lj.length v1.cj v1.rd v1.wr v1.pv v1.pc v1.lc.length v1.cc v1.pp v1.lp.length v1.cp)),(b2,36,(fl8 f1)),(wb,39,(wc {a with fp:=fq1,ff:=ff1.tail,fc:=fk1,told:=told1,ok:=ok1,rp:=pJ2,rl:=a.rl++([⟨bsI x1.d.data,f1⟩]:List RunL),rc:=cJ2}))]++(TJ2++(TL1++([])))):=hO
       exact ⟨fq1,ff1.tail,fk1,pJ2,a.rl++([⟨bsI x1.d.data,f1⟩]:List RunL),cJ2,told1,ok1,TJ2,(by rw [← hR,cw_exec (by assumption) (by assumption) (by assumption)]; rfl),hTJ2,hfl1,(fun w_ h_=>hfv1 w_ (hft1 w_ h_)),rfl,(show Ow Tryd.prog M w _ ((wb,39,wc {a with fp:=fq1,ff:=ff1.tail,fc:=fk1,rp:=pJ2,rl:=a.rl++([⟨bsI x1.d.data,f1⟩]:List RunL),rc:=cJ2,told:=told1,ok:=ok1})::TJ2) from ((Ow.pan3 (A:=[(wb,39,wc {a with fp:=fq1,ff:=ff1.tail,fc:=fk1,told:=told1,ok:=ok1,rp:=pJ2,rl:=a.rl++([⟨bsI x1.d.data,f1⟩]:List RunL),rc:=cJ2})]++TJ2) (T:=TL1) (B:=[]) (((Ow.subP (A:=[(b3,35,[i64 x1.d.call,i64 x1.d.a0,i64 x1.d.a1,i64 x1.d.a2,.slice (some ad1) x1.d.data.length x1.c]),(b1,31,(cS v1.mo v1.po v1.inp v1.pj v1.lj.length v1.cj v1.rd v1.wr v1.pv v1.pc v1.lc.length v1.cc v1.pp v1.lp.length v1.cp)),(b2,36,(fl8 f1)),(wb,39,(wc {a with fp:=fq1,ff:=ff1.tail,fc:=fk1,told:=told1,ok:=ok1,rp:=pJ2,rl:=a.rl++([⟨bsI x1.d.data,f1⟩]:List RunL),rc:=cJ2}))]) (A':=[(wb,39,(wc {a with fp:=fq1,ff:=ff1.tail,fc:=fk1,told:=told1,ok:=ok1,rp:=pJ2,rl:=a.rl++([⟨bsI x1.d.data,f1⟩]:List RunL),rc:=cJ2}))]) (B:=TJ2++(TL1++([]))) hO (.cons _ (.cons _ (.cons _ (.cons_cons _ .slnil)))))).to (by simp only [List.append_assoc])) (Only.refl _ _)).to (by simp only [List.append_nil]; rfl)))⟩
     have hS:=hO.pk [0,1,2]
     refine rT (.q 0 (.q 1 (.q 2 (.q 3 (.q 5 (.q 6 (.q 8 (.m 4 (.m 7 (.q 9 (.m 10 (.m 11 (.q 12 (.q 13 (.m 14 .fin .non))) .non) .non)) .non) (.m 7 (.q 9 (.m 4 (.m 10 (.m 11 (.q 12 (.q 13 (.m 14 .fin .non))) .non) .non) (.m 10 (.m 4 (.m 11 (.q 12 (.q 13 (.m 14 .fin .non))) .non) .non) .non))) .non))))))))) hS ?_
     intro w21 ho; replace hO:=hO.st ho; clear ho
     refine tree_let (t1:= .m 11 (.q 12 (.q 13 (.m 14 .fin .non))) .non) (fun fr W=>∃ (s2:Nat),Holds 69 [] fr [(0,pt wb),(4,pt b1),(5,pt b2),(6,pt b3),(7,i64 ((k:Nat):Int)),(29,pt wb),(33,.slice a.rp a.rl.length a.rc),(39,.slice (some ⟨s2,0,none⟩) 1 1)]/\Ow Tryd.prog M w W ([(s2,47,[str (bsI x1.d.data),str f1.f0,str f1.f1,str f1.f2,str f1.f3,str f1.f4,str f1.f5,str f1.f6,str f1.f7]),(b3,35,[i64 x1.d.call,i64 x1.d.a0,i64 x1.d.a1,i64 x1.d.a2,.slice (some ad1) x1.d.data.length x1.c]),(b1,31,(cS v1.mo v1.po v1.inp v1.pj v1.lj.length v1.cj v1.rd v1.wr v1.pv v1.pc v1.lc.length v1.cc v1.pp v1.lp.length v1.cp)),(b2,36,(fl8 f1)),(wb,39,(wc {a with fp:=fq1,ff:=ff1.tail,fc:=fk1,told:=told1,ok:=ok1}))]++(T++(TL1++([]))))/\True) ?_ ?_
     · rintro fr w22 ⟨s2,hA,hO,-⟩
       refine tree_mem ?_ ?_
       · replace hO:Ow Tryd.prog M w w22 ([(s2,47,[str (bsI x1.d.data),str f1.f0,str f1.f1,str f1.f2,str f1.f3,str f1.f4,str f1.f5,str f1.f6,str f1.f7]),(b3,35,[i64 x1.d.call,i64 x1.d.a0,i64 x1.d.a1,i64 x1.d.a2,.slice (some ad1) x1.d.data.length x1.c]),(b1,31,(cS v1.mo v1.po v1.inp v1.pj v1.lj.length v1.cj v1.rd v1.wr v1.pv v1.pc v1.lc.length v1.cc v1.pp v1.lp.length v1.cp)),(b2,36,(fl8 f1)),(wb,39,(wc {a with fp:=fq1,ff:=ff1.tail,fc:=fk1,told:=told1,ok:=ok1}))]++(T++(TL1++([])))):=hO
         refine (mA (f:=fR) (el:=47) (sz:=9) (bytes:=144) (p:=a.rp) (c:=a.rc) (l:=a.rl) (l':=([⟨bsI x1.d.data,f1⟩]:List RunL)) (T:=T) (t:=37) (tx:=37) (ty:=37) (x:= .slice (some ⟨s2,0,none⟩) 1 1) (d:=40) [(s2,47,[str (bsI x1.d.data),str f1.f0,str f1.f1,str f1.f2,str f1.f3,str f1.f4,str f1.f5,str f1.f6,str f1.f7]),(b3,35,[i64 x1.d.call,i64 x1.d.a0,i64 x1.d.a1,i64 x1.d.a2,.slice (some ad1) x1.d.data.length x1.c]),(b1,31,(cS v1.mo v1.po v1.inp v1.pj v1.lj.length v1.cj v1.rd v1.wr v1.pv v1.pc v1.lc.length v1.cc v1.pp v1.lp.length v1.cp)),(b2,36,(fl8 f1)),(wb,39,(wc {a with fp:=fq1,ff:=ff1.tail,fc:=fk1,told:=told1,ok:=ok1}))] (TL1++([])) encR hA hO h1r (Vw.src (e':=47) encR ((hO.b 0).vw (off:=0) (xs:=([⟨bsI x1.d.data,f1⟩]:List RunL)) (by kernel_rfl)) (by kernel_rfl)) (by first | omega | (simp only [List.length_append,List.length_cons,List.length_nil]; omega)) (by unfold maxLen; first | omega | (simp only [List.length_append,List.length_cons,List.length_nil]; omega)) fun fr w23 p2 c2 T2 hA hO hT2=>?_)
         refine ⟨(hO.sub [1,2,3]),?_⟩
         refine Kt [12,13] [(42,pf wb 27)] hA [] c0 fun fr hA=>?_
         refine tree_mem ?_ ?_
         · refine (mSR (off:=27) (ad:=⟨wb,27,none⟩) (vc:=[.slice p2 ((a.rl++([⟨bsI x1.d.data,f1⟩]:List RunL)).length) c2]) (l':=(wc {a with fp:=fq1,ff:=ff1.tail,fc:=fk1,told:=told1,ok:=ok1,rp:=p2,rl:=a.rl++([⟨bsI x1.d.data,f1⟩]:List RunL),rc:=c2})) 4 hA hO rfl (by kernel_rfl) (by kernel_rfl) fun w24 hO=>?_)
           refine ⟨(hO.sub [1,2,3]),?_⟩
           refine tree_fin ?_
           refine then_normal ?_
           exact ⟨p2,c2,T2,hA.sb,(Ow.subP (A:=[_,_,_,_,_]) hO (.cons _ (.cons_cons _ (.cons_cons _ (.cons_cons _ (.cons_cons _ .slnil)))))),hT2,trivial⟩
         exact trivial
       exact trivial
     intro ht2
     refine Kt [0,1,2,3,5,6,8] [(29,pt wb),(32,pf wb 27),(35,.slice (some ad1) x1.d.data.length x1.c),(37,.agg (List.toArray (fl8 f1)))] hA [.slice (some ad1) x1.d.data.length x1.c,.agg (List.toArray (fl8 f1))] (cc (hS.s1 0 4 33 (.slice (some ad1) x1.d.data.length x1.c)) (cc (hS.sn 2 0 36 (fl8 f1)) c0)) fun fr hA=>?_
     refine tree_mem ?_ ?_
     · refine (Qc [(33,.slice a.rp a.rl.length a.rc)] hA [.slice a.rp a.rl.length a.rc] (cc (hO.l1 3 27 37 (.slice a.rp a.rl.length a.rc)) c0) fun fr hA=>?_)
       refine ⟨(hO.sub [0,1,2]),?_⟩
       refine tree_mem ?_ ?_
       · replace hO:Ow Tryd.prog M w w21 ([(b3,35,[i64 x1.d.call,i64 x1.d.a0,i64 x1.d.a1,i64 x1.d.a2,.slice (some ad1) x1.d.data.length x1.c]),(b1,31,(cS v1.mo v1.po v1.inp v1.pj v1.lj.length v1.cj v1.rd v1.wr v1.pv v1.pc v1.lc.length v1.cc v1.pp v1.lp.length v1.cp)),(b2,36,(fl8 f1)),(wb,39,(wc {a with fp:=fq1,ff:=ff1.tail,fc:=fk1,told:=told1,ok:=ok1}))]++(T++(TL1++([])))):=hO
         refine (Qc [(36,str (bsI x1.d.data))] hA [str (bsI x1.d.data)] (cc (⟨(bsI_size _),(vw_str (n:=x1.d.data.length) (show Vw fB _ (.slice (some ad1) x1.d.data.length x1.c) x1.d.data from hp_ad1 ▸ (Holds'.at hTL1 (hO.tt:Ow Tryd.prog M w _ (([(b3,35,[i64 x1.d.call,i64 x1.d.a0,i64 x1.d.a1,i64 x1.d.a2,.slice (some ad1) x1.d.data.length x1.c]),(b1,31,(cS v1.mo v1.po v1.inp v1.pj v1.lj.length v1.cj v1.rd v1.wr v1.pv v1.pc v1.lc.length v1.cc v1.pp v1.lp.length v1.cp)),(b2,36,(fl8 f1)),(wb,39,(wc {a with fp:=fq1,ff:=ff1.tail,fc:=fk1,told:=told1,ok:=ok1}))]++(T++([])))++(TL1++([])))).m).2.1) (Holds'.at hTL1 (hO.tt:Ow Tryd.prog M w _ (([(b3,35,[i64 x1.d.call,i64 x1.d.a0,i64 x1.d.a1,i64 x1.d.a2,.slice (some ad1) x1.d.data.length x1.c]),(b1,31,(cS v1.mo v1.po v1.inp v1.pj v1.lj.length v1.cj v1.rd v1.wr v1.pv v1.pc v1.lc.length v1.cc v1.pp v1.lp.length v1.cp)),(b2,36,(fl8 f1)),(wb,39,(wc {a with fp:=fq1,ff:=ff1.tail,fc:=fk1,told:=told1,ok:=ok1}))]++(T++([])))++(TL1++([])))).m).2.2 (by kernel_rfl))⟩:(bsI x1.d.data).size=x1.d.data.length/\∀ i,i < x1.d.data.length->Ld Tryd.prog w21 (ad1.add i) 5 (.int .u8 (sb (bsI x1.d.data) i))) c0) fun fr hA=>?_)
         refine ⟨(hO.sub [0,1,2]),?_⟩
         refine Kt [9] [(38,.agg #[str (bsI x1.d.data),str f1.f0,str f1.f1,str f1.f2,str f1.f3,str f1.f4,str f1.f5,str f1.f6,str f1.f7])] hA [] c0 fun fr hA=>?_
         refine tree_mem ?_ ?_
         · refine (mN (l:=[str (bsI x1.d.data),str f1.f0,str f1.f1,str f1.f2,str f1.f3,str f1.f4,str f1.f5,str f1.f6,str f1.f7]) (t:=47) (v:=fun b=> .slice (some ⟨b,0,none⟩) 1 1) (d:=39) hA hO fun fr w25 b7 hA hO=>?_)
           refine ⟨(hO.sub [1,2,3]),?_⟩
           exact ht2 _ _ ⟨b7,hA.sb,hO.tt,trivial⟩
         exact trivial
       exact trivial
     refine tree_mem ?_ ?_
     · replace hO:Ow Tryd.prog M w w21 ([(b3,35,[i64 x1.d.call,i64 x1.d.a0,i64 x1.d.a1,i64 x1.d.a2,.slice (some ad1) x1.d.data.length x1.c]),(b1,31,(cS v1.mo v1.po v1.inp v1.pj v1.lj.length v1.cj v1.rd v1.wr v1.pv v1.pc v1.lc.length v1.cc v1.pp v1.lp.length v1.cp)),(b2,36,(fl8 f1)),(wb,39,(wc {a with fp:=fq1,ff:=ff1.tail,fc:=fk1,told:=told1,ok:=ok1}))]++(T++(TL1++([])))):=hO
       refine (Qc [(36,str (bsI x1.d.data))] hA [str (bsI x1.d.data)] (cc (⟨(bsI_size _),(vw_str (n:=x1.d.data.length) (show Vw fB _ (.slice (some ad1) x1.d.data.length x1.c) x1.d.data from hp_ad1 ▸ (Holds'.at hTL1 (hO.tt:Ow Tryd.prog M w _ (([(b3,35,[i64 x1.d.call,i64 x1.d.a0,i64 x1.d.a1,i64 x1.d.a2,.slice (some ad1) x1.d.data.length x1.c]),(b1,31,(cS v1.mo v1.po v1.inp v1.pj v1.lj.length v1.cj v1.rd v1.wr v1.pv v1.pc v1.lc.length v1.cc v1.pp v1.lp.length v1.cp)),(b2,36,(fl8 f1)),(wb,39,(wc {a with fp:=fq1,ff:=ff1.tail,fc:=fk1,told:=told1,ok:=ok1}))]++(T++([])))++(TL1++([])))).m).2.1) (Holds'.at hTL1 (hO.tt:Ow Tryd.prog M w _ (([(b3,35,[i64 x1.d.call,i64 x1.d.a0,i64 x1.d.a1,i64 x1.d.a2,.slice (some ad1) x1.d.data.length x1.c]),(b1,31,(cS v1.mo v1.po v1.inp v1.pj v1.lj.length v1.cj v1.rd v1.wr v1.pv v1.pc v1.lc.length v1.cc v1.pp v1.lp.length v1.cp)),(b2,36,(fl8 f1)),(wb,39,(wc {a with fp:=fq1,ff:=ff1.tail,fc:=fk1,told:=told1,ok:=ok1}))]++(T++([])))++(TL1++([])))).m).2.2 (by kernel_rfl))⟩:(bsI x1.d.data).size=x1.d.data.length/\∀ i,i < x1.d.data.length->Ld Tryd.prog w21 (ad1.add i) 5 (.int .u8 (sb (bsI x1.d.data) i))) c0) fun fr hA=>?_)
       refine ⟨(hO.sub [0,1,2]),?_⟩
       refine Kt [9] [(38,.agg #[str (bsI x1.d.data),str f1.f0,str f1.f1,str f1.f2,str f1.f3,str f1.f4,str f1.f5,str f1.f6,str f1.f7])] hA [] c0 fun fr hA=>?_
       refine tree_mem ?_ ?_
       · refine (Qc [(33,.slice a.rp a.rl.length a.rc)] hA [.slice a.rp a.rl.length a.rc] (cc (hO.l1 3 27 37 (.slice a.rp a.rl.length a.rc)) c0) fun fr hA=>?_)
         refine ⟨(hO.sub [0,1,2]),?_⟩
         refine tree_mem ?_ ?_
         · refine (mN (l:=[str (bsI x1.d.data),str f1.f0,str f1.f1,str f1.f2,str f1.f3,str f1.f4,str f1.f5,str f1.f6,str f1.f7]) (t:=47) (v:=fun b=> .slice (some ⟨b,0,none⟩) 1 1) (d:=39) hA hO fun fr w26 b8 hA hO=>?_)
           refine ⟨(hO.sub [1,2,3]),?_⟩
           exact ht2 _ _ ⟨b8,hA.sb,hO.tt,trivial⟩
         exact trivial
       refine tree_mem ?_ ?_
       · refine (mN (l:=[str (bsI x1.d.data),str f1.f0,str f1.f1,str f1.f2,str f1.f3,str f1.f4,str f1.f5,str f1.f6,str f1.f7]) (t:=47) (v:=fun b=> .slice (some ⟨b,0,none⟩) 1 1) (d:=39) hA hO fun fr w27 b9 hA hO=>?_)
         refine ⟨(hO.sub [1,2,3]),?_⟩
         refine tree_mem ?_ ?_
         · refine (Qc [(33,.slice a.rp a.rl.length a.rc)] hA [.slice a.rp a.rl.length a.rc] (cc (hO.l1 4 27 37 (.slice a.rp a.rl.length a.rc)) c0) fun fr hA=>?_)
           refine ⟨(hO.sub [1,2,3]),?_⟩
           exact ht2 _ _ ⟨b9,hA.sb,hO.tt,trivial⟩
         exact trivial
       exact trivial
     exact trivial
   rw [h4] at hA
   have h4p:=ne_of_beq_false h4
   refine cF hA ?_
   refine wp_skip ?_
   refine then_normal ?_
   refine sr 8 ?_
   refine Kb 2 [(44,pt wb),(45,.agg #[i64 x1.d.call,i64 x1.d.a0,i64 x1.d.a1,i64 x1.d.a2,.slice x1.p x1.d.data.length x1.c])] hA [.agg #[i64 x1.d.call,i64 x1.d.a0,i64 x1.d.a1,i64 x1.d.a2,.slice x1.p x1.d.data.length x1.c]] (cc (hO.ln 0 0 35 [i64 x1.d.call,i64 x1.d.a0,i64 x1.d.a1,i64 x1.d.a2,.slice x1.p x1.d.data.length x1.c]) c0) fun fr hA=>?_
   refine wpOps_cons' (mC (d:=(some 46)) hA Tryd.func20 ((file_two wb b2 ({a with fp:=fq1,ff:=ff1.tail,fc:=fk1,told:=told1,ok:=ok1}) f1 x1.p x1.c x1.d _ (Ow.self (A:=[_,_]) hO) (fun w_ k_=>(in3 (A:=[_,_]) hTL1 (Ow.pan3 (A:=[_,_]) hO k_).m).2) (by show 0<=told1/\told1<=1000000; omega) (by omega)).mono ?_))
   rintro en w28 ⟨q3,t1,hq1,htq1,rfl,hW⟩
   refine ⟨_,rfl,?_⟩
   clear hA fr; intro fr hA
   replace hO:=Ow.pass (A:=[_,_]) hO hW; clear hW
   have htq1:t1=told1+q3.2.2.2:=htq1
   have hres_:=fileF_res (x:=x1.d) (f:=f1) hxl1
   rw [hq1] at hres_
   have htd_:=fileF_told x1.d f1
   rw [hq1] at htd_
   refine Ka 5 [(9,i64 q3.1),(10,bl q3.2.1)] hA fun fr hA=>?_
   refine end_ops ?_
   refine then_normal ?_
   refine sJ (fun fr W=>Holds 69 [] fr [(0,pt wb),(4,pt b1),(5,pt b2),(6,pt b3),(7,i64 ((k:Nat):Int)),(9,i64 q3.1)]/\Ow Tryd.prog M w W ([(b3,35,[i64 x1.d.call,i64 x1.d.a0,i64 x1.d.a1,i64 x1.d.a2,.slice x1.p x1.d.data.length x1.c]),(b1,31,(cS v1.mo v1.po v1.inp v1.pj v1.lj.length v1.cj v1.rd v1.wr v1.pv v1.pc v1.lc.length v1.cc v1.pp v1.lp.length v1.cp)),(b2,36,(fl8 q3.2.2.1)),(wb,39,(wc {a with fp:=fq1,ff:=ff1.tail,fc:=fk1,told:=t1,ok:=ok1 && q3.2.1}))]++(T++(TL1++([]))))/\True) ?_ ?_
   · rintro fr w29 ⟨hA,hO,-⟩
     refine Rc [(8,i64 q3.1)] hA [] c0 fun fr hA=>?_
     refine then_normal ?_
     refine rr 8 ?_
     refine Kb 2 [(61,.agg #[i64 v1.mo,i64 v1.po,str v1.inp,.slice v1.pj v1.lj.length v1.cj,i64 v1.rd,i64 v1.wr,i64 v1.pv,.slice v1.pc v1.lc.length v1.cc,.slice v1.pp v1.lp.length v1.cp]),(62,i64 q3.1)] hA [.agg #[i64 v1.mo,i64 v1.po,str v1.inp,.slice v1.pj v1.lj.length v1.cj,i64 v1.rd,i64 v1.wr,i64 v1.pv,.slice v1.pc v1.lc.length v1.cc,.slice v1.pp v1.lp.length v1.cp]] (cc (hO.ln 1 0 31 (cS v1.mo v1.po v1.inp v1.pj v1.lj.length v1.cj v1.rd v1.wr v1.pv v1.pc v1.lc.length v1.cc v1.pp v1.lp.length v1.cp)) c0) fun fr hA=>?_
     replace hO:Ow Tryd.prog M w w29 ([(b3,35,[i64 x1.d.call,i64 x1.d.a0,i64 x1.d.a1,i64 x1.d.a2,.slice x1.p x1.d.data.length x1.c]),(b1,31,(cS v1.mo v1.po v1.inp v1.pj v1.lj.length v1.cj v1.rd v1.wr v1.pv v1.pc v1.lc.length v1.cc v1.pp v1.lp.length v1.cp)),(b2,36,(fl8 q3.2.2.1)),(wb,39,(wc {a with fp:=fq1,ff:=ff1.tail,fc:=fk1,told:=t1,ok:=ok1 && q3.2.1}))]++(T++(TL1++([])))):=hO
     refine wpOps_cons' (mC (d:=(some 63)) hA Tryd.func8 ((Step_n v1 q3.1 _ (Holds'.at hTL1 (hO.tt:Ow Tryd.prog M w _ (([(b3,35,[i64 x1.d.call,i64 x1.d.a0,i64 x1.d.a1,i64 x1.d.a2,.slice x1.p x1.d.data.length x1.c]),(b1,31,(cS v1.mo v1.po v1.inp v1.pj v1.lj.length v1.cj v1.rd v1.wr v1.pv v1.pc v1.lc.length v1.cc v1.pp v1.lp.length v1.cp)),(b2,36,(fl8 q3.2.2.1)),(wb,39,(wc {a with fp:=fq1,ff:=ff1.tail,fc:=fk1,told:=t1,ok:=ok1 && q3.2.1}))]++(T++([])))++(TL1++([])))).m).1 hsm1 (hE _ hO.only) (by omega) (by omega)).mono ?_))
     rintro en w30 ⟨vq4,xq4,Tq4,hdq4,hxq4,hsmq4,rfl,hW,hGq4,hXq4⟩
     refine ⟨_,rfl,?_⟩
     clear hA fr; intro fr hA
     replace hO:=Ow.join hO hW; clear hW
     have hPTq4:Holds' Tq4 (fun w_=>SV.ok vq4 w_/\VP w_ xq4):=Holds'.and hGq4 hXq4
     replace hO:=Ow.pan3 (hO.to (by first | rfl | (simp only [TP,apd])):Ow Tryd.prog M w _ (([(b3,35,[i64 x1.d.call,i64 x1.d.a0,i64 x1.d.a1,i64 x1.d.a2,.slice x1.p x1.d.data.length x1.c]),(b1,31,(cS v1.mo v1.po v1.inp v1.pj v1.lj.length v1.cj v1.rd v1.wr v1.pv v1.pc v1.lc.length v1.cc v1.pp v1.lp.length v1.cp)),(b2,36,(fl8 q3.2.2.1)),(wb,39,(wc {a with fp:=fq1,ff:=ff1.tail,fc:=fk1,told:=t1,ok:=ok1 && q3.2.1}))]++(T++([])))++(TL1++(Tq4++([]))))) (Only.refl _ _)
     replace hO:Ow Tryd.prog M w _ ([(b3,35,[i64 x1.d.call,i64 x1.d.a0,i64 x1.d.a1,i64 x1.d.a2,.slice x1.p x1.d.data.length x1.c]),(b1,31,(cS v1.mo v1.po v1.inp v1.pj v1.lj.length v1.cj v1.rd v1.wr v1.pv v1.pc v1.lc.length v1.cc v1.pp v1.lp.length v1.cp)),(b2,36,(fl8 q3.2.2.1)),(wb,39,(wc {a with fp:=fq1,ff:=ff1.tail,fc:=fk1,told:=t1,ok:=ok1 && q3.2.1}))]++(T++(Tq4++([])))):=hO.to (by first | rfl | (simp only [TP,apd]))
     refine Ka 3 [(64,.agg #[i64 vq4.mo,i64 vq4.po,str vq4.inp,.slice vq4.pj vq4.lj.length vq4.cj,i64 vq4.rd,i64 vq4.wr,i64 vq4.pv,.slice vq4.pc vq4.lc.length vq4.cc,.slice vq4.pp vq4.lp.length vq4.cp]),(65,.agg #[i64 xq4.d.call,i64 xq4.d.a0,i64 xq4.d.a1,i64 xq4.d.a2,.slice xq4.p xq4.d.data.length xq4.c])] hA fun fr hA=>?_
     refine Ms 0 (cS vq4.mo vq4.po vq4.inp vq4.pj vq4.lj.length vq4.cj vq4.rd vq4.wr vq4.pv vq4.pc vq4.lc.length vq4.cc vq4.pp vq4.lp.length vq4.cp) 1 hA hO fun w31 hO=>?_
     refine Ms 0 [i64 xq4.d.call,i64 xq4.d.a0,i64 xq4.d.a1,i64 xq4.d.a2,.slice xq4.p xq4.d.data.length xq4.c] 0 hA hO fun w32 hO=>?_
     refine end_ops ?_
     refine inBlock_normal ?_
     refine then_normal ?_
     refine Rc [(7,i64 (((k:Nat):Int)+1))] hA [bl true] (cc ((inK_i64 (by omega) (by omega)):inK .i64 (((k:Nat):Int)+1)) c0) fun fr hA=>?_
     refine then_normal ?_
     exact ⟨_,by omega,k+1,m,vq4,xq4,q3.2.2.1,fq1,ff1.tail,fk1,t1,ok1 && q3.2.1,Tq4,rfl,hA.ss,hO,hPTq4,(by omega),(by rw [hdq4,hxq4,htq1]; exact (cw_file (by assumption) (by assumption) (by assumption) hq1).symm.trans hR),hsmq4,(by rw [hxq4]; exact ok_len (good_stepP _ _ _).2),hfl1,(fun w_ h_=>hfv1 w_ (hft1 w_ h_)),(by omega),trivial⟩
   refine rr 11 ?_
   refine Kb 6 [(49,pt wb),(53,bl ok1),(54,bl ok1)] hA [bl ok1] (cc (hO.l1 3 32 4 (bl ok1)) c0) fun fr hA=>?_
   rcases Bool.eq_false_or_eq_true (ok1) with h5 | h5
   · rw [h5] at hA
     refine Ka 4 [(56,bl q3.2.1),(58,pf wb 32)] hA fun fr hA=>?_
     refine wpOps_cons' (mSR (off:=32) (ad:=⟨wb,32,none⟩) (vc:=[bl q3.2.1]) (l':=(wc {a with fp:=fq1,ff:=ff1.tail,fc:=fk1,told:=t1,ok:=q3.2.1})) 3 hA hO rfl (by kernel_rfl) (by kernel_rfl) fun w33 hO=>?_)
     refine end_ops ?_
     refine then_normal ?_
     replace hO:Ow Tryd.prog M w w33 ([(b3,35,[i64 x1.d.call,i64 x1.d.a0,i64 x1.d.a1,i64 x1.d.a2,.slice x1.p x1.d.data.length x1.c]),(b1,31,(cS v1.mo v1.po v1.inp v1.pj v1.lj.length v1.cj v1.rd v1.wr v1.pv v1.pc v1.lc.length v1.cc v1.pp v1.lp.length v1.cp)),(b2,36,(fl8 q3.2.2.1)),(wb,39,(wc {a with fp:=fq1,ff:=ff1.tail,fc:=fk1,told:=t1,ok:=q3.2.1}))]++(T++(TL1++([])))):=hO
     exact ⟨hA.sb,(hO).to (by rw [show (ok1 && q3.2.1)=q3.2.1 from by rw [h5]; rfl]),trivial⟩
   rw [h5] at hA
   refine Ka 4 [(56,bl false),(58,pf wb 32)] hA fun fr hA=>?_
   refine wpOps_cons' (mSR (off:=32) (ad:=⟨wb,32,none⟩) (vc:=[bl false]) (l':=(wc {a with fp:=fq1,ff:=ff1.tail,fc:=fk1,told:=t1,ok:=false})) 3 hA hO rfl (by kernel_rfl) (by kernel_rfl) fun w34 hO=>?_)
   refine end_ops ?_
   refine then_normal ?_
   replace hO:Ow Tryd.prog M w w34 ([(b3,35,[i64 x1.d.call,i64 x1.d.a0,i64 x1.d.a1,i64 x1.d.a2,.slice x1.p x1.d.data.length x1.c]),(b1,31,(cS v1.mo v1.po v1.inp v1.pj v1.lj.length v1.cj v1.rd v1.wr v1.pv v1.pc v1.lc.length v1.cc v1.pp v1.lp.length v1.cp)),(b2,36,(fl8 q3.2.2.1)),(wb,39,(wc {a with fp:=fq1,ff:=ff1.tail,fc:=fk1,told:=t1,ok:=false}))]++(T++(TL1++([])))):=hO
   exact ⟨hA.sb,(hO).to (by rw [show (ok1 && q3.2.1)=false from by rw [h5]; rfl]),trivial⟩
 rw [h1] at hA
 have h1p:=of_decide_eq_false h1
 obtain rfl:m=0:=by omega
 refine cF hA ?_
 refine wp_exit ?_
 refine then_exit ?_
 refine then_exit ?_
 refine inBlock_exit ?_
 refine then_normal ?_
 refine rr 4 ?_
 refine Ka 3 [(68,pf wb 32)] hA fun fr hA=>?_
 refine wpOps_cons' (mSR (off:=32) (ad:=⟨wb,32,none⟩) (vc:=[bl false]) (l':=(wc {a with fp:=fp1,ff:=ff1,fc:=fc1,told:=told1,ok:=false})) 3 hA hO rfl (by kernel_rfl) (by kernel_rfl) fun w35 hO=>?_)
 refine end_ops ?_
 refine c_end ?_
 refine cv [] hA ?_
 exact ⟨fp1,ff1,fc1,a.rp,a.rl,a.rc,told1,false,T,hR.symm,h1r,hcf1,hft1,rfl,(((Ow.pan3 (A:=[(wb,39,wc {a with fp:=fp1,ff:=ff1,fc:=fc1,told:=told1,ok:=false})]++T) (T:=TL1) (B:=[]) (((Ow.subP (A:=[(b3,35,[i64 x1.d.call,i64 x1.d.a0,i64 x1.d.a1,i64 x1.d.a2,.slice x1.p x1.d.data.length x1.c]),(b1,31,(cS v1.mo v1.po v1.inp v1.pj v1.lj.length v1.cj v1.rd v1.wr v1.pv v1.pc v1.lc.length v1.cc v1.pp v1.lp.length v1.cp)),(b2,36,(fl8 f1)),(wb,39,(wc {a with fp:=fp1,ff:=ff1,fc:=fc1,told:=told1,ok:=false}))]) (A':=[(wb,39,(wc {a with fp:=fp1,ff:=ff1,fc:=fc1,told:=told1,ok:=false}))]) (B:=T++(TL1++([]))) hO (.cons _ (.cons _ (.cons _ (.cons_cons _ .slnil)))))).to (by simp only [List.append_assoc])) (Only.refl _ _)).to (by simp only [List.append_nil]; rfl)))⟩
end Go.Proofs.YtdljjajjonfjbaaDoor
