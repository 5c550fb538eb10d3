import Derived.Test.YtdljjajjonfjbaaDoorSwd
import Derived.Test.YtdljjajjonfjbaaDoorSn
set_option linter.unusedVariables false
set_option linter.unusedSimpArgs false
set_option maxRecDepth 10000
namespace Go.Proofs.YtdljjajjonfjbaaDoor
open Go Go.Shelf Go.RowKit Go.Proofs Go.Proofs.Sx
def WOk2 (a:WV) (T:OwL):Prop:=∃ TR TA TW TS,T=TR++(TA++(TW++TS))/\WOk a TR TA TW TS
theorem wstep2 (wb:Nat) (a:WV) (T:OwL) (n:Nat) (w:World) (h0:Ow Tryd.prog (inT ((wb,39,wc a)::T)) w w ((wb,39,wc a)::T)) (hW:WOk2 a T) (hX : ∀ w',Only (inT ((wb,39,wc a)::T)) w w'->WX w' a) (hsw:smW n a.d) (hn:n<=1000) (hch : ∀ c∈a.il,c.size<=1000) :
    Calls Tryd.prog 11 #[pt wb] w fun e w'=>∃ (a':WV) (T':OwL),a'.d=stepW a.d/\WOk2 a' T'/\(∀ w,WX w a->WX w a')/\e = .returned (.tuple #[])/\Ow Tryd.prog (inT ((wb,39,wc a)::T)) w w' ((wb,39,wc a')::T'):=by
 obtain ⟨TR,TA,TW,TS,rfl,hk⟩:=hW
 exact (wstep_any wb a TR TA TW TS n w h0 hk hX hsw hn hch).mono fun e w' ⟨a',TR',TA',TW',TS',h1,h2,h3,h4,h5⟩=>⟨a',_,h1.symm,⟨TR',TA',TW',TS',rfl,h2⟩,h3,h4,h5⟩
theorem step_inp (w:WL) : ∀ c∈(stepW w).inp,c∈w.inp:=by
 have hg : ∀ (w:WL) (r:Int) (d:List Int),(goW w r d).inp=w.inp:=fun _ _ _=>rfl
 intro c hc
 unfold stepW at hc
 split at hc
 · exact hc
 split at hc
 · split at hc
   · exact hc
   rename_i x r e
   have hc:c∈r:=hc
   rw [e]; exact List.mem_cons_of_mem _ hc
 split at hc
 · split at hc <;> exact hc
 split at hc
 · exact hc
 split at hc
 · exact hc
 split at hc
 · unfold pipeW at hc
   split at hc <;> exact hc
 split at hc
 · split at hc
   · have e:(forkW (failT w)).inp=w.inp:=(child_same 40 _ _ _ _).inp
     rw [e] at hc; exact hc
   exact hc
 exact hc
def nSV:SV:=(⟨0,0,⟨#[]⟩,none,0,[],-1,-1,-1,none,0,[],none,0,[]⟩:SV)
theorem nSV_d:nSV.d=newS:=rfl
theorem nSV_ok (w:World):nSV.ok w:=⟨⟨.inl ⟨rfl,rfl⟩,fun y hy=>absurd hy List.not_mem_nil⟩,.inl ⟨rfl,rfl⟩,⟨.inl ⟨rfl,rfl⟩,fun y hy=>absurd hy List.not_mem_nil⟩⟩
theorem nSV_sm:nSV.sm:=⟨by decide,⟨by decide,fun y hy=>absurd hy List.not_mem_nil⟩,by decide,by decide,by decide,by decide,by decide⟩
theorem play_on {m:Nat} {w:WL} (h:w.exit < 0):playF (m+1) w=playF m (stepW w):=by simp only [playF]; rw [if_pos h]
theorem play_end {m:Nat} {w:WL} (h : ¬ w.exit < 0):playF m w=w:=by
 cases m with
 | zero=>rfl
 | succ m=>simp only [playF]; rw [if_neg h]
theorem smW0 (inp:List ByteArray) (fails:List Int):smW 0 (play0 inp fails):=by
 unfold play0
 refine smW.go ?_ _ _
 exact ⟨by show (0:Int)<=0/\(0:Int)<=50*((0:Nat):Int); decide,by show (0:Int)<=0/\(0:Int)<=((0:Nat):Int); decide,by show (0:Int)<=0/\(0:Int)<=15; decide,Nat.le_refl _,fun t h=>absurd h List.not_mem_nil,Nat.le_refl _,Nat.le_refl _⟩
set_option maxHeartbeats 4000000 in
theorem play_any (ip:Option Addr) (ic:Nat) (il:List ByteArray) (fp:Option Addr) (fc:Nat) (ff:List Int) (w:World) (hvi:Vw fT w (.slice ip il.length ic) il) (hvf:Vw fB w (.slice fp ff.length fc) ff) (hE:ErrOk w) (hci:il.length<=ic) (hcf:ff.length<=fc) (hch : ∀ c∈il,c.size<=1000) :
    Calls Tryd.prog 5 #[.slice ip il.length ic,.slice fp ff.length fc] w fun e w'=>∃ (wb:Nat) (a:WV) (T:OwL),e = .returned (pt wb)/\a.d=playW il ff/\WOk2 a T/\Ow Tryd.prog none' w w' ((wb,39,wc a)::T):=by
 refine c_enter (args:=[.slice ip il.length ic,.slice fp ff.length fc]) (m:=46) (n:=48) Tryd.func5 rfl (by kernel_rfl) (by kernel_rfl) fun fr hA=>?_
 have hO:=Ow.nil Tryd.prog none' w
 refine Sa [(4,.pointer none)] hA fun fr hA=>?_
 refine sr 5 ?_
 refine Ka 3 [(9,.agg #[i64 0,i64 0,str (⟨#[]⟩),.slice none 0 0,i64 0,i64 0,i64 0,.slice none 0 0,.slice none 0 0,i64 0,i64 0,i64 0,i64 0,.slice none 0 0,str (⟨#[]⟩),str (⟨#[]⟩),str (⟨#[]⟩),str (⟨#[]⟩),str (⟨#[]⟩),str (⟨#[]⟩),str (⟨#[]⟩),str (⟨#[]⟩),.slice ip il.length ic,.slice fp ff.length fc,i64 0,i64 0,.slice none 0 0,.slice none 0 0,.slice none 0 0,i64 0,i64 (-1),bl false,bl true])] hA fun fr hA=>?_
 refine Mn [i64 0,i64 0,str (⟨#[]⟩),.slice none 0 0,i64 0,i64 0,i64 0,.slice none 0 0,.slice none 0 0,i64 0,i64 0,i64 0,i64 0,.slice none 0 0,str (⟨#[]⟩),str (⟨#[]⟩),str (⟨#[]⟩),str (⟨#[]⟩),str (⟨#[]⟩),str (⟨#[]⟩),str (⟨#[]⟩),str (⟨#[]⟩),.slice ip il.length ic,.slice fp ff.length fc,i64 0,i64 0,.slice none 0 0,.slice none 0 0,.slice none 0 0,i64 0,i64 (-1),bl false,bl true] 39 10 hA hO fun fr w1 wb hA hO=>?_
 refine Ka 1 [(5,pt wb)] hA fun fr hA=>?_
 refine end_ops ?_
 refine then_normal ?_
 replace hO:Ow Tryd.prog none' w w1 [(wb,39,[i64 0,i64 0,str (⟨#[]⟩),.slice none 0 0,i64 0,i64 0,i64 0,.slice none 0 0,.slice none 0 0,i64 0,i64 0,i64 0,i64 0,.slice none 0 0,str (⟨#[]⟩),str (⟨#[]⟩),str (⟨#[]⟩),str (⟨#[]⟩),str (⟨#[]⟩),str (⟨#[]⟩),str (⟨#[]⟩),str (⟨#[]⟩),.slice ip il.length ic,.slice fp ff.length fc,i64 0,i64 0,.slice none 0 0,.slice none 0 0,.slice none 0 0,i64 0,i64 (-1),bl false,bl true])]:=hO
 obtain ⟨a0,ha0⟩ : ∃ a:WV,a=(⟨(⟨0,0,⟨#[]⟩,none,0,[],0,0,0,none,0,[],none,0,[]⟩:SV),⟨none,0,callL 0 0 0⟩,⟨⟨#[]⟩,⟨#[]⟩,⟨#[]⟩,⟨#[]⟩,⟨#[]⟩,⟨#[]⟩,⟨#[]⟩,⟨#[]⟩⟩,ip,ic,il,fp,fc,ff,0,0,none,0,[],none,0,[],none,0,[],0,-1,false,true⟩:WV):=⟨_,rfl⟩
 replace hO:Ow Tryd.prog none' w w1 [(wb,39,(wc a0))]:=by (rw [ha0]; exact hO)
 refine wp_seq ?_
 have hS:Ow Tryd.prog none' w _ []:=hO.sub []
 refine rP [(0,true),(1,true),(2,true),(3,true),(4,true),(5,true),(7,true),(8,true),(11,true),(12,true),(6,false),(9,true),(10,false),(13,true),(14,false)] hS ?_
 intro w2 ho; replace hO:=hO.st ho; clear ho
 refine Ke 10 [(16,pf wb 14),(18,pf wb 14),(21,pf wb 14)] hA [] (cc (⟨by omega,by omega⟩:(0:Int)<=0/\0 < ((8:Nat):Int)) c0) fun fr hA=>?_
 refine plan_mem (mSR (off:=14) (ad:=⟨wb,14,none⟩) (vc:=[str (⟨#[105,110]⟩)]) (l':=(wc {a0 with fl:=a0.fl.set 0 (⟨#[105,110]⟩:ByteArray)})) 0 hA hO rfl (by kernel_rfl) (by kernel_rfl) fun w3 hO=>?_)
 refine ⟨(hO.sub []),?_⟩
 refine Ke 1 [(19,pf wb 15)] hA [] (cc (⟨by omega,by omega⟩:(0:Int)<=1/\1 < ((8:Nat):Int)) c0) fun fr hA=>?_
 refine plan_mem (mSR (off:=15) (ad:=⟨wb,15,none⟩) (vc:=[str (⟨#[111,117,116]⟩)]) (l':=(wc {a0 with fl:=(a0.fl.set 0 (⟨#[105,110]⟩:ByteArray)).set 1 (⟨#[111,117,116]⟩:ByteArray)})) 0 hA hO rfl (by kernel_rfl) (by kernel_rfl) fun w4 hO=>?_)
 refine ⟨(hO.sub []),?_⟩
 refine Ke 1 [(22,pf wb 16)] hA [] (cc (⟨by omega,by omega⟩:(0:Int)<=2/\2 < ((8:Nat):Int)) c0) fun fr hA=>?_
 refine plan_mem (mSR (off:=16) (ad:=⟨wb,16,none⟩) (vc:=[str (⟨#[101,114,114]⟩)]) (l':=(wc {a0 with fl:=((a0.fl.set 0 (⟨#[105,110]⟩:ByteArray)).set 1 (⟨#[111,117,116]⟩:ByteArray)).set 2 (⟨#[101,114,114]⟩:ByteArray)})) 0 hA hO rfl (by kernel_rfl) (by kernel_rfl) fun w5 hO=>?_)
 refine ⟨(hO.sub []),?_⟩
 refine end_plan ?_
 refine then_normal ?_
 refine sr 13 ?_
 refine Ka 2 [(24,pt wb),(25,pt wb)] hA fun fr hA=>?_
 refine Mk 26 hA hO Tryd.func9 (new_any _) fun fr w6 hA hO=>?_
 replace hO:Ow Tryd.prog none' w w6 [(wb,39,(wc {a0 with fl:=((a0.fl.set 0 (⟨#[105,110]⟩:ByteArray)).set 1 (⟨#[111,117,116]⟩:ByteArray)).set 2 (⟨#[101,114,114]⟩:ByteArray)}))]:=hO
 refine wpOps_cons' (mC (d:=(some 27)) hA Tryd.func8 ((Step_n nSV 0 _ (nSV_ok _) nSV_sm (hE.keep hO.only) (by omega) (by omega)).mono ?_))
 rintro en w7 ⟨u1,x1,T1,hu1,hx1,hsm1,rfl,hW_,hG1,hXX1⟩
 refine ⟨_,rfl,?_⟩
 clear hA fr; intro fr hA
 replace hO:Ow Tryd.prog none' w _ ([(wb,39,(wc {a0 with fl:=((a0.fl.set 0 (⟨#[105,110]⟩:ByteArray)).set 1 (⟨#[111,117,116]⟩:ByteArray)).set 2 (⟨#[101,114,114]⟩:ByteArray)}))]++[]):=hO.to (List.append_nil _).symm
 replace hO:=Ow.join hO hW_; clear hW_
 replace hO:Ow Tryd.prog none' w _ ([(wb,39,(wc {a0 with fl:=((a0.fl.set 0 (⟨#[105,110]⟩:ByteArray)).set 1 (⟨#[111,117,116]⟩:ByteArray)).set 2 (⟨#[101,114,114]⟩:ByteArray)}))]++(T1++([]))):=hO.to (by first | rfl | (simp only [TP,apd]))
 refine Ka 5 [(28,.agg #[i64 u1.mo,i64 u1.po,str u1.inp,.slice u1.pj u1.lj.length u1.cj,i64 u1.rd,i64 u1.wr,i64 u1.pv,.slice u1.pc u1.lc.length u1.cc,.slice u1.pp u1.lp.length u1.cp]),(29,.agg #[i64 x1.d.call,i64 x1.d.a0,i64 x1.d.a1,i64 x1.d.a2,.slice x1.p x1.d.data.length x1.c]),(31,pt wb)] hA fun fr hA=>?_
 refine wpOps_cons' (mSR (off:=0) (ad:=⟨wb,0,none⟩) (vc:=(cS u1.mo u1.po u1.inp u1.pj u1.lj.length u1.cj u1.rd u1.wr u1.pv u1.pc u1.lc.length u1.cc u1.pp u1.lp.length u1.cp)) (l':=(wc {a0 with fl:=((a0.fl.set 0 (⟨#[105,110]⟩:ByteArray)).set 1 (⟨#[111,117,116]⟩:ByteArray)).set 2 (⟨#[101,114,114]⟩:ByteArray),sv:=u1})) 0 hA hO rfl (by kernel_rfl) (by kernel_rfl) fun w8 hO=>?_)
 refine Ka 2 [(33,pf wb 9)] hA fun fr hA=>?_
 refine wpOps_cons' (mSR (off:=9) (ad:=⟨wb,9,none⟩) (vc:=[i64 x1.d.call,i64 x1.d.a0,i64 x1.d.a1,i64 x1.d.a2,.slice x1.p x1.d.data.length x1.c]) (l':=(wc {a0 with fl:=((a0.fl.set 0 (⟨#[105,110]⟩:ByteArray)).set 1 (⟨#[111,117,116]⟩:ByteArray)).set 2 (⟨#[101,114,114]⟩:ByteArray),sv:=u1,x:=x1})) 0 hA hO rfl (by kernel_rfl) (by kernel_rfl) fun w9 hO=>?_)
 refine end_ops ?_
 refine then_normal ?_
 refine wp_seq ?_
 refine Sa [(6,i64 0)] hA fun fr hA=>?_
 refine wp_block ?_
 replace hO:Ow Tryd.prog none' w w9 ([(wb,39,(wc {a0 with fl:=((a0.fl.set 0 (⟨#[105,110]⟩:ByteArray)).set 1 (⟨#[111,117,116]⟩:ByteArray)).set 2 (⟨#[101,114,114]⟩:ByteArray),sv:=u1,x:=x1}))]++(T1++([]))):=hO
 obtain ⟨aS,haS⟩ : ∃ a:WV,a = {a0 with fl:=((a0.fl.set 0 (⟨#[105,110]⟩:ByteArray)).set 1 (⟨#[111,117,116]⟩:ByteArray)).set 2 (⟨#[101,114,114]⟩:ByteArray),sv:=u1,x:=x1}:=⟨_,rfl⟩
 replace hO:Ow Tryd.prog none' w w9 ([(wb,39,(wc aS))]++(T1++([]))):=by (rw [haS]; exact hO)
 have hdS:aS.d=play0 il ff:=by rw [haS]; unfold play0 goW; rw [ha0]; show (⟨u1.d,x1.d,_,il,ff,0,0,[],[],[],0,-1,false,true⟩:WL)=_; rw [hu1,hx1]; rfl
 have hT1:WOk2 aS T1:=⟨[],[],[],T1,rfl,by rw [haS]; exact ⟨hsm1,(by show x1.d.data.length<=128; rw [hx1]; exact ok_len (good_stepP _ _ _).2),(by rw [ha0]; exact One.nil _ _ _),(by rw [ha0]; exact (One.nil _ _ _).off),(by rw [ha0]; exact One.nil _ _ _),Holds'.and hG1 hXX1,(by rw [ha0]; exact hci),(by rw [ha0]; exact hcf)⟩⟩
 have hXS : ∀ w_,Only none' w w_->WX w_ aS:=fun w_ k_=>by (rw [haS,ha0]; exact ⟨hE.keep k_,hvi.keep k_,hvf.keep k_⟩)
 have hiS:aS.il=il:=by rw [haS,ha0]
 replace hO:Ow Tryd.prog none' w w9 ([(wb,39,(wc aS))]++(T1++([]))):=hO.to (by first | rfl | (simp only [TP,apd]))
 refine c_loop (fun mm fr W=>∃ (i:Nat) (a:WV) (m:Nat) (TL1:OwL),mm=900 - i/\Holds 48 [] fr [(4,.pointer none),(5,pt wb),(6,i64 ((i:Nat):Int))]/\Ow Tryd.prog none' w W ([(wb,39,(wc a))]++(TL1++([])))/\WOk2 a TL1/\m+i=900/\playF m a.d=playW il ff/\smW i a.d/\(∀ c∈a.il,c.size<=1000)/\(∀ w_,WX w_ aS->WX w_ a)/\True) ?_ ?_
 · exact ⟨_,0,aS,900,T1,rfl,hA.ss,hO,hT1,rfl,(by rw [hdS]; rfl),(by rw [hdS]; exact smW0 _ _),(by rw [hiS]; exact hch),(fun _ h=>h),trivial⟩
 rintro _ fr w10 ⟨i,a,m,TL1,rfl,hA,hO,hTL1,hmi,hp,hsw,hil_,hXa,-⟩
 refine wp_seq ?_
 refine sr 9 ?_
 refine Ka 3 [(35,bl (decide (((i:Nat):Int) < 900))),(36,bl (decide (((i:Nat):Int) < 900)))] hA fun fr hA=>?_
 rcases Bool.eq_false_or_eq_true (decide (((i:Nat):Int) < 900)) with h1 | h1
 · rw [h1] at hA
   have h1p:=of_decide_eq_true h1
   obtain ⟨m,rfl⟩ : ∃ j,m=j+1:=⟨m - 1,by omega⟩
   refine Kb 6 [(42,bl (decide (a.exit < 0)))] hA [i64 a.exit] (cc (hO.l1 0 30 3 (i64 a.exit)) c0) fun fr hA=>?_
   refine end_ops ?_
   refine then_normal ?_
   rcases Bool.eq_false_or_eq_true (decide (a.exit < 0)) with h2 | h2
   · rw [h2] at hA
     have h2p:=of_decide_eq_true h2
     have h2q:a.d.exit < 0:=h2p
     refine cT hA ?_
     refine wp_skip ?_
     refine then_normal ?_
     refine wp_seq ?_
     refine wp_block ?_
     refine rr 2 ?_
     refine Ka 1 [(45,pt wb)] hA fun fr hA=>?_
     replace hO:Ow Tryd.prog none' w w10 ([(wb,39,(wc a))]++(TL1++([]))):=hO
     refine wpOps_cons' (mC (d:=(some 46)) hA Tryd.func11 ((wstep2 wb a TL1 i _ (Ow.self (A:=[]) hO) hTL1 (fun w_ k_=>hXa w_ (hXS w_ (Ow.pan (A:=[]) hO k_))) hsw (by omega) hil_).mono ?_))
     rintro en w11 ⟨a2,T2,hd2,hT2,hX2,rfl,hW_⟩
     refine ⟨_,rfl,?_⟩
     clear hA fr; intro fr hA
     replace hO:=Ow.pass (A:=[]) hO hW_; clear hW_
     replace hO:Ow Tryd.prog none' w _ ([(wb,39,(wc a2))]++(T2++([]))):=hO.to (by simp only [List.append_nil,List.nil_append,List.cons_append])
     refine end_ops ?_
     refine inBlock_normal ?_
     refine then_normal ?_
     refine Rc [(6,i64 (((i:Nat):Int)+1))] hA [bl true] (cc ((inK_i64 (by omega) (by omega)):inK .i64 (((i:Nat):Int)+1)) c0) fun fr hA=>?_
     refine then_normal ?_
     exact ⟨_,by omega,i+1,a2,m,T2,rfl,hA.ss,hO,hT2,(by omega),(by rw [hd2]; exact (play_on (by assumption)).symm.trans hp),(by rw [hd2]; exact hsw.step),(fun c_ h_=>hil_ c_ (step_inp a.d c_ (by rw [← hd2]; exact h_))),(fun w_ h_=>hX2 w_ (hXa w_ h_)),trivial⟩
   rw [h2] at hA
   have h2p:=of_decide_eq_false h2
   have h2q : ¬ a.d.exit < 0:=h2p
   refine cF hA ?_
   refine wp_exit ?_
   refine then_exit ?_
   refine then_exit ?_
   refine inBlock_exit ?_
   refine then_normal ?_
   refine Sa [(4,pt wb)] hA fun fr hA=>?_
   refine wp_ret ?_
   refine cv [pt wb] hA ?_
   replace hO:Ow Tryd.prog none' w w10 ([(wb,39,(wc a))]++(TL1++([]))):=hO
   exact ⟨wb,a,TL1,rfl,(play_end (by assumption)).symm.trans hp,hTL1,(hO).to (by simp only [List.append_nil,List.nil_append,List.cons_append])⟩
 rw [h1] at hA
 have h1p:=of_decide_eq_false h1
 obtain rfl:m=0:=by omega
 refine Ka 6 [(42,bl false)] hA fun fr hA=>?_
 refine end_ops ?_
 refine then_normal ?_
 refine cF hA ?_
 refine wp_exit ?_
 refine then_exit ?_
 refine then_exit ?_
 refine inBlock_exit ?_
 refine then_normal ?_
 refine Sa [(4,pt wb)] hA fun fr hA=>?_
 refine wp_ret ?_
 refine cv [pt wb] hA ?_
 replace hO:Ow Tryd.prog none' w w10 ([(wb,39,(wc a))]++(TL1++([]))):=hO
 exact ⟨wb,a,TL1,rfl,hp,hTL1,(hO).to (by simp only [List.append_nil,List.nil_append,List.cons_append])⟩
def chunksF:Nat->ByteArray->Nat->List ByteArray
  | 0,s,_=>[s]
  | k+1,s,n=>if n < s.size then s.extract 0 n::chunksF k (s.extract n s.size) n else [s]
def chunksP (s:ByteArray) (n:Nat):List ByteArray:=chunksF s.size s n
theorem chunks_more {k n:Nat} {s:ByteArray} (h:n < s.size):chunksF (k+1) s n=s.extract 0 n::chunksF k (s.extract n s.size) n:=by simp only [chunksF]; rw [if_pos h]
theorem chunks_last {k n:Nat} {s:ByteArray} (h : ¬ n < s.size):chunksF k s n=[s]:=by
 cases k with
 | zero=>rfl
 | succ k=>simp only [chunksF]; rw [if_neg h]
theorem chunks_le {n:Nat} (hn : 1<=n) : ∀ (k:Nat) (s:ByteArray),s.size<=k->∀ c∈chunksF k s n,c.size<=n
  | 0,s,h,c,hc=>by
    have:c=s:=by simpa [chunksF] using hc
    rw [this]; omega
  | k+1,s,h,c,hc=>by
    simp only [chunksF] at hc
    split at hc
    · rcases List.mem_cons.1 hc with rfl | hc
      · rw [ByteArray.size_extract]; omega
      · exact chunks_le hn k _ (by rw [ByteArray.size_extract]; omega) c hc
    · have:c=s:=by simpa using hc
      rw [this]; omega
theorem chunks_any (s:ByteArray) (n:Nat) (w:World) (hn : 1<=n) (hn2:n<=1000) (hs:s.size<=100000) :
    Calls Tryd.prog 6 #[str s,i64 ((n:Nat):Int)] w fun e w'=>∃ p c T,e = .returned (.slice p (chunksP s n).length c)/\One fT 9 1 p c (chunksP s n) T/\Ow Tryd.prog none' w w' T:=by
 refine c_enter (args:=[str s,i64 ((n:Nat):Int)]) (m:=21) (n:=23) Tryd.func6 rfl (by kernel_rfl) (by kernel_rfl) fun fr hA=>?_
 have hO:=Ow.nil Tryd.prog none' w
 refine Sa [(4,.slice none 0 0)] hA fun fr hA=>?_
 refine Sa [(5,.slice none 0 0)] hA fun fr hA=>?_
 refine wp_seq ?_
 refine wp_block ?_
 have hT1:=One.nil fT 9 1
 refine c_loop (fun mm fr W=>∃ (s1:ByteArray) (k:Nat) (l:List ByteArray) (pL1:Option Addr) (cL1:Nat) (TL1:OwL),mm=s1.size/\Holds 23 [] fr [(0,str s1),(1,i64 ((n:Nat):Int)),(4,.slice none 0 0),(5,.slice pL1 l.length cL1)]/\Ow Tryd.prog none' w W ([]++(TL1++([])))/\One fT 9 1 pL1 cL1 l TL1/\s1.size<=k/\l++chunksF k s1 n=chunksP s n/\l.length+s1.size<=s.size/\True) ?_ ?_
 · exact ⟨_,s,s.size,[],none,0,[],rfl,hA.ss,hO.tt,hT1,(Nat.le_refl _),rfl,(by show 0+s.size<=s.size; omega),trivial⟩
 rintro _ fr w1 ⟨s1,k,l,pL1,cL1,TL1,rfl,hA,hO,hTL1,hk,hR,hl,-⟩
 refine wp_seq ?_
 refine Sa [(9,bl (decide (((s1.size:Nat):Int) > ((n:Nat):Int))))] hA fun fr hA=>?_
 rcases Bool.eq_false_or_eq_true (decide (((s1.size:Nat):Int) > ((n:Nat):Int))) with h1 | h1
 · rw [h1] at hA
   have h1p:=of_decide_eq_true h1
   obtain ⟨k,rfl⟩ : ∃ j,k=j+1:=⟨k - 1,by omega⟩
   have hze_:(s1.extract n s1.size).size=s1.size - n:=by rw [ByteArray.size_extract]; omega
   refine cT hA ?_
   refine wp_skip ?_
   refine then_normal ?_
   refine wp_block ?_
   refine sr 7 ?_
   refine Kb 4 [(10,.slice pL1 l.length cL1),(13,str (s1.extract 0 n))] hA [] (cc (⟨by omega,by omega,by omega⟩:(0:Int)<=0/\(0:Int)<=((n:Nat):Int)/\(((n:Nat):Int):Int)<=((s1.size:Nat):Int)) c0) fun fr hA=>?_
   refine Mv [str (s1.extract 0 n)] 9 1 14 hA hO fun fr w2 b1 hA hO=>?_
   replace hO:Ow Tryd.prog none' w w2 ([(b1,9,[str (s1.extract 0 n)])]++(TL1++([]))):=hO
   refine wpOps_cons' (mA (f:=fT) (el:=9) (sz:=1) (bytes:=16) (p:=pL1) (c:=cL1) (l:=l) (l':=([s1.extract 0 n]:List ByteArray)) (T:=TL1) (t:=25) (tx:=25) (ty:=25) (x:= .slice (some ⟨b1,0,none⟩) 1 1) (d:=15) [(b1,9,[str (s1.extract 0 n)])] ([]) encT hA hO hTL1 (Vw.src (e':=9) encT ((hO.b 0).vw (off:=0) (xs:=([s1.extract 0 n]:List ByteArray)) (by kernel_rfl)) (by kernel_rfl)) (by first | omega | (simp only [List.length_append,List.length_cons,List.length_nil]; omega)) (by unfold maxLen; first | omega | (simp only [List.length_append,List.length_cons,List.length_nil]; omega)) fun fr w3 p1 c1 T2 hA hO hT2=>?_)
   refine Ka 1 [(5,.slice p1 ((l++([s1.extract 0 n]:List ByteArray)).length) c1)] hA fun fr hA=>?_
   refine end_ops ?_
   refine then_normal ?_
   refine Rc [(0,str (s1.extract n s1.size))] hA [] (cc (⟨by omega,by omega,by omega⟩:(0:Int)<=((n:Nat):Int)/\(((n:Nat):Int):Int)<=((s1.size:Nat):Int)/\(((s1.size:Nat):Int):Int)<=((s1.size:Nat):Int)) c0) fun fr hA=>?_
   refine inBlock_normal ?_
   refine then_normal ?_
   exact ⟨_,by omega,s1.extract n s1.size,k,l++([s1.extract 0 n]:List ByteArray),p1,c1,T2,rfl,hA.ss,(Ow.subP (A:=[_]) hO (.cons _ .slnil)),hT2,(by rw [ByteArray.size_extract]; omega),(by rw [List.append_assoc]; exact (congrArg (l++·) (chunks_more (by omega)).symm).trans hR),(by rw [List.length_append,ByteArray.size_extract]; show l.length+1+_<=_; omega),trivial⟩
 rw [h1] at hA
 have h1p:=of_decide_eq_false h1
 refine cF hA ?_
 refine wp_exit ?_
 refine then_exit ?_
 refine then_exit ?_
 refine inBlock_exit ?_
 refine then_normal ?_
 refine sr 5 ?_
 refine Ka 2 [(19,.slice pL1 l.length cL1),(20,str s1)] hA fun fr hA=>?_
 refine Mv [str s1] 9 1 21 hA hO fun fr w4 b2 hA hO=>?_
 refine wpOps_cons' (mA (f:=fT) (el:=9) (sz:=1) (bytes:=16) (p:=pL1) (c:=cL1) (l:=l) (l':=([s1]:List ByteArray)) (T:=TL1) (t:=25) (tx:=25) (ty:=25) (x:= .slice (some ⟨b2,0,none⟩) 1 1) (d:=22) [(b2,9,[str s1])] ([]) encT hA hO hTL1 (Vw.src (e':=9) encT ((hO.b 0).vw (off:=0) (xs:=([s1]:List ByteArray)) (by kernel_rfl)) (by kernel_rfl)) (by first | omega | (simp only [List.length_append,List.length_cons,List.length_nil]; omega)) (by unfold maxLen; first | omega | (simp only [List.length_append,List.length_cons,List.length_nil]; omega)) fun fr w5 p2 c2 T3 hA hO hT3=>?_)
 refine Ka 1 [(4,.slice p2 ((l++([s1]:List ByteArray)).length) c2)] hA fun fr hA=>?_
 refine end_ops ?_
 refine then_normal ?_
 refine wp_ret ?_
 refine cv [.slice p2 ((l++([s1]:List ByteArray)).length) c2] hA ?_
 rw [show l++([s1]:List ByteArray)=chunksP s n from (congrArg (l++·) (chunks_last (by omega)).symm).trans hR] at hT3
 exact ⟨_,_,_,(by rw [← show l++([s1]:List ByteArray)=chunksP s n from (congrArg (l++·) (chunks_last (by omega)).symm).trans hR]; rfl),hT3,((Ow.subP (A:=[_]) hO (.cons _ .slnil))).to (by simp only [List.nil_append,List.append_nil])⟩
end Go.Proofs.YtdljjajjonfjbaaDoor
