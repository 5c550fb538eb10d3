import Derived.Test.YtdljjajjonfjbaaGreatDoorSwd
import Derived.Test.YtdljjajjonfjbaaGreatDoorSn
import Derived.Test.YtdljjajjonfjbaaGreatDoorShStore
import Derived.Test.YtdljjajjonfjbaaGreatDoorReaders
import Derived.Test.YtdljjajjonfjbaaGreatDoorShl
set_option linter.unusedVariables false
set_option linter.unusedSimpArgs false
set_option maxRecDepth 10000
namespace Go.Proofs.YtdljjajjonfjbaaGreatDoor
open Go Go.Shelf Go.RowKit Go.Proofs Go.Proofs.Sx
def Xx (a:WV) (T:OwL):Prop:=∃ TR TA TW TS,T=TR++(TA++(TW++TS))/\WOk a TR TA TW TS
theorem nY (wb:Nat) (a:WV) (T:OwL) (n:Nat) (w:World) (h0:Ow Tryz.prog (inT ((wb,46,wc a)::T)) w w ((wb,46,wc a)::T)) (hW:Xx a T) (hX : ∀ w',Only (inT ((wb,46,wc a)::T)) w w'->WX w' a) (hsw:smW n a.d) (hn:n<=1000) (hch : ∀ c∈a.il,c.size<=1000) :
 Calls Tryz.prog 27 #[pt wb] w fun e w'=>∃ (a':WV) (T':OwL),a'.d=A8 a.d/\Xx a' T'/\(∀ w,WX w a->WX w a')/\e = .returned (.tuple #[])/\Ow Tryz.prog (inT ((wb,46,wc a)::T)) w w' ((wb,46,wc a')::T'):=by
 obtain ⟨TR,TA,TW,TS,rfl,hk⟩:=hW;exact (Zy wb a TR TA TW TS n w h0 hk hX hsw hn hch).mono fun e w' ⟨a',TR',TA',TW',TS',h1,h2,h3,h4,h5⟩=>⟨a',_,h1.symm,⟨TR',TA',TW',TS',rfl,h2⟩,h3,h4,h5⟩
theorem cE (w:WL) : ∀ c∈(A8 w).inp,c∈w.inp:=by
 have hg : ∀ (w:WL) (r:Int) (d:List Int),(goW w r d).inp=w.inp:=fun _ _ _=>rfl;intro c hc;unfold A8 at hc;split at hc
 · exact hc
 split at hc
 · split at hc
   · exact hc
   rename_i x r e
   have hc:c∈r:=hc;rw [e]; exact List.mem_cons_of_mem _ hc
 split at hc
 · split at hc <;> exact hc
 split at hc
 · exact hc
 split at hc
 · exact hc
 split at hc
 · unfold Gb at hc;split at hc <;> exact hc
 split at hc
 · split at hc
   · have e:(N9 (A6 w)).inp=w.inp:=(Er 40 _ _ _ _).inp;rw [e] at hc; exact hc
   exact hc
 exact hc
def nSV:SV:=(⟨0,0,⟨#[]⟩,none,0,[],-1,-1,-1,none,0,[],none,0,[]⟩:SV)
theorem nSV_d:nSV.d=Gc:=rfl
theorem dX (w:World):nSV.ok w:=⟨⟨.inl ⟨rfl,rfl⟩,fun y hy=>absurd hy List.not_mem_nil⟩,.inl ⟨rfl,rfl⟩,⟨.inl ⟨rfl,rfl⟩,fun y hy=>absurd hy List.not_mem_nil⟩⟩
theorem dV:nSV.sm:=⟨by decide,⟨by decide,fun y hy=>absurd hy List.not_mem_nil⟩,by decide,by decide,by decide,by decide,by decide⟩
theorem Ym {m:Nat} {w:WL} (h:w.exit < 0):Fs (m+1) w=Fs m (A8 w):=by simp only [Fs]; rw [if_pos h]
theorem Sj {m:Nat} {w:WL} (h : ¬ w.exit < 0):Fs m w=w:=by
 cases m with
 | zero=>rfl
 | succ m=>simp only [Fs]; rw [if_neg h]
theorem smW0 (inp:List ByteArray) (fails:List Int):smW 0 (L6 inp fails):=by
 unfold L6;refine smW.go ?_ _ _;exact ⟨by show (0:Int)<=0/\(0:Int)<=50*((0:Nat):Int); decide,by show (0:Int)<=0/\(0:Int)<=((0:Nat):Int); decide,by show (0:Int)<=0/\(0:Int)<=15; decide,Nat.le_refl _,fun t h=>absurd h List.not_mem_nil,Nat.le_refl _,Nat.le_refl _⟩
set_option maxHeartbeats 4000000 in
theorem dG (ip:Option Addr) (ic:Nat) (il:List ByteArray) (fp:Option Addr) (fc:Nat) (ff:List Int) (w:World) (hvi:Vw fT w (.slice ip il.length ic) il) (hvf:Vw fB w (.slice fp ff.length fc) ff) (hE:ErrOk w) (hci:il.length<=ic) (hcf:ff.length<=fc) (hch : ∀ c∈il,c.size<=1000) :
 Calls Tryz.prog 10 #[.slice ip il.length ic,.slice fp ff.length fc] w fun e w'=>∃ (wb:Nat) (a:WV) (T:OwL),e = .returned (pt wb)/\a.d=Pp il ff/\Xx a T/\Ow Tryz.prog Ai w w' ((wb,46,wc a)::T):=by
 refine An (args:=[.slice ip il.length ic,.slice fp ff.length fc]) (m:=46) (n:=48) Tryz.func10 rfl (by kernel_rfl) (by kernel_rfl) fun fr hA=>?_;have hO:=Ow.nil Tryz.prog Ai w;refine Sa [(4,.pointer none)] hA fun fr hA=>sr 5 (Ka 3 [(9,.agg #[i64 0,i64 0,str (⟨#[]⟩),.slice none 0 0,i64 0,i64 0,i64 0,.slice none 0 0,.slice none 0 0,i64 0,i64 0,i64 0,i64 0,.slice none 0 0,str (⟨#[]⟩),str (⟨#[]⟩),str (⟨#[]⟩),str (⟨#[]⟩),str (⟨#[]⟩),str (⟨#[]⟩),str (⟨#[]⟩),str (⟨#[]⟩),.slice ip il.length ic,.slice fp ff.length fc,i64 0,i64 0,.slice none 0 0,.slice none 0 0,.slice none 0 0,i64 0,i64 (-1),bl false,bl true])] hA fun fr hA=>Mn [i64 0,i64 0,str (⟨#[]⟩),.slice none 0 0,i64 0,i64 0,i64 0,.slice none 0 0,.slice none 0 0,i64 0,i64 0,i64 0,i64 0,.slice none 0 0,str (⟨#[]⟩),str (⟨#[]⟩),str (⟨#[]⟩),str (⟨#[]⟩),str (⟨#[]⟩),str (⟨#[]⟩),str (⟨#[]⟩),str (⟨#[]⟩),.slice ip il.length ic,.slice fp ff.length fc,i64 0,i64 0,.slice none 0 0,.slice none 0 0,.slice none 0 0,i64 0,i64 (-1),bl false,bl true] 46 10 hA hO fun fr w1 wb hA hO=>Ka 1 [(5,pt wb)] hA fun fr hA=>Ab (Aa ?_));obtain ⟨a0,ha0⟩ : ∃ a:WV,a=(⟨(⟨0,0,⟨#[]⟩,none,0,[],0,0,0,none,0,[],none,0,[]⟩:SV),⟨none,0,Ao 0 0 0⟩,⟨⟨#[]⟩,⟨#[]⟩,⟨#[]⟩,⟨#[]⟩,⟨#[]⟩,⟨#[]⟩,⟨#[]⟩,⟨#[]⟩⟩,ip,ic,il,fp,fc,ff,0,0,none,0,[],none,0,[],none,0,[],0,-1,false,true⟩:WV):=⟨_,rfl⟩;replace hO:Ow Tryz.prog Ai w w1 [(wb,46,(wc a0))]:=by (rw [ha0]; exact hO)
 refine wp_seq ?_;have hS:=hO.pk [];refine rP [(0,true),(1,true),(2,true),(3,true),(4,true),(5,true),(7,true),(8,true),(11,true),(12,true),(6,false),(9,true),(10,false),(13,true),(14,false)] hS ?_;intro w2 ho; replace hO:=hO.st ho; clear ho;refine Ke 10 [(16,pf wb 14),(18,pf wb 14),(21,pf wb 14)] hA [] (cc (⟨by omega,by omega⟩:(0:Int)<=0/\0 < ((8:Nat):Int)) c0) fun fr hA=>Au (mSR (off:=14) (ad:=⟨wb,14,none⟩) (vc:=[str (⟨#[105,110]⟩)]) (l':=(wc {a0 with fl:=a0.fl.set 0 (⟨#[105,110]⟩:ByteArray)})) 0 hA hO rfl (by kernel_rfl) (by kernel_rfl) fun w3 hO=>⟨(hO.sub []),?_⟩);refine Ke 1 [(19,pf wb 15)] hA [] (cc (⟨by omega,by omega⟩:(0:Int)<=1/\1 < ((8:Nat):Int)) c0) fun fr hA=>Au (mSR (off:=15) (ad:=⟨wb,15,none⟩) (vc:=[str (⟨#[111,117,116]⟩)]) (l':=(wc {a0 with fl:=(a0.fl.set 0 (⟨#[105,110]⟩:ByteArray)).set 1 (⟨#[111,117,116]⟩:ByteArray)})) 0 hA hO rfl (by kernel_rfl) (by kernel_rfl) fun w4 hO=>⟨(hO.sub []),?_⟩);refine Ke 1 [(22,pf wb 16)] hA [] (cc (⟨by omega,by omega⟩:(0:Int)<=2/\2 < ((8:Nat):Int)) c0) fun fr hA=>Au (mSR (off:=16) (ad:=⟨wb,16,none⟩) (vc:=[str (⟨#[101,114,114]⟩)]) (l':=(wc {a0 with fl:=((a0.fl.set 0 (⟨#[105,110]⟩:ByteArray)).set 1 (⟨#[111,117,116]⟩:ByteArray)).set 2 (⟨#[101,114,114]⟩:ByteArray)})) 0 hA hO rfl (by kernel_rfl) (by kernel_rfl) fun w5 hO=>⟨(hO.sub []),?_⟩);refine Az (Aa (sr 13 (Ka 2 [(24,pt wb),(25,pt wb)] hA fun fr hA=>Mk 26 hA hO Tryz.func24 (M0 _) fun fr w6 hA hO=>Ag (mC (d:=(some 27)) hA Tryz.func16 ((L0 nSV 0 _ (dX _) dV (hE.keep hO.only) (by omega) (by omega)).mono ?_)))))
 rintro en w7 ⟨u1,x1,T1,hu1,hx1,hsm1,rfl,hW_,hG1,hXX1⟩;refine ⟨_,rfl,?_⟩;clear hA fr; intro fr hA;replace hO:Ow Tryz.prog Ai w _ ([(wb,46,(wc {a0 with fl:=((a0.fl.set 0 (⟨#[105,110]⟩:ByteArray)).set 1 (⟨#[111,117,116]⟩:ByteArray)).set 2 (⟨#[101,114,114]⟩:ByteArray)}))]++[]):=hO.to (List.append_nil _).symm;replace hO:=Ow.join hO hW_; clear hW_;replace hO:Ow Tryz.prog Ai w _ ([(wb,46,(wc {a0 with fl:=((a0.fl.set 0 (⟨#[105,110]⟩:ByteArray)).set 1 (⟨#[111,117,116]⟩:ByteArray)).set 2 (⟨#[101,114,114]⟩:ByteArray)}))]++(T1++([]))):=hO.to (by first | rfl | (simp only [TP,apd]))
 refine Ka 5 [(28,.agg #[i64 u1.mo,i64 u1.po,str u1.inp,.slice u1.pj u1.lj.length u1.cj,i64 u1.rd,i64 u1.wr,i64 u1.pv,.slice u1.pc u1.lc.length u1.cc,.slice u1.pp u1.lp.length u1.cp]),(29,.agg #[i64 x1.d.call,i64 x1.d.a0,i64 x1.d.a1,i64 x1.d.a2,.slice x1.p x1.d.data.length x1.c]),(31,pt wb)] hA fun fr hA=>Ag (mSR (off:=0) (ad:=⟨wb,0,none⟩) (vc:=(cS u1.mo u1.po u1.inp u1.pj u1.lj.length u1.cj u1.rd u1.wr u1.pv u1.pc u1.lc.length u1.cc u1.pp u1.lp.length u1.cp)) (l':=(wc {a0 with fl:=((a0.fl.set 0 (⟨#[105,110]⟩:ByteArray)).set 1 (⟨#[111,117,116]⟩:ByteArray)).set 2 (⟨#[101,114,114]⟩:ByteArray),sv:=u1})) 0 hA hO rfl (by kernel_rfl) (by kernel_rfl) fun w8 hO=>Ka 2 [(33,pf wb 9)] hA fun fr hA=>Ag (mSR (off:=9) (ad:=⟨wb,9,none⟩) (vc:=[i64 x1.d.call,i64 x1.d.a0,i64 x1.d.a1,i64 x1.d.a2,.slice x1.p x1.d.data.length x1.c]) (l':=(wc {a0 with fl:=((a0.fl.set 0 (⟨#[105,110]⟩:ByteArray)).set 1 (⟨#[111,117,116]⟩:ByteArray)).set 2 (⟨#[101,114,114]⟩:ByteArray),sv:=u1,x:=x1})) 0 hA hO rfl (by kernel_rfl) (by kernel_rfl) fun w9 hO=>Ab (Aa (wp_seq (Sa [(6,i64 0)] hA fun fr hA=>wp_block ?_)))));replace hO:Ow Tryz.prog Ai w w9 ([(wb,46,(wc {a0 with fl:=((a0.fl.set 0 (⟨#[105,110]⟩:ByteArray)).set 1 (⟨#[111,117,116]⟩:ByteArray)).set 2 (⟨#[101,114,114]⟩:ByteArray),sv:=u1,x:=x1}))]++(T1++([]))):=hO;obtain ⟨aS,haS⟩ : ∃ a:WV,a = {a0 with fl:=((a0.fl.set 0 (⟨#[105,110]⟩:ByteArray)).set 1 (⟨#[111,117,116]⟩:ByteArray)).set 2 (⟨#[101,114,114]⟩:ByteArray),sv:=u1,x:=x1}:=⟨_,rfl⟩;replace hO:Ow Tryz.prog Ai w w9 ([(wb,46,(wc aS))]++(T1++([]))):=by (rw [haS]; exact hO)
 have hdS:aS.d=L6 il ff:=by rw [haS]; unfold L6 goW; rw [ha0]; show (⟨u1.d,x1.d,_,il,ff,0,0,[],[],[],0,-1,false,true⟩:WL)=_; rw [hu1,hx1]; rfl
 have hT1:Xx aS T1:=⟨[],[],[],T1,rfl,by rw [haS]; exact ⟨hsm1,(by show x1.d.data.length<=128; rw [hx1]; exact Jw (B2 _ _ _).2),(by rw [ha0]; exact One.nil _ _ _),(by rw [ha0]; exact (One.nil _ _ _).off),(by rw [ha0]; exact One.nil _ _ _),Ah.and hG1 hXX1,(by rw [ha0]; exact hci),(by rw [ha0]; exact hcf)⟩⟩;have hXS : ∀ w_,Only Ai w w_->WX w_ aS:=fun w_ k_=>by (rw [haS,ha0]; exact ⟨hE.keep k_,hvi.keep k_,hvf.keep k_⟩)
 have hiS:aS.il=il:=by rw [haS,ha0]
 refine Bg (fun mm fr W=>∃ (i:Nat) (a:WV) (m:Nat) (TL1:OwL),mm=900 - i/\Holds 48 [] fr [(4,.pointer none),(5,pt wb),(6,i64 ((i:Nat):Int))]/\Ow Tryz.prog Ai w W ([(wb,46,(wc a))]++(TL1++([])))/\Xx a TL1/\m+i=900/\Fs m a.d=Pp il ff/\smW i a.d/\(∀ c∈a.il,c.size<=1000)/\(∀ w_,WX w_ aS->WX w_ a)/\True) ?_ ?_
 · exact ⟨_,0,aS,900,T1,rfl,hA.ss,hO.tt,hT1,rfl,(by rw [hdS]; rfl),(by rw [hdS]; exact smW0 _ _),(by rw [hiS]; exact hch),(fun _ h=>h),trivial⟩
 rintro _ fr w10 ⟨i,a,m,TL1,rfl,hA,hO,hTL1,hmi,hp,hsw,hil_,hXa,-⟩;refine wp_seq (sr 9 (Ka 3 [(35,bl (decide (((i:Nat):Int) < 900))),(36,bl (decide (((i:Nat):Int) < 900)))] hA fun fr hA=>?_));rcases qV (decide (((i:Nat):Int) < 900)) with h1 | h1
 · rw [h1] at hA;have h1p:=qX h1;obtain ⟨m,rfl⟩ : ∃ j,m=j+1:=⟨m - 1,by omega⟩;refine Kb 6 [(42,bl (decide (a.exit < 0)))] hA [i64 a.exit] (cc (hO.l1 0 30 3 (i64 a.exit)) c0) fun fr hA=>Ab (Aa ?_);rcases qV (decide (a.exit < 0)) with h2 | h2
   · rw [h2] at hA;have h2p:=qX h2;have h2q:a.d.exit < 0:=h2p;refine cT hA (wp_skip (Aa (wp_seq (wp_block (rr 2 (Ka 1 [(45,pt wb)] hA fun fr hA=>?_))))));replace hO:Ow Tryz.prog Ai w w10 ([(wb,46,(wc a))]++(TL1++([]))):=hO;refine Ag (mC (d:=(some 46)) hA Tryz.func27 ((nY wb a TL1 i _ (Ow.self (A:=[]) hO) hTL1 (fun w_ k_=>hXa w_ (hXS w_ (Ow.pan (A:=[]) hO k_))) hsw (by omega) hil_).mono ?_));rintro en w11 ⟨a2,T2,hd2,hT2,hX2,rfl,hW_⟩;refine ⟨_,rfl,?_⟩;clear hA fr; intro fr hA;replace hO:=Ow.pass (A:=[]) hO hW_; clear hW_;exact Ab (Ad (Aa (Rc [(6,i64 (((i:Nat):Int)+1))] hA [bl true] (cc ((Am (by omega) (by omega)):inK .i64 (((i:Nat):Int)+1)) c0) fun fr hA=>Aa (⟨_,by omega,i+1,a2,m,T2,rfl,hA.ss,hO,hT2,(by omega),(by rw [hd2]; exact (Ym (by assumption)).symm.trans hp),(by rw [hd2]; exact hsw.step),(fun c_ h_=>hil_ c_ (cE a.d c_ (by rw [← hd2]; exact h_))),(fun w_ h_=>hX2 w_ (hXa w_ h_)),trivial⟩))))
   rw [h2] at hA;have h2p:=qY h2;have h2q : ¬ a.d.exit < 0:=h2p;refine cF hA (wp_exit (Aj (Aj (Ap (Aa (Sa [(4,pt wb)] hA fun fr hA=>wp_ret (cv [pt wb] hA ?_)))))));replace hO:Ow Tryz.prog Ai w w10 ([(wb,46,(wc a))]++(TL1++([]))):=hO;exact ⟨wb,a,TL1,rfl,(Sj (by assumption)).symm.trans hp,hTL1,(hO).to (by simp only [List.append_nil,List.nil_append,List.cons_append])⟩
 rw [h1] at hA;have h1p:=qY h1;obtain rfl:m=0:=by omega
 refine Ka 6 [(42,bl false)] hA fun fr hA=>Ab (Aa (cF hA (wp_exit (Aj (Aj (Ap (Aa (Sa [(4,pt wb)] hA fun fr hA=>wp_ret (cv [pt wb] hA ?_)))))))));replace hO:Ow Tryz.prog Ai w w10 ([(wb,46,(wc a))]++(TL1++([]))):=hO;exact ⟨wb,a,TL1,rfl,hp,hTL1,(hO).to (by simp only [List.append_nil,List.nil_append,List.cons_append])⟩
def Cw:Nat->ByteArray->Nat->List ByteArray
 | 0,s,_=>[s]
 | k+1,s,n=>if n < s.size then s.extract 0 n::Cw k (s.extract n s.size) n else [s]
def Fk (s:ByteArray) (n:Nat):List ByteArray:=Cw s.size s n
theorem Ux {k n:Nat} {s:ByteArray} (h:n < s.size):Cw (k+1) s n=s.extract 0 n::Cw k (s.extract n s.size) n:=by simp only [Cw]; rw [if_pos h]
theorem Mg {k n:Nat} {s:ByteArray} (h : ¬ n < s.size):Cw k s n=[s]:=by
 cases k with
 | zero=>rfl
 | succ k=>simp only [Cw]; rw [if_neg h]
theorem Qe {n:Nat} (hn : 1<=n) : ∀ (k:Nat) (s:ByteArray),s.size<=k->∀ c∈Cw k s n,c.size<=n
 | 0,s,h,c,hc=>by
  have:c=s:=by simpa [Cw] using hc
  rw [this]; omega
 | k+1,s,h,c,hc=>by
  simp only [Cw] at hc;split at hc
  · rcases List.mem_cons.1 hc with rfl | hc
    · rw [ByteArray.size_extract]; omega
    · exact Qe hn k _ (by rw [ByteArray.size_extract]; omega) c hc
  · have:c=s:=by simpa using hc
    rw [this]; omega
theorem Xt (s:ByteArray) (n:Nat) (w:World) (hn : 1<=n) (hn2:n<=1000) (hs:s.size<=100000) :
 Calls Tryz.prog 11 #[str s,i64 ((n:Nat):Int)] w fun e w'=>∃ p c T,e = .returned (.slice p (Fk s n).length c)/\One fT 9 1 p c (Fk s n) T/\Ow Tryz.prog Ai w w' T:=by
 refine An (args:=[str s,i64 ((n:Nat):Int)]) (m:=21) (n:=23) Tryz.func11 rfl (by kernel_rfl) (by kernel_rfl) fun fr hA=>?_;have hO:=Ow.nil Tryz.prog Ai w;refine Sa [(4,.slice none 0 0)] hA fun fr hA=>Sa [(5,.slice none 0 0)] hA fun fr hA=>wp_seq (wp_block ?_);have hT1:=One.nil fT 9 1;refine Bg (fun mm fr W=>∃ (s1:ByteArray) (k:Nat) (l:List ByteArray) (pL1:Option Addr) (cL1:Nat) (TL1:OwL),mm=s1.size/\Holds 23 [] fr [(0,str s1),(1,i64 ((n:Nat):Int)),(4,.slice none 0 0),(5,.slice pL1 l.length cL1)]/\Ow Tryz.prog Ai w W ([]++(TL1++([])))/\One fT 9 1 pL1 cL1 l TL1/\s1.size<=k/\l++Cw k s1 n=Fk s n/\l.length+s1.size<=s.size/\True) ?_ ?_
 · exact ⟨_,s,s.size,[],none,0,[],rfl,hA.ss,hO.tt,hT1,(Nat.le_refl _),rfl,(by show 0+s.size<=s.size; omega),trivial⟩
 rintro _ fr w1 ⟨s1,k,l,pL1,cL1,TL1,rfl,hA,hO,hTL1,hk,hR,hl,-⟩;refine wp_seq (Sa [(9,bl (decide (((s1.size:Nat):Int) > ((n:Nat):Int))))] hA fun fr hA=>?_);rcases qV (decide (((s1.size:Nat):Int) > ((n:Nat):Int))) with h1 | h1
 · rw [h1] at hA;have h1p:=qX h1;obtain ⟨k,rfl⟩ : ∃ j,k=j+1:=⟨k - 1,by omega⟩;have hze_:(s1.extract n s1.size).size=s1.size - n:=by rw [ByteArray.size_extract]; omega
   refine cT hA (wp_skip (Aa (wp_block (sr 7 (Kb 4 [(10,.slice pL1 l.length cL1),(13,str (s1.extract 0 n))] hA [] (cc (⟨by omega,by omega,by omega⟩:(0:Int)<=0/\(0:Int)<=((n:Nat):Int)/\(((n:Nat):Int):Int)<=((s1.size:Nat):Int)) c0) fun fr hA=>Mv [str (s1.extract 0 n)] 9 1 14 hA hO fun fr w2 b1 hA hO=>?_)))));replace hO:Ow Tryz.prog Ai w w2 ([(b1,9,[str (s1.extract 0 n)])]++(TL1++([]))):=hO
   exact Ag (mA (f:=fT) (el:=9) (sz:=1) (bytes:=16) (p:=pL1) (c:=cL1) (l:=l) (l':=([s1.extract 0 n]:List ByteArray)) (T:=TL1) (t:=30) (tx:=30) (ty:=30) (x:= .slice (some ⟨b1,0,none⟩) 1 1) (d:=15) [(b1,9,[str (s1.extract 0 n)])] ([]) Jh hA hO hTL1 (Vw.src (e':=9) Jh ((hO.b 0).vw (off:=0) (xs:=([s1.extract 0 n]:List ByteArray)) (by kernel_rfl)) (by kernel_rfl)) (by first | omega | (simp only [List.length_append,List.length_cons,List.length_nil]; omega)) (by unfold maxLen; first | omega | (simp only [List.length_append,List.length_cons,List.length_nil]; omega)) fun fr w3 p1 c1 T2 hA hO hT2=>Ka 1 [(5,.slice p1 ((l++([s1.extract 0 n]:List ByteArray)).length) c1)] hA fun fr hA=>Ab (Aa (Rc [(0,str (s1.extract n s1.size))] hA [] (cc (⟨by omega,by omega,by omega⟩:(0:Int)<=((n:Nat):Int)/\(((n:Nat):Int):Int)<=((s1.size:Nat):Int)/\(((s1.size:Nat):Int):Int)<=((s1.size:Nat):Int)) c0) fun fr hA=>Ad (Aa (⟨_,by omega,s1.extract n s1.size,k,l++([s1.extract 0 n]:List ByteArray),p1,c1,T2,rfl,hA.ss,(Ow.subP (A:=[_]) hO (.cons _ .slnil)),hT2,(by rw [ByteArray.size_extract]; omega),(by rw [List.append_assoc]; exact (congrArg (l++·) (Ux (by omega)).symm).trans hR),(by rw [List.length_append,ByteArray.size_extract]; show l.length+1+_<=_; omega),trivial⟩)))))
 rw [h1] at hA;have h1p:=qY h1;refine cF hA (wp_exit (Aj (Aj (Ap (Aa (sr 5 (Ka 2 [(19,.slice pL1 l.length cL1),(20,str s1)] hA fun fr hA=>Mv [str s1] 9 1 21 hA hO fun fr w4 b2 hA hO=>Ag (mA (f:=fT) (el:=9) (sz:=1) (bytes:=16) (p:=pL1) (c:=cL1) (l:=l) (l':=([s1]:List ByteArray)) (T:=TL1) (t:=30) (tx:=30) (ty:=30) (x:= .slice (some ⟨b2,0,none⟩) 1 1) (d:=22) [(b2,9,[str s1])] ([]) Jh hA hO hTL1 (Vw.src (e':=9) Jh ((hO.b 0).vw (off:=0) (xs:=([s1]:List ByteArray)) (by kernel_rfl)) (by kernel_rfl)) (by first | omega | (simp only [List.length_append,List.length_cons,List.length_nil]; omega)) (by unfold maxLen; first | omega | (simp only [List.length_append,List.length_cons,List.length_nil]; omega)) fun fr w5 p2 c2 T3 hA hO hT3=>Ka 1 [(4,.slice p2 ((l++([s1]:List ByteArray)).length) c2)] hA fun fr hA=>Ab (Aa (wp_ret (cv [.slice p2 ((l++([s1]:List ByteArray)).length) c2] hA ?_)))))))))));rw [show l++([s1]:List ByteArray)=Fk s n from (congrArg (l++·) (Mg (by omega)).symm).trans hR] at hT3;exact ⟨_,_,_,(by rw [← show l++([s1]:List ByteArray)=Fk s n from (congrArg (l++·) (Mg (by omega)).symm).trans hR]; rfl),hT3,((Ow.subP (A:=[_]) hO (.cons _ .slnil))).to (by simp only [List.nil_append,List.append_nil])⟩
open Go Go.RowKit Go.Proofs.Sx
theorem dS:A3 Gc=({Gc with mode:=1},Ao 9 0 80):=D0 rfl rfl (by decide)
theorem dH (inp:List ByteArray) (fails:List Int):L6 inp fails=⟨{Gc with mode:=1},Ao 9 0 80,fl0,inp,fails,0,0,[],[],[],0,-1,false,true⟩:=by
 have e:Bb Gc 0 []=({Gc with mode:=1},Ao 9 0 80):=by
  rw [H3 (by rfl)]
  exact dS
 unfold L6 goW
 simp only
 rw [e]
theorem Ov {n:Nat} (hn : 1<=n) : ∀ (k:Nat) (s:ByteArray),s.size<=k->O0 (Cw k s n)=s
 | 0,s,h=>Ro s
 | k+1,s,h=>by
  simp only [Cw]
  split
  · rename_i hlt
    show s.extract 0 n++O0 (Cw k (s.extract n s.size) n)=s
    rw [Ov hn k _ (by rw [ByteArray.size_extract]; omega)]
    apply Et
    rw [ByteArray.data_append,Array.toList_append,Cy,Cy,List.drop_zero,Nat.sub_zero,List.take_of_length_le (l:=s.data.toList.drop n) (by rw [List.length_drop,Ar]; exact Nat.le_refl _),List.take_append_drop]
  · exact Ro s
theorem Ou {n:Nat} (hn : 1<=n) : ∀ (k:Nat) (s:ByteArray),s.size<=k->0 < s.size->∀ c∈Cw k s n,0 < c.size
 | 0,s,h,h0=>by omega
 | k+1,s,h,h0=>by
  intro c hc
  simp only [Cw] at hc
  split at hc
  · rcases List.mem_cons.1 hc with rfl | hc
    · rw [ByteArray.size_extract]; omega
    · exact Ou hn k _ (by rw [ByteArray.size_extract]; omega) (by rw [ByteArray.size_extract]; omega) c hc
  · have:c=s:=by simpa using hc
    rw [this]; exact h0
open Go Go.RowKit Go.Proofs.Sx
theorem nQ : ∀ (l:List UInt8) (c:UInt8),(∀ x∈l,x≠c)->Lib.indexByte l c = -1
 | [],_,_=>rfl
 | y::l,c,h=>by
  have h1:=nQ l c fun x hx=>h x (List.mem_cons_of_mem _ hx)
  simp only [Lib.indexByte]
  rw [if_neg (by simpa using h y (List.mem_cons_self ..)),h1]
  rfl
theorem fH : ∀ (l:List UInt8) (c:UInt8),(∀ x∈l,x≠c)->Lib.indexByte (l++[c]) c=(l.length:Int)
 | [],c,_=>by simp [Lib.indexByte]
 | y::l,c,h=>by
  have h1:=fH l c fun x hx=>h x (List.mem_cons_of_mem _ hx)
  rw [List.cons_append]
  simp only [Lib.indexByte]
  rw [if_neg (by simpa using h y (List.mem_cons_self ..)),h1,if_neg (by simp)]
  rfl
def nlB:ByteArray:=⟨#[10]⟩
def jX (s:ByteArray):Prop:=∀ x∈s.data.toList,x≠10
theorem Ks (a b:ByteArray):(a++b).data.toList=a.data.toList++b.data.toList:=by rw [ByteArray.data_append,Array.toList_append]
theorem pA {s a b:ByteArray} (h:jX s) (e:a++b=s++nlB) (hb : 0 < b.size):nlI a < 0:=by
 have e1:a.data.toList++b.data.toList=s.data.toList++[10]:=by rw [← Ks,e,Ks]; rfl
 have hl:=congrArg List.length e1
 rw [List.length_append,List.length_append,List.length_singleton,Ar b] at hl
 have h2:a.data.toList=s.data.toList.take a.data.toList.length:=by
  have:=congrArg (List.take a.data.toList.length) e1
  rw [List.take_left,List.take_append_of_le_length (by omega)] at this
  exact this
 unfold nlI
 rw [nQ _ _ fun x hx=>h x (by rw [h2] at hx; exact List.mem_of_mem_take hx)]
 decide
theorem Yt {s:ByteArray} (h:jX s):nlI (s++nlB)=(s.size:Int):=by
 unfold nlI
 rw [Ks]
 show Lib.indexByte (s.data.toList++[10]) 10=_
 rw [fH _ _ h,Ar]
theorem lP (s:ByteArray):s.extract 0 s.size=s:=by
 apply Et
 rw [Cy,List.drop_zero,Nat.sub_zero,List.take_of_length_le (by rw [Ar]; exact Nat.le_refl _)]
def stR (p:ByteArray):StL:={Gc with mode:=1,inp:=p}
def stI (p:ByteArray):StL:={Gc with inp:=p}
theorem Sc {s:ByteArray} (h10:jX s) (hs:s.size<=200) : ∀ (cs:List ByteArray) (p:ByteArray) (w:WL),cs≠[]->p++O0 cs=s++nlB->(∀ c∈cs,0 < c.size)->w.exit < 0->w.inp=cs->w.leak=false->Bq w.fl=true->Bn (stR p)=true ->
 Rch cs.length (Bd w (stR p,Ao 9 0 80)) (Bd {w with inp:=[]} (A3 (stI (s++nlB))))/\Pt (stI (s++nlB))
 | [],p,w,hne,_,_,_,_,_,_,_=>absurd rfl hne
 | c::r,p,w,_,hcat,hpos,hex,hinp,hlk,hpl,hv=>by
  have hc:=hpos c (List.mem_cons_self ..)
  have hcat':p++c++O0 r=s++nlB:=by rw [← hcat,Lz]; rfl
  have hsz:=congrArg ByteArray.size hcat'
  rw [ByteArray.size_append,ByteArray.size_append,ByteArray.size_append] at hsz
  have hn1:nlB.size=1:=rfl
  have est:A9 (stR p) (c.size:Int) (sI c)=A3 (stI (p++c)):=by
   rw [nG rfl]
   unfold E0
   rw [if_pos (by omega)]
   have e1:bsI (((sI c).take (min (c.size:Int).toNat (sI c).length)).take (300 - (stR p).inp.size))=c:=by
    have h1:(sI c).take (min (c.size:Int).toNat (sI c).length)=sI c:=List.take_of_length_le (by rw [E5]; omega)
    rw [h1,List.take_of_length_le (by rw [E5]; show c.size<=300 - p.size; omega),Xv]
   rw [e1]
   exact Ek (s:=stI (p++c)) (by rfl) 1
  have hst:A8 (Bd w (stR p,Ao 9 0 80))=Bd {w with inp:=r} (A3 (stI (p++c))):=by
   rw [iQ (w:=Bd w (stR p,Ao 9 0 80)) rfl hinp,Lo (w:=Bd w (stR p,Ao 9 0 80)) hlk hpl,Hu hv]
   show Bd _ (A9 (stR p) (c.size:Int) (sI c))=_
   rw [est]
   rfl
  have hrun:Rch 1 (Bd w (stR p,Ao 9 0 80)) (A8 (Bd w (stR p,Ao 9 0 80))):=Rch.one hex
  rw [hst] at hrun
  have hv2:Bn (A3 (stI (p++c))).1=true:=by
   have:=Ef hv (c.size:Int) (sI c)
   rwa [est] at this
  cases r with
  | nil =>
   have e2:p++c=s++nlB:=by rw [← hcat']; exact (Ro _).symm
   rw [e2] at hrun hv2
   exact ⟨hrun,hv2,by rfl⟩
  | cons d r =>
   have hd:=hpos d (by simp)
   have hnl:nlI (p++c) < 0:=pA h10 hcat' (by show 0 < (d++O0 r).size; rw [ByteArray.size_append]; omega)
   have e3:A3 (stI (p++c))=(stR (p++c),Ao 9 0 80):=Nn (s:=stI (p++c)) rfl rfl hnl
   rw [e3] at hrun hv2
   obtain ⟨h1,h2⟩:=Sc h10 hs (d::r) (p++c) {w with inp:=d::r} (by simp) hcat' (fun x hx=>hpos x (List.mem_cons_of_mem _ hx)) hex rfl hlk hpl hv2
   have:=hrun.trans h1
   rw [Nat.add_comm] at this
   exact ⟨this,h2⟩
theorem Zt : ∀ (cs:List ByteArray),(∀ c∈cs,0 < c.size)->cs.length<=(O0 cs).size
 | [],_=>Nat.zero_le _
 | c::r,h=>by
  have h1:=h c (List.mem_cons_self ..)
  have h2:=Zt r fun x hx=>h x (List.mem_cons_of_mem _ hx)
  show r.length+1<=(c++O0 r).size
  rw [ByteArray.size_append]
  omega
def ex0:EX:=⟨[],[],0,0,0⟩
theorem eK {l:List JobL} {s:ByteArray} (hp:Dq false s = .ok l) (h10:jX s) (hv:Aq l=true) (hne : ∀ j∈l,j.cmds≠[]) (hc:nC l<=15) (hs:s.size<=200) {cs:List ByteArray} (hcat:O0 cs=s++nlB) (hpos : ∀ c∈cs,0 < c.size) (fails:List Int) :
 Fin (fails=[]) (Pp cs fails) (Pa l ex0).1 (Pa l ex0).2:=by
 have hcne:cs≠[]:=fun h=>by
  rw [h] at hcat
  have:=congrArg ByteArray.size hcat
  rw [ByteArray.size_append] at this
  have h1:nlB.size=1:=rfl
  have h2:(O0 []).size=0:=rfl
  omega
 have e0:L6 cs fails=Bd ⟨Gc,Ao 0 0 0,fl0,cs,fails,0,0,[],[],[],0,-1,false,true⟩ (stR ⟨#[]⟩,Ao 9 0 80):=dH cs fails
 obtain ⟨h1,h2⟩:=Sc h10 hs cs ⟨#[]⟩ ⟨Gc,Ao 0 0 0,fl0,cs,fails,0,0,[],[],[],0,-1,false,true⟩ hcne (by rw [hcat]; apply Et; rw [Ks]; rfl) hpos (show (-1:Int) < 0 by decide) rfl rfl (show Bq fl0=true by decide) (by rfl)
 rw [← e0] at h1
 have eS:A3 (stI (s++nlB))=A3 (stP l 0 (-1) [] (-1) (-1) []):=by
  have hn : ¬ nlI (stI (s++nlB)).inp < 0:=by show ¬ nlI (s++nlB) < 0; rw [Yt h10]; omega
  rw [Vk (by rfl) rfl rfl hn]
  have e1:(nlI (stI (s++nlB)).inp).toNat=s.size:=by show (nlI (s++nlB)).toNat=_; rw [Yt h10]; omega
  rw [e1]
  have e2:Dq false ((stI (s++nlB)).inp.extract 0 s.size) = .ok l:=by
   show Dq false ((s++nlB).extract 0 s.size)=_
   rw [lO (Nat.le_refl _),lP,hp]
  have e3:(s++nlB).extract (s.size+1) (s++nlB).size=⟨#[]⟩:=by
   apply ba_e
   rw [ByteArray.size_extract,ByteArray.size_append]
   have h1:nlB.size=1:=rfl
   omega
  unfold Cz
  rw [e2]
  show A3 {stI (s++nlB) with inp:=(s++nlB).extract (s.size+1) (s++nlB).size,jobs:=l}=_
  rw [e3]
  rfl
 rw [eS] at h1
 have hP:Pt (stP l 0 (-1) [] (-1) (-1) []):=⟨by rw [← eS]; exact h2.v,hv⟩
 obtain ⟨n,w',u1,u2,u3⟩:=N3 (F:=fails=[]) l {(⟨Gc,Ao 0 0 0,fl0,cs,fails,0,0,[],[],[],0,-1,false,true⟩:WL) with inp:=[]} ex0 hne
  ⟨lF inN Ft,fun _=>⟨fun h=>absurd h (by decide),fun h=>absurd h (by decide),fun h=>absurd rfl h⟩,by decide,rfl,rfl,(show (-1:Int) < 0 by decide),rfl,by show (0:Int)<=0/\(0:Int)+(nC l:Int)<=15; omega,fun t ht=>absurd ht List.not_mem_nil,List.Pairwise.nil,fun t ht=>absurd ht List.not_mem_nil,fun h=>absurd rfl h,List.Sublist.refl _,fun r hr=>absurd hr List.not_mem_nil,
   fun q=>⟨q,rfl,rfl,rfl,rfl,(show (0:Int)<=0 - ((0:Nat):Int) by decide),rfl,fun i=>Int.le_refl _⟩⟩ hP
 have hlen:=Zt cs hpos
 rw [hcat,ByteArray.size_append] at hlen
 have hn1:nlB.size=1:=rfl
 have hu:n<=0+8*nC l+2:=u2
 have:=(h1.trans u1).play (m:=900) (by omega) u3.ex
 unfold Pp
 rw [this]
 exact u3
open Go Go.RowKit Go.Proofs.Sx
abbrev Tk:=Nat×List UInt8
def pB (c:UInt8):Bool:=Ba (c.toNat:Int)
def hB (p:UInt8->Bool):List UInt8->Bool
 | []=>false
 | x::_=>p x
def mU (c:UInt8):List Tk->List Tk
 | []=>[(1,[c])]
 | t::r=>(t.1,c::t.2)::r
def Dx:Bool->List UInt8->List Tk
 | _,[]=>[]
 | true,_::r=>Dx false r
 | false,c::r =>
  if De (c.toNat:Int)=true then Dx false r
  else if pB c=true then (if hB pB r=true then mU c (Dx false r) else (1,[c])::Dx false r)
  else if c=62 then (if hB (· == 62) r=true then (4,[])::Dx true r else (3,[])::Dx false r)
  else if c=60 then (2,[])::Dx false r
  else if c=59 then (5,[])::Dx false r
  else if c=38 then (6,[])::Dx false r
  else if c=124 then (7,[])::Dx false r
  else [(8,[])]
def Ci (l:List UInt8):List Tk:=Dx false l
def TL (s:ByteArray) (n:Nat):List Tk:=Ci (s.data.toList.drop n)
section
variable {s:ByteArray} {n:Nat}
theorem G9 (h:n < s.size) : ∃ c,s.data.toList.drop n=c::s.data.toList.drop (n+1)/\sb s n=(c.toNat:Int):=by
 have hl:n < s.data.toList.length:=by rw [Ar]; exact h
 refine ⟨s.data.toList[n],List.drop_eq_getElem_cons hl,?_⟩
 unfold sb
 rw [List.getD_eq_getElem?_getD,List.getElem?_eq_getElem hl]; rfl
theorem qU (h : ¬ n < s.size):TL s n=[]:=by
 unfold TL
 rw [List.drop_eq_nil_of_le (by rw [Ar]; omega)]; rfl
theorem iM (h:n < s.size) (hb:De (sb s n)=true):TL s n=TL s (n+1):=by
 obtain ⟨c,hc,hs⟩:=G9 h
 unfold TL Ci
 rw [hc]
 simp only [Dx]
 rw [if_pos (by rw [← hs]; exact hb)]
theorem iK (s:ByteArray) : ∀ (k n:Nat),s.size - n<=k->TL s (sk s n)=TL s n
 | 0,n,h=>by rw [H4 (by omega)]
 | k+1,n,h=>by
  by_cases hb:n < s.size/\De (sb s n)=true
  · rw [Mx hb.1 hb.2,iK s k (n+1) (by omega),iM hb.1 hb.2]
  · rw [H4 hb]
theorem Gy {c:Int} (h:Ba c=true):De c=false:=by
 have:=Nx h
 unfold De; exact rA (by omega)
theorem fM (p:UInt8->Bool) (n:Nat):hB p (s.data.toList.drop n)=true↔∃ c:UInt8,n < s.size/\sb s n=(c.toNat:Int)/\p c=true:=by
 by_cases h:n < s.size
 · obtain ⟨c,hc,hs⟩:=G9 h
   rw [hc]
   refine ⟨fun q=>⟨c,h,hs,q⟩,fun ⟨d,_,hd,q⟩=>?_⟩
   have:c=d:=UInt8.toNat_inj.1 (by omega)
   subst this; exact q
 · rw [List.drop_eq_nil_of_le (by rw [Ar]; omega)]
   constructor
   · intro q; cases q
   · intro ⟨_,q,_⟩; exact absurd q h
theorem mX (s:ByteArray) : ∀ (k n:Nat),wl s n=k+1->TL s n=(1,(s.data.toList.drop n).take (k+1))::TL s (n+(k+1)):=by
 intro k
 induction k with
 | zero =>
  intro n h
  have h1:=Js.1 (show 0 < wl s n by omega)
  have h2 : ¬ (n+1 < s.size/\Ba (sb s (n+1))=true):=fun q=>by have:=Mr h1.1 h1.2; have:=Js.2 q; omega
  obtain ⟨c,hc,hs⟩:=G9 h1.1
  have hp:pB c=true:=by unfold pB; rw [← hs]; exact h1.2
  unfold TL Ci
  rw [hc]
  simp only [Dx]
  rw [if_neg (by rw [← hs,Gy h1.2]; simp),if_pos hp,if_neg (fun q=>by obtain ⟨d,hd,hs2,hp2⟩:=(fM pB (n+1)).1 q; exact h2 ⟨hd,by rw [hs2]; exact hp2⟩)]
  rfl
 | succ k ih =>
  intro n h
  have h1:=Js.1 (show 0 < wl s n by omega)
  have h3:wl s (n+1)=k+1:=by have:=Mr h1.1 h1.2; omega
  have h2:=Js.1 (show 0 < wl s (n+1) by omega)
  obtain ⟨c,hc,hs⟩:=G9 h1.1
  obtain ⟨d,_,hs2⟩:=G9 h2.1
  have hp:pB c=true:=by unfold pB; rw [← hs]; exact h1.2
  have hi:=ih (n+1) h3
  unfold TL Ci at hi ⊢
  rw [hc]
  simp only [Dx]
  rw [if_neg (by rw [← hs,Gy h1.2]; simp),if_pos hp,if_pos ((fM pB (n+1)).2 ⟨d,h2.1,hs2,by unfold pB; rw [← hs2]; exact h2.2⟩),hi]
  simp only [mU,List.take_succ_cons,show n+1+(k+1)=n+(k+1+1) by omega]
theorem Zx (hb : ¬ (n < s.size/\De (sb s n)=true)):(kd s n=0/\TL s n=[])\/(kd s n=8/\TL s n=[(8,[])])\/(kd s n=1/\TL s n=(1,(tk s n).data.toList)::TL s (nx s n))\/(kd s n≠0/\kd s n≠8/\kd s n≠1/\TL s n=(kd s n,[])::TL s (nx s n)):=by
 have hnx:TL s (nx s n)=TL s (n+tl s n):=iK s _ _ (Nat.le_refl _)
 rw [hnx]
 have hk:=Dn s n
 rcases Dh s n with ⟨h,h1⟩ | ⟨h,h1,h2⟩ | ⟨hn,hp,h⟩
 · exact .inl ⟨h,qU h1⟩
 · refine .inr (.inr (.inl ⟨h,?_⟩))
   obtain ⟨k,hw⟩ : ∃ k,wl s n=k+1:=⟨wl s n - 1,by have:=Js.2 ⟨h1,h2⟩; omega⟩
   have ht:tl s n=k+1:=by omega
   rw [mX s k n hw,show n+tl s n=n+(k+1) by omega]
   unfold tk
   rw [Cy,show n+tl s n - n=k+1 by omega]
 · obtain ⟨c,hc,hs⟩:=G9 hn
   have e0 : ¬ De (c.toNat:Int)=true:=fun q=>hb ⟨hn,by rw [hs]; exact q⟩
   have e1 : ¬ pB c=true:=by unfold pB; rw [← hs,hp]; simp
   have eq (x:UInt8):sb s n=(x.toNat:Int)↔c=x:=by
    rw [hs]
    exact ⟨fun q=>UInt8.toNat_inj.1 (by omega),fun q=>by rw [q]⟩
   have q62:=eq 62; have q60:=eq 60; have q59:=eq 59; have q38:=eq 38; have q124:=eq 124
   simp only [show (62:UInt8).toNat=62 from rfl,show (60:UInt8).toNat=60 from rfl,show (59:UInt8).toNat=59 from rfl,show (38:UInt8).toNat=38 from rfl,show (124:UInt8).toNat=124 from rfl] at q62 q60 q59 q38 q124
   have step:TL s n=(if c=62 then (if hB (· == 62) (s.data.toList.drop (n+1))=true then (4,[])::Dx true (s.data.toList.drop (n+1)) else (3,[])::Dx false (s.data.toList.drop (n+1)))
    else if c=60 then (2,[])::Dx false (s.data.toList.drop (n+1)) else if c=59 then (5,[])::Dx false (s.data.toList.drop (n+1)) else if c=38 then (6,[])::Dx false (s.data.toList.drop (n+1)) else if c=124 then (7,[])::Dx false (s.data.toList.drop (n+1)) else [(8,[])]):=by
    unfold TL Ci
    rw [hc]
    simp only [Dx]
    rw [if_neg e0,if_neg e1]
   have h62:hB (· == 62) (s.data.toList.drop (n+1))=true↔n+1 < s.size/\sb s (n+1)=62:=by
    rw [fM]
    constructor
    · rintro ⟨d,h1,h2,h3⟩
      have:d=62:=by simpa using h3
      subst this; exact ⟨h1,h2⟩
    · rintro ⟨h1,h2⟩; exact ⟨62,h1,h2,rfl⟩
   rcases h with ⟨h,g⟩ | ⟨h,g,g2⟩ | ⟨h,g,g2⟩ | ⟨h,g⟩ | ⟨h,g⟩ | ⟨h,g⟩ | ⟨h,g⟩
   · refine .inr (.inr (.inr ⟨by omega,by omega,by omega,?_⟩))
     have hc':=q60.1 (by omega)
     rw [step,h,show tl s n=1 by omega,if_neg (by rw [hc']; decide),if_pos hc']; rfl
   · refine .inr (.inr (.inr ⟨by omega,by omega,by omega,?_⟩))
     rw [step,h,show tl s n=1 by omega,if_pos (q62.1 (by omega)),if_neg (fun q=>g2 (h62.1 q))]; rfl
   · refine .inr (.inr (.inr ⟨by omega,by omega,by omega,?_⟩))
     rw [step,h,show tl s n=2 by omega,if_pos (q62.1 (by omega)),if_pos (h62.2 g2)]
     obtain ⟨d,hd,_⟩:=G9 g2.1
     unfold TL Ci
     rw [hd]; rfl
   · refine .inr (.inr (.inr ⟨by omega,by omega,by omega,?_⟩))
     have hc':=q59.1 (by omega)
     rw [step,h,show tl s n=1 by omega,if_neg (by rw [hc']; decide),if_neg (by rw [hc']; decide),if_pos hc']; rfl
   · refine .inr (.inr (.inr ⟨by omega,by omega,by omega,?_⟩))
     have hc':=q38.1 (by omega)
     rw [step,h,show tl s n=1 by omega,if_neg (by rw [hc']; decide),if_neg (by rw [hc']; decide),if_neg (by rw [hc']; decide),if_pos hc']; rfl
   · refine .inr (.inr (.inr ⟨by omega,by omega,by omega,?_⟩))
     have hc':=q124.1 (by omega)
     rw [step,h,show tl s n=1 by omega,if_neg (by rw [hc']; decide),if_neg (by rw [hc']; decide),if_neg (by rw [hc']; decide),if_neg (by rw [hc']; decide),if_pos hc']; rfl
   · refine .inr (.inl ⟨h,?_⟩)
     rw [step,if_neg (fun q=>by have:=q62.2 q; omega),if_neg (fun q=>by have:=q60.2 q; omega),if_neg (fun q=>by have:=q59.2 q; omega),if_neg (fun q=>by have:=q38.2 q; omega),if_neg (fun q=>by have:=q124.2 q; omega)]
end
open Go Go.RowKit Go.Proofs.Sx
def bT (l:List UInt8):ByteArray:=⟨l.toArray⟩
theorem nV (s:ByteArray):bT s.data.toList=s:=by cases s; simp [bT]
def hK:List Tk->Nat
 | []=>0
 | t::_=>t.1
def Ji:List Tk->Except Int (ByteArray×List Tk)
 | []=> .error 3
 | t::r=>if t.1≠1 then .error 3 else if 60 < t.2.length then .error 6 else .ok (bT t.2,r)
def Hn (c:CmdL) (k:Nat) (r:List Tk):Except Int (CmdL×List Tk) :=
 if (k=2/\c.inp.size≠0)\/(k≠2/\c.out.size≠0) then .error 3
 else match Ji r with
  | .error e=> .error e
  | .ok (w,r')=> .ok (if k=2 then ⟨c.words,w,c.out,c.app⟩ else ⟨c.words,c.inp,w,decide (k=4)⟩,r')
def Dt:Nat->CmdL->List Tk->Except Int (CmdL×List Tk)
 | 0,c,T=> .ok (c,T)
 | k+1,c,T =>
  if hK T=1 then
   if c.words.length=4 then .error 6
   else match Ji T with
    | .error e=> .error e
    | .ok (w,r)=>Dt k ⟨c.words++[w],c.inp,c.out,c.app⟩ r
  else if hK T=2\/hK T=3\/hK T=4 then
   match Hn c (hK T) T.tail with
    | .error e=> .error e
    | .ok (c',r)=>Dt k c' r
  else if c.words.length=0 then .error 3 else .ok (c,T)
def NB (s:ByteArray) (n:Nat):Prop:=¬ (n < s.size/\De (sb s n)=true)
def eP {α:Type} (s:ByteArray):PR α->Except Int (α×List Tk)
 | .error e=> .error e.2
 | .ok v=> .ok (v.1,TL s v.2)
section
variable {s:ByteArray} {n:Nat}
theorem iO (s:ByteArray) : ∀ (k n:Nat),s.size - n<=k->NB s (sk s n)
 | 0,n,h=>by rw [H4 (by omega)]; intro q; omega
 | k+1,n,h=>by
  by_cases hb:n < s.size/\De (sb s n)=true
  · rw [Mx hb.1 hb.2]; exact iO s k (n+1) (by omega)
  · rw [H4 hb]; exact hb
theorem Uz (s:ByteArray) (n:Nat):NB s (nx s n):=iO s _ _ (Nat.le_refl _)
theorem Tv (h:NB s n):hK (TL s n)=kd s n:=by
 rcases Zx h with ⟨h1,h2⟩ | ⟨h1,h2⟩ | ⟨h1,h2⟩ | ⟨_,_,h1,h2⟩
 · rw [h2,h1]; rfl
 · rw [h2,h1]; rfl
 · rw [h2,h1]; rfl
 · rw [h2]; rfl
theorem Rp (h:NB s n):eP s (Ct s n)=Ji (TL s n):=by
 unfold Ct
 rcases Zx h with ⟨h1,h2⟩ | ⟨h1,h2⟩ | ⟨h1,h2⟩ | ⟨_,_,h1,h2⟩ <;> rw [h2]
 · rw [if_pos (by omega)]; rfl
 · rw [if_pos (by omega)]; rfl
 · rw [if_neg (by omega)]
   simp only [Ji]
   rw [if_neg (show ¬ (1:Nat)≠1 by simp),Ar,D6,nV]
   split <;> rfl
 · rw [if_pos h1]
   simp only [Ji]
   rw [if_pos h1]; rfl
theorem X2 {w:ByteArray} {m:Nat} (h:Ct s n = .ok (w,m)):NB s m:=by
 unfold Ct at h
 split at h
 · cases h
 · split at h
   · cases h
   · cases h; exact Uz s n
theorem Mu (h:NB s n) (hk:kd s n≠0/\kd s n≠8):(TL s n).tail=TL s (nx s n):=by
 rcases Zx h with ⟨h1,h2⟩ | ⟨h1,h2⟩ | ⟨h1,h2⟩ | ⟨_,_,h1,h2⟩
 · omega
 · omega
 · rw [h2]; rfl
 · rw [h2]; rfl
theorem Z5 {c:CmdL} (h:NB s n) (hk:kd s n≠0/\kd s n≠8):eP s (Bj s c n)=Hn c (kd s n) (TL s n).tail:=by
 unfold Bj Hn
 split
 · rfl
 · rw [Mu h hk,← Rp (Uz s n)]
   cases Ct s (nx s n) with
   | error e=>rfl
   | ok q=>rfl
theorem cV {c v:CmdL} {m:Nat} (h:Bj s c n = .ok (v,m)):NB s m:=by
 unfold Bj at h
 split at h
 · cases h
 · cases hw:Ct s (nx s n) with
   | error e=>rw [hw] at h; cases h
   | ok q=>rw [hw] at h; cases h; exact X2 hw
theorem M4 (s:ByteArray) : ∀ (k:Nat) (c:CmdL) (n:Nat),NB s n->eP s (D4 false s k c n)=Dt k c (TL s n)/\∀ v m,D4 false s k c n = .ok (v,m)->NB s m
 | 0,c,n,h=>⟨rfl,fun v m e=>by cases e; exact h⟩
 | k+1,c,n,h=>by
  have hk:=Tv h
  simp only [D4,Dt]
  rw [hk]
  by_cases h1:kd s n=1
  · rw [if_pos h1,if_pos h1]
    by_cases hl:c.words.length=4
    · rw [if_pos hl,if_pos hl]; exact ⟨rfl,fun v m e=>by cases e⟩
    · rw [if_neg hl,if_neg hl,← Rp h]
      cases hw:Ct s n with
      | error e=>exact ⟨rfl,fun v m e=>by cases e⟩
      | ok q=>obtain ⟨u,m⟩:=q; exact M4 s k _ m (X2 hw)
  · rw [if_neg h1,if_neg h1]
    by_cases h2:kd s n=2\/kd s n=3\/kd s n=4
    · rw [if_pos ⟨h2,fun q=>by cases q.1⟩,if_pos h2,← Z5 h (by omega)]
      cases hw:Bj s c n with
      | error e=>exact ⟨rfl,fun v m e=>by cases e⟩
      | ok q=>obtain ⟨u,m⟩:=q; exact M4 s k _ m (cV hw)
    · rw [if_neg (fun q=>h2 q.1),if_neg h2]
      split
      · exact ⟨rfl,fun v m e=>by cases e⟩
      · exact ⟨rfl,fun v m e=>by cases e; exact h⟩
theorem lE (h:NB s n) (h7:kd s n≠0/\kd s n≠8):hK (TL s n).tail=kd s (nx s n):=by rw [Mu h h7,Tv (Uz s n)]
end
def Lr (F:Nat):Nat->List CmdL->List Tk->Except Int (List CmdL×List Tk)
 | 0,l,T=> .ok (l,T)
 | k+1,l,T =>
  if hK T=7 then
   if l.length=4/\C4 (hK T.tail)=true then .error 6
   else match Dt F E7 T.tail with
    | .error e=> .error e
    | .ok (c,r)=>Lr F k (l++[c]) r
  else .ok (l,T)
def Hh (F:Nat) (T:List Tk):Except Int (List CmdL×List Tk) :=
 match Dt F E7 T with
 | .error e=> .error e
 | .ok (c,r)=>Lr F F [c] r
def E9 (F:Nat):Nat->List JobL->List Tk->Except Int (List JobL)
 | 0,l,_=> .ok l
 | k+1,l,T =>
  if T.isEmpty=true then .ok l
  else if l.length=8/\C4 (hK T)=true then .error 6
  else match Hh F T with
   | .error e=> .error e
   | .ok (cs,r) =>
    if hK r=0 then .ok (l++[⟨cs,decide (hK r=6)⟩])
    else if hK r=5\/hK r=6 then E9 F k (l++[⟨cs,decide (hK r=6)⟩]) r.tail
    else .error 3
def eL:Except (Nat×Int) (List JobL)->Except Int (List JobL)
 | .error e=> .error e.2
 | .ok v=> .ok v
section
variable {s:ByteArray} {n:Nat}
theorem Y3 (s:ByteArray) : ∀ (k:Nat) (l:List CmdL) (n:Nat),NB s n->eP s (Gf false s k l n)=Lr (s.size+1) k l (TL s n)/\∀ v m,Gf false s k l n = .ok (v,m)->NB s m
 | 0,l,n,h=>⟨rfl,fun v m e=>by cases e; exact h⟩
 | k+1,l,n,h=>by
  simp only [Gf,Lr]
  rw [Tv h]
  by_cases h7:kd s n=7
  · rw [if_pos h7,if_pos h7,lE h (by omega),Mu h (by omega)]
    by_cases hl:l.length=4/\C4 (kd s (nx s n))=true
    · rw [if_pos hl,if_pos hl]; exact ⟨rfl,fun v m e=>by cases e⟩
    · rw [if_neg hl,if_neg hl]
      obtain ⟨q1,q2⟩:=M4 s (s.size+1) E7 (nx s n) (Uz s n)
      rw [← q1]
      show eP s (match D4 false s (s.size+1) E7 (nx s n) with | .error e=> .error e | .ok (c,m)=>Gf false s k (l++[c]) m)=_/\_
      cases hc:D4 false s (s.size+1) E7 (nx s n) with
      | error e=>exact ⟨rfl,fun v m e=>by simp only [Hz,hc] at e; cases e⟩
      | ok q =>
       obtain ⟨c,m⟩:=q
       obtain ⟨q3,q4⟩:=Y3 s k (l++[c]) m (q2 _ _ hc)
       refine ⟨q3,fun v m' e=>?_⟩
       simp only [Hz,hc] at e
       exact q4 v m' e
  · rw [if_neg h7,if_neg h7]; exact ⟨rfl,fun v m e=>by cases e; exact h⟩
theorem fF (h:NB s n):eP s (G3 false s n)=Hh (s.size+1) (TL s n)/\∀ v m,G3 false s n = .ok (v,m)->NB s m:=by
 obtain ⟨q1,q2⟩:=M4 s (s.size+1) E7 n h
 unfold G3 Hh Hz
 rw [← q1]
 cases hc:D4 false s (s.size+1) E7 n with
 | error e=>exact ⟨rfl,fun v m e=>by cases e⟩
 | ok q=>obtain ⟨c,m⟩:=q; exact Y3 s _ _ m (q2 _ _ hc)
theorem iL (h:NB s n):(TL s n).isEmpty=decide (¬ n < s.size):=by
 have hk:=Dh s n
 rcases Zx h with ⟨h1,h2⟩ | ⟨h1,h2⟩ | ⟨h1,h2⟩ | ⟨_,_,_,h2⟩ <;> rw [h2]
 · exact (qZ (by omega)).symm
 · exact (rA (by omega)).symm
 · exact (rA (by omega)).symm
 · exact (rA (by omega)).symm
theorem Te (s:ByteArray) : ∀ (k:Nat) (l:List JobL) (n:Nat),NB s n->eL (Dr false s k l n)=E9 (s.size+1) k l (TL s n)
 | 0,l,n,h=>rfl
 | k+1,l,n,h=>by
  simp only [Dr,E9]
  rw [iL h,Tv h]
  by_cases hn:n < s.size
  · rw [if_pos hn,if_neg (show ¬ decide (¬ n < s.size)=true by simpa using hn)]
    by_cases hl:l.length=8/\C4 (kd s n)=true
    · rw [if_pos hl,if_pos hl]; rfl
    · rw [if_neg hl,if_neg hl]
      obtain ⟨q1,q2⟩:=fF h
      rw [← q1]
      cases hj:G3 false s n with
      | error e=>rfl
      | ok q =>
       obtain ⟨cs,m⟩:=q
       have hm:=q2 _ _ hj
       simp only [eP]
       rw [Tv hm]
       by_cases h0:kd s m=0
       · rw [if_pos h0,if_pos h0]; rfl
       · rw [if_neg h0,if_neg h0]
         by_cases h5:kd s m=5\/kd s m=6
         · rw [if_pos h5,if_pos h5,Mu hm (by omega)]
           exact Te s k _ _ (Uz s m)
         · rw [if_neg h5,if_neg h5]; rfl
  · rw [if_neg hn,if_pos (show decide (¬ n < s.size)=true by simpa using hn)]; rfl
theorem aQ (s:ByteArray):eL (Dq false s)=E9 (s.size+1) (s.size+1) [] (Ci s.data.toList):=by
 unfold Dq
 rw [Te s _ _ _ (iO s _ _ (Nat.le_refl _)),iK s _ _ (Nat.le_refl _)]
 rfl
end
open Go Go.RowKit Go.Proofs.Sx
theorem Pe {T r:List Tk} {w:ByteArray} (h:Ji T = .ok (w,r)):r.length+1=T.length:=by
 cases T with
 | nil=>cases h
 | cons t T =>
  simp only [Ji] at h
  split at h
  · cases h
  · split at h
    · cases h
    · cases h; rfl
theorem Vg {c v:CmdL} {k:Nat} {T r:List Tk} (h:Hn c k T = .ok (v,r)):r.length+1=T.length:=by
 unfold Hn at h
 split at h
 · cases h
 · cases hw:Ji T with
   | error e=>rw [hw] at h; cases h
   | ok q=>obtain ⟨w,r'⟩:=q; rw [hw] at h; cases h; exact Pe hw
theorem Nd {T:List Tk} (h:hK T≠0):T.tail.length+1=T.length:=by
 cases T with
 | nil=>exact absurd rfl h
 | cons t T=>rfl
theorem Jd : ∀ (k k':Nat) (c:CmdL) (T:List Tk),T.length < k->T.length < k'->Dt k c T=Dt k' c T/\∀ v r,Dt k c T = .ok (v,r)->r.length<=T.length
 | 0,_,_,_,h,_=>absurd h (Nat.not_lt_zero _)
 | _+1,0,_,_,_,h=>absurd h (Nat.not_lt_zero _)
 | k+1,k'+1,c,T,h,h'=>by
  simp only [Dt]
  split
  · split
    · exact ⟨rfl,fun v r e=>by cases e⟩
    · cases hw:Ji T with
      | error e=>exact ⟨rfl,fun v r e=>by cases e⟩
      | ok q =>
       obtain ⟨w,r⟩:=q
       have:=Pe hw
       obtain ⟨q1,q2⟩:=Jd k k' ⟨c.words++[w],c.inp,c.out,c.app⟩ r (by omega) (by omega)
       exact ⟨q1,fun v r' e=>by have:=q2 v r' e; omega⟩
  · split
    · rename_i h2
      cases hw:Hn c (hK T) T.tail with
      | error e=>exact ⟨rfl,fun v r e=>by cases e⟩
      | ok q =>
       obtain ⟨w,r⟩:=q
       have:=Vg hw
       have:=Nd (T:=T) (by omega)
       obtain ⟨q1,q2⟩:=Jd k k' w r (by omega) (by omega)
       exact ⟨q1,fun v r' e=>by have:=q2 v r' e; omega⟩
    · split
      · exact ⟨rfl,fun v r e=>by cases e⟩
      · exact ⟨rfl,fun v r e=>by cases e; exact Nat.le_refl _⟩
theorem P4 {F F':Nat} : ∀ (k k':Nat) (l:List CmdL) (T:List Tk),T.length < k->T.length < k'->T.length < F->T.length < F'->Lr F k l T=Lr F' k' l T/\∀ v r,Lr F k l T = .ok (v,r)->r.length<=T.length
 | 0,_,_,_,h,_,_,_=>absurd h (Nat.not_lt_zero _)
 | _+1,0,_,_,_,h,_,_=>absurd h (Nat.not_lt_zero _)
 | k+1,k'+1,l,T,h,h',hF,hF'=>by
  simp only [Lr]
  split
  · rename_i h7
    have ht:=Nd (T:=T) (by omega)
    split
    · exact ⟨rfl,fun v r e=>by cases e⟩
    · obtain ⟨q1,q2⟩:=Jd F F' E7 T.tail (by omega) (by omega)
      rw [← q1]
      cases hc:Dt F E7 T.tail with
      | error e=>exact ⟨rfl,fun v r e=>by cases e⟩
      | ok q =>
       obtain ⟨c,r⟩:=q
       have:=q2 _ _ hc
       obtain ⟨q3,q4⟩:=P4 (F:=F) (F':=F') k k' (l++[c]) r (by omega) (by omega) (by omega) (by omega)
       exact ⟨q3,fun v r' e=>by have:=q4 v r' e; omega⟩
  · exact ⟨rfl,fun v r e=>by cases e; exact Nat.le_refl _⟩
theorem V8 {F F':Nat} {T:List Tk} (h:T.length < F) (h':T.length < F'):Hh F T=Hh F' T/\∀ v r,Hh F T = .ok (v,r)->r.length<=T.length:=by
 obtain ⟨q1,q2⟩:=Jd F F' E7 T h h'
 unfold Hh
 rw [← q1]
 cases hc:Dt F E7 T with
 | error e=>exact ⟨rfl,fun v r e=>by cases e⟩
 | ok q =>
  obtain ⟨c,r⟩:=q
  have:=q2 _ _ hc
  obtain ⟨q3,q4⟩:=P4 (F:=F) (F':=F') F F' [c] r (by omega) (by omega) (by omega) (by omega)
  exact ⟨q3,fun v r' e=>by have:=q4 v r' e; omega⟩
theorem Jy {F F':Nat} : ∀ (k k':Nat) (l:List JobL) (T:List Tk),T.length < k->T.length < k'->T.length < F->T.length < F'->E9 F k l T=E9 F' k' l T
 | 0,_,_,_,h,_,_,_=>absurd h (Nat.not_lt_zero _)
 | _+1,0,_,_,_,h,_,_=>absurd h (Nat.not_lt_zero _)
 | k+1,k'+1,l,T,h,h',hF,hF'=>by
  simp only [E9]
  split
  · rfl
  split
  · rfl
  obtain ⟨q1,q2⟩:=V8 hF hF'
  rw [← q1]
  cases hj:Hh F T with
  | error e=>rfl
  | ok q =>
   obtain ⟨cs,r⟩:=q
   have:=q2 _ _ hj
   simp only
   split
   · rfl
   split
   · have:=Nd (T:=r) (by omega)
     exact Jy k k' _ _ (by omega) (by omega) (by omega) (by omega)
   · rfl
theorem iJ (c:UInt8) (T:List Tk):(mU c T).length<=T.length+1:=by cases T <;> simp [mU]
theorem M1 : ∀ (l:List UInt8) (k:Bool),(Dx k l).length<=l.length
 | [],k=>by cases k <;> exact Nat.le_refl _
 | x::r,true=>Nat.le_succ_of_le (M1 r false)
 | x::r,false=>by
  have h1:=M1 r false
  have h2:=M1 r true
  have h3:=iJ x (Dx false r)
  simp only [Dx]
  repeat' split
  all_goals simp only [List.length_cons,List.length_nil] at *; omega
def eR (T:List Tk):Except Int (List JobL):=E9 (T.length+1) (T.length+1) [] T
theorem aR (s:ByteArray):eL (Dq false s)=eR (Ci s.data.toList):=by
 have h:=M1 s.data.toList false
 rw [Ar] at h
 have h':(Ci s.data.toList).length<=s.size:=h
 rw [aQ]
 exact Jy _ _ _ _ (by omega) (by omega) (by omega) (by omega)
open Go Go.RowKit Go.Proofs.Sx
def wT (u:ByteArray):Tk:=(1,u.data.toList)
section
variable {k:Nat} {c d:CmdL} {u:ByteArray} {U:List Tk}
theorem X3 (hu:u.size<=60):Ji (wT u::U) = .ok (u,U):=by
 have hl : ¬ 60 < u.data.toList.length:=by rw [Ar]; omega
 show (if (1:Nat)≠1 then Except.error 3 else if 60 < u.data.toList.length then Except.error 6 else Except.ok (bT u.data.toList,U))=_
 rw [if_neg (by simp),if_neg hl,nV]
theorem qN (h:c.words.length≠4) (hu:u.size<=60):Dt (k+1) c (wT u::U)=Dt k ⟨c.words++[u],c.inp,c.out,c.app⟩ U:=by
 simp only [Dt]
 rw [if_pos (show hK (wT u::U)=1 from rfl),if_neg h]
 simp only [X3 hu]
theorem Zq (k:Nat) (U:List Tk) : ∀ (ws:List ByteArray) (c:CmdL),c.words.length+ws.length<=4->(∀ u∈ws,u.size<=60)->Dt (k+ws.length) c (ws.map wT++U)=Dt k ⟨c.words++ws,c.inp,c.out,c.app⟩ U
 | [],c,_,_=>by simp
 | u::r,c,h,hs=>by
  rw [List.length_cons] at h
  show Dt (k+r.length+1) c (wT u::(r.map wT++U))=_
  rw [qN (by omega) (hs u List.mem_cons_self),Zq k U r _ (by simp only [List.length_append,List.length_cons,List.length_nil]; omega) fun v hv=>hs v (List.mem_cons_of_mem _ hv)]
  simp only [List.append_assoc,List.cons_append,List.nil_append]
theorem cX {q:Nat} (hg : ¬ ((q=2/\c.inp.size≠0)\/(q≠2/\c.out.size≠0))) (hu:u.size<=60):Hn c q (wT u::U) = .ok (if q=2 then ⟨c.words,u,c.out,c.app⟩ else ⟨c.words,c.inp,u,decide (q=4)⟩,U):=by
 unfold Hn
 rw [if_neg hg]
 simp only [X3 hu]
theorem gS {q:Nat} (hq:q=2\/q=3\/q=4) (hg : ¬ ((q=2/\c.inp.size≠0)\/(q≠2/\c.out.size≠0))) (hu:u.size<=60):Dt (k+1) c ((q,[])::wT u::U)=Dt k (if q=2 then ⟨c.words,u,c.out,c.app⟩ else ⟨c.words,c.inp,u,decide (q=4)⟩) U:=by
 have e:hK ((q,[])::wT u::U)=q:=rfl
 simp only [Dt]
 rw [e,if_neg (by omega),if_pos hq,List.tail_cons]
 simp only [cX hg hu]
theorem mH (h:c.inp.size=0) (hu:u.size<=60):Dt (k+1) c ((2,[])::wT u::U)=Dt k ⟨c.words,u,c.out,c.app⟩ U :=
 gS (q:=2) (.inl rfl) (by omega) hu
theorem Un {q:Nat} (hq:q=3\/q=4) (h:c.out.size=0) (hu:u.size<=60):Dt (k+1) c ((q,[])::wT u::U)=Dt k ⟨c.words,c.inp,u,decide (q=4)⟩ U:=by
 have:=gS (k:=k) (c:=c) (u:=u) (U:=U) (q:=q) (by omega) (by omega) hu
 rwa [if_neg (show ¬ q=2 by omega)] at this
theorem gU (hU:C4 (hK U)=false) (hc:c.words.length≠0):Dt (k+1) c U = .ok (c,U):=by
 have h:=qY hU
 simp only [Dt]
 rw [if_neg (by omega),if_neg (by omega),if_neg hc]
theorem iE (h:u.size=0):u=⟨#[]⟩:=Et (List.length_eq_zero_iff.1 (by rw [Ar]; exact h))
def O9 (d:CmdL):List Tk:=if d.inp.size=0 then [] else [(2,[]),wT d.inp]
def O5 (d:CmdL):List Tk:=if d.app=true then [(4,[]),wT d.out] else if d.out.size=0 then [] else [(3,[]),wT d.out]
def Mj (d:CmdL):List Tk:=d.words.map wT++(O9 d++O5 d)
theorem gT (h:c.inp=⟨#[]⟩) (hd:d.inp.size<=60) (k:Nat) (U:List Tk):Dt (k+(O9 d).length / 2) c (O9 d++U)=Dt k ⟨c.words,d.inp,c.out,c.app⟩ U:=by
 unfold O9
 by_cases hi:d.inp.size=0
 · rw [if_pos hi,iE hi,← h]; rfl
 · have e:([(2,[]),wT d.inp]:List Tk).length / 2=1:=by simp
   rw [if_neg hi,e]
   exact mH (by rw [h]; rfl) hd
theorem bK (h:c.out=⟨#[]⟩) (ha:c.app=false) (hd:d.out.size<=60) (k:Nat) (U:List Tk):Dt (k+(O5 d).length / 2) c (O5 d++U)=Dt k ⟨c.words,c.inp,d.out,d.app⟩ U:=by
 unfold O5
 by_cases hp:d.app=true
 · have e:([(4,[]),wT d.out]:List Tk).length / 2=1:=by simp
   rw [if_pos hp,hp,e]
   exact Un (.inr rfl) (by rw [h]; rfl) hd
 · have hp':d.app=false:=by simpa using hp
   rw [if_neg hp]
   by_cases ho:d.out.size=0
   · rw [if_pos ho,iE ho,hp',← h,← ha]; rfl
   · have e:([(3,[]),wT d.out]:List Tk).length / 2=1:=by simp
     rw [if_neg ho,hp',e]
     exact Un (.inl rfl) (by rw [h]; rfl) hd
theorem fL (d:CmdL):(O9 d).length / 2<=1:=by unfold O9; split <;> simp
theorem dO (d:CmdL):(O5 d).length / 2<=1:=by unfold O5; split <;> (try split) <;> simp
theorem gV (h:Av d=true) (hU:C4 (hK U)=false) (k:Nat):Dt (k+7) E7 (Mj d++U) = .ok (d,U):=by
 obtain ⟨h1,h2,h3,h4,_⟩:=Bk h
 have hi:=fL d
 have ho:=dO d
 obtain ⟨m,hm⟩ : ∃ m,k+7=m+1+(O5 d).length / 2+(O9 d).length / 2+d.words.length:=⟨k+6 - (O5 d).length / 2 - (O9 d).length / 2 - d.words.length,by omega⟩
 unfold Mj
 rw [hm,List.append_assoc,List.append_assoc,Zq _ _ _ _ (by show 0+_<=4; omega) fun u hu=>(Ds (h1 u hu)).2,gT rfl (Cb h3),bK rfl rfl (Cb h4)]
 exact gU hU (by show ([]++d.words).length≠0; rw [List.nil_append]; omega)
end
def Jm:List CmdL->List Tk
 | []=>[]
 | c::r=>(7,[])::(Mj c++Jm r)
def Qj:List CmdL->List Tk
 | []=>[]
 | c::r=>Mj c++Jm r
def cM (bg last:Bool):List Tk:=if bg=true then [(6,[])] else if last=true then [] else [(5,[])]
def Jk:List JobL->List Tk
 | []=>[]
 | x::r=>Qj x.cmds++(cM x.bg r.isEmpty++Jk r)
theorem nS (v:List CmdL) (U:List Tk) (hU:C4 (hK U)=false):C4 (hK (Jm v++U))=false:=by
 cases v with
 | nil=>exact hU
 | cons c r=>rfl
theorem Y5 {F:Nat} (hF : 7<=F) (U:List Tk) (hU:C4 (hK U)=false) (h7:hK U≠7) : ∀ (v:List CmdL) (k:Nat) (l:List CmdL),(∀ c∈v,Av c=true)->l.length+v.length<=4->v.length < k->Lr F k l (Jm v++U) = .ok (l++v,U)
 | _,0,_,_,_,h=>absurd h (Nat.not_lt_zero _)
 | [],k+1,l,_,_,_=>by
  show Lr F (k+1) l U=_
  simp only [Lr]
  rw [if_neg h7,List.append_nil]
 | c::r,k+1,l,hv,hl,hk=>by
  rw [List.length_cons] at hl hk
  obtain ⟨f,rfl⟩ : ∃ f,F=f+7:=⟨F - 7,by omega⟩
  show Lr (f+7) (k+1) l ((7,[])::(Mj c++Jm r++U))=_
  simp only [Lr]
  rw [if_pos (show hK ((7,[])::(Mj c++Jm r++U))=7 from rfl),if_neg (fun q=>by omega),List.tail_cons,List.append_assoc,gV (hv c List.mem_cons_self) (nS r U hU)]
  simp only
  rw [Y5 hF U hU h7 r k _ (fun x hx=>hv x (List.mem_cons_of_mem _ hx)) (by simp only [List.length_append,List.length_cons,List.length_nil]; omega) (by omega)]
  simp only [List.append_assoc,List.cons_append,List.nil_append]
theorem kR {F:Nat} (hF : 12<=F) {x:JobL} (hx:Bm x=true) (U:List Tk) (hU:C4 (hK U)=false) (h7:hK U≠7):Hh F (Qj x.cmds++U) = .ok (x.cmds,U):=by
 unfold Bm at hx
 rw [Bool.and_eq_true,List.all_eq_true] at hx
 have hl:=qX hx.1
 have hv:=hx.2
 obtain ⟨f,rfl⟩ : ∃ f,F=f+7:=⟨F - 7,by omega⟩
 match hc:x.cmds,hl,hv with
 | [],hl,_=>exact absurd hl.1 (by simp)
 | c::r,hl,hv =>
  rw [List.length_cons] at hl
  show Hh (f+7) (Mj c++Jm r++U)=_
  unfold Hh
  rw [List.append_assoc,gV (hv c List.mem_cons_self) (nS r U hU)]
  simp only
  rw [Y5 (by omega) U hU h7 r _ _ (fun x hx=>hv x (List.mem_cons_of_mem _ hx)) (by simp only [List.length_cons,List.length_nil]; omega) (by omega)]
  rfl
theorem jA {d:CmdL} (h:Av d=true) (U:List Tk):(Mj d++U).isEmpty=false:=by
 obtain ⟨_,h2,_⟩:=Bk h
 unfold Mj
 cases hw:d.words with
 | nil=>rw [hw] at h2; simp at h2
 | cons x r=>rfl
theorem iZ {x:JobL} (hx:Bm x=true) (U:List Tk):(Qj x.cmds++U).isEmpty=false:=by
 unfold Bm at hx
 rw [Bool.and_eq_true,List.all_eq_true] at hx
 have hl:=qX hx.1
 cases hc:x.cmds with
 | nil=>rw [hc] at hl; simp at hl
 | cons c r =>
  show (Mj c++Jm r++U).isEmpty=false
  rw [List.append_assoc]
  exact jA (hx.2 c (by rw [hc]; exact List.mem_cons_self)) _
theorem Tf {F:Nat} (hF : 12<=F) : ∀ (v:List JobL) (k:Nat) (l:List JobL),(∀ x∈v,Bm x=true)->l.length+v.length<=8->v.length < k->E9 F k l (Jk v) = .ok (l++v)
 | _,0,_,_,_,h=>absurd h (Nat.not_lt_zero _)
 | [],k+1,l,_,_,_=>by
  show E9 F (k+1) l []=_
  simp only [E9]
  rw [if_pos (show ([]:List Tk).isEmpty=true from rfl),List.append_nil]
 | ⟨cs,bg⟩::r,k+1,l,hv,hl,hk=>by
  rw [List.length_cons] at hl hk
  have hx:=hv ⟨cs,bg⟩ List.mem_cons_self
  have ih:=Tf hF r k (l++[⟨cs,bg⟩]) (fun x hx=>hv x (List.mem_cons_of_mem _ hx)) (by simp only [List.length_append,List.length_cons,List.length_nil]; omega) (by omega)
  have hne:(Qj cs++(cM bg r.isEmpty++Jk r)).isEmpty=false:=iZ hx _
  show E9 F (k+1) l (Qj cs++(cM bg r.isEmpty++Jk r))=_
  simp only [E9]
  rw [if_neg (show ¬ (Qj cs++(cM bg r.isEmpty++Jk r)).isEmpty=true by rw [hne]; simp),if_neg (fun q=>by omega)]
  have hj : ∀ U,C4 (hK U)=false->hK U≠7->Hh F (Qj cs++U) = .ok (cs,U):=fun U h1 h2=>kR hF hx U h1 h2
  cases bg with
  | true =>
   rw [hj _ rfl (by show 6≠7; decide)]
   show (if (6:Nat)=0 then _ else if (6:Nat)=5\/(6:Nat)=6 then E9 F k (l++[⟨cs,decide ((6:Nat)=6)⟩]) (Jk r) else _)=_
   rw [if_neg (by decide),if_pos (by decide)]
   refine Eq.trans ?_ (ih.trans ?_)
   · rfl
   · simp only [List.append_assoc,List.cons_append,List.nil_append]
  | false =>
   cases r with
   | nil =>
    rw [hj _ rfl (by show 0≠7; decide)]
    rfl
   | cons y r =>
    rw [hj _ rfl (by show 5≠7; decide)]
    show (if (5:Nat)=0 then _ else if (5:Nat)=5\/(5:Nat)=6 then E9 F k (l++[⟨cs,decide ((5:Nat)=6)⟩]) (Jk (y::r)) else _)=_
    rw [if_neg (by decide),if_pos (by decide)]
    refine Eq.trans ?_ (ih.trans ?_)
    · rfl
    · simp only [List.append_assoc,List.cons_append,List.nil_append]
theorem V2 (T:List Tk) (k:Nat):eR T=E9 (T.length+k+1) (T.length+k+1) [] T:=Jy _ _ _ _ (by omega) (by omega) (by omega) (by omega)
theorem Gr {v:List JobL} (h:Aq v=true):(∀ x∈v,Bm x=true)/\v.length<=8:=by
 unfold Aq at h
 rw [Bool.and_eq_true,List.all_eq_true] at h
 exact ⟨h.1,qX h.2⟩
theorem eQ {v:List JobL} (h:Aq v=true):eR (Jk v) = .ok v:=by
 obtain ⟨h1,h2⟩:=Gr h
 rw [V2 _ 20]
 exact Tf (by omega) v _ [] h1 (by simpa using h2) (by omega)
theorem Yq {s:ByteArray} : ∀ k,okW s k=true->∀ i,i < k->Ba (sb s i)=true
 | 0,_,i,hi=>absurd hi (Nat.not_lt_zero _)
 | k+1,h,i,hi=>by
  simp only [okW,Bool.and_eq_true] at h
  by_cases e:i=k
  · rw [e]; exact h.2
  · exact Yq k h.1 i (by omega)
theorem fK {u:ByteArray} (h:A0 u=true) : ∀ x∈u.data.toList,pB x=true:=by
 intro x hx
 unfold A0 at h
 rw [Bool.and_eq_true] at h
 obtain ⟨i,hi,he⟩:=List.mem_iff_getElem.1 hx
 have:=Yq u.size h.1 i (by rw [← Ar]; exact hi)
 unfold sb at this
 rw [List.getD_eq_getElem?_getD,List.getElem?_eq_getElem hi,he] at this
 exact this
theorem pY {u:ByteArray} (h:A0 u=true):u.data.toList≠[]:=fun e=>by have h1:=(Ds h).1; rw [← Ar,e] at h1; simp at h1
theorem Ti : ∀ (xs rest:List UInt8),xs≠[]->(∀ x∈xs,pB x=true)->hB pB rest=false->Ci (xs++rest)=(1,xs)::Ci rest
 | [],_,h,_,_=>absurd rfl h
 | [x],rest,_,hx,hr=>by
  have hp:=hx x List.mem_cons_self
  show Dx false (x::rest)=_
  simp only [Dx]
  rw [if_neg (by have:=Gy hp; rw [this]; simp),if_pos hp,if_neg (by rw [hr]; simp)]
  rfl
 | x::y::r,rest,_,hx,hr=>by
  have hp:=hx x List.mem_cons_self
  have hy:=hx y (List.mem_cons_of_mem _ List.mem_cons_self)
  have ih:=Ti (y::r) rest (by simp) (fun z hz=>hx z (List.mem_cons_of_mem _ hz)) hr
  show Dx false (x::(y::r++rest))=_
  have ih':Dx false (y::r++rest)=(1,y::r)::Ci rest:=ih
  have hh:hB pB (y::r++rest)=true:=hy
  rw [Dx]
  rw [if_neg (by have:=Gy hp; rw [this]; simp),if_pos hp,if_pos hh,ih']
  rfl
theorem Tj {u:ByteArray} (h:A0 u=true) {rest:List UInt8} (hr:hB pB rest=false):Ci (u.data.toList++rest)=wT u::Ci rest:=Ti _ _ (pY h) (fK h) hr
theorem G1 (r:List UInt8):Ci (32::r)=Ci r:=rfl
theorem pR (r:List UInt8):Ci (60::r)=(2,[])::Ci r:=rfl
theorem kM (r:List UInt8):Ci (124::r)=(7,[])::Ci r:=rfl
theorem pS {r:List UInt8} (h:hB (· == 62) r=false):Ci (62::r)=(3,[])::Ci r:=by
 show Dx false (62::r)=_
 rw [Dx]
 rw [if_neg (by decide),if_neg (by decide),if_pos rfl,if_neg (by rw [h]; simp)]
 rfl
theorem eU (r:List UInt8):Ci (62::62::r)=(4,[])::Ci r:=rfl
theorem tail_cons (u:ByteArray) (ws:List ByteArray) (rest:List UInt8):Lib.joinTail [32] ((u::ws).map (·.data.toList))++rest=32::(u.data.toList++(Lib.joinTail [32] (ws.map (·.data.toList))++rest)):=by
 simp only [Lib.joinTail,List.map_cons,List.flatten_cons,List.append_assoc,List.cons_append,List.nil_append]
theorem X7 (ws:List ByteArray) {rest:List UInt8} (hr:hB pB rest=false):hB pB (Lib.joinTail [32] (ws.map (·.data.toList))++rest)=false:=by
 cases ws with
 | nil=>exact hr
 | cons u r=>rw [tail_cons]; rfl
theorem Tp {rest:List UInt8} (hr:hB pB rest=false) : ∀ (ws:List ByteArray),(∀ u∈ws,A0 u=true)->Ci (Lib.joinTail [32] (ws.map (·.data.toList))++rest)=ws.map wT++Ci rest
 | [],_=>rfl
 | u::r,h=>by
  rw [tail_cons,G1,Tj (h u List.mem_cons_self) (X7 r hr),Tp hr r fun v hv=>h v (List.mem_cons_of_mem _ hv)]
  rfl
def pI (d:CmdL):List UInt8:=if d.inp.size=0 then [] else [32,60,32]++d.inp.data.toList
def pO (d:CmdL):List UInt8:=if d.app=true then [32,62,62,32]++d.out.data.toList else if d.out.size=0 then [] else [32,62,32]++d.out.data.toList
theorem nL (d:CmdL) {rest:List UInt8} (hr:hB pB rest=false):hB pB (pI d++rest)=false:=by unfold pI; split; {exact hr}; {rfl}
theorem dN (d:CmdL) {rest:List UInt8} (hr:hB pB rest=false):hB pB (pO d++rest)=false:=by unfold pO; split; {rfl}; {split; {exact hr}; {rfl}}
theorem Kp {u:ByteArray} (h:B9 u=true) (hz:u.size≠0):A0 u=true:=by
 unfold B9 at h
 rw [Bool.or_eq_true] at h
 rcases h with h | h
 · exact absurd (qX h) hz
 · exact h
theorem pQ {d:CmdL} (h:B9 d.inp=true) {rest:List UInt8} (hr:hB pB rest=false):Ci (pI d++rest)=O9 d++Ci rest:=by
 unfold pI O9
 by_cases hi:d.inp.size=0
 · rw [if_pos hi,if_pos hi]; rfl
 · rw [if_neg hi,if_neg hi]
   show Ci (32::60::32::(d.inp.data.toList++rest))=_
   rw [G1,pR,G1,Tj (Kp h hi) hr]; rfl
theorem pN {d:CmdL} (h:B9 d.out=true) (ha:d.app=true->d.out.size≠0) {rest:List UInt8} (hr:hB pB rest=false):Ci (pO d++rest)=O5 d++Ci rest:=by
 unfold pO O5
 by_cases hp:d.app=true
 · rw [if_pos hp,if_pos hp]
   show Ci (32::62::62::32::(d.out.data.toList++rest))=_
   rw [G1,eU,G1,Tj (Kp h (ha hp)) hr]; rfl
 · rw [if_neg hp,if_neg hp]
   by_cases ho:d.out.size=0
   · rw [if_pos ho,if_pos ho]; rfl
   · rw [if_neg ho,if_neg ho]
     show Ci (32::62::32::(d.out.data.toList++rest))=_
     rw [G1,pS rfl,G1,Tj (Kp h ho) hr]; rfl
theorem Yx {d:CmdL} (h:Av d=true) {rest:List UInt8} (hr:hB pB rest=false):Ci (prC d++rest)=Mj d++Ci rest:=by
 obtain ⟨h1,h2,h3,h4,h5⟩:=Bk h
 rw [Em h2.1]
 show Ci (Lib.join (d.words.map (·.data.toList)) [32]++(pI d++pO d)++rest)=_
 unfold Mj
 cases hw:d.words with
 | nil=>rw [hw] at h2; simp at h2
 | cons u r =>
  rw [hw] at h1
  rw [List.map_cons,Lib.join_cons]
  simp only [List.append_assoc]
  rw [Tj (h1 u List.mem_cons_self) (X7 r (nL d (dN d hr))),Tp (nL d (dN d hr)) r fun v hv=>h1 v (List.mem_cons_of_mem _ hv),pQ h3 (dN d hr),pN h4 h5 hr]
  rfl
def Q3:List CmdL->List UInt8
 | []=>[]
 | c::r=>[32,124,32]++(prC c++Q3 r)
theorem Pn (l:List CmdL) : ∀ j i,l.length - i=j->1<=i->i<=l.length->Aw l l.length=Aw l i++Q3 (l.drop i)
 | 0,i,h,h1,h2=>by
  rw [show i=l.length by omega,List.drop_length]
  exact (List.append_nil _).symm
 | j+1,i,h,h1,h2=>by
  rw [Pn l j (i+1) (by omega) (by omega) (by omega),List.drop_eq_getElem_cons (show i < l.length by omega)]
  simp only [Aw,Q3]
  rw [if_neg (by omega),Jc (List.getElem?_eq_getElem (show i < l.length by omega))]
  simp only [List.append_assoc]
theorem Po (c:CmdL) (r:List CmdL):Aw (c::r) (c::r).length=prC c++Q3 r:=by
 rw [Pn (c::r) r.length 1 (by simp) (Nat.le_refl _) (by simp)]
 show ([]++((if 0=0 then [] else [32,124,32])++prC c))++Q3 r=_
 rw [if_pos rfl,List.nil_append,List.nil_append]
theorem Yj (v:List CmdL) {rest:List UInt8} (hr:hB pB rest=false):hB pB (Q3 v++rest)=false:=by
 cases v with
 | nil=>exact hr
 | cons c r=>rfl
theorem Tt {rest:List UInt8} (hr:hB pB rest=false) : ∀ v:List CmdL,(∀ c∈v,Av c=true)->Ci (Q3 v++rest)=Jm v++Ci rest
 | [],_=>rfl
 | c::r,h=>by
  show Ci (32::124::32::(prC c++Q3 r++rest))=_
  rw [G1,kM,G1,List.append_assoc,Yx (h c List.mem_cons_self) (Yj r hr),Tt hr r fun v hv=>h v (List.mem_cons_of_mem _ hv)]
  simp only [Jm,List.append_assoc,List.cons_append]
theorem kL {x:JobL} (hx:Bm x=true) {rest:List UInt8} (hr:hB pB rest=false):Ci (prJ x++rest)=Qj x.cmds++Ci rest:=by
 unfold Bm at hx
 rw [Bool.and_eq_true,List.all_eq_true] at hx
 have hv:=hx.2
 unfold prJ
 cases hc:x.cmds with
 | nil=>rfl
 | cons c r =>
  rw [hc] at hv
  rw [Po,List.append_assoc,Yx (hv c List.mem_cons_self) (Yj r hr),Tt hr r fun v hw=>hv v (List.mem_cons_of_mem _ hw)]
  simp only [Qj,List.append_assoc]
def Sg:List JobL->List UInt8
 | []=>[]
 | x::r=>prJ x++(Mm x.bg r.isEmpty++Sg r)
theorem Xi {α:Type} (l:List α) (i:Nat) (h:i<=l.length):(l.drop i).isEmpty=decide (i=l.length):=by
 rw [Bool.eq_iff_iff,List.isEmpty_iff,List.drop_eq_nil_iff]
 simp only [decide_eq_true_eq]
 omega
theorem Sf (l:List JobL) : ∀ j i,l.length - i=j->i<=l.length->prP l l.length=prP l i++Sg (l.drop i)
 | 0,i,h,h2=>by
  rw [show i=l.length by omega,List.drop_length]
  exact (List.append_nil _).symm
 | j+1,i,h,h2=>by
  rw [Sf l j (i+1) (by omega) (by omega),List.drop_eq_getElem_cons (show i < l.length by omega)]
  simp only [prP,Sg]
  rw [Jc (List.getElem?_eq_getElem (show i < l.length by omega)),Xi l (i+1) (by omega)]
  simp only [List.append_assoc]
theorem Sh (l:List JobL):prL l=Sg l:=Sf l _ 0 rfl (Nat.zero_le _)
theorem kK (b c:Bool) (r:List UInt8):Ci (Mm b c++r)=cM b c++Ci r:=by cases b <;> cases c <;> rfl
theorem oX (v:List JobL) (b:Bool):hB pB (Mm b v.isEmpty++Sg v)=false:=by
 cases b with
 | true=>cases v.isEmpty <;> rfl
 | false=>cases v with
  | nil=>rfl
  | cons y r=>rfl
theorem Ts : ∀ v:List JobL,(∀ x∈v,Bm x=true)->Ci (Sg v)=Jk v
 | [],_=>rfl
 | x::r,h=>by
  simp only [Sg,Jk]
  rw [kL (h x List.mem_cons_self) (oX r x.bg),kK,Ts r fun v hv=>h v (List.mem_cons_of_mem _ hv)]
theorem eL_ok {R:Except (Nat×Int) (List JobL)} {v:List JobL} (h:eL R = .ok v):R = .ok v:=by
 cases R with
 | error e=>cases h
 | ok l=>exact congrArg _ (Except.ok.inj h)
theorem Tg {v:List JobL} (h:Aq v=true):Dq false (bA (prL v)) = .ok v:=by
 refine eL_ok ?_
 rw [aR,M7,Sh,Ts v (Gr h).1]
 exact eQ h
def awS1:StL:={Gc with mode:=1}
def awS2:StL:=⟨3,0,⟨#[]⟩,[⟨[⟨[⟨#[97]⟩],⟨#[]⟩,⟨#[]⟩,false⟩,⟨[⟨#[98]⟩],⟨#[]⟩,⟨#[]⟩,false⟩],false⟩],-1,-1,-1,[],[]⟩
theorem aw_1:Bb Gc 0 []=(awS1,Ao 9 0 80):=by kernel_rfl
theorem aw_2:Bb awS1 6 ([97,32,124,32,98,10]:List Int)=(awS2,Ao 11 0 0):=by kernel_rfl
theorem aw_3:(Bb awS2 772 []).2=Ao 1 0 0:=by kernel_rfl
set_option maxHeartbeats 4000000 in
theorem Qg (w:World) (hE:ErrOk w) :
 Calls Tryz.prog 7 #[] w fun e w'=>e = .returned (.bool true)/\Only Ai w w':=by
 refine An (args:=[]) (m:=47) (n:=47) Tryz.func7 rfl (by kernel_rfl) (by kernel_rfl) fun fr hA=>?_;have hO:=Ow.nil Tryz.prog Ai w;refine Sa [(0,bl false)] hA fun fr hA=>sr 9 (Mk 8 hA hO Tryz.func24 (M0 _) fun fr w1 hA hO=>Ag (mC (d:=(some 9)) hA Tryz.func16 ((L0 nSV 0 _ (dX _) dV (hE.keep hO.only) (by omega) (by omega)).mono ?_)));rintro en w2 ⟨u1,xa1,TA1,hu1,hxa1,hsm1,rfl,hW_,hG1,hXX1⟩;refine ⟨_,rfl,?_⟩;clear hA fr; intro fr hA;replace hO:Ow Tryz.prog Ai w _ ([]++[]):=hO.to (List.append_nil _).symm;replace hO:=Ow.join hO hW_; clear hW_;replace hO:Ow Tryz.prog Ai w _ ([]++(TA1++([]))):=hO.to (by first | rfl | (simp only [TP,apd]));have hPTA1:Ah TA1 (fun w_=>SV.ok u1 w_/\VP w_ xa1):=Ah.and hG1 hXX1;rw [nSV_d,aw_1] at hu1 hxa1
 refine Ka 3 [(10,.agg #[i64 u1.mo,i64 u1.po,str u1.inp,.slice u1.pj u1.lj.length u1.cj,i64 u1.rd,i64 u1.wr,i64 u1.pv,.slice u1.pc u1.lc.length u1.cc,.slice u1.pp u1.lp.length u1.cp]),(11,.agg #[i64 xa1.d.call,i64 xa1.d.a0,i64 xa1.d.a1,i64 xa1.d.a2,.slice xa1.p xa1.d.data.length xa1.c])] hA fun fr hA=>Mn (cS 0 0 (⟨#[]⟩:ByteArray) none 0 0 0 0 0 none 0 0 none 0 0) 39 1 hA hO fun fr w3 b1 hA hO=>Mn [i64 0,i64 0,i64 0,i64 0,.slice none 0 0] 43 2 hA hO fun fr w4 b2 hA hO=>Ms 0 (cS u1.mo u1.po u1.inp u1.pj u1.lj.length u1.cj u1.rd u1.wr u1.pv u1.pc u1.lc.length u1.cc u1.pp u1.lp.length u1.cp) 1 hA hO fun w5 hO=>Ms 0 [i64 xa1.d.call,i64 xa1.d.a0,i64 xa1.d.a1,i64 xa1.d.a2,.slice xa1.p xa1.d.data.length xa1.c] 0 hA hO fun w6 hO=>Ab (Aa (sr 11 (Kb 1 [(13,.agg #[i64 u1.mo,i64 u1.po,str u1.inp,.slice u1.pj u1.lj.length u1.cj,i64 u1.rd,i64 u1.wr,i64 u1.pv,.slice u1.pc u1.lc.length u1.cc,.slice u1.pp u1.lp.length u1.cp])] hA [.agg #[i64 u1.mo,i64 u1.po,str u1.inp,.slice u1.pj u1.lj.length u1.cj,i64 u1.rd,i64 u1.wr,i64 u1.pv,.slice u1.pc u1.lc.length u1.cc,.slice u1.pp u1.lp.length u1.cp]] (cc (hO.ln 1 0 39 (cS u1.mo u1.po u1.inp u1.pj u1.lj.length u1.cj u1.rd u1.wr u1.pv u1.pc u1.lc.length u1.cc u1.pp u1.lp.length u1.cp)) c0) fun fr hA=>Mv [u8 97,u8 32,u8 124,u8 32,u8 98,u8 10] 5 6 14 hA hO fun fr w7 b3 hA hO=>Ag (mV (L:=([(b3,5,[u8 97,u8 32,u8 124,u8 32,u8 98,u8 10]),(b2,43,[i64 xa1.d.call,i64 xa1.d.a0,i64 xa1.d.a1,i64 xa1.d.a2,.slice xa1.p xa1.d.data.length xa1.c]),(b1,39,(cS u1.mo u1.po u1.inp u1.pj u1.lj.length u1.cj u1.rd u1.wr u1.pv u1.pc u1.lc.length u1.cc u1.pp u1.lp.length u1.cp))]++(TA1++([])))) (t:=41) (el:=5) (off:=0) (m:=6) (c:=6) (d:=15) 0 hA hO fun fr w8 hA hO=>Ag (mC (d:=(some 16)) hA Tryz.func16 ((Xy u1 6 (some ⟨b3,0,none⟩) 6 ([97,32,124,32,98,10]:List Int) _ (Ah.at (A:=[_,_,_]) hPTA1 hO.m).1 hsm1 (show Vw fB _ (.slice (some ⟨b3,0,none⟩) ([97,32,124,32,98,10]:List Int).length 6) ([97,32,124,32,98,10]:List Int) from (hO.b 0).vw (off:=0) (xs:=([97,32,124,32,98,10]:List Int)) (by kernel_rfl)) (U8s.cons (Ht (by decide) (by decide)) (U8s.cons (Ht (by decide) (by decide)) (U8s.cons (Ht (by decide) (by decide)) (U8s.cons (Ht (by decide) (by decide)) (U8s.cons (Ht (by decide) (by decide)) (U8s.cons (Ht (by decide) (by decide)) U8s.nil)))))) (by decide) (by decide) (hE.keep hO.only) (by omega) (by omega)).mono ?_))))))
 rintro en w9 ⟨u2,xa2,TA2,hu2,hxa2,hsm2,rfl,hW_,hG2,hXX2⟩;refine ⟨_,rfl,?_⟩;clear hA fr; intro fr hA;replace hO:=Ow.join hO hW_; clear hW_;replace hO:Ow Tryz.prog Ai w _ ([(b3,5,[u8 97,u8 32,u8 124,u8 32,u8 98,u8 10]),(b2,43,[i64 xa1.d.call,i64 xa1.d.a0,i64 xa1.d.a1,i64 xa1.d.a2,.slice xa1.p xa1.d.data.length xa1.c]),(b1,39,(cS u1.mo u1.po u1.inp u1.pj u1.lj.length u1.cj u1.rd u1.wr u1.pv u1.pc u1.lc.length u1.cc u1.pp u1.lp.length u1.cp))]++(TA1++(TA2++([])))):=hO.to (by first | rfl | (simp only [TP,apd]));have hPTA2:Ah TA2 (fun w_=>SV.ok u2 w_/\VP w_ xa2):=Ah.and hG2 hXX2;rw [hu1,aw_2] at hu2 hxa2
 refine Ka 3 [(17,.agg #[i64 u2.mo,i64 u2.po,str u2.inp,.slice u2.pj u2.lj.length u2.cj,i64 u2.rd,i64 u2.wr,i64 u2.pv,.slice u2.pc u2.lc.length u2.cc,.slice u2.pp u2.lp.length u2.cp]),(18,.agg #[i64 xa2.d.call,i64 xa2.d.a0,i64 xa2.d.a1,i64 xa2.d.a2,.slice xa2.p xa2.d.data.length xa2.c])] hA fun fr hA=>Mn (cS 0 0 (⟨#[]⟩:ByteArray) none 0 0 0 0 0 none 0 0 none 0 0) 39 3 hA hO fun fr w10 b4 hA hO=>Mn [i64 0,i64 0,i64 0,i64 0,.slice none 0 0] 43 4 hA hO fun fr w11 b5 hA hO=>Ms 0 (cS u2.mo u2.po u2.inp u2.pj u2.lj.length u2.cj u2.rd u2.wr u2.pv u2.pc u2.lc.length u2.cc u2.pp u2.lp.length u2.cp) 1 hA hO fun w12 hO=>Ms 0 [i64 xa2.d.call,i64 xa2.d.a0,i64 xa2.d.a1,i64 xa2.d.a2,.slice xa2.p xa2.d.data.length xa2.c] 0 hA hO fun w13 hO=>Ab (Aa (sr 9 (Kb 1 [(20,.agg #[i64 u2.mo,i64 u2.po,str u2.inp,.slice u2.pj u2.lj.length u2.cj,i64 u2.rd,i64 u2.wr,i64 u2.pv,.slice u2.pc u2.lc.length u2.cc,.slice u2.pp u2.lp.length u2.cp])] hA [.agg #[i64 u2.mo,i64 u2.po,str u2.inp,.slice u2.pj u2.lj.length u2.cj,i64 u2.rd,i64 u2.wr,i64 u2.pv,.slice u2.pc u2.lc.length u2.cc,.slice u2.pp u2.lp.length u2.cp]] (cc (hO.ln 1 0 39 (cS u2.mo u2.po u2.inp u2.pj u2.lj.length u2.cj u2.rd u2.wr u2.pv u2.pc u2.lc.length u2.cc u2.pp u2.lp.length u2.cp)) c0) fun fr hA=>?_)))
 replace hO:Ow Tryz.prog Ai w w13 ([(b5,43,[i64 xa2.d.call,i64 xa2.d.a0,i64 xa2.d.a1,i64 xa2.d.a2,.slice xa2.p xa2.d.data.length xa2.c]),(b4,39,(cS u2.mo u2.po u2.inp u2.pj u2.lj.length u2.cj u2.rd u2.wr u2.pv u2.pc u2.lc.length u2.cc u2.pp u2.lp.length u2.cp)),(b3,5,[u8 97,u8 32,u8 124,u8 32,u8 98,u8 10]),(b2,43,[i64 xa1.d.call,i64 xa1.d.a0,i64 xa1.d.a1,i64 xa1.d.a2,.slice xa1.p xa1.d.data.length xa1.c]),(b1,39,(cS u1.mo u1.po u1.inp u1.pj u1.lj.length u1.cj u1.rd u1.wr u1.pv u1.pc u1.lc.length u1.cc u1.pp u1.lp.length u1.cp))]++(TA1++(TA2++([])))):=hO;refine Ag (mC (d:=(some 21)) hA Tryz.func16 ((L0 u2 772 _ (Ah.at hPTA2 (hO.tt:Ow Tryz.prog Ai w _ (([(b5,43,[i64 xa2.d.call,i64 xa2.d.a0,i64 xa2.d.a1,i64 xa2.d.a2,.slice xa2.p xa2.d.data.length xa2.c]),(b4,39,(cS u2.mo u2.po u2.inp u2.pj u2.lj.length u2.cj u2.rd u2.wr u2.pv u2.pc u2.lc.length u2.cc u2.pp u2.lp.length u2.cp)),(b3,5,[u8 97,u8 32,u8 124,u8 32,u8 98,u8 10]),(b2,43,[i64 xa1.d.call,i64 xa1.d.a0,i64 xa1.d.a1,i64 xa1.d.a2,.slice xa1.p xa1.d.data.length xa1.c]),(b1,39,(cS u1.mo u1.po u1.inp u1.pj u1.lj.length u1.cj u1.rd u1.wr u1.pv u1.pc u1.lc.length u1.cc u1.pp u1.lp.length u1.cp))]++(TA1++([])))++(TA2++([])))).m).1 hsm2 (hE.keep hO.only) (by omega) (by omega)).mono ?_));rintro en w14 ⟨u3,xa3,TA3,hu3,hxa3,hsm3,rfl,hW_,hG3,hXX3⟩;refine ⟨_,rfl,?_⟩;clear hA fr; intro fr hA;replace hO:=Ow.join hO hW_; clear hW_
 replace hO:Ow Tryz.prog Ai w _ ([(b5,43,[i64 xa2.d.call,i64 xa2.d.a0,i64 xa2.d.a1,i64 xa2.d.a2,.slice xa2.p xa2.d.data.length xa2.c]),(b4,39,(cS u2.mo u2.po u2.inp u2.pj u2.lj.length u2.cj u2.rd u2.wr u2.pv u2.pc u2.lc.length u2.cc u2.pp u2.lp.length u2.cp)),(b3,5,[u8 97,u8 32,u8 124,u8 32,u8 98,u8 10]),(b2,43,[i64 xa1.d.call,i64 xa1.d.a0,i64 xa1.d.a1,i64 xa1.d.a2,.slice xa1.p xa1.d.data.length xa1.c]),(b1,39,(cS u1.mo u1.po u1.inp u1.pj u1.lj.length u1.cj u1.rd u1.wr u1.pv u1.pc u1.lc.length u1.cc u1.pp u1.lp.length u1.cp))]++(TA1++(TA2++(TA3++([]))))):=hO.to (by first | rfl | (simp only [TP,apd]));have hPTA3:Ah TA3 (fun w_=>SV.ok u3 w_/\VP w_ xa3):=Ah.and hG3 hXX3;rw [hu2,aw_3] at hxa3
 refine Ka 3 [(22,.agg #[i64 u3.mo,i64 u3.po,str u3.inp,.slice u3.pj u3.lj.length u3.cj,i64 u3.rd,i64 u3.wr,i64 u3.pv,.slice u3.pc u3.lc.length u3.cc,.slice u3.pp u3.lp.length u3.cp]),(23,.agg #[i64 xa3.d.call,i64 xa3.d.a0,i64 xa3.d.a1,i64 xa3.d.a2,.slice xa3.p xa3.d.data.length xa3.c])] hA fun fr hA=>Mn (cS 0 0 (⟨#[]⟩:ByteArray) none 0 0 0 0 0 none 0 0 none 0 0) 39 5 hA hO fun fr w15 b6 hA hO=>Mn [i64 0,i64 0,i64 0,i64 0,.slice none 0 0] 43 6 hA hO fun fr w16 b7 hA hO=>Ms 0 (cS u3.mo u3.po u3.inp u3.pj u3.lj.length u3.cj u3.rd u3.wr u3.pv u3.pc u3.lc.length u3.cc u3.pp u3.lp.length u3.cp) 1 hA hO fun w17 hO=>Ms 0 [i64 xa3.d.call,i64 xa3.d.a0,i64 xa3.d.a1,i64 xa3.d.a2,.slice xa3.p xa3.d.data.length xa3.c] 0 hA hO fun w18 hO=>Ab (Aa (sr 24 (Kb 4 [(26,bl (xa1.d.call == 9)),(27,bl (xa1.d.call == 9))] hA [i64 xa1.d.call] (cc (hO.l1 5 0 3 (i64 xa1.d.call)) c0) fun fr hA=>?_)));rw [((by rw [hxa1]; rfl):(xa1.d.call == 9)=true)] at hA
 refine Kb 6 [(31,bl ((xa1.d.a0 == 0) && ((xa1.d.a1 == 80) && ((xa1.d.a2 == 0) && true)))),(32,bl ((xa1.d.a0 == 0) && ((xa1.d.a1 == 80) && ((xa1.d.a2 == 0) && true)))),(33,bl ((xa1.d.a0 == 0) && ((xa1.d.a1 == 80) && ((xa1.d.a2 == 0) && true))))] hA [.agg #[i64 xa1.d.a0,i64 xa1.d.a1,i64 xa1.d.a2],bl ((xa1.d.a0 == 0) && ((xa1.d.a1 == 80) && ((xa1.d.a2 == 0) && true)))] (cc (hO.ln 5 1 40 [i64 xa1.d.a0,i64 xa1.d.a1,i64 xa1.d.a2]) (cc ((qC (by kernel_rfl) (by kernel_rfl)):EqG Tryz.prog 40 (.agg #[i64 xa1.d.a0,i64 xa1.d.a1,i64 xa1.d.a2]) (.agg #[i64 0,i64 80,i64 0]) ((xa1.d.a0 == 0) && ((xa1.d.a1 == 80) && ((xa1.d.a2 == 0) && true)))) c0)) fun fr hA=>?_;rw [((by rw [hxa1]; rfl):((xa1.d.a0 == 0) && ((xa1.d.a1 == 80) && ((xa1.d.a2 == 0) && true)))=true)] at hA;refine Kb 5 [(36,bl (xa2.d.call == 11)),(37,bl (xa2.d.call == 11)),(38,bl (xa2.d.call == 11))] hA [i64 xa2.d.call] (cc (hO.l1 2 0 3 (i64 xa2.d.call)) c0) fun fr hA=>?_;rw [((by rw [hxa2]; rfl):(xa2.d.call == 11)=true)] at hA;refine Kb 5 [(41,bl (xa3.d.call == 1)),(42,bl (xa3.d.call == 1)),(43,bl (xa3.d.call == 1))] hA [i64 xa3.d.call] (cc (hO.l1 0 0 3 (i64 xa3.d.call)) c0) fun fr hA=>?_;rw [((by rw [hxa3]; rfl):(xa3.d.call == 1)=true)] at hA
 refine Kb 1 [(43,bl true),(44,.agg #[i64 u2.mo,i64 u2.po,str u2.inp,.slice u2.pj u2.lj.length u2.cj,i64 u2.rd,i64 u2.wr,i64 u2.pv,.slice u2.pc u2.lc.length u2.cc,.slice u2.pp u2.lp.length u2.cp])] hA [.agg #[i64 u2.mo,i64 u2.po,str u2.inp,.slice u2.pj u2.lj.length u2.cj,i64 u2.rd,i64 u2.wr,i64 u2.pv,.slice u2.pc u2.lc.length u2.cc,.slice u2.pp u2.lp.length u2.cp]] (cc (hO.ln 3 0 39 (cS u2.mo u2.po u2.inp u2.pj u2.lj.length u2.cj u2.rd u2.wr u2.pv u2.pc u2.lc.length u2.cc u2.pp u2.lp.length u2.cp)) c0) fun fr hA=>?_;replace hO:Ow Tryz.prog Ai w w18 ([(b7,43,[i64 xa3.d.call,i64 xa3.d.a0,i64 xa3.d.a1,i64 xa3.d.a2,.slice xa3.p xa3.d.data.length xa3.c]),(b6,39,(cS u3.mo u3.po u3.inp u3.pj u3.lj.length u3.cj u3.rd u3.wr u3.pv u3.pc u3.lc.length u3.cc u3.pp u3.lp.length u3.cp)),(b5,43,[i64 xa2.d.call,i64 xa2.d.a0,i64 xa2.d.a1,i64 xa2.d.a2,.slice xa2.p xa2.d.data.length xa2.c]),(b4,39,(cS u2.mo u2.po u2.inp u2.pj u2.lj.length u2.cj u2.rd u2.wr u2.pv u2.pc u2.lc.length u2.cc u2.pp u2.lp.length u2.cp)),(b3,5,[u8 97,u8 32,u8 124,u8 32,u8 98,u8 10]),(b2,43,[i64 xa1.d.call,i64 xa1.d.a0,i64 xa1.d.a1,i64 xa1.d.a2,.slice xa1.p xa1.d.data.length xa1.c]),(b1,39,(cS u1.mo u1.po u1.inp u1.pj u1.lj.length u1.cj u1.rd u1.wr u1.pv u1.pc u1.lc.length u1.cc u1.pp u1.lp.length u1.cp))]++(TA1++(TA2++(TA3++([]))))):=hO
 exact Mk 45 hA hO Tryz.func22 (rs (Nf u2.mo u2.po u2.inp u2.pj u2.cj u2.lj u2.rd u2.wr u2.pv u2.pc u2.cc u2.lc u2.pp u2.cp u2.lp _ (Ah.at hPTA2 (hO.tt:Ow Tryz.prog Ai w _ (([(b7,43,[i64 xa3.d.call,i64 xa3.d.a0,i64 xa3.d.a1,i64 xa3.d.a2,.slice xa3.p xa3.d.data.length xa3.c]),(b6,39,(cS u3.mo u3.po u3.inp u3.pj u3.lj.length u3.cj u3.rd u3.wr u3.pv u3.pc u3.lc.length u3.cc u3.pp u3.lp.length u3.cp)),(b5,43,[i64 xa2.d.call,i64 xa2.d.a0,i64 xa2.d.a1,i64 xa2.d.a2,.slice xa2.p xa2.d.data.length xa2.c]),(b4,39,(cS u2.mo u2.po u2.inp u2.pj u2.lj.length u2.cj u2.rd u2.wr u2.pv u2.pc u2.lc.length u2.cc u2.pp u2.lp.length u2.cp)),(b3,5,[u8 97,u8 32,u8 124,u8 32,u8 98,u8 10]),(b2,43,[i64 xa1.d.call,i64 xa1.d.a0,i64 xa1.d.a1,i64 xa1.d.a2,.slice xa1.p xa1.d.data.length xa1.c]),(b1,39,(cS u1.mo u1.po u1.inp u1.pj u1.lj.length u1.cj u1.rd u1.wr u1.pv u1.pc u1.lc.length u1.cc u1.pp u1.lp.length u1.cp))]++(TA1++([])))++(TA2++(TA3++([]))))).m).1 hsm2) (congrArg Value.bool (show Bn u2.d=true by rw [hu2]; kernel_rfl))) fun fr w19 hA hO=>Ka 2 [(0,bl true)] hA fun fr hA=>Ab (Aa (wp_ret (cv [bl true] hA (⟨rfl,hO.only⟩))))
end Go.Proofs.YtdljjajjonfjbaaGreatDoor
