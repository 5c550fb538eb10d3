import Derived.Test.YtdljjajjonfjbaaGreatDoorSwd
import Derived.Test.YtdljjajjonfjbaaGreatDoorSn
import Derived.Test.YtdljjajjonfjbaaGreatDoorShStore
import Derived.Test.YtdljjajjonfjbaaGreatDoorParsf
import Derived.Test.YtdljjajjonfjbaaGreatDoorShl
set_option linter.unusedVariables false
set_option linter.unusedSimpArgs false
set_option maxRecDepth 10000
open Go.Proofs.Tryz renaming prog->sA
open List renaming length_append->sD,length_cons->sE,length_nil->sF,append_assoc->sH,mem_cons_self->sK,not_mem_nil->sL,append_nil->sN,nil_append->sO,mem_cons_of_mem->sP
open ByteArray renaming size_append->sS,size_extract->sT
open Bool renaming and_eq_true->sV
namespace Go.Proofs.YtdljjajjonfjbaaGreatDoor
open Go Go.Shelf Go.RowKit Go.Proofs Go.Proofs.Sx
def R2 (a:WV) (T:OwL):Prop:=∃ TR TA TW TS,T=TR++(TA++(TW++TS))/\WOk a TR TA TW TS
theorem oZ (wb:Nat) (a:WV) (T:OwL) (n:Nat) (w:World) (h0:Ow sA (inT ((wb,46,wc a)::T)) w w ((wb,46,wc a)::T)) (hW:R2 a T) (hX : ∀ w',Only (inT ((wb,46,wc a)::T)) w w'->WX w' a) (hsw:smW n a.d) (hn:n<=1000) (hch : ∀ c∈a.il,c.size<=1000) :
 Calls sA 27 #[pt wb] w fun e w'=>∃ (a':WV) (T':OwL),a'.d=Ba a.d/\R2 a' T'/\(∀ w,WX w a->WX w a')/\e = .returned (.tuple #[])/\Ow sA (inT ((wb,46,wc a)::T)) w w' ((wb,46,wc a')::T'):=by
 obtain ⟨TR,TA,TW,TS,rfl,hk⟩:=hW;exact (aD wb a TR TA TW TS n w h0 hk hX hsw hn hch).mono fun e w' ⟨a',TR',TA',TW',TS',h1,h2,h3,h4,h5⟩=>⟨a',_,h1.symm,⟨TR',TA',TW',TS',rfl,h2⟩,h3,h4,h5⟩
theorem dD (w:WL) : ∀ c∈(Ba w).inp,c∈w.inp:=by
 have hg : ∀ (w:WL) (r:Int) (d:List Int),(goW w r d).inp=w.inp:=fun _ _ _=>rfl;intro c hc;unfold Ba at hc;split at hc
 · exact hc
 split at hc
 · split at hc
   · exact hc
   rename_i x r e
   have hc:c∈r:=hc;rw [e]; exact sP _ hc
 split at hc
 · split at hc <;> exact hc
 split at hc
 · exact hc
 split at hc
 · exact hc
 split at hc
 · unfold Gh at hc;split at hc <;> exact hc
 split at hc
 · split at hc
   · have e:(Oi (A8 w)).inp=w.inp:=(Ez 40 _ _ _ _).inp;rw [e] at hc; exact hc
   exact hc
 exact hc
def nSV:SV:=(⟨0,0,⟨#[]⟩,none,0,[],-1,-1,-1,none,0,[],none,0,[]⟩:SV)
theorem nSV_d:nSV.d=Gi:=rfl
theorem eY (w:World):nSV.ok w:=⟨⟨.inl ⟨rfl,rfl⟩,fun y hy=>absurd hy sL⟩,.inl ⟨rfl,rfl⟩,⟨.inl ⟨rfl,rfl⟩,fun y hy=>absurd hy sL⟩⟩
theorem eX:nSV.sm:=⟨by decide,⟨by decide,fun y hy=>absurd hy sL⟩,by decide,by decide,by decide,by decide,by decide⟩
theorem Y1 {m:Nat} {w:WL} (h:w.exit < 0):Fz (m+1) w=Fz m (Ba w):=by simp only [Fz]; rw [if_pos h]
theorem Sy {m:Nat} {w:WL} (h : ¬ w.exit < 0):Fz m w=w:=by
 cases m with
 | zero=>rfl
 | succ m=>simp only [Fz]; rw [if_neg h]
theorem smW0 (inp:List ByteArray) (fails:List Int):smW 0 (Me inp fails):=by
 unfold Me;refine smW.go ?_ _ _;exact ⟨by show (0:Int)<=0/\(0:Int)<=50*((0:Nat):Int); decide,by show (0:Int)<=0/\(0:Int)<=((0:Nat):Int); decide,by show (0:Int)<=0/\(0:Int)<=15; decide,Nat.le_refl _,fun t h=>absurd h sL,Nat.le_refl _,Nat.le_refl _⟩
set_option maxHeartbeats 4000000 in
theorem eA (ip:Option Addr) (ic:Nat) (il:List ByteArray) (fp:Option Addr) (fc:Nat) (ff:List Int) (w:World) (hvi:Vw fT w (.slice ip il.length ic) il) (hvf:Vw fB w (.slice fp ff.length fc) ff) (hE:ErrOk w) (hci:il.length<=ic) (hcf:ff.length<=fc) (hch : ∀ c∈il,c.size<=1000) :
 Calls sA 10 #[.slice ip il.length ic,.slice fp ff.length fc] w fun e w'=>∃ (wb:Nat) (a:WV) (T:OwL),e = .returned (pt wb)/\a.d=P0 il ff/\R2 a T/\Ow sA Ai w w' ((wb,46,wc a)::T):=by
 refine Ao (args:=[.slice ip il.length ic,.slice fp ff.length fc]) (m:=46) (n:=48) Tryz.func10 rfl (by kernel_rfl) (by kernel_rfl) fun J V=>?_;have O:=Ow.nil sA Ai w;refine Sa [(4,.pointer none)] V fun J V=>sr 5 (Ka 3 [(9,.agg #[Z 0,Z 0,Y (⟨#[]⟩),.slice none 0 0,Z 0,Z 0,Z 0,.slice none 0 0,.slice none 0 0,Z 0,Z 0,Z 0,Z 0,.slice none 0 0,Y (⟨#[]⟩),Y (⟨#[]⟩),Y (⟨#[]⟩),Y (⟨#[]⟩),Y (⟨#[]⟩),Y (⟨#[]⟩),Y (⟨#[]⟩),Y (⟨#[]⟩),.slice ip il.length ic,.slice fp ff.length fc,Z 0,Z 0,.slice none 0 0,.slice none 0 0,.slice none 0 0,Z 0,Z (-1),I false,I true])] V fun J V=>Mn [Z 0,Z 0,Y (⟨#[]⟩),.slice none 0 0,Z 0,Z 0,Z 0,.slice none 0 0,.slice none 0 0,Z 0,Z 0,Z 0,Z 0,.slice none 0 0,Y (⟨#[]⟩),Y (⟨#[]⟩),Y (⟨#[]⟩),Y (⟨#[]⟩),Y (⟨#[]⟩),Y (⟨#[]⟩),Y (⟨#[]⟩),Y (⟨#[]⟩),.slice ip il.length ic,.slice fp ff.length fc,Z 0,Z 0,.slice none 0 0,.slice none 0 0,.slice none 0 0,Z 0,Z (-1),I false,I true] 46 10 V O fun J w1 wb V O=>Ka 1 [(5,pt wb)] V fun J V=>Ab (Aa ?_));obtain ⟨a0,ha0⟩ : ∃ a:WV,a=(⟨(⟨0,0,⟨#[]⟩,none,0,[],0,0,0,none,0,[],none,0,[]⟩:SV),⟨none,0,Ap 0 0 0⟩,⟨⟨#[]⟩,⟨#[]⟩,⟨#[]⟩,⟨#[]⟩,⟨#[]⟩,⟨#[]⟩,⟨#[]⟩,⟨#[]⟩⟩,ip,ic,il,fp,fc,ff,0,0,none,0,[],none,0,[],none,0,[],0,-1,false,true⟩:WV):=⟨_,rfl⟩;replace O:Ow sA Ai w w1 [(wb,46,(wc a0))]:=by (rw [ha0]; exact O)
 refine wp_seq ?_;have hS:=O.pk [];refine rP [(0,true),(1,true),(2,true),(3,true),(4,true),(5,true),(7,true),(8,true),(11,true),(12,true),(6,false),(9,true),(10,false),(13,true),(14,false)] hS ?_;intro w2 ho; replace O:=O.st ho; clear ho;refine Ke 10 [(16,pf wb 14),(18,pf wb 14),(21,pf wb 14)] V [] (cc (⟨by omega,by omega⟩:(0:Int)<=0/\0 < ((8:Nat):Int)) c0) fun J V=>Av (mSR (off:=14) (ad:=⟨wb,14,none⟩) (vc:=[Y (⟨#[105,110]⟩)]) (l':=(wc {a0 with fl:=a0.fl.set 0 (⟨#[105,110]⟩:ByteArray)})) 0 V O rfl (by kernel_rfl) (by kernel_rfl) fun w3 O=>⟨(O.sub []),?_⟩);refine Ke 1 [(19,pf wb 15)] V [] (cc (⟨by omega,by omega⟩:(0:Int)<=1/\1 < ((8:Nat):Int)) c0) fun J V=>Av (mSR (off:=15) (ad:=⟨wb,15,none⟩) (vc:=[Y (⟨#[111,117,116]⟩)]) (l':=(wc {a0 with fl:=(a0.fl.set 0 (⟨#[105,110]⟩:ByteArray)).set 1 (⟨#[111,117,116]⟩:ByteArray)})) 0 V O rfl (by kernel_rfl) (by kernel_rfl) fun w4 O=>⟨(O.sub []),?_⟩);refine Ke 1 [(22,pf wb 16)] V [] (cc (⟨by omega,by omega⟩:(0:Int)<=2/\2 < ((8:Nat):Int)) c0) fun J V=>Av (mSR (off:=16) (ad:=⟨wb,16,none⟩) (vc:=[Y (⟨#[101,114,114]⟩)]) (l':=(wc {a0 with fl:=((a0.fl.set 0 (⟨#[105,110]⟩:ByteArray)).set 1 (⟨#[111,117,116]⟩:ByteArray)).set 2 (⟨#[101,114,114]⟩:ByteArray)})) 0 V O rfl (by kernel_rfl) (by kernel_rfl) fun w5 O=>⟨(O.sub []),?_⟩);refine Ax (Aa (sr 13 (Ka 2 [(24,pt wb),(25,pt wb)] V fun J V=>Mk 26 V O Tryz.func24 (M9 _) fun J w6 V O=>Ag (mC (d:=(some 27)) V Tryz.func16 ((L8 nSV 0 _ (eY _) eX (hE.keep O.only) (by omega) (by omega)).mono ?_)))))
 rintro en w7 ⟨u1,x1,T1,hu1,hx1,hsm1,rfl,hW_,hG1,hXX1⟩;refine ⟨_,rfl,?_⟩;clear V J; intro J V;replace O:Ow sA Ai w _ ([(wb,46,(wc {a0 with fl:=((a0.fl.set 0 (⟨#[105,110]⟩:ByteArray)).set 1 (⟨#[111,117,116]⟩:ByteArray)).set 2 (⟨#[101,114,114]⟩:ByteArray)}))]++[]):=O.to (sN _).symm;replace O:=Ow.join O hW_; clear hW_;replace O:Ow sA Ai w _ ([(wb,46,(wc {a0 with fl:=((a0.fl.set 0 (⟨#[105,110]⟩:ByteArray)).set 1 (⟨#[111,117,116]⟩:ByteArray)).set 2 (⟨#[101,114,114]⟩:ByteArray)}))]++(T1++([]))):=O.to (by first | rfl | (simp only [TP,apd]))
 refine Ka 5 [(28,.agg #[Z u1.mo,Z u1.po,Y u1.inp,.slice u1.pj u1.lj.length u1.cj,Z u1.rd,Z u1.wr,Z u1.pv,.slice u1.pc u1.lc.length u1.cc,.slice u1.pp u1.lp.length u1.cp]),(29,.agg #[Z x1.d.call,Z x1.d.a0,Z x1.d.a1,Z x1.d.a2,.slice x1.p x1.d.data.length x1.c]),(31,pt wb)] V fun J V=>Ag (mSR (off:=0) (ad:=⟨wb,0,none⟩) (vc:=(cS u1.mo u1.po u1.inp u1.pj u1.lj.length u1.cj u1.rd u1.wr u1.pv u1.pc u1.lc.length u1.cc u1.pp u1.lp.length u1.cp)) (l':=(wc {a0 with fl:=((a0.fl.set 0 (⟨#[105,110]⟩:ByteArray)).set 1 (⟨#[111,117,116]⟩:ByteArray)).set 2 (⟨#[101,114,114]⟩:ByteArray),sv:=u1})) 0 V O rfl (by kernel_rfl) (by kernel_rfl) fun w8 O=>Ka 2 [(33,pf wb 9)] V fun J V=>Ag (mSR (off:=9) (ad:=⟨wb,9,none⟩) (vc:=[Z x1.d.call,Z x1.d.a0,Z x1.d.a1,Z x1.d.a2,.slice x1.p x1.d.data.length x1.c]) (l':=(wc {a0 with fl:=((a0.fl.set 0 (⟨#[105,110]⟩:ByteArray)).set 1 (⟨#[111,117,116]⟩:ByteArray)).set 2 (⟨#[101,114,114]⟩:ByteArray),sv:=u1,x:=x1})) 0 V O rfl (by kernel_rfl) (by kernel_rfl) fun w9 O=>Ab (Aa (wp_seq (Sa [(6,Z 0)] V fun J V=>wp_block ?_)))));replace O:Ow sA Ai w w9 ([(wb,46,(wc {a0 with fl:=((a0.fl.set 0 (⟨#[105,110]⟩:ByteArray)).set 1 (⟨#[111,117,116]⟩:ByteArray)).set 2 (⟨#[101,114,114]⟩:ByteArray),sv:=u1,x:=x1}))]++(T1++([]))):=O;obtain ⟨aS,haS⟩ : ∃ a:WV,a = {a0 with fl:=((a0.fl.set 0 (⟨#[105,110]⟩:ByteArray)).set 1 (⟨#[111,117,116]⟩:ByteArray)).set 2 (⟨#[101,114,114]⟩:ByteArray),sv:=u1,x:=x1}:=⟨_,rfl⟩;replace O:Ow sA Ai w w9 ([(wb,46,(wc aS))]++(T1++([]))):=by (rw [haS]; exact O)
 have hdS:aS.d=Me il ff:=by rw [haS]; unfold Me goW; rw [ha0]; show (⟨u1.d,x1.d,_,il,ff,0,0,[],[],[],0,-1,false,true⟩:WL)=_; rw [hu1,hx1]; rfl
 have hT1:R2 aS T1:=⟨[],[],[],T1,rfl,by rw [haS]; exact ⟨hsm1,(by show x1.d.data.length<=128; rw [hx1]; exact J2 (B8 _ _ _).2),(by rw [ha0]; exact One.nil _ _ _),(by rw [ha0]; exact (One.nil _ _ _).off),(by rw [ha0]; exact One.nil _ _ _),Ah.and hG1 hXX1,(by rw [ha0]; exact hci),(by rw [ha0]; exact hcf)⟩⟩;have hXS : ∀ w_,Only Ai w w_->WX w_ aS:=fun w_ k_=>by (rw [haS,ha0]; exact ⟨hE.keep k_,hvi.keep k_,hvf.keep k_⟩)
 have hiS:aS.il=il:=by rw [haS,ha0]
 refine Bc (fun mm J W=>∃ (i:Nat) (a:WV) (m:Nat) (TL1:OwL),mm=900 - i/\Holds 48 [] J [(4,.pointer none),(5,pt wb),(6,Z ((i:Nat):Int))]/\Ow sA Ai w W ([(wb,46,(wc a))]++(TL1++([])))/\R2 a TL1/\m+i=900/\Fz m a.d=P0 il ff/\smW i a.d/\(∀ c∈a.il,c.size<=1000)/\(∀ w_,WX w_ aS->WX w_ a)/\True) ?_ ?_
 · exact ⟨_,0,aS,900,T1,rfl,V.ss,O.tt,hT1,rfl,(by rw [hdS]; rfl),(by rw [hdS]; exact smW0 _ _),(by rw [hiS]; exact hch),(fun _ h=>h),trivial⟩
 rintro _ J w10 ⟨i,a,m,TL1,rfl,V,O,hTL1,hmi,hp,hsw,hil_,hXa,-⟩;refine wp_seq (sr 9 (Ka 3 [(35,I (decide (((i:Nat):Int) < 900))),(36,I (decide (((i:Nat):Int) < 900)))] V fun J V=>?_));rcases rU (decide (((i:Nat):Int) < 900)) with h1 | h1
 · rw [h1] at V;have h1p:=rV h1;obtain ⟨m,rfl⟩ : ∃ j,m=j+1:=⟨m - 1,by omega⟩;refine Kb 6 [(42,I (decide (a.exit < 0)))] V [Z a.exit] (cc (O.l1 0 30 3 (Z a.exit)) c0) fun J V=>Ab (Aa ?_);rcases rU (decide (a.exit < 0)) with h2 | h2
   · rw [h2] at V;have h2p:=rV h2;have h2q:a.d.exit < 0:=h2p;refine cT V (wp_skip (Aa (wp_seq (wp_block (rr 2 (Ka 1 [(45,pt wb)] V fun J V=>?_))))));replace O:Ow sA Ai w w10 ([(wb,46,(wc a))]++(TL1++([]))):=O;refine Ag (mC (d:=(some 46)) V Tryz.func27 ((oZ wb a TL1 i _ (Ow.self (A:=[]) O) hTL1 (fun w_ k_=>hXa w_ (hXS w_ (Ow.pan (A:=[]) O k_))) hsw (by omega) hil_).mono ?_));rintro en w11 ⟨a2,T2,hd2,hT2,hX2,rfl,hW_⟩;refine ⟨_,rfl,?_⟩;clear V J; intro J V;replace O:=Ow.pass (A:=[]) O hW_; clear hW_;exact Ab (Ac (Aa (Rc [(6,Z (((i:Nat):Int)+1))] V [I true] (cc ((Am (by omega) (by omega)):inK .i64 (((i:Nat):Int)+1)) c0) fun J V=>Aa (⟨_,by omega,i+1,a2,m,T2,rfl,V.ss,O,hT2,(by omega),(by rw [hd2]; exact (Y1 (by assumption)).symm.trans hp),(by rw [hd2]; exact hsw.step),(fun c_ h_=>hil_ c_ (dD a.d c_ (by rw [← hd2]; exact h_))),(fun w_ h_=>hX2 w_ (hXa w_ h_)),trivial⟩))))
   rw [h2] at V;have h2p:=rX h2;have h2q : ¬ a.d.exit < 0:=h2p;refine cF V (wp_exit (Aj (Aj (An (Aa (Sa [(4,pt wb)] V fun J V=>wp_ret (cv [pt wb] V ?_)))))));replace O:Ow sA Ai w w10 ([(wb,46,(wc a))]++(TL1++([]))):=O;exact ⟨wb,a,TL1,rfl,(Sy (by assumption)).symm.trans hp,hTL1,(O).to (by simp only [sN,sO,List.cons_append])⟩
 rw [h1] at V;have h1p:=rX h1;obtain rfl:m=0:=by omega
 refine Ka 6 [(42,I false)] V fun J V=>Ab (Aa (cF V (wp_exit (Aj (Aj (An (Aa (Sa [(4,pt wb)] V fun J V=>wp_ret (cv [pt wb] V ?_)))))))));replace O:Ow sA Ai w w10 ([(wb,46,(wc a))]++(TL1++([]))):=O;exact ⟨wb,a,TL1,rfl,hp,hTL1,(O).to (by simp only [sN,sO,List.cons_append])⟩
def C0:Nat->ByteArray->Nat->List ByteArray
 | 0,s,_=>[s]
 | k+1,s,n=>if n < s.size then s.extract 0 n::C0 k (s.extract n s.size) n else [s]
def Fu (s:ByteArray) (n:Nat):List ByteArray:=C0 s.size s n
theorem Vf {k n:Nat} {s:ByteArray} (h:n < s.size):C0 (k+1) s n=s.extract 0 n::C0 k (s.extract n s.size) n:=by simp only [C0]; rw [if_pos h]
theorem Mr {k n:Nat} {s:ByteArray} (h : ¬ n < s.size):C0 k s n=[s]:=by
 cases k with
 | zero=>rfl
 | succ k=>simp only [C0]; rw [if_neg h]
theorem Qq {n:Nat} (hn : 1<=n) : ∀ (k:Nat) (s:ByteArray),s.size<=k->∀ c∈C0 k s n,c.size<=n
 | 0,s,h,c,hc=>by
  have:c=s:=by simpa [C0] using hc
  rw [this]; omega
 | k+1,s,h,c,hc=>by
  simp only [C0] at hc;split at hc
  · rcases List.mem_cons.1 hc with rfl | hc
    · rw [sT]; omega
    · exact Qq hn k _ (by rw [sT]; omega) c hc
  · have:c=s:=by simpa using hc
    rw [this]; omega
theorem Yb (s:ByteArray) (n:Nat) (w:World) (hn : 1<=n) (hn2:n<=1000) (hs:s.size<=100000) :
 Calls sA 11 #[Y s,Z ((n:Nat):Int)] w fun e w'=>∃ p c T,e = .returned (.slice p (Fu s n).length c)/\One fT 9 1 p c (Fu s n) T/\Ow sA Ai w w' T:=by
 refine Ao (args:=[Y s,Z ((n:Nat):Int)]) (m:=21) (n:=23) Tryz.func11 rfl (by kernel_rfl) (by kernel_rfl) fun J V=>?_;have O:=Ow.nil sA Ai w;refine Sa [(4,.slice none 0 0)] V fun J V=>Sa [(5,.slice none 0 0)] V fun J V=>wp_seq (wp_block ?_);have hT1:=One.nil fT 9 1;refine Bc (fun mm J W=>∃ (s1:ByteArray) (k:Nat) (l:List ByteArray) (pL1:Option Addr) (cL1:Nat) (TL1:OwL),mm=s1.size/\Holds 23 [] J [(0,Y s1),(1,Z ((n:Nat):Int)),(4,.slice none 0 0),(5,.slice pL1 l.length cL1)]/\Ow sA Ai w W ([]++(TL1++([])))/\One fT 9 1 pL1 cL1 l TL1/\s1.size<=k/\l++C0 k s1 n=Fu s n/\l.length+s1.size<=s.size/\True) ?_ ?_
 · exact ⟨_,s,s.size,[],none,0,[],rfl,V.ss,O.tt,hT1,(Nat.le_refl _),rfl,(by show 0+s.size<=s.size; omega),trivial⟩
 rintro _ J w1 ⟨s1,k,l,pL1,cL1,TL1,rfl,V,O,hTL1,hk,hR,hl,-⟩;refine wp_seq (Sa [(9,I (decide (((s1.size:Nat):Int) > ((n:Nat):Int))))] V fun J V=>?_);rcases rU (decide (((s1.size:Nat):Int) > ((n:Nat):Int))) with h1 | h1
 · rw [h1] at V;have h1p:=rV h1;obtain ⟨k,rfl⟩ : ∃ j,k=j+1:=⟨k - 1,by omega⟩;have hze_:(s1.extract n s1.size).size=s1.size - n:=by rw [sT]; omega
   refine cT V (wp_skip (Aa (wp_block (sr 7 (Kb 4 [(10,.slice pL1 l.length cL1),(13,Y (s1.extract 0 n))] V [] (cc (⟨by omega,by omega,by omega⟩:(0:Int)<=0/\(0:Int)<=((n:Nat):Int)/\(((n:Nat):Int):Int)<=((s1.size:Nat):Int)) c0) fun J V=>Mv [Y (s1.extract 0 n)] 9 1 14 V O fun J w2 b1 V O=>?_)))));replace O:Ow sA Ai w w2 ([(b1,9,[Y (s1.extract 0 n)])]++(TL1++([]))):=O
   exact Ag (mA (f:=fT) (el:=9) (sz:=1) (bytes:=16) (p:=pL1) (c:=cL1) (l:=l) (l':=([s1.extract 0 n]:List ByteArray)) (T:=TL1) (t:=30) (tx:=30) (ty:=30) (x:= .slice (some ⟨b1,0,none⟩) 1 1) (d:=15) [(b1,9,[Y (s1.extract 0 n)])] ([]) Jn V O hTL1 (Vw.src (e':=9) Jn ((O.b 0).vw (off:=0) (xs:=([s1.extract 0 n]:List ByteArray)) (by kernel_rfl)) (by kernel_rfl)) (by first | omega | (simp only [sD,sE,sF]; omega)) (by unfold maxLen; first | omega | (simp only [sD,sE,sF]; omega)) fun J w3 p1 c1 T2 V O hT2=>Ka 1 [(5,.slice p1 ((l++([s1.extract 0 n]:List ByteArray)).length) c1)] V fun J V=>Ab (Aa (Rc [(0,Y (s1.extract n s1.size))] V [] (cc (⟨by omega,by omega,by omega⟩:(0:Int)<=((n:Nat):Int)/\(((n:Nat):Int):Int)<=((s1.size:Nat):Int)/\(((s1.size:Nat):Int):Int)<=((s1.size:Nat):Int)) c0) fun J V=>Ac (Aa (⟨_,by omega,s1.extract n s1.size,k,l++([s1.extract 0 n]:List ByteArray),p1,c1,T2,rfl,V.ss,(Ow.subP (A:=[_]) O (.cons _ .slnil)),hT2,(by rw [sT]; omega),(by rw [sH]; exact (congrArg (l++·) (Vf (by omega)).symm).trans hR),(by rw [sD,sT]; show l.length+1+_<=_; omega),trivial⟩)))))
 rw [h1] at V;have h1p:=rX h1;refine cF V (wp_exit (Aj (Aj (An (Aa (sr 5 (Ka 2 [(19,.slice pL1 l.length cL1),(20,Y s1)] V fun J V=>Mv [Y s1] 9 1 21 V O fun J w4 b2 V O=>Ag (mA (f:=fT) (el:=9) (sz:=1) (bytes:=16) (p:=pL1) (c:=cL1) (l:=l) (l':=([s1]:List ByteArray)) (T:=TL1) (t:=30) (tx:=30) (ty:=30) (x:= .slice (some ⟨b2,0,none⟩) 1 1) (d:=22) [(b2,9,[Y s1])] ([]) Jn V O hTL1 (Vw.src (e':=9) Jn ((O.b 0).vw (off:=0) (xs:=([s1]:List ByteArray)) (by kernel_rfl)) (by kernel_rfl)) (by first | omega | (simp only [sD,sE,sF]; omega)) (by unfold maxLen; first | omega | (simp only [sD,sE,sF]; omega)) fun J w5 p2 c2 T3 V O hT3=>Ka 1 [(4,.slice p2 ((l++([s1]:List ByteArray)).length) c2)] V fun J V=>Ab (Aa (wp_ret (cv [.slice p2 ((l++([s1]:List ByteArray)).length) c2] V ?_)))))))))));rw [show l++([s1]:List ByteArray)=Fu s n from (congrArg (l++·) (Mr (by omega)).symm).trans hR] at hT3;exact ⟨_,_,_,(by rw [← show l++([s1]:List ByteArray)=Fu s n from (congrArg (l++·) (Mr (by omega)).symm).trans hR]; rfl),hT3,((Ow.subP (A:=[_]) O (.cons _ .slnil))).to (by simp only [sO,sN])⟩
open Go Go.RowKit Go.Proofs.Sx
theorem eR:A5 Gi=({Gi with mode:=1},Ap 9 0 80):=D7 rfl rfl (by decide)
theorem eB (inp:List ByteArray) (fails:List Int):Me inp fails=⟨{Gi with mode:=1},Ap 9 0 80,fl0,inp,fails,0,0,[],[],[],0,-1,false,true⟩:=by
 have e:Bf Gi 0 []=({Gi with mode:=1},Ap 9 0 80):=by
  rw [Ja (by rfl)]
  exact eR
 unfold Me goW
 simp only
 rw [e]
theorem O5 {n:Nat} (hn : 1<=n) : ∀ (k:Nat) (s:ByteArray),s.size<=k->O9 (C0 k s n)=s
 | 0,s,h=>R0 s
 | k+1,s,h=>by
  simp only [C0]
  split
  · rename_i hlt
    show s.extract 0 n++O9 (C0 k (s.extract n s.size) n)=s
    rw [O5 hn k _ (by rw [sT]; omega)]
    apply Dm
    rw [ByteArray.data_append,Array.toList_append,C2,C2,List.drop_zero,Nat.sub_zero,List.take_of_length_le (l:=s.data.toList.drop n) (by rw [List.length_drop,Ar]; exact Nat.le_refl _),List.take_append_drop]
  · exact R0 s
theorem O4 {n:Nat} (hn : 1<=n) : ∀ (k:Nat) (s:ByteArray),s.size<=k->0 < s.size->∀ c∈C0 k s n,0 < c.size
 | 0,s,h,h0=>by omega
 | k+1,s,h,h0=>by
  intro c hc
  simp only [C0] at hc
  split at hc
  · rcases List.mem_cons.1 hc with rfl | hc
    · rw [sT]; omega
    · exact O4 hn k _ (by rw [sT]; omega) (by rw [sT]; omega) c hc
  · have:c=s:=by simpa using hc
    rw [this]; exact h0
open Go Go.RowKit Go.Proofs.Sx
theorem oQ : ∀ (l:List UInt8) (c:UInt8),(∀ x∈l,x≠c)->Lib.indexByte l c = -1
 | [],_,_=>rfl
 | y::l,c,h=>by
  have h1:=oQ l c fun x hx=>h x (sP _ hx)
  simp only [Lib.indexByte]
  rw [if_neg (by simpa using h y (sK ..)),h1]
  rfl
theorem gK : ∀ (l:List UInt8) (c:UInt8),(∀ x∈l,x≠c)->Lib.indexByte (l++[c]) c=(l.length:Int)
 | [],c,_=>by simp [Lib.indexByte]
 | y::l,c,h=>by
  have h1:=gK l c fun x hx=>h x (sP _ hx)
  rw [List.cons_append]
  simp only [Lib.indexByte]
  rw [if_neg (by simpa using h y (sK ..)),h1,if_neg (by simp)]
  rfl
def nlB:ByteArray:=⟨#[10]⟩
def kT (s:ByteArray):Prop:=∀ x∈s.data.toList,x≠10
theorem Kz (a b:ByteArray):(a++b).data.toList=a.data.toList++b.data.toList:=by rw [ByteArray.data_append,Array.toList_append]
theorem qB {s a b:ByteArray} (h:kT s) (e:a++b=s++nlB) (hb : 0 < b.size):nlI a < 0:=by
 have e1:a.data.toList++b.data.toList=s.data.toList++[10]:=by rw [← Kz,e,Kz]; rfl
 have hl:=congrArg List.length e1
 rw [sD,sD,List.length_singleton,Ar b] at hl
 have h2:a.data.toList=s.data.toList.take a.data.toList.length:=by
  have:=congrArg (List.take a.data.toList.length) e1
  rw [List.take_left,List.take_append_of_le_length (by omega)] at this
  exact this
 unfold nlI
 rw [oQ _ _ fun x hx=>h x (by rw [h2] at hx; exact List.mem_of_mem_take hx)]
 decide
theorem Y8 {s:ByteArray} (h:kT s):nlI (s++nlB)=(s.size:Int):=by
 unfold nlI
 rw [Kz]
 show Lib.indexByte (s.data.toList++[10]) 10=_
 rw [gK _ _ h,Ar]
theorem mZ (s:ByteArray):s.extract 0 s.size=s:=by
 apply Dm
 rw [C2,List.drop_zero,Nat.sub_zero,List.take_of_length_le (by rw [Ar]; exact Nat.le_refl _)]
def stR (p:ByteArray):StL:={Gi with mode:=1,inp:=p}
def stI (p:ByteArray):StL:={Gi with inp:=p}
theorem Sq {s:ByteArray} (h10:kT s) (hs:s.size<=200) : ∀ (cs:List ByteArray) (p:ByteArray) (w:WL),cs≠[]->p++O9 cs=s++nlB->(∀ c∈cs,0 < c.size)->w.exit < 0->w.inp=cs->w.leak=false->By w.fl=true->Br (stR p)=true ->
 Rch cs.length (Bi w (stR p,Ap 9 0 80)) (Bi {w with inp:=[]} (A5 (stI (s++nlB))))/\Pt (stI (s++nlB))
 | [],p,w,hne,_,_,_,_,_,_,_=>absurd rfl hne
 | c::r,p,w,_,hcat,hpos,hex,hinp,hlk,hpl,hv=>by
  have hc:=hpos c (sK ..)
  have hcat':p++c++O9 r=s++nlB:=by rw [← hcat,L7]; rfl
  have hsz:=congrArg ByteArray.size hcat'
  rw [sS,sS,sS] at hsz
  have hn1:nlB.size=1:=rfl
  have est:Bb (stR p) (c.size:Int) (sI c)=A5 (stI (p++c)):=by
   rw [oG rfl]
   unfold E7
   rw [if_pos (by omega)]
   have e1:bsI (((sI c).take (min (c.size:Int).toNat (sI c).length)).take (300 - (stR p).inp.size))=c:=by
    have h1:(sI c).take (min (c.size:Int).toNat (sI c).length)=sI c:=List.take_of_length_le (by rw [Fc]; omega)
    rw [h1,List.take_of_length_le (by rw [Fc]; show c.size<=300 - p.size; omega),Yd]
   rw [e1]
   exact Eu (s:=stI (p++c)) (by rfl) 1
  have hst:Ba (Bi w (stR p,Ap 9 0 80))=Bi {w with inp:=r} (A5 (stI (p++c))):=by
   rw [jL (w:=Bi w (stR p,Ap 9 0 80)) rfl hinp,Lx (w:=Bi w (stR p,Ap 9 0 80)) hlk hpl,H1 hv]
   show Bi _ (Bb (stR p) (c.size:Int) (sI c))=_
   rw [est]
   rfl
  have hrun:Rch 1 (Bi w (stR p,Ap 9 0 80)) (Ba (Bi w (stR p,Ap 9 0 80))):=Rch.one hex
  rw [hst] at hrun
  have hv2:Br (A5 (stI (p++c))).1=true:=by
   have:=Eo hv (c.size:Int) (sI c)
   rwa [est] at this
  cases r with
  | nil =>
   have e2:p++c=s++nlB:=by rw [← hcat']; exact (R0 _).symm
   rw [e2] at hrun hv2
   exact ⟨hrun,hv2,by rfl⟩
  | cons d r =>
   have hd:=hpos d (by simp)
   have hnl:nlI (p++c) < 0:=qB h10 hcat' (by show 0 < (d++O9 r).size; rw [sS]; omega)
   have e3:A5 (stI (p++c))=(stR (p++c),Ap 9 0 80):=Nw (s:=stI (p++c)) rfl rfl hnl
   rw [e3] at hrun hv2
   obtain ⟨h1,h2⟩:=Sq h10 hs (d::r) (p++c) {w with inp:=d::r} (by simp) hcat' (fun x hx=>hpos x (sP _ hx)) hex rfl hlk hpl hv2
   have:=hrun.trans h1
   rw [Nat.add_comm] at this
   exact ⟨this,h2⟩
theorem Z8 : ∀ (cs:List ByteArray),(∀ c∈cs,0 < c.size)->cs.length<=(O9 cs).size
 | [],_=>Nat.zero_le _
 | c::r,h=>by
  have h1:=h c (sK ..)
  have h2:=Z8 r fun x hx=>h x (sP _ hx)
  show r.length+1<=(c++O9 r).size
  rw [sS]
  omega
def ex0:EX:=⟨[],[],0,0,0⟩
theorem fO {l:List JobL} {s:ByteArray} (hp:Dy false s = .ok l) (h10:kT s) (hv:Aq l=true) (hne : ∀ j∈l,j.cmds≠[]) (hc:nC l<=15) (hs:s.size<=200) {cs:List ByteArray} (hcat:O9 cs=s++nlB) (hpos : ∀ c∈cs,0 < c.size) (fails:List Int) :
 Fin (fails=[]) (P0 cs fails) (Bm l ex0).1 (Bm l ex0).2:=by
 have hcne:cs≠[]:=fun h=>by
  rw [h] at hcat
  have:=congrArg ByteArray.size hcat
  rw [sS] at this
  have h1:nlB.size=1:=rfl
  have h2:(O9 []).size=0:=rfl
  omega
 have e0:Me cs fails=Bi ⟨Gi,Ap 0 0 0,fl0,cs,fails,0,0,[],[],[],0,-1,false,true⟩ (stR ⟨#[]⟩,Ap 9 0 80):=eB cs fails
 obtain ⟨h1,h2⟩:=Sq h10 hs cs ⟨#[]⟩ ⟨Gi,Ap 0 0 0,fl0,cs,fails,0,0,[],[],[],0,-1,false,true⟩ hcne (by rw [hcat]; apply Dm; rw [Kz]; rfl) hpos (show (-1:Int) < 0 by decide) rfl rfl (show By fl0=true by decide) (by rfl)
 rw [← e0] at h1
 have eS:A5 (stI (s++nlB))=A5 (stP l 0 (-1) [] (-1) (-1) []):=by
  have hn : ¬ nlI (stI (s++nlB)).inp < 0:=by show ¬ nlI (s++nlB) < 0; rw [Y8 h10]; omega
  rw [V5 (by rfl) rfl rfl hn]
  have e1:(nlI (stI (s++nlB)).inp).toNat=s.size:=by show (nlI (s++nlB)).toNat=_; rw [Y8 h10]; omega
  rw [e1]
  have e2:Dy false ((stI (s++nlB)).inp.extract 0 s.size) = .ok l:=by
   show Dy false ((s++nlB).extract 0 s.size)=_
   rw [mX (Nat.le_refl _),mZ,hp]
  have e3:(s++nlB).extract (s.size+1) (s++nlB).size=⟨#[]⟩:=by
   apply ba_e
   rw [sT,sS]
   have h1:nlB.size=1:=rfl
   omega
  unfold C3
  rw [e2]
  show A5 {stI (s++nlB) with inp:=(s++nlB).extract (s.size+1) (s++nlB).size,jobs:=l}=_
  rw [e3]
  rfl
 rw [eS] at h1
 have hP:Pt (stP l 0 (-1) [] (-1) (-1) []):=⟨by rw [← eS]; exact h2.v,hv⟩
 obtain ⟨n,w',u1,u2,u3⟩:=Oc (F:=fails=[]) l {(⟨Gi,Ap 0 0 0,fl0,cs,fails,0,0,[],[],[],0,-1,false,true⟩:WL) with inp:=[]} ex0 hne
  ⟨mH inN F0,fun _=>⟨fun h=>absurd h (by decide),fun h=>absurd h (by decide),fun h=>absurd rfl h⟩,by decide,rfl,rfl,(show (-1:Int) < 0 by decide),rfl,by show (0:Int)<=0/\(0:Int)+(nC l:Int)<=15; omega,fun t ht=>absurd ht sL,List.Pairwise.nil,fun t ht=>absurd ht sL,fun h=>absurd rfl h,List.Sublist.refl _,fun r hr=>absurd hr sL,
   fun q=>⟨q,rfl,rfl,rfl,rfl,(show (0:Int)<=0 - ((0:Nat):Int) by decide),rfl,fun i=>Int.le_refl _⟩⟩ hP
 have hlen:=Z8 cs hpos
 rw [hcat,sS] at hlen
 have hn1:nlB.size=1:=rfl
 have hu:n<=0+8*nC l+2:=u2
 have:=(h1.trans u1).play (m:=900) (by omega) u3.ex
 unfold P0
 rw [this]
 exact u3
open Go Go.RowKit Go.Proofs.Sx
abbrev Tk:=Nat×List UInt8
def pB (c:UInt8):Bool:=Bd (c.toNat:Int)
def hB (p:UInt8->Bool):List UInt8->Bool
 | []=>false
 | x::_=>p x
def nZ (c:UInt8):List Tk->List Tk
 | []=>[(1,[c])]
 | t::r=>(t.1,c::t.2)::r
def D5:Bool->List UInt8->List Tk
 | _,[]=>[]
 | true,_::r=>D5 false r
 | false,c::r =>
  if Dk (c.toNat:Int)=true then D5 false r
  else if pB c=true then (if hB pB r=true then nZ c (D5 false r) else (1,[c])::D5 false r)
  else if c=62 then (if hB (· == 62) r=true then (4,[])::D5 true r else (3,[])::D5 false r)
  else if c=60 then (2,[])::D5 false r
  else if c=59 then (5,[])::D5 false r
  else if c=38 then (6,[])::D5 false r
  else if c=124 then (7,[])::D5 false r
  else [(8,[])]
def Cn (l:List UInt8):List Tk:=D5 false l
def TL (s:ByteArray) (n:Nat):List Tk:=Cn (s.data.toList.drop n)
section
variable {s:ByteArray} {n:Nat}
theorem Hf (h:n < s.size) : ∃ c,s.data.toList.drop n=c::s.data.toList.drop (n+1)/\sb s n=(c.toNat:Int):=by
 have hl:n < s.data.toList.length:=by rw [Ar]; exact h
 refine ⟨s.data.toList[n],List.drop_eq_getElem_cons hl,?_⟩
 unfold sb
 rw [List.getD_eq_getElem?_getD,List.getElem?_eq_getElem hl]; rfl
theorem rS (h : ¬ n < s.size):TL s n=[]:=by
 unfold TL
 rw [List.drop_eq_nil_of_le (by rw [Ar]; omega)]; rfl
theorem jG (h:n < s.size) (hb:Dk (sb s n)=true):TL s n=TL s (n+1):=by
 obtain ⟨c,hc,hs⟩:=Hf h
 unfold TL Cn
 rw [hc]
 simp only [D5]
 rw [if_pos (by rw [← hs]; exact hb)]
theorem jE (s:ByteArray) : ∀ (k n:Nat),s.size - n<=k->TL s (sk s n)=TL s n
 | 0,n,h=>by rw [Jb (by omega)]
 | k+1,n,h=>by
  by_cases hb:n < s.size/\Dk (sb s n)=true
  · rw [M6 hb.1 hb.2,jE s k (n+1) (by omega),jG hb.1 hb.2]
  · rw [Jb hb]
theorem G4 {c:Int} (h:Bd c=true):Dk c=false:=by
 have:=N6 h
 unfold Dk; exact rZ (by omega)
theorem gN (p:UInt8->Bool) (n:Nat):hB p (s.data.toList.drop n)=true↔∃ c:UInt8,n < s.size/\sb s n=(c.toNat:Int)/\p c=true:=by
 by_cases h:n < s.size
 · obtain ⟨c,hc,hs⟩:=Hf h
   rw [hc]
   refine ⟨fun q=>⟨c,h,hs,q⟩,fun ⟨d,_,hd,q⟩=>?_⟩
   have:c=d:=UInt8.toNat_inj.1 (by omega)
   subst this; exact q
 · rw [List.drop_eq_nil_of_le (by rw [Ar]; omega)]
   constructor
   · intro q; cases q
   · intro ⟨_,q,_⟩; exact absurd q h
theorem oA (s:ByteArray) : ∀ (k n:Nat),wl s n=k+1->TL s n=(1,(s.data.toList.drop n).take (k+1))::TL s (n+(k+1)):=by
 intro k
 induction k with
 | zero =>
  intro n h
  have h1:=Jx.1 (show 0 < wl s n by omega)
  have h2 : ¬ (n+1 < s.size/\Bd (sb s (n+1))=true):=fun q=>by have:=M3 h1.1 h1.2; have:=Jx.2 q; omega
  obtain ⟨c,hc,hs⟩:=Hf h1.1
  have hp:pB c=true:=by unfold pB; rw [← hs]; exact h1.2
  unfold TL Cn
  rw [hc]
  simp only [D5]
  rw [if_neg (by rw [← hs,G4 h1.2]; simp),if_pos hp,if_neg (fun q=>by obtain ⟨d,hd,hs2,hp2⟩:=(gN pB (n+1)).1 q; exact h2 ⟨hd,by rw [hs2]; exact hp2⟩)]
  rfl
 | succ k ih =>
  intro n h
  have h1:=Jx.1 (show 0 < wl s n by omega)
  have h3:wl s (n+1)=k+1:=by have:=M3 h1.1 h1.2; omega
  have h2:=Jx.1 (show 0 < wl s (n+1) by omega)
  obtain ⟨c,hc,hs⟩:=Hf h1.1
  obtain ⟨d,_,hs2⟩:=Hf h2.1
  have hp:pB c=true:=by unfold pB; rw [← hs]; exact h1.2
  have hi:=ih (n+1) h3
  unfold TL Cn at hi ⊢
  rw [hc]
  simp only [D5]
  rw [if_neg (by rw [← hs,G4 h1.2]; simp),if_pos hp,if_pos ((gN pB (n+1)).2 ⟨d,h2.1,hs2,by unfold pB; rw [← hs2]; exact h2.2⟩),hi]
  simp only [nZ,List.take_succ_cons,show n+1+(k+1)=n+(k+1+1) by omega]
theorem aC (hb : ¬ (n < s.size/\Dk (sb s n)=true)):(kd s n=0/\TL s n=[])\/(kd s n=8/\TL s n=[(8,[])])\/(kd s n=1/\TL s n=(1,(tk s n).data.toList)::TL s (nx s n))\/(kd s n≠0/\kd s n≠8/\kd s n≠1/\TL s n=(kd s n,[])::TL s (nx s n)):=by
 have hnx:TL s (nx s n)=TL s (n+tl s n):=jE s _ _ (Nat.le_refl _)
 rw [hnx]
 have hk:=Dv s n
 rcases Dq s n with ⟨h,h1⟩ | ⟨h,h1,h2⟩ | ⟨hn,hp,h⟩
 · exact .inl ⟨h,rS h1⟩
 · refine .inr (.inr (.inl ⟨h,?_⟩))
   obtain ⟨k,hw⟩ : ∃ k,wl s n=k+1:=⟨wl s n - 1,by have:=Jx.2 ⟨h1,h2⟩; omega⟩
   have ht:tl s n=k+1:=by omega
   rw [oA s k n hw,show n+tl s n=n+(k+1) by omega]
   unfold tk
   rw [C2,show n+tl s n - n=k+1 by omega]
 · obtain ⟨c,hc,hs⟩:=Hf hn
   have e0 : ¬ Dk (c.toNat:Int)=true:=fun q=>hb ⟨hn,by rw [hs]; exact q⟩
   have e1 : ¬ pB c=true:=by unfold pB; rw [← hs,hp]; simp
   have eq (x:UInt8):sb s n=(x.toNat:Int)↔c=x:=by
    rw [hs]
    exact ⟨fun q=>UInt8.toNat_inj.1 (by omega),fun q=>by rw [q]⟩
   have q62:=eq 62; have q60:=eq 60; have q59:=eq 59; have q38:=eq 38; have q124:=eq 124
   simp only [show (62:UInt8).toNat=62 from rfl,show (60:UInt8).toNat=60 from rfl,show (59:UInt8).toNat=59 from rfl,show (38:UInt8).toNat=38 from rfl,show (124:UInt8).toNat=124 from rfl] at q62 q60 q59 q38 q124
   have step:TL s n=(if c=62 then (if hB (· == 62) (s.data.toList.drop (n+1))=true then (4,[])::D5 true (s.data.toList.drop (n+1)) else (3,[])::D5 false (s.data.toList.drop (n+1)))
    else if c=60 then (2,[])::D5 false (s.data.toList.drop (n+1)) else if c=59 then (5,[])::D5 false (s.data.toList.drop (n+1)) else if c=38 then (6,[])::D5 false (s.data.toList.drop (n+1)) else if c=124 then (7,[])::D5 false (s.data.toList.drop (n+1)) else [(8,[])]):=by
    unfold TL Cn
    rw [hc]
    simp only [D5]
    rw [if_neg e0,if_neg e1]
   have h62:hB (· == 62) (s.data.toList.drop (n+1))=true↔n+1 < s.size/\sb s (n+1)=62:=by
    rw [gN]
    constructor
    · rintro ⟨d,h1,h2,h3⟩
      have:d=62:=by simpa using h3
      subst this; exact ⟨h1,h2⟩
    · rintro ⟨h1,h2⟩; exact ⟨62,h1,h2,rfl⟩
   rcases h with ⟨h,g⟩ | ⟨h,g,g2⟩ | ⟨h,g,g2⟩ | ⟨h,g⟩ | ⟨h,g⟩ | ⟨h,g⟩ | ⟨h,g⟩
   · refine .inr (.inr (.inr ⟨by omega,by omega,by omega,?_⟩))
     have hc':=q60.1 (by omega)
     rw [step,h,show tl s n=1 by omega,if_neg (by rw [hc']; decide),if_pos hc']; rfl
   · refine .inr (.inr (.inr ⟨by omega,by omega,by omega,?_⟩))
     rw [step,h,show tl s n=1 by omega,if_pos (q62.1 (by omega)),if_neg (fun q=>g2 (h62.1 q))]; rfl
   · refine .inr (.inr (.inr ⟨by omega,by omega,by omega,?_⟩))
     rw [step,h,show tl s n=2 by omega,if_pos (q62.1 (by omega)),if_pos (h62.2 g2)]
     obtain ⟨d,hd,_⟩:=Hf g2.1
     unfold TL Cn
     rw [hd]; rfl
   · refine .inr (.inr (.inr ⟨by omega,by omega,by omega,?_⟩))
     have hc':=q59.1 (by omega)
     rw [step,h,show tl s n=1 by omega,if_neg (by rw [hc']; decide),if_neg (by rw [hc']; decide),if_pos hc']; rfl
   · refine .inr (.inr (.inr ⟨by omega,by omega,by omega,?_⟩))
     have hc':=q38.1 (by omega)
     rw [step,h,show tl s n=1 by omega,if_neg (by rw [hc']; decide),if_neg (by rw [hc']; decide),if_neg (by rw [hc']; decide),if_pos hc']; rfl
   · refine .inr (.inr (.inr ⟨by omega,by omega,by omega,?_⟩))
     have hc':=q124.1 (by omega)
     rw [step,h,show tl s n=1 by omega,if_neg (by rw [hc']; decide),if_neg (by rw [hc']; decide),if_neg (by rw [hc']; decide),if_neg (by rw [hc']; decide),if_pos hc']; rfl
   · refine .inr (.inl ⟨h,?_⟩)
     rw [step,if_neg (fun q=>by have:=q62.2 q; omega),if_neg (fun q=>by have:=q60.2 q; omega),if_neg (fun q=>by have:=q59.2 q; omega),if_neg (fun q=>by have:=q38.2 q; omega),if_neg (fun q=>by have:=q124.2 q; omega)]
end
open Go Go.RowKit Go.Proofs.Sx
def bT (l:List UInt8):ByteArray:=⟨l.toArray⟩
theorem oX (s:ByteArray):bT s.data.toList=s:=by cases s; simp [bT]
def hK:List Tk->Nat
 | []=>0
 | t::_=>t.1
def Jo:List Tk->Except Int (ByteArray×List Tk)
 | []=> .error 3
 | t::r=>if t.1≠1 then .error 3 else if 60 < t.2.length then .error 6 else .ok (bT t.2,r)
def Hu (c:CmdL) (k:Nat) (r:List Tk):Except Int (CmdL×List Tk) :=
 if (k=2/\c.inp.size≠0)\/(k≠2/\c.out.size≠0) then .error 3
 else match Jo r with
  | .error e=> .error e
  | .ok (w,r')=> .ok (if k=2 then ⟨c.words,w,c.out,c.app⟩ else ⟨c.words,c.inp,w,decide (k=4)⟩,r')
def D0:Nat->CmdL->List Tk->Except Int (CmdL×List Tk)
 | 0,c,T=> .ok (c,T)
 | k+1,c,T =>
  if hK T=1 then
   if c.words.length=4 then .error 6
   else match Jo T with
    | .error e=> .error e
    | .ok (w,r)=>D0 k ⟨c.words++[w],c.inp,c.out,c.app⟩ r
  else if hK T=2\/hK T=3\/hK T=4 then
   match Hu c (hK T) T.tail with
    | .error e=> .error e
    | .ok (c',r)=>D0 k c' r
  else if c.words.length=0 then .error 3 else .ok (c,T)
def NB (s:ByteArray) (n:Nat):Prop:=¬ (n < s.size/\Dk (sb s n)=true)
def eP {α:Type} (s:ByteArray):PR α->Except Int (α×List Tk)
 | .error e=> .error e.2
 | .ok v=> .ok (v.1,TL s v.2)
section
variable {s:ByteArray} {n:Nat}
theorem jJ (s:ByteArray) : ∀ (k n:Nat),s.size - n<=k->NB s (sk s n)
 | 0,n,h=>by rw [Jb (by omega)]; intro q; omega
 | k+1,n,h=>by
  by_cases hb:n < s.size/\Dk (sb s n)=true
  · rw [M6 hb.1 hb.2]; exact jJ s k (n+1) (by omega)
  · rw [Jb hb]; exact hb
theorem Vi (s:ByteArray) (n:Nat):NB s (nx s n):=jJ s _ _ (Nat.le_refl _)
theorem Um (h:NB s n):hK (TL s n)=kd s n:=by
 rcases aC h with ⟨h1,h2⟩ | ⟨h1,h2⟩ | ⟨h1,h2⟩ | ⟨_,_,h1,h2⟩
 · rw [h2,h1]; rfl
 · rw [h2,h1]; rfl
 · rw [h2,h1]; rfl
 · rw [h2]; rfl
theorem R3 (h:NB s n):eP s (Cw s n)=Jo (TL s n):=by
 unfold Cw
 rcases aC h with ⟨h1,h2⟩ | ⟨h1,h2⟩ | ⟨h1,h2⟩ | ⟨_,_,h1,h2⟩ <;> rw [h2]
 · rw [if_pos (by omega)]; rfl
 · rw [if_pos (by omega)]; rfl
 · rw [if_neg (by omega)]
   simp only [Jo]
   rw [if_neg (show ¬ (1:Nat)≠1 by simp),Ar,Ef,oX]
   split <;> rfl
 · rw [if_pos h1]
   simp only [Jo]
   rw [if_pos h1]; rfl
theorem Yh {w:ByteArray} {m:Nat} (h:Cw s n = .ok (w,m)):NB s m:=by
 unfold Cw at h
 split at h
 · cases h
 · split at h
   · cases h
   · cases h; exact Vi s n
theorem M4 (h:NB s n) (hk:kd s n≠0/\kd s n≠8):(TL s n).tail=TL s (nx s n):=by
 rcases aC h with ⟨h1,h2⟩ | ⟨h1,h2⟩ | ⟨h1,h2⟩ | ⟨_,_,h1,h2⟩
 · omega
 · omega
 · rw [h2]; rfl
 · rw [h2]; rfl
theorem aN {c:CmdL} (h:NB s n) (hk:kd s n≠0/\kd s n≠8):eP s (Bo s c n)=Hu c (kd s n) (TL s n).tail:=by
 unfold Bo Hu
 split
 · rfl
 · rw [M4 h hk,← R3 (Vi s n)]
   cases Cw s (nx s n) with
   | error e=>rfl
   | ok q=>rfl
theorem dP {c v:CmdL} {m:Nat} (h:Bo s c n = .ok (v,m)):NB s m:=by
 unfold Bo at h
 split at h
 · cases h
 · cases hw:Cw s (nx s n) with
   | error e=>rw [hw] at h; cases h
   | ok q=>rw [hw] at h; cases h; exact Yh hw
theorem Nd (s:ByteArray) : ∀ (k:Nat) (c:CmdL) (n:Nat),NB s n->eP s (Ed false s k c n)=D0 k c (TL s n)/\∀ v m,Ed false s k c n = .ok (v,m)->NB s m
 | 0,c,n,h=>⟨rfl,fun v m e=>by cases e; exact h⟩
 | k+1,c,n,h=>by
  have hk:=Um h
  simp only [Ed,D0]
  rw [hk]
  by_cases h1:kd s n=1
  · rw [if_pos h1,if_pos h1]
    by_cases hl:c.words.length=4
    · rw [if_pos hl,if_pos hl]; exact ⟨rfl,fun v m e=>by cases e⟩
    · rw [if_neg hl,if_neg hl,← R3 h]
      cases hw:Cw s n with
      | error e=>exact ⟨rfl,fun v m e=>by cases e⟩
      | ok q=>obtain ⟨u,m⟩:=q; exact Nd s k _ m (Yh hw)
  · rw [if_neg h1,if_neg h1]
    by_cases h2:kd s n=2\/kd s n=3\/kd s n=4
    · rw [if_pos ⟨h2,fun q=>by cases q.1⟩,if_pos h2,← aN h (by omega)]
      cases hw:Bo s c n with
      | error e=>exact ⟨rfl,fun v m e=>by cases e⟩
      | ok q=>obtain ⟨u,m⟩:=q; exact Nd s k _ m (dP hw)
    · rw [if_neg (fun q=>h2 q.1),if_neg h2]
      split
      · exact ⟨rfl,fun v m e=>by cases e⟩
      · exact ⟨rfl,fun v m e=>by cases e; exact h⟩
theorem lZ (h:NB s n) (h7:kd s n≠0/\kd s n≠8):hK (TL s n).tail=kd s (nx s n):=by rw [M4 h h7,Um (Vi s n)]
end
def Lz (F:Nat):Nat->List CmdL->List Tk->Except Int (List CmdL×List Tk)
 | 0,l,T=> .ok (l,T)
 | k+1,l,T =>
  if hK T=7 then
   if l.length=4/\Da (hK T.tail)=true then .error 6
   else match D0 F Fh T.tail with
    | .error e=> .error e
    | .ok (c,r)=>Lz F k (l++[c]) r
  else .ok (l,T)
def Ho (F:Nat) (T:List Tk):Except Int (List CmdL×List Tk) :=
 match D0 F Fh T with
 | .error e=> .error e
 | .ok (c,r)=>Lz F F [c] r
def Fj (F:Nat):Nat->List JobL->List Tk->Except Int (List JobL)
 | 0,l,_=> .ok l
 | k+1,l,T =>
  if T.isEmpty=true then .ok l
  else if l.length=8/\Da (hK T)=true then .error 6
  else match Ho F T with
   | .error e=> .error e
   | .ok (cs,r) =>
    if hK r=0 then .ok (l++[⟨cs,decide (hK r=6)⟩])
    else if hK r=5\/hK r=6 then Fj F k (l++[⟨cs,decide (hK r=6)⟩]) r.tail
    else .error 3
def eL:Except (Nat×Int) (List JobL)->Except Int (List JobL)
 | .error e=> .error e.2
 | .ok v=> .ok v
section
variable {s:ByteArray} {n:Nat}
theorem Zi (s:ByteArray) : ∀ (k:Nat) (l:List CmdL) (n:Nat),NB s n->eP s (Gm false s k l n)=Lz (s.size+1) k l (TL s n)/\∀ v m,Gm false s k l n = .ok (v,m)->NB s m
 | 0,l,n,h=>⟨rfl,fun v m e=>by cases e; exact h⟩
 | k+1,l,n,h=>by
  simp only [Gm,Lz]
  rw [Um h]
  by_cases h7:kd s n=7
  · rw [if_pos h7,if_pos h7,lZ h (by omega),M4 h (by omega)]
    by_cases hl:l.length=4/\Da (kd s (nx s n))=true
    · rw [if_pos hl,if_pos hl]; exact ⟨rfl,fun v m e=>by cases e⟩
    · rw [if_neg hl,if_neg hl]
      obtain ⟨q1,q2⟩:=Nd s (s.size+1) Fh (nx s n) (Vi s n)
      rw [← q1]
      show eP s (match Ed false s (s.size+1) Fh (nx s n) with | .error e=> .error e | .ok (c,m)=>Gm false s k (l++[c]) m)=_/\_
      cases hc:Ed false s (s.size+1) Fh (nx s n) with
      | error e=>exact ⟨rfl,fun v m e=>by simp only [H7,hc] at e; cases e⟩
      | ok q =>
       obtain ⟨c,m⟩:=q
       obtain ⟨q3,q4⟩:=Zi s k (l++[c]) m (q2 _ _ hc)
       refine ⟨q3,fun v m' e=>?_⟩
       simp only [H7,hc] at e
       exact q4 v m' e
  · rw [if_neg h7,if_neg h7]; exact ⟨rfl,fun v m e=>by cases e; exact h⟩
theorem gH (h:NB s n):eP s (G8 false s n)=Ho (s.size+1) (TL s n)/\∀ v m,G8 false s n = .ok (v,m)->NB s m:=by
 obtain ⟨q1,q2⟩:=Nd s (s.size+1) Fh n h
 unfold G8 Ho H7
 rw [← q1]
 cases hc:Ed false s (s.size+1) Fh n with
 | error e=>exact ⟨rfl,fun v m e=>by cases e⟩
 | ok q=>obtain ⟨c,m⟩:=q; exact Zi s _ _ m (q2 _ _ hc)
theorem jF (h:NB s n):(TL s n).isEmpty=decide (¬ n < s.size):=by
 have hk:=Dq s n
 rcases aC h with ⟨h1,h2⟩ | ⟨h1,h2⟩ | ⟨h1,h2⟩ | ⟨_,_,_,h2⟩ <;> rw [h2]
 · exact (rY (by omega)).symm
 · exact (rZ (by omega)).symm
 · exact (rZ (by omega)).symm
 · exact (rZ (by omega)).symm
theorem Ub (s:ByteArray) : ∀ (k:Nat) (l:List JobL) (n:Nat),NB s n->eL (Dz false s k l n)=Fj (s.size+1) k l (TL s n)
 | 0,l,n,h=>rfl
 | k+1,l,n,h=>by
  simp only [Dz,Fj]
  rw [jF h,Um h]
  by_cases hn:n < s.size
  · rw [if_pos hn,if_neg (show ¬ decide (¬ n < s.size)=true by simpa using hn)]
    by_cases hl:l.length=8/\Da (kd s n)=true
    · rw [if_pos hl,if_pos hl]; rfl
    · rw [if_neg hl,if_neg hl]
      obtain ⟨q1,q2⟩:=gH h
      rw [← q1]
      cases hj:G8 false s n with
      | error e=>rfl
      | ok q =>
       obtain ⟨cs,m⟩:=q
       have hm:=q2 _ _ hj
       simp only [eP]
       rw [Um hm]
       by_cases h0:kd s m=0
       · rw [if_pos h0,if_pos h0]; rfl
       · rw [if_neg h0,if_neg h0]
         by_cases h5:kd s m=5\/kd s m=6
         · rw [if_pos h5,if_pos h5,M4 hm (by omega)]
           exact Ub s k _ _ (Vi s m)
         · rw [if_neg h5,if_neg h5]; rfl
  · rw [if_neg hn,if_pos (show decide (¬ n < s.size)=true by simpa using hn)]; rfl
theorem bN (s:ByteArray):eL (Dy false s)=Fj (s.size+1) (s.size+1) [] (Cn s.data.toList):=by
 unfold Dy
 rw [Ub s _ _ _ (jJ s _ _ (Nat.le_refl _)),jE s _ _ (Nat.le_refl _)]
 rfl
end
open Go Go.RowKit Go.Proofs.Sx
theorem Pn {T r:List Tk} {w:ByteArray} (h:Jo T = .ok (w,r)):r.length+1=T.length:=by
 cases T with
 | nil=>cases h
 | cons t T =>
  simp only [Jo] at h
  split at h
  · cases h
  · split at h
    · cases h
    · cases h; rfl
theorem V1 {c v:CmdL} {k:Nat} {T r:List Tk} (h:Hu c k T = .ok (v,r)):r.length+1=T.length:=by
 unfold Hu at h
 split at h
 · cases h
 · cases hw:Jo T with
   | error e=>rw [hw] at h; cases h
   | ok q=>obtain ⟨w,r'⟩:=q; rw [hw] at h; cases h; exact Pn hw
theorem No {T:List Tk} (h:hK T≠0):T.tail.length+1=T.length:=by
 cases T with
 | nil=>exact absurd rfl h
 | cons t T=>rfl
theorem Jj : ∀ (k k':Nat) (c:CmdL) (T:List Tk),T.length < k->T.length < k'->D0 k c T=D0 k' c T/\∀ v r,D0 k c T = .ok (v,r)->r.length<=T.length
 | 0,_,_,_,h,_=>absurd h (Nat.not_lt_zero _)
 | _+1,0,_,_,_,h=>absurd h (Nat.not_lt_zero _)
 | k+1,k'+1,c,T,h,h'=>by
  simp only [D0]
  split
  · split
    · exact ⟨rfl,fun v r e=>by cases e⟩
    · cases hw:Jo T with
      | error e=>exact ⟨rfl,fun v r e=>by cases e⟩
      | ok q =>
       obtain ⟨w,r⟩:=q
       have:=Pn hw
       obtain ⟨q1,q2⟩:=Jj k k' ⟨c.words++[w],c.inp,c.out,c.app⟩ r (by omega) (by omega)
       exact ⟨q1,fun v r' e=>by have:=q2 v r' e; omega⟩
  · split
    · rename_i h2
      cases hw:Hu c (hK T) T.tail with
      | error e=>exact ⟨rfl,fun v r e=>by cases e⟩
      | ok q =>
       obtain ⟨w,r⟩:=q
       have:=V1 hw
       have:=No (T:=T) (by omega)
       obtain ⟨q1,q2⟩:=Jj k k' w r (by omega) (by omega)
       exact ⟨q1,fun v r' e=>by have:=q2 v r' e; omega⟩
    · split
      · exact ⟨rfl,fun v r e=>by cases e⟩
      · exact ⟨rfl,fun v r e=>by cases e; exact Nat.le_refl _⟩
theorem Qg {F F':Nat} : ∀ (k k':Nat) (l:List CmdL) (T:List Tk),T.length < k->T.length < k'->T.length < F->T.length < F'->Lz F k l T=Lz F' k' l T/\∀ v r,Lz F k l T = .ok (v,r)->r.length<=T.length
 | 0,_,_,_,h,_,_,_=>absurd h (Nat.not_lt_zero _)
 | _+1,0,_,_,_,h,_,_=>absurd h (Nat.not_lt_zero _)
 | k+1,k'+1,l,T,h,h',hF,hF'=>by
  simp only [Lz]
  split
  · rename_i h7
    have ht:=No (T:=T) (by omega)
    split
    · exact ⟨rfl,fun v r e=>by cases e⟩
    · obtain ⟨q1,q2⟩:=Jj F F' Fh T.tail (by omega) (by omega)
      rw [← q1]
      cases hc:D0 F Fh T.tail with
      | error e=>exact ⟨rfl,fun v r e=>by cases e⟩
      | ok q =>
       obtain ⟨c,r⟩:=q
       have:=q2 _ _ hc
       obtain ⟨q3,q4⟩:=Qg (F:=F) (F':=F') k k' (l++[c]) r (by omega) (by omega) (by omega) (by omega)
       exact ⟨q3,fun v r' e=>by have:=q4 v r' e; omega⟩
  · exact ⟨rfl,fun v r e=>by cases e; exact Nat.le_refl _⟩
theorem Xq {F F':Nat} {T:List Tk} (h:T.length < F) (h':T.length < F'):Ho F T=Ho F' T/\∀ v r,Ho F T = .ok (v,r)->r.length<=T.length:=by
 obtain ⟨q1,q2⟩:=Jj F F' Fh T h h'
 unfold Ho
 rw [← q1]
 cases hc:D0 F Fh T with
 | error e=>exact ⟨rfl,fun v r e=>by cases e⟩
 | ok q =>
  obtain ⟨c,r⟩:=q
  have:=q2 _ _ hc
  obtain ⟨q3,q4⟩:=Qg (F:=F) (F':=F') F F' [c] r (by omega) (by omega) (by omega) (by omega)
  exact ⟨q3,fun v r' e=>by have:=q4 v r' e; omega⟩
theorem J5 {F F':Nat} : ∀ (k k':Nat) (l:List JobL) (T:List Tk),T.length < k->T.length < k'->T.length < F->T.length < F'->Fj F k l T=Fj F' k' l T
 | 0,_,_,_,h,_,_,_=>absurd h (Nat.not_lt_zero _)
 | _+1,0,_,_,_,h,_,_=>absurd h (Nat.not_lt_zero _)
 | k+1,k'+1,l,T,h,h',hF,hF'=>by
  simp only [Fj]
  split
  · rfl
  split
  · rfl
  obtain ⟨q1,q2⟩:=Xq hF hF'
  rw [← q1]
  cases hj:Ho F T with
  | error e=>rfl
  | ok q =>
   obtain ⟨cs,r⟩:=q
   have:=q2 _ _ hj
   simp only
   split
   · rfl
   split
   · have:=No (T:=r) (by omega)
     exact J5 k k' _ _ (by omega) (by omega) (by omega) (by omega)
   · rfl
theorem jD (c:UInt8) (T:List Tk):(nZ c T).length<=T.length+1:=by cases T <;> simp [nZ]
theorem Na : ∀ (l:List UInt8) (k:Bool),(D5 k l).length<=l.length
 | [],k=>by cases k <;> exact Nat.le_refl _
 | x::r,true=>Nat.le_succ_of_le (Na r false)
 | x::r,false=>by
  have h1:=Na r false
  have h2:=Na r true
  have h3:=jD x (D5 false r)
  simp only [D5]
  repeat' split
  all_goals simp only [sE,sF] at *; omega
def fX (T:List Tk):Except Int (List JobL):=Fj (T.length+1) (T.length+1) [] T
theorem bO (s:ByteArray):eL (Dy false s)=fX (Cn s.data.toList):=by
 have h:=Na s.data.toList false
 rw [Ar] at h
 have h':(Cn s.data.toList).length<=s.size:=h
 rw [bN]
 exact J5 _ _ _ _ (by omega) (by omega) (by omega) (by omega)
open Go Go.RowKit Go.Proofs.Sx
def wT (u:ByteArray):Tk:=(1,u.data.toList)
section
variable {k:Nat} {c d:CmdL} {u:ByteArray} {U:List Tk}
theorem Yi (hu:u.size<=60):Jo (wT u::U) = .ok (u,U):=by
 have hl : ¬ 60 < u.data.toList.length:=by rw [Ar]; omega
 show (if (1:Nat)≠1 then Except.error 3 else if 60 < u.data.toList.length then Except.error 6 else Except.ok (bT u.data.toList,U))=_
 rw [if_neg (by simp),if_neg hl,oX]
theorem rJ (h:c.words.length≠4) (hu:u.size<=60):D0 (k+1) c (wT u::U)=D0 k ⟨c.words++[u],c.inp,c.out,c.app⟩ U:=by
 simp only [D0]
 rw [if_pos (show hK (wT u::U)=1 from rfl),if_neg h]
 simp only [Yi hu]
theorem Z6 (k:Nat) (U:List Tk) : ∀ (ws:List ByteArray) (c:CmdL),c.words.length+ws.length<=4->(∀ u∈ws,u.size<=60)->D0 (k+ws.length) c (ws.map wT++U)=D0 k ⟨c.words++ws,c.inp,c.out,c.app⟩ U
 | [],c,_,_=>by simp
 | u::r,c,h,hs=>by
  rw [sE] at h
  show D0 (k+r.length+1) c (wT u::(r.map wT++U))=_
  rw [rJ (by omega) (hs u sK),Z6 k U r _ (by simp only [sD,sE,sF]; omega) fun v hv=>hs v (sP _ hv)]
  simp only [sH,List.cons_append,sO]
theorem dQ {q:Nat} (hg : ¬ ((q=2/\c.inp.size≠0)\/(q≠2/\c.out.size≠0))) (hu:u.size<=60):Hu c q (wT u::U) = .ok (if q=2 then ⟨c.words,u,c.out,c.app⟩ else ⟨c.words,c.inp,u,decide (q=4)⟩,U):=by
 unfold Hu
 rw [if_neg hg]
 simp only [Yi hu]
theorem iN {q:Nat} (hq:q=2\/q=3\/q=4) (hg : ¬ ((q=2/\c.inp.size≠0)\/(q≠2/\c.out.size≠0))) (hu:u.size<=60):D0 (k+1) c ((q,[])::wT u::U)=D0 k (if q=2 then ⟨c.words,u,c.out,c.app⟩ else ⟨c.words,c.inp,u,decide (q=4)⟩) U:=by
 have e:hK ((q,[])::wT u::U)=q:=rfl
 simp only [D0]
 rw [e,if_neg (by omega),if_pos hq,List.tail_cons]
 simp only [dQ hg hu]
theorem nQ (h:c.inp.size=0) (hu:u.size<=60):D0 (k+1) c ((2,[])::wT u::U)=D0 k ⟨c.words,u,c.out,c.app⟩ U :=
 iN (q:=2) (.inl rfl) (by omega) hu
theorem U5 {q:Nat} (hq:q=3\/q=4) (h:c.out.size=0) (hu:u.size<=60):D0 (k+1) c ((q,[])::wT u::U)=D0 k ⟨c.words,c.inp,u,decide (q=4)⟩ U:=by
 have:=iN (k:=k) (c:=c) (u:=u) (U:=U) (q:=q) (by omega) (by omega) hu
 rwa [if_neg (show ¬ q=2 by omega)] at this
theorem iP (hU:Da (hK U)=false) (hc:c.words.length≠0):D0 (k+1) c U = .ok (c,U):=by
 have h:=rX hU
 simp only [D0]
 rw [if_neg (by omega),if_neg (by omega),if_neg hc]
theorem iZ (h:u.size=0):u=⟨#[]⟩:=Dm (List.length_eq_zero_iff.1 (by rw [Ar]; exact h))
def Pi (d:CmdL):List Tk:=if d.inp.size=0 then [] else [(2,[]),wT d.inp]
def Pe (d:CmdL):List Tk:=if d.app=true then [(4,[]),wT d.out] else if d.out.size=0 then [] else [(3,[]),wT d.out]
def Mx (d:CmdL):List Tk:=d.words.map wT++(Pi d++Pe d)
theorem iO (h:c.inp=⟨#[]⟩) (hd:d.inp.size<=60) (k:Nat) (U:List Tk):D0 (k+(Pi d).length / 2) c (Pi d++U)=D0 k ⟨c.words,d.inp,c.out,c.app⟩ U:=by
 unfold Pi
 by_cases hi:d.inp.size=0
 · rw [if_pos hi,iZ hi,← h]; rfl
 · have e:([(2,[]),wT d.inp]:List Tk).length / 2=1:=by simp
   rw [if_neg hi,e]
   exact nQ (by rw [h]; rfl) hd
theorem cH (h:c.out=⟨#[]⟩) (ha:c.app=false) (hd:d.out.size<=60) (k:Nat) (U:List Tk):D0 (k+(Pe d).length / 2) c (Pe d++U)=D0 k ⟨c.words,c.inp,d.out,d.app⟩ U:=by
 unfold Pe
 by_cases hp:d.app=true
 · have e:([(4,[]),wT d.out]:List Tk).length / 2=1:=by simp
   rw [if_pos hp,hp,e]
   exact U5 (.inr rfl) (by rw [h]; rfl) hd
 · have hp':d.app=false:=by simpa using hp
   rw [if_neg hp]
   by_cases ho:d.out.size=0
   · rw [if_pos ho,iZ ho,hp',← h,← ha]; rfl
   · have e:([(3,[]),wT d.out]:List Tk).length / 2=1:=by simp
     rw [if_neg ho,hp',e]
     exact U5 (.inl rfl) (by rw [h]; rfl) hd
theorem gM (d:CmdL):(Pi d).length / 2<=1:=by unfold Pi; split <;> simp
theorem eM (d:CmdL):(Pe d).length / 2<=1:=by unfold Pe; split <;> (try split) <;> simp
theorem iQ (h:Au d=true) (hU:Da (hK U)=false) (k:Nat):D0 (k+7) Fh (Mx d++U) = .ok (d,U):=by
 obtain ⟨h1,h2,h3,h4,_⟩:=Az h
 have hi:=gM d
 have ho:=eM d
 obtain ⟨m,hm⟩ : ∃ m,k+7=m+1+(Pe d).length / 2+(Pi d).length / 2+d.words.length:=⟨k+6 - (Pe d).length / 2 - (Pi d).length / 2 - d.words.length,by omega⟩
 unfold Mx
 rw [hm,sH,sH,Z6 _ _ _ _ (by show 0+_<=4; omega) fun u hu=>(C7 (h1 u hu)).2,iO rfl (Bu h3),cH rfl rfl (Bu h4)]
 exact iP hU (by show ([]++d.words).length≠0; rw [sO]; omega)
end
def Jr:List CmdL->List Tk
 | []=>[]
 | c::r=>(7,[])::(Mx c++Jr r)
def Qw:List CmdL->List Tk
 | []=>[]
 | c::r=>Mx c++Jr r
def dJ (bg last:Bool):List Tk:=if bg=true then [(6,[])] else if last=true then [] else [(5,[])]
def Jq:List JobL->List Tk
 | []=>[]
 | x::r=>Qw x.cmds++(dJ x.bg r.isEmpty++Jq r)
theorem oU (v:List CmdL) (U:List Tk) (hU:Da (hK U)=false):Da (hK (Jr v++U))=false:=by
 cases v with
 | nil=>exact hU
 | cons c r=>rfl
theorem Zk {F:Nat} (hF : 7<=F) (U:List Tk) (hU:Da (hK U)=false) (h7:hK U≠7) : ∀ (v:List CmdL) (k:Nat) (l:List CmdL),(∀ c∈v,Au c=true)->l.length+v.length<=4->v.length < k->Lz F k l (Jr v++U) = .ok (l++v,U)
 | _,0,_,_,_,h=>absurd h (Nat.not_lt_zero _)
 | [],k+1,l,_,_,_=>by
  show Lz F (k+1) l U=_
  simp only [Lz]
  rw [if_neg h7,sN]
 | c::r,k+1,l,hv,hl,hk=>by
  rw [sE] at hl hk
  obtain ⟨f,rfl⟩ : ∃ f,F=f+7:=⟨F - 7,by omega⟩
  show Lz (f+7) (k+1) l ((7,[])::(Mx c++Jr r++U))=_
  simp only [Lz]
  rw [if_pos (show hK ((7,[])::(Mx c++Jr r++U))=7 from rfl),if_neg (fun q=>by omega),List.tail_cons,sH,iQ (hv c sK) (oU r U hU)]
  simp only
  rw [Zk hF U hU h7 r k _ (fun x hx=>hv x (sP _ hx)) (by simp only [sD,sE,sF]; omega) (by omega)]
  simp only [sH,List.cons_append,sO]
theorem lM {F:Nat} (hF : 12<=F) {x:JobL} (hx:Bq x=true) (U:List Tk) (hU:Da (hK U)=false) (h7:hK U≠7):Ho F (Qw x.cmds++U) = .ok (x.cmds,U):=by
 unfold Bq at hx
 rw [sV,List.all_eq_true] at hx
 have hl:=rV hx.1
 have hv:=hx.2
 obtain ⟨f,rfl⟩ : ∃ f,F=f+7:=⟨F - 7,by omega⟩
 match hc:x.cmds,hl,hv with
 | [],hl,_=>exact absurd hl.1 (by simp)
 | c::r,hl,hv =>
  rw [sE] at hl
  show Ho (f+7) (Mx c++Jr r++U)=_
  unfold Ho
  rw [sH,iQ (hv c sK) (oU r U hU)]
  simp only
  rw [Zk (by omega) U hU h7 r _ _ (fun x hx=>hv x (sP _ hx)) (by simp only [sE,sF]; omega) (by omega)]
  rfl
theorem jU {d:CmdL} (h:Au d=true) (U:List Tk):(Mx d++U).isEmpty=false:=by
 obtain ⟨_,h2,_⟩:=Az h
 unfold Mx
 cases hw:d.words with
 | nil=>rw [hw] at h2; simp at h2
 | cons x r=>rfl
theorem jT {x:JobL} (hx:Bq x=true) (U:List Tk):(Qw x.cmds++U).isEmpty=false:=by
 unfold Bq at hx
 rw [sV,List.all_eq_true] at hx
 have hl:=rV hx.1
 cases hc:x.cmds with
 | nil=>rw [hc] at hl; simp at hl
 | cons c r =>
  show (Mx c++Jr r++U).isEmpty=false
  rw [sH]
  exact jU (hx.2 c (by rw [hc]; exact sK)) _
theorem Uc {F:Nat} (hF : 12<=F) : ∀ (v:List JobL) (k:Nat) (l:List JobL),(∀ x∈v,Bq x=true)->l.length+v.length<=8->v.length < k->Fj F k l (Jq v) = .ok (l++v)
 | _,0,_,_,_,h=>absurd h (Nat.not_lt_zero _)
 | [],k+1,l,_,_,_=>by
  show Fj F (k+1) l []=_
  simp only [Fj]
  rw [if_pos (show ([]:List Tk).isEmpty=true from rfl),sN]
 | ⟨cs,bg⟩::r,k+1,l,hv,hl,hk=>by
  rw [sE] at hl hk
  have hx:=hv ⟨cs,bg⟩ sK
  have ih:=Uc hF r k (l++[⟨cs,bg⟩]) (fun x hx=>hv x (sP _ hx)) (by simp only [sD,sE,sF]; omega) (by omega)
  have hne:(Qw cs++(dJ bg r.isEmpty++Jq r)).isEmpty=false:=jT hx _
  show Fj F (k+1) l (Qw cs++(dJ bg r.isEmpty++Jq r))=_
  simp only [Fj]
  rw [if_neg (show ¬ (Qw cs++(dJ bg r.isEmpty++Jq r)).isEmpty=true by rw [hne]; simp),if_neg (fun q=>by omega)]
  have hj : ∀ U,Da (hK U)=false->hK U≠7->Ho F (Qw cs++U) = .ok (cs,U):=fun U h1 h2=>lM hF hx U h1 h2
  cases bg with
  | true =>
   rw [hj _ rfl (by show 6≠7; decide)]
   show (if (6:Nat)=0 then _ else if (6:Nat)=5\/(6:Nat)=6 then Fj F k (l++[⟨cs,decide ((6:Nat)=6)⟩]) (Jq r) else _)=_
   rw [if_neg (by decide),if_pos (by decide)]
   refine Eq.trans ?_ (ih.trans ?_)
   · rfl
   · simp only [sH,List.cons_append,sO]
  | false =>
   cases r with
   | nil =>
    rw [hj _ rfl (by show 0≠7; decide)]
    rfl
   | cons y r =>
    rw [hj _ rfl (by show 5≠7; decide)]
    show (if (5:Nat)=0 then _ else if (5:Nat)=5\/(5:Nat)=6 then Fj F k (l++[⟨cs,decide ((5:Nat)=6)⟩]) (Jq (y::r)) else _)=_
    rw [if_neg (by decide),if_pos (by decide)]
    refine Eq.trans ?_ (ih.trans ?_)
    · rfl
    · simp only [sH,List.cons_append,sO]
theorem Xk (T:List Tk) (k:Nat):fX T=Fj (T.length+k+1) (T.length+k+1) [] T:=J5 _ _ _ _ (by omega) (by omega) (by omega) (by omega)
theorem Gy {v:List JobL} (h:Aq v=true):(∀ x∈v,Bq x=true)/\v.length<=8:=by
 unfold Aq at h
 rw [sV,List.all_eq_true] at h
 exact ⟨h.1,rV h.2⟩
theorem fV {v:List JobL} (h:Aq v=true):fX (Jq v) = .ok v:=by
 obtain ⟨h1,h2⟩:=Gy h
 rw [Xk _ 20]
 exact Uc (by omega) v _ [] h1 (by simpa using h2) (by omega)
theorem Y5 {s:ByteArray} : ∀ k,okW s k=true->∀ i,i < k->Bd (sb s i)=true
 | 0,_,i,hi=>absurd hi (Nat.not_lt_zero _)
 | k+1,h,i,hi=>by
  simp only [okW,sV] at h
  by_cases e:i=k
  · rw [e]; exact h.2
  · exact Y5 k h.1 i (by omega)
theorem gL {u:ByteArray} (h:A3 u=true) : ∀ x∈u.data.toList,pB x=true:=by
 intro x hx
 unfold A3 at h
 rw [sV] at h
 obtain ⟨i,hi,he⟩:=List.mem_iff_getElem.1 hx
 have:=Y5 u.size h.1 i (by rw [← Ar]; exact hi)
 unfold sb at this
 rw [List.getD_eq_getElem?_getD,List.getElem?_eq_getElem hi,he] at this
 exact this
theorem qS {u:ByteArray} (h:A3 u=true):u.data.toList≠[]:=fun e=>by have h1:=(C7 h).1; rw [← Ar,e] at h1; simp at h1
theorem Uf : ∀ (xs rest:List UInt8),xs≠[]->(∀ x∈xs,pB x=true)->hB pB rest=false->Cn (xs++rest)=(1,xs)::Cn rest
 | [],_,h,_,_=>absurd rfl h
 | [x],rest,_,hx,hr=>by
  have hp:=hx x sK
  show D5 false (x::rest)=_
  simp only [D5]
  rw [if_neg (by have:=G4 hp; rw [this]; simp),if_pos hp,if_neg (by rw [hr]; simp)]
  rfl
 | x::y::r,rest,_,hx,hr=>by
  have hp:=hx x sK
  have hy:=hx y (sP _ sK)
  have ih:=Uf (y::r) rest (by simp) (fun z hz=>hx z (sP _ hz)) hr
  show D5 false (x::(y::r++rest))=_
  have ih':D5 false (y::r++rest)=(1,y::r)::Cn rest:=ih
  have hh:hB pB (y::r++rest)=true:=hy
  rw [D5]
  rw [if_neg (by have:=G4 hp; rw [this]; simp),if_pos hp,if_pos hh,ih']
  rfl
theorem Ug {u:ByteArray} (h:A3 u=true) {rest:List UInt8} (hr:hB pB rest=false):Cn (u.data.toList++rest)=wT u::Cn rest:=Uf _ _ (qS h) (gL h) hr
theorem G7 (r:List UInt8):Cn (32::r)=Cn r:=rfl
theorem qM (r:List UInt8):Cn (60::r)=(2,[])::Cn r:=rfl
theorem lG (r:List UInt8):Cn (124::r)=(7,[])::Cn r:=rfl
theorem qN {r:List UInt8} (h:hB (· == 62) r=false):Cn (62::r)=(3,[])::Cn r:=by
 show D5 false (62::r)=_
 rw [D5]
 rw [if_neg (by decide),if_neg (by decide),if_pos rfl,if_neg (by rw [h]; simp)]
 rfl
theorem fY (r:List UInt8):Cn (62::62::r)=(4,[])::Cn r:=rfl
theorem tail_cons (u:ByteArray) (ws:List ByteArray) (rest:List UInt8):Lib.joinTail [32] ((u::ws).map (·.data.toList))++rest=32::(u.data.toList++(Lib.joinTail [32] (ws.map (·.data.toList))++rest)):=by
 simp only [Lib.joinTail,List.map_cons,List.flatten_cons,sH,List.cons_append,sO]
theorem Yn (ws:List ByteArray) {rest:List UInt8} (hr:hB pB rest=false):hB pB (Lib.joinTail [32] (ws.map (·.data.toList))++rest)=false:=by
 cases ws with
 | nil=>exact hr
 | cons u r=>rw [tail_cons]; rfl
theorem Uh {rest:List UInt8} (hr:hB pB rest=false) : ∀ (ws:List ByteArray),(∀ u∈ws,A3 u=true)->Cn (Lib.joinTail [32] (ws.map (·.data.toList))++rest)=ws.map wT++Cn rest
 | [],_=>rfl
 | u::r,h=>by
  rw [tail_cons,G7,Ug (h u sK) (Yn r hr),Uh hr r fun v hv=>h v (sP _ hv)]
  rfl
def pI (d:CmdL):List UInt8:=if d.inp.size=0 then [] else [32,60,32]++d.inp.data.toList
def pO (d:CmdL):List UInt8:=if d.app=true then [32,62,62,32]++d.out.data.toList else if d.out.size=0 then [] else [32,62,32]++d.out.data.toList
theorem oL (d:CmdL) {rest:List UInt8} (hr:hB pB rest=false):hB pB (pI d++rest)=false:=by unfold pI; split; {exact hr}; {rfl}
theorem eK (d:CmdL) {rest:List UInt8} (hr:hB pB rest=false):hB pB (pO d++rest)=false:=by unfold pO; split; {rfl}; {split; {exact hr}; {rfl}}
theorem Kw {u:ByteArray} (h:Cf u=true) (hz:u.size≠0):A3 u=true:=by
 unfold Cf at h
 rw [Bool.or_eq_true] at h
 rcases h with h | h
 · exact absurd (rV h) hz
 · exact h
theorem qL {d:CmdL} (h:Cf d.inp=true) {rest:List UInt8} (hr:hB pB rest=false):Cn (pI d++rest)=Pi d++Cn rest:=by
 unfold pI Pi
 by_cases hi:d.inp.size=0
 · rw [if_pos hi,if_pos hi]; rfl
 · rw [if_neg hi,if_neg hi]
   show Cn (32::60::32::(d.inp.data.toList++rest))=_
   rw [G7,qM,G7,Ug (Kw h hi) hr]; rfl
theorem qK {d:CmdL} (h:Cf d.out=true) (ha:d.app=true->d.out.size≠0) {rest:List UInt8} (hr:hB pB rest=false):Cn (pO d++rest)=Pe d++Cn rest:=by
 unfold pO Pe
 by_cases hp:d.app=true
 · rw [if_pos hp,if_pos hp]
   show Cn (32::62::62::32::(d.out.data.toList++rest))=_
   rw [G7,fY,G7,Ug (Kw h (ha hp)) hr]; rfl
 · rw [if_neg hp,if_neg hp]
   by_cases ho:d.out.size=0
   · rw [if_pos ho,if_pos ho]; rfl
   · rw [if_neg ho,if_neg ho]
     show Cn (32::62::32::(d.out.data.toList++rest))=_
     rw [G7,qN rfl,G7,Ug (Kw h ho) hr]; rfl
theorem Zc {d:CmdL} (h:Au d=true) {rest:List UInt8} (hr:hB pB rest=false):Cn (prC d++rest)=Mx d++Cn rest:=by
 obtain ⟨h1,h2,h3,h4,h5⟩:=Az h
 rw [Ev h2.1]
 show Cn (Lib.join (d.words.map (·.data.toList)) [32]++(pI d++pO d)++rest)=_
 unfold Mx
 cases hw:d.words with
 | nil=>rw [hw] at h2; simp at h2
 | cons u r =>
  rw [hw] at h1
  rw [List.map_cons,Lib.join_cons]
  simp only [sH]
  rw [Ug (h1 u sK) (Yn r (oL d (eK d hr))),Uh (oL d (eK d hr)) r fun v hv=>h1 v (sP _ hv),qL h3 (eK d hr),qK h4 h5 hr]
  rfl
def Rh:List CmdL->List UInt8
 | []=>[]
 | c::r=>[32,124,32]++(prC c++Rh r)
theorem Py (l:List CmdL) : ∀ j i,l.length - i=j->1<=i->i<=l.length->Aw l l.length=Aw l i++Rh (l.drop i)
 | 0,i,h,h1,h2=>by
  rw [show i=l.length by omega,List.drop_length]
  exact (sN _).symm
 | j+1,i,h,h1,h2=>by
  rw [Py l j (i+1) (by omega) (by omega) (by omega),List.drop_eq_getElem_cons (show i < l.length by omega)]
  simp only [Aw,Rh]
  rw [if_neg (by omega),Ji (List.getElem?_eq_getElem (show i < l.length by omega))]
  simp only [sH]
theorem Pz (c:CmdL) (r:List CmdL):Aw (c::r) (c::r).length=prC c++Rh r:=by
 rw [Py (c::r) r.length 1 (by simp) (Nat.le_refl _) (by simp)]
 show ([]++((if 0=0 then [] else [32,124,32])++prC c))++Rh r=_
 rw [if_pos rfl,sO,sO]
theorem Yz (v:List CmdL) {rest:List UInt8} (hr:hB pB rest=false):hB pB (Rh v++rest)=false:=by
 cases v with
 | nil=>exact hr
 | cons c r=>rfl
theorem Uj {rest:List UInt8} (hr:hB pB rest=false) : ∀ v:List CmdL,(∀ c∈v,Au c=true)->Cn (Rh v++rest)=Jr v++Cn rest
 | [],_=>rfl
 | c::r,h=>by
  show Cn (32::124::32::(prC c++Rh r++rest))=_
  rw [G7,lG,G7,sH,Zc (h c sK) (Yz r hr),Uj hr r fun v hv=>h v (sP _ hv)]
  simp only [Jr,sH,List.cons_append]
theorem lF {x:JobL} (hx:Bq x=true) {rest:List UInt8} (hr:hB pB rest=false):Cn (prJ x++rest)=Qw x.cmds++Cn rest:=by
 unfold Bq at hx
 rw [sV,List.all_eq_true] at hx
 have hv:=hx.2
 unfold prJ
 cases hc:x.cmds with
 | nil=>rfl
 | cons c r =>
  rw [hc] at hv
  rw [Pz,sH,Zc (hv c sK) (Yz r hr),Uj hr r fun v hw=>hv v (sP _ hw)]
  simp only [Qw,sH]
def Su:List JobL->List UInt8
 | []=>[]
 | x::r=>prJ x++(My x.bg r.isEmpty++Su r)
theorem X3 {α:Type} (l:List α) (i:Nat) (h:i<=l.length):(l.drop i).isEmpty=decide (i=l.length):=by
 rw [Bool.eq_iff_iff,List.isEmpty_iff,List.drop_eq_nil_iff]
 simp only [decide_eq_true_eq]
 omega
theorem St (l:List JobL) : ∀ j i,l.length - i=j->i<=l.length->prP l l.length=prP l i++Su (l.drop i)
 | 0,i,h,h2=>by
  rw [show i=l.length by omega,List.drop_length]
  exact (sN _).symm
 | j+1,i,h,h2=>by
  rw [St l j (i+1) (by omega) (by omega),List.drop_eq_getElem_cons (show i < l.length by omega)]
  simp only [prP,Su]
  rw [Ji (List.getElem?_eq_getElem (show i < l.length by omega)),X3 l (i+1) (by omega)]
  simp only [sH]
theorem Sv (l:List JobL):prL l=Su l:=St l _ 0 rfl (Nat.zero_le _)
theorem lE (b c:Bool) (r:List UInt8):Cn (My b c++r)=dJ b c++Cn r:=by cases b <;> cases c <;> rfl
theorem pY (v:List JobL) (b:Bool):hB pB (My b v.isEmpty++Su v)=false:=by
 cases b with
 | true=>cases v.isEmpty <;> rfl
 | false=>cases v with
  | nil=>rfl
  | cons y r=>rfl
theorem Ui : ∀ v:List JobL,(∀ x∈v,Bq x=true)->Cn (Su v)=Jq v
 | [],_=>rfl
 | x::r,h=>by
  simp only [Su,Jq]
  rw [lF (h x sK) (pY r x.bg),lE,Ui r fun v hv=>h v (sP _ hv)]
theorem eL_ok {R:Except (Nat×Int) (List JobL)} {v:List JobL} (h:eL R = .ok v):R = .ok v:=by
 cases R with
 | error e=>cases h
 | ok l=>exact congrArg _ (Except.ok.inj h)
theorem Ud {v:List JobL} (h:Aq v=true):Dy false (bA (prL v)) = .ok v:=by
 refine eL_ok ?_
 rw [bO,Nh,Sv,Ui v (Gy h).1]
 exact fV h
theorem tl_eq {a b:ByteArray}:(a.toList == b.toList)=true↔a=b:=by
 rw [beq_iff_eq,B3,B3];exact ⟨fun h=>Dm h,fun h=>by rw [h]⟩
def J1 (x y:RunL):Bool:=(x.path.toList == y.path.toList) && (((x.fl.f0.toList == y.fl.f0.toList) && ((x.fl.f1.toList == y.fl.f1.toList) && ((x.fl.f2.toList == y.fl.f2.toList) && ((x.fl.f3.toList == y.fl.f3.toList) && ((x.fl.f4.toList == y.fl.f4.toList) && ((x.fl.f5.toList == y.fl.f5.toList) && ((x.fl.f6.toList == y.fl.f6.toList) && ((x.fl.f7.toList == y.fl.f7.toList) && true)))))))) && true)
theorem Pw {x y:RunL}:J1 x y=true↔x=y:=by
 obtain ⟨p,⟨a0,a1,a2,a3,a4,a5,a6,a7⟩⟩:=x;obtain ⟨q,⟨b0,b1,b2,b3,b4,b5,b6,b7⟩⟩:=y;unfold J1;simp only [sV,tl_eq,and_true,RunL.mk.injEq,F8.mk.injEq]
theorem Q0 {l1 l2:List RunL} {i:Nat} {x y:RunL} (h:l1.take i=l2.take i) (hx:l1[i]? = some x) (hy:l2[i]? = some y) (he:J1 x y=true):l1.take (i+1)=l2.take (i+1):=by
 rw [List.take_add_one,List.take_add_one,h,hx,hy,Pw.1 he]
theorem dM (p1:Option Addr) (c1:Nat) (l1:List RunL) (p2:Option Addr) (c2:Nat) (l2:List RunL) (w:World) (hv1:Vw fR w (.slice p1 l1.length c1) l1) (hv2:Vw fR w (.slice p2 l2.length c2) l2) (hl1:l1.length<=1000000) (hl2:l2.length<=1000000) :
 Calls sA 13 #[.slice p1 l1.length c1,.slice p2 l2.length c2] w fun e w'=>∃ r:Bool,e = .returned (.bool r)/\(r=true↔l1=l2)/\Only Ai w w':=by
 refine Ao (args:=[.slice p1 l1.length c1,.slice p2 l2.length c2]) (m:=24) (n:=26) Tryz.func13 rfl (by kernel_rfl) (by kernel_rfl) fun J V=>?_;have O:=Ow.nil sA Ai w;refine Sa [(4,I false)] V ?_;clear V J; intro J V;refine wp_seq (Sa [(10,I (((l1.length:Nat):Int) != ((l2.length:Nat):Int)))] V ?_);clear V J; intro J V;rcases rU (((l1.length:Nat):Int) != ((l2.length:Nat):Int)) with h1 | h1
 · rw [h1] at V;have h1p:=bH h1;refine cT V (Sa [] V ?_);clear V J; intro J V;refine wp_ret (Ad (cv [I false] V ?_));have hF:=O.only; clear V O;exact ⟨false,rfl,⟨fun h=>absurd h (by decide),fun h=>absurd (congrArg List.length h) (by omega)⟩,hF⟩
 rw [h1] at V;have h1p:=M1 h1;refine cF V (wp_skip (Aa (wp_seq (Sa [(5,Z 0)] V ?_))));clear V J; intro J V;refine wp_block (Bc (fun mm J W=>∃ (i:Nat),mm=l1.length - i/\Holds 26 [] J [(0,.slice p1 l1.length c1),(1,.slice p2 l2.length c2),(4,I false),(5,Z ((i:Nat):Int))]/\Ow sA Ai w W []/\i<=l1.length/\l1.take i=l2.take i/\True) ?_ ?_)
 · exact ⟨_,0,rfl,V.ss,O.to,(Nat.zero_le _),rfl,trivial⟩
 rintro _ J w1 ⟨i,rfl,V,O,hi,ht,-⟩;refine wp_seq (Sa [(14,I (decide (((i:Nat):Int) < ((l1.length:Nat):Int))))] V ?_);clear V J; intro J V;rcases rU (decide (((i:Nat):Int) < ((l1.length:Nat):Int))) with h2 | h2
 · rw [h2] at V;have h2p:=rV h2;obtain ⟨x,hx⟩ : ∃ x,l1[i]? = some x:=⟨_,List.getElem?_eq_getElem (by omega)⟩;obtain ⟨y,hy⟩ : ∃ x,l2[i]? = some x:=⟨_,List.getElem?_eq_getElem (by omega)⟩;obtain ⟨ad1,rfl⟩:=hv1.pos (by omega);obtain ⟨ad2,rfl⟩:=hv2.pos (by omega);refine cT V (wp_skip (Aa (wp_seq (wp_block (wp_seq ?_)))));have hS:=O;refine rP [(0,true),(1,true),(2,true),(3,true),(4,true),(5,true),(6,true),(7,true),(8,true)] hS ?_;intro w2 ho; replace O:=O.st ho; clear ho
   refine Ke 9 [(0,.slice (some ad1) l1.length c1),(1,.slice (some ad2) l2.length c2),(25,I (!((x.path.toList == y.path.toList) && (((x.fl.f0.toList == y.fl.f0.toList) && ((x.fl.f1.toList == y.fl.f1.toList) && ((x.fl.f2.toList == y.fl.f2.toList) && ((x.fl.f3.toList == y.fl.f3.toList) && ((x.fl.f4.toList == y.fl.f4.toList) && ((x.fl.f5.toList == y.fl.f5.toList) && ((x.fl.f6.toList == y.fl.f6.toList) && ((x.fl.f7.toList == y.fl.f7.toList) && true)))))))) && true))))] V [.agg #[Y x.path,Y x.fl.f0,Y x.fl.f1,Y x.fl.f2,Y x.fl.f3,Y x.fl.f4,Y x.fl.f5,Y x.fl.f6,Y x.fl.f7],.agg #[Y y.path,Y y.fl.f0,Y y.fl.f1,Y y.fl.f2,Y y.fl.f3,Y y.fl.f4,Y y.fl.f5,Y y.fl.f6,Y y.fl.f7],I ((x.path.toList == y.path.toList) && (((x.fl.f0.toList == y.fl.f0.toList) && ((x.fl.f1.toList == y.fl.f1.toList) && ((x.fl.f2.toList == y.fl.f2.toList) && ((x.fl.f3.toList == y.fl.f3.toList) && ((x.fl.f4.toList == y.fl.f4.toList) && ((x.fl.f5.toList == y.fl.f5.toList) && ((x.fl.f6.toList == y.fl.f6.toList) && ((x.fl.f7.toList == y.fl.f7.toList) && true)))))))) && true))] (cc (⟨by omega,by omega⟩:(0:Int)<=((i:Nat):Int)/\((i:Nat):Int) < ((l1.length:Nat):Int)) (cc (hS.sx (ad1.add (i*9)) 50 (.agg #[Y x.path,Y x.fl.f0,Y x.fl.f1,Y x.fl.f2,Y x.fl.f3,Y x.fl.f4,Y x.fl.f5,Y x.fl.f6,Y x.fl.f7]) fun _ O=>(((hv1.keep O.only)).ldn U0 hx)) (cc (⟨by omega,by omega⟩:(0:Int)<=((i:Nat):Int)/\((i:Nat):Int) < ((l2.length:Nat):Int)) (cc (hS.sx (ad2.add (i*9)) 50 (.agg #[Y y.path,Y y.fl.f0,Y y.fl.f1,Y y.fl.f2,Y y.fl.f3,Y y.fl.f4,Y y.fl.f5,Y y.fl.f6,Y y.fl.f7]) fun _ O=>(((hv2.keep O.only)).ldn U0 hy)) (cc ((iC (by kernel_rfl) (by kernel_rfl)):EqG sA 50 (.agg #[Y x.path,Y x.fl.f0,Y x.fl.f1,Y x.fl.f2,Y x.fl.f3,Y x.fl.f4,Y x.fl.f5,Y x.fl.f6,Y x.fl.f7]) (.agg #[Y y.path,Y y.fl.f0,Y y.fl.f1,Y y.fl.f2,Y y.fl.f3,Y y.fl.f4,Y y.fl.f5,Y y.fl.f6,Y y.fl.f7]) ((x.path.toList == y.path.toList) && (((x.fl.f0.toList == y.fl.f0.toList) && ((x.fl.f1.toList == y.fl.f1.toList) && ((x.fl.f2.toList == y.fl.f2.toList) && ((x.fl.f3.toList == y.fl.f3.toList) && ((x.fl.f4.toList == y.fl.f4.toList) && ((x.fl.f5.toList == y.fl.f5.toList) && ((x.fl.f6.toList == y.fl.f6.toList) && ((x.fl.f7.toList == y.fl.f7.toList) && true)))))))) && true))) c0))))) ?_
   clear V J; intro J V;rw [(rfl:((x.path.toList == y.path.toList) && (((x.fl.f0.toList == y.fl.f0.toList) && ((x.fl.f1.toList == y.fl.f1.toList) && ((x.fl.f2.toList == y.fl.f2.toList) && ((x.fl.f3.toList == y.fl.f3.toList) && ((x.fl.f4.toList == y.fl.f4.toList) && ((x.fl.f5.toList == y.fl.f5.toList) && ((x.fl.f6.toList == y.fl.f6.toList) && ((x.fl.f7.toList == y.fl.f7.toList) && true)))))))) && true))=(J1 x y))] at V;refine Ax (Aa ?_);rcases rU (J1 x y) with h3 | h3
   · replace V:=V.ss.bool (f:=fun z_=>[(0,.slice (some ad1) l1.length c1),(1,.slice (some ad2) l2.length c2),(4,I false),(5,Z ((i:Nat):Int)),(25,.bool !z_)]) h3;refine cF V (wp_skip (Ac (Aa (Rc [(5,Z (((i:Nat):Int)+1))] V [I true] (cc ((Am (by omega) (by omega)):inK .i64 (((i:Nat):Int)+1)) c0) ?_))));clear V J; intro J V;exact Aa (⟨_,by omega,i+1,rfl,V.ss,O.to,(by omega),(Q0 ht hx hy (by assumption)),trivial⟩)
   replace V:=V.ss.bool (f:=fun z_=>[(0,.slice (some ad1) l1.length c1),(1,.slice (some ad2) l2.length c2),(4,I false),(5,Z ((i:Nat):Int)),(25,.bool !z_)]) h3;refine cT V (Sa [] V ?_);clear V J; intro J V;refine wp_ret (Ae (Ad (Ad (Ae (Ad (cv [I false] V ?_))))));have hF:=O.only; clear V O;exact ⟨false,rfl,⟨fun h=>absurd h (by decide),fun h=>absurd (show J1 x y=true from Pw.2 (by subst h; rw [hx] at hy; exact Option.some.inj hy)) (by rw [show J1 x y=false by assumption]; decide)⟩,hF⟩
 rw [h2] at V;have h2p:=rX h2;refine cF V (wp_exit (Aj (Aj (An (Aa (Sa [(4,I true)] V ?_))))));clear V J; intro J V;refine wp_ret (cv [I true] V ?_);have hF:=O.only; clear V O;exact ⟨true,rfl,⟨fun _=>(by rw [List.take_of_length_le (show l1.length<=i by omega),List.take_of_length_le (show l2.length<=i by omega)] at ht; exact ht),fun _=>rfl⟩,hF⟩
def awS1:StL:={Gi with mode:=1}
def awS2:StL:=⟨3,0,⟨#[]⟩,[⟨[⟨[⟨#[97]⟩],⟨#[]⟩,⟨#[]⟩,false⟩,⟨[⟨#[98]⟩],⟨#[]⟩,⟨#[]⟩,false⟩],false⟩],-1,-1,-1,[],[]⟩
theorem aw_1:Bf Gi 0 []=(awS1,Ap 9 0 80):=by kernel_rfl
theorem aw_2:Bf awS1 6 ([97,32,124,32,98,10]:List Int)=(awS2,Ap 11 0 0):=by kernel_rfl
theorem aw_3:(Bf awS2 772 []).2=Ap 1 0 0:=by kernel_rfl
set_option maxHeartbeats 4000000 in
theorem Qs (w:World) (hE:ErrOk w) :
 Calls sA 7 #[] w fun e w'=>e = .returned (.bool true)/\Only Ai w w':=by
 refine Ao (args:=[]) (m:=47) (n:=47) Tryz.func7 rfl (by kernel_rfl) (by kernel_rfl) fun J V=>?_;have O:=Ow.nil sA Ai w;refine Sa [(0,I false)] V fun J V=>sr 9 (Mk 8 V O Tryz.func24 (M9 _) fun J w1 V O=>Ag (mC (d:=(some 9)) V Tryz.func16 ((L8 nSV 0 _ (eY _) eX (hE.keep O.only) (by omega) (by omega)).mono ?_)));rintro en w2 ⟨u1,xa1,TA1,hu1,hxa1,hsm1,rfl,hW_,hG1,hXX1⟩;refine ⟨_,rfl,?_⟩;clear V J; intro J V;replace O:Ow sA Ai w _ ([]++[]):=O.to (sN _).symm;replace O:=Ow.join O hW_; clear hW_;replace O:Ow sA Ai w _ ([]++(TA1++([]))):=O.to (by first | rfl | (simp only [TP,apd]));have hPTA1:Ah TA1 (fun w_=>SV.ok u1 w_/\VP w_ xa1):=Ah.and hG1 hXX1;rw [nSV_d,aw_1] at hu1 hxa1
 refine Ka 3 [(10,.agg #[Z u1.mo,Z u1.po,Y u1.inp,.slice u1.pj u1.lj.length u1.cj,Z u1.rd,Z u1.wr,Z u1.pv,.slice u1.pc u1.lc.length u1.cc,.slice u1.pp u1.lp.length u1.cp]),(11,.agg #[Z xa1.d.call,Z xa1.d.a0,Z xa1.d.a1,Z xa1.d.a2,.slice xa1.p xa1.d.data.length xa1.c])] V fun J V=>Mn (cS 0 0 (⟨#[]⟩:ByteArray) none 0 0 0 0 0 none 0 0 none 0 0) 39 1 V O fun J w3 b1 V O=>Mn [Z 0,Z 0,Z 0,Z 0,.slice none 0 0] 43 2 V O fun J w4 b2 V O=>Ms 0 (cS u1.mo u1.po u1.inp u1.pj u1.lj.length u1.cj u1.rd u1.wr u1.pv u1.pc u1.lc.length u1.cc u1.pp u1.lp.length u1.cp) 1 V O fun w5 O=>Ms 0 [Z xa1.d.call,Z xa1.d.a0,Z xa1.d.a1,Z xa1.d.a2,.slice xa1.p xa1.d.data.length xa1.c] 0 V O fun w6 O=>Ab (Aa (sr 11 (Kb 1 [(13,.agg #[Z u1.mo,Z u1.po,Y u1.inp,.slice u1.pj u1.lj.length u1.cj,Z u1.rd,Z u1.wr,Z u1.pv,.slice u1.pc u1.lc.length u1.cc,.slice u1.pp u1.lp.length u1.cp])] V [.agg #[Z u1.mo,Z u1.po,Y u1.inp,.slice u1.pj u1.lj.length u1.cj,Z u1.rd,Z u1.wr,Z u1.pv,.slice u1.pc u1.lc.length u1.cc,.slice u1.pp u1.lp.length u1.cp]] (cc (O.ln 1 0 39 (cS u1.mo u1.po u1.inp u1.pj u1.lj.length u1.cj u1.rd u1.wr u1.pv u1.pc u1.lc.length u1.cc u1.pp u1.lp.length u1.cp)) c0) fun J V=>Mv [u8 97,u8 32,u8 124,u8 32,u8 98,u8 10] 5 6 14 V O fun J w7 b3 V O=>Ag (mV (L:=([(b3,5,[u8 97,u8 32,u8 124,u8 32,u8 98,u8 10]),(b2,43,[Z xa1.d.call,Z xa1.d.a0,Z xa1.d.a1,Z xa1.d.a2,.slice xa1.p xa1.d.data.length xa1.c]),(b1,39,(cS u1.mo u1.po u1.inp u1.pj u1.lj.length u1.cj u1.rd u1.wr u1.pv u1.pc u1.lc.length u1.cc u1.pp u1.lp.length u1.cp))]++(TA1++([])))) (t:=41) (el:=5) (off:=0) (m:=6) (c:=6) (d:=15) 0 V O fun J w8 V O=>Ag (mC (d:=(some 16)) V Tryz.func16 ((Ye u1 6 (some ⟨b3,0,none⟩) 6 ([97,32,124,32,98,10]:List Int) _ (Ah.at (A:=[_,_,_]) hPTA1 O.m).1 hsm1 (show Vw fB _ (.slice (some ⟨b3,0,none⟩) ([97,32,124,32,98,10]:List Int).length 6) ([97,32,124,32,98,10]:List Int) from (O.b 0).vw (off:=0) (xs:=([97,32,124,32,98,10]:List Int)) (by kernel_rfl)) (U8s.cons (H0 (by decide) (by decide)) (U8s.cons (H0 (by decide) (by decide)) (U8s.cons (H0 (by decide) (by decide)) (U8s.cons (H0 (by decide) (by decide)) (U8s.cons (H0 (by decide) (by decide)) (U8s.cons (H0 (by decide) (by decide)) U8s.nil)))))) (by decide) (by decide) (hE.keep O.only) (by omega) (by omega)).mono ?_))))))
 rintro en w9 ⟨u2,xa2,TA2,hu2,hxa2,hsm2,rfl,hW_,hG2,hXX2⟩;refine ⟨_,rfl,?_⟩;clear V J; intro J V;replace O:=Ow.join O hW_; clear hW_;replace O:Ow sA Ai w _ ([(b3,5,[u8 97,u8 32,u8 124,u8 32,u8 98,u8 10]),(b2,43,[Z xa1.d.call,Z xa1.d.a0,Z xa1.d.a1,Z xa1.d.a2,.slice xa1.p xa1.d.data.length xa1.c]),(b1,39,(cS u1.mo u1.po u1.inp u1.pj u1.lj.length u1.cj u1.rd u1.wr u1.pv u1.pc u1.lc.length u1.cc u1.pp u1.lp.length u1.cp))]++(TA1++(TA2++([])))):=O.to (by first | rfl | (simp only [TP,apd]));have hPTA2:Ah TA2 (fun w_=>SV.ok u2 w_/\VP w_ xa2):=Ah.and hG2 hXX2;rw [hu1,aw_2] at hu2 hxa2
 refine Ka 3 [(17,.agg #[Z u2.mo,Z u2.po,Y u2.inp,.slice u2.pj u2.lj.length u2.cj,Z u2.rd,Z u2.wr,Z u2.pv,.slice u2.pc u2.lc.length u2.cc,.slice u2.pp u2.lp.length u2.cp]),(18,.agg #[Z xa2.d.call,Z xa2.d.a0,Z xa2.d.a1,Z xa2.d.a2,.slice xa2.p xa2.d.data.length xa2.c])] V fun J V=>Mn (cS 0 0 (⟨#[]⟩:ByteArray) none 0 0 0 0 0 none 0 0 none 0 0) 39 3 V O fun J w10 b4 V O=>Mn [Z 0,Z 0,Z 0,Z 0,.slice none 0 0] 43 4 V O fun J w11 b5 V O=>Ms 0 (cS u2.mo u2.po u2.inp u2.pj u2.lj.length u2.cj u2.rd u2.wr u2.pv u2.pc u2.lc.length u2.cc u2.pp u2.lp.length u2.cp) 1 V O fun w12 O=>Ms 0 [Z xa2.d.call,Z xa2.d.a0,Z xa2.d.a1,Z xa2.d.a2,.slice xa2.p xa2.d.data.length xa2.c] 0 V O fun w13 O=>Ab (Aa (sr 9 (Kb 1 [(20,.agg #[Z u2.mo,Z u2.po,Y u2.inp,.slice u2.pj u2.lj.length u2.cj,Z u2.rd,Z u2.wr,Z u2.pv,.slice u2.pc u2.lc.length u2.cc,.slice u2.pp u2.lp.length u2.cp])] V [.agg #[Z u2.mo,Z u2.po,Y u2.inp,.slice u2.pj u2.lj.length u2.cj,Z u2.rd,Z u2.wr,Z u2.pv,.slice u2.pc u2.lc.length u2.cc,.slice u2.pp u2.lp.length u2.cp]] (cc (O.ln 1 0 39 (cS u2.mo u2.po u2.inp u2.pj u2.lj.length u2.cj u2.rd u2.wr u2.pv u2.pc u2.lc.length u2.cc u2.pp u2.lp.length u2.cp)) c0) fun J V=>?_)))
 replace O:Ow sA Ai w w13 ([(b5,43,[Z xa2.d.call,Z xa2.d.a0,Z xa2.d.a1,Z xa2.d.a2,.slice xa2.p xa2.d.data.length xa2.c]),(b4,39,(cS u2.mo u2.po u2.inp u2.pj u2.lj.length u2.cj u2.rd u2.wr u2.pv u2.pc u2.lc.length u2.cc u2.pp u2.lp.length u2.cp)),(b3,5,[u8 97,u8 32,u8 124,u8 32,u8 98,u8 10]),(b2,43,[Z xa1.d.call,Z xa1.d.a0,Z xa1.d.a1,Z xa1.d.a2,.slice xa1.p xa1.d.data.length xa1.c]),(b1,39,(cS u1.mo u1.po u1.inp u1.pj u1.lj.length u1.cj u1.rd u1.wr u1.pv u1.pc u1.lc.length u1.cc u1.pp u1.lp.length u1.cp))]++(TA1++(TA2++([])))):=O;refine Ag (mC (d:=(some 21)) V Tryz.func16 ((L8 u2 772 _ (Ah.at hPTA2 (O.tt:Ow sA Ai w _ (([(b5,43,[Z xa2.d.call,Z xa2.d.a0,Z xa2.d.a1,Z xa2.d.a2,.slice xa2.p xa2.d.data.length xa2.c]),(b4,39,(cS u2.mo u2.po u2.inp u2.pj u2.lj.length u2.cj u2.rd u2.wr u2.pv u2.pc u2.lc.length u2.cc u2.pp u2.lp.length u2.cp)),(b3,5,[u8 97,u8 32,u8 124,u8 32,u8 98,u8 10]),(b2,43,[Z xa1.d.call,Z xa1.d.a0,Z xa1.d.a1,Z xa1.d.a2,.slice xa1.p xa1.d.data.length xa1.c]),(b1,39,(cS u1.mo u1.po u1.inp u1.pj u1.lj.length u1.cj u1.rd u1.wr u1.pv u1.pc u1.lc.length u1.cc u1.pp u1.lp.length u1.cp))]++(TA1++([])))++(TA2++([])))).m).1 hsm2 (hE.keep O.only) (by omega) (by omega)).mono ?_));rintro en w14 ⟨u3,xa3,TA3,hu3,hxa3,hsm3,rfl,hW_,hG3,hXX3⟩;refine ⟨_,rfl,?_⟩;clear V J; intro J V;replace O:=Ow.join O hW_; clear hW_
 replace O:Ow sA Ai w _ ([(b5,43,[Z xa2.d.call,Z xa2.d.a0,Z xa2.d.a1,Z xa2.d.a2,.slice xa2.p xa2.d.data.length xa2.c]),(b4,39,(cS u2.mo u2.po u2.inp u2.pj u2.lj.length u2.cj u2.rd u2.wr u2.pv u2.pc u2.lc.length u2.cc u2.pp u2.lp.length u2.cp)),(b3,5,[u8 97,u8 32,u8 124,u8 32,u8 98,u8 10]),(b2,43,[Z xa1.d.call,Z xa1.d.a0,Z xa1.d.a1,Z xa1.d.a2,.slice xa1.p xa1.d.data.length xa1.c]),(b1,39,(cS u1.mo u1.po u1.inp u1.pj u1.lj.length u1.cj u1.rd u1.wr u1.pv u1.pc u1.lc.length u1.cc u1.pp u1.lp.length u1.cp))]++(TA1++(TA2++(TA3++([]))))):=O.to (by first | rfl | (simp only [TP,apd]));have hPTA3:Ah TA3 (fun w_=>SV.ok u3 w_/\VP w_ xa3):=Ah.and hG3 hXX3;rw [hu2,aw_3] at hxa3
 refine Ka 3 [(22,.agg #[Z u3.mo,Z u3.po,Y u3.inp,.slice u3.pj u3.lj.length u3.cj,Z u3.rd,Z u3.wr,Z u3.pv,.slice u3.pc u3.lc.length u3.cc,.slice u3.pp u3.lp.length u3.cp]),(23,.agg #[Z xa3.d.call,Z xa3.d.a0,Z xa3.d.a1,Z xa3.d.a2,.slice xa3.p xa3.d.data.length xa3.c])] V fun J V=>Mn (cS 0 0 (⟨#[]⟩:ByteArray) none 0 0 0 0 0 none 0 0 none 0 0) 39 5 V O fun J w15 b6 V O=>Mn [Z 0,Z 0,Z 0,Z 0,.slice none 0 0] 43 6 V O fun J w16 b7 V O=>Ms 0 (cS u3.mo u3.po u3.inp u3.pj u3.lj.length u3.cj u3.rd u3.wr u3.pv u3.pc u3.lc.length u3.cc u3.pp u3.lp.length u3.cp) 1 V O fun w17 O=>Ms 0 [Z xa3.d.call,Z xa3.d.a0,Z xa3.d.a1,Z xa3.d.a2,.slice xa3.p xa3.d.data.length xa3.c] 0 V O fun w18 O=>Ab (Aa (sr 24 (Kb 4 [(26,I (xa1.d.call == 9)),(27,I (xa1.d.call == 9))] V [Z xa1.d.call] (cc (O.l1 5 0 3 (Z xa1.d.call)) c0) fun J V=>?_)));rw [((by rw [hxa1]; rfl):(xa1.d.call == 9)=true)] at V
 refine Kb 6 [(31,I ((xa1.d.a0 == 0) && ((xa1.d.a1 == 80) && ((xa1.d.a2 == 0) && true)))),(32,I ((xa1.d.a0 == 0) && ((xa1.d.a1 == 80) && ((xa1.d.a2 == 0) && true)))),(33,I ((xa1.d.a0 == 0) && ((xa1.d.a1 == 80) && ((xa1.d.a2 == 0) && true))))] V [.agg #[Z xa1.d.a0,Z xa1.d.a1,Z xa1.d.a2],I ((xa1.d.a0 == 0) && ((xa1.d.a1 == 80) && ((xa1.d.a2 == 0) && true)))] (cc (O.ln 5 1 40 [Z xa1.d.a0,Z xa1.d.a1,Z xa1.d.a2]) (cc ((iC (by kernel_rfl) (by kernel_rfl)):EqG sA 40 (.agg #[Z xa1.d.a0,Z xa1.d.a1,Z xa1.d.a2]) (.agg #[Z 0,Z 80,Z 0]) ((xa1.d.a0 == 0) && ((xa1.d.a1 == 80) && ((xa1.d.a2 == 0) && true)))) c0)) fun J V=>?_;rw [((by rw [hxa1]; rfl):((xa1.d.a0 == 0) && ((xa1.d.a1 == 80) && ((xa1.d.a2 == 0) && true)))=true)] at V;refine Kb 5 [(36,I (xa2.d.call == 11)),(37,I (xa2.d.call == 11)),(38,I (xa2.d.call == 11))] V [Z xa2.d.call] (cc (O.l1 2 0 3 (Z xa2.d.call)) c0) fun J V=>?_;rw [((by rw [hxa2]; rfl):(xa2.d.call == 11)=true)] at V;refine Kb 5 [(41,I (xa3.d.call == 1)),(42,I (xa3.d.call == 1)),(43,I (xa3.d.call == 1))] V [Z xa3.d.call] (cc (O.l1 0 0 3 (Z xa3.d.call)) c0) fun J V=>?_;rw [((by rw [hxa3]; rfl):(xa3.d.call == 1)=true)] at V
 refine Kb 1 [(43,I true),(44,.agg #[Z u2.mo,Z u2.po,Y u2.inp,.slice u2.pj u2.lj.length u2.cj,Z u2.rd,Z u2.wr,Z u2.pv,.slice u2.pc u2.lc.length u2.cc,.slice u2.pp u2.lp.length u2.cp])] V [.agg #[Z u2.mo,Z u2.po,Y u2.inp,.slice u2.pj u2.lj.length u2.cj,Z u2.rd,Z u2.wr,Z u2.pv,.slice u2.pc u2.lc.length u2.cc,.slice u2.pp u2.lp.length u2.cp]] (cc (O.ln 3 0 39 (cS u2.mo u2.po u2.inp u2.pj u2.lj.length u2.cj u2.rd u2.wr u2.pv u2.pc u2.lc.length u2.cc u2.pp u2.lp.length u2.cp)) c0) fun J V=>?_;replace O:Ow sA Ai w w18 ([(b7,43,[Z xa3.d.call,Z xa3.d.a0,Z xa3.d.a1,Z xa3.d.a2,.slice xa3.p xa3.d.data.length xa3.c]),(b6,39,(cS u3.mo u3.po u3.inp u3.pj u3.lj.length u3.cj u3.rd u3.wr u3.pv u3.pc u3.lc.length u3.cc u3.pp u3.lp.length u3.cp)),(b5,43,[Z xa2.d.call,Z xa2.d.a0,Z xa2.d.a1,Z xa2.d.a2,.slice xa2.p xa2.d.data.length xa2.c]),(b4,39,(cS u2.mo u2.po u2.inp u2.pj u2.lj.length u2.cj u2.rd u2.wr u2.pv u2.pc u2.lc.length u2.cc u2.pp u2.lp.length u2.cp)),(b3,5,[u8 97,u8 32,u8 124,u8 32,u8 98,u8 10]),(b2,43,[Z xa1.d.call,Z xa1.d.a0,Z xa1.d.a1,Z xa1.d.a2,.slice xa1.p xa1.d.data.length xa1.c]),(b1,39,(cS u1.mo u1.po u1.inp u1.pj u1.lj.length u1.cj u1.rd u1.wr u1.pv u1.pc u1.lc.length u1.cc u1.pp u1.lp.length u1.cp))]++(TA1++(TA2++(TA3++([]))))):=O
 exact Mk 45 V O Tryz.func22 (rs (Np u2.mo u2.po u2.inp u2.pj u2.cj u2.lj u2.rd u2.wr u2.pv u2.pc u2.cc u2.lc u2.pp u2.cp u2.lp _ (Ah.at hPTA2 (O.tt:Ow sA Ai w _ (([(b7,43,[Z xa3.d.call,Z xa3.d.a0,Z xa3.d.a1,Z xa3.d.a2,.slice xa3.p xa3.d.data.length xa3.c]),(b6,39,(cS u3.mo u3.po u3.inp u3.pj u3.lj.length u3.cj u3.rd u3.wr u3.pv u3.pc u3.lc.length u3.cc u3.pp u3.lp.length u3.cp)),(b5,43,[Z xa2.d.call,Z xa2.d.a0,Z xa2.d.a1,Z xa2.d.a2,.slice xa2.p xa2.d.data.length xa2.c]),(b4,39,(cS u2.mo u2.po u2.inp u2.pj u2.lj.length u2.cj u2.rd u2.wr u2.pv u2.pc u2.lc.length u2.cc u2.pp u2.lp.length u2.cp)),(b3,5,[u8 97,u8 32,u8 124,u8 32,u8 98,u8 10]),(b2,43,[Z xa1.d.call,Z xa1.d.a0,Z xa1.d.a1,Z xa1.d.a2,.slice xa1.p xa1.d.data.length xa1.c]),(b1,39,(cS u1.mo u1.po u1.inp u1.pj u1.lj.length u1.cj u1.rd u1.wr u1.pv u1.pc u1.lc.length u1.cc u1.pp u1.lp.length u1.cp))]++(TA1++([])))++(TA2++(TA3++([]))))).m).1 hsm2) (congrArg Value.bool (show Br u2.d=true by rw [hu2]; kernel_rfl))) fun J w19 V O=>Ka 2 [(0,I true)] V fun J V=>Ab (Aa (wp_ret (cv [I true] V (⟨rfl,O.only⟩))))
end Go.Proofs.YtdljjajjonfjbaaGreatDoor
