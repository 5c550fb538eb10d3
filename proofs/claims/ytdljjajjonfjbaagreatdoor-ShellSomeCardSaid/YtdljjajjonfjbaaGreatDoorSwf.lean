import Derived.Test.YtdljjajjonfjbaaGreatDoorSwd
import Derived.Test.YtdljjajjonfjbaaGreatDoorSn
import Derived.Test.YtdljjajjonfjbaaGreatDoorShStore
import Derived.Test.YtdljjajjonfjbaaGreatDoorParsf
import Derived.Test.YtdljjajjonfjbaaGreatDoorShl
set_option linter.unusedVariables false
set_option linter.unusedSimpArgs false
set_option maxRecDepth 10000
open Go.Proofs.Tryz renaming prog->sD
open List renaming length_append->sF,length_cons->sG,length_nil->sH,append_assoc->sL,mem_cons_self->sM,not_mem_nil->sN,append_nil->sP,nil_append->sQ,mem_cons_of_mem->sS
open ByteArray renaming size_append->sU,size_extract->sV
open Bool renaming and_eq_true->sY
namespace Go.Proofs.YtdljjajjonfjbaaGreatDoor
open Go Go.Shelf Go.RowKit Go.Proofs Go.Proofs.Sx
def Ya (a:WV) (T:OwL):Prop:=∃ TR TA TW TS,T=TR++(TA++(TW++TS))/\WOk a TR TA TW TS
theorem oZ (wb:Nat) (a:WV) (T:OwL) (n:Nat) (w:World) (h0:Ow sD (inT ((wb,46,wc a)::T)) w w ((wb,46,wc a)::T)) (hW:Ya a T) (hX : ∀ w',Only (inT ((wb,46,wc a)::T)) w w'->WX w' a) (hsw:smW n a.d) (hn:n<=1000) (hch : ∀ c∈a.il,c.size<=1000) :
 Calls sD 27 #[pt wb] w fun e w'=>∃ (a':WV) (T':OwL),a'.d=Ba a.d/\Ya a' T'/\(∀ w,WX w a->WX w a')/\e = .returned (.tuple #[])/\Ow sD (inT ((wb,46,wc a)::T)) w w' ((wb,46,wc a')::T'):=by
 obtain ⟨TR,TA,TW,TS,rfl,hk⟩:=hW;exact (aA wb a TR TA TW TS n w h0 hk hX hsw hn hch).mono fun e w' ⟨a',TR',TA',TW',TS',h1,h2,h3,h4,h5⟩=>⟨a',_,h1.symm,⟨TR',TA',TW',TS',rfl,h2⟩,h3,h4,h5⟩
theorem dB (w:WL) : ∀ c∈(Ba w).inp,c∈w.inp:=by
 have hg : ∀ (w:WL) (r:Int) (d:List Int),(goW w r d).inp=w.inp:=fun _ _ _=>rfl;intro c hc;unfold Ba at hc;split at hc
 · exact hc
 split at hc
 · split at hc
   · exact hc
   rename_i x r e
   have hc:c∈r:=hc;rw [e]; exact sS _ hc
 split at hc
 · split at hc <;> exact hc
 split at hc
 · exact hc
 split at hc
 · exact hc
 split at hc
 · unfold Gh at hc;split at hc <;> exact hc
 split at hc
 · split at hc
   · have e:(Oh (A8 w)).inp=w.inp:=(Ez 40 _ _ _ _).inp;rw [e] at hc; exact hc
   exact hc
 exact hc
def nSV:SV:=(⟨0,0,⟨#[]⟩,none,0,[],-1,-1,-1,none,0,[],none,0,[]⟩:SV)
theorem nSV_d:nSV.d=Gi:=rfl
theorem eV (w:World):nSV.ok w:=⟨⟨.inl ⟨rfl,rfl⟩,fun y hy=>absurd hy sN⟩,.inl ⟨rfl,rfl⟩,⟨.inl ⟨rfl,rfl⟩,fun y hy=>absurd hy sN⟩⟩
theorem eU:nSV.sm:=⟨by decide,⟨by decide,fun y hy=>absurd hy sN⟩,by decide,by decide,by decide,by decide,by decide⟩
theorem Yz {m:Nat} {w:WL} (h:w.exit < 0):Fz (m+1) w=Fz m (Ba w):=by simp only [Fz]; rw [if_pos h]
theorem Su {m:Nat} {w:WL} (h : ¬ w.exit < 0):Fz m w=w:=by
 cases m with
 | zero=>rfl
 | succ m=>simp only [Fz]; rw [if_neg h]
theorem smW0 (inp:List ByteArray) (fails:List Int):smW 0 (Md inp fails):=by
 unfold Md;refine smW.go ?_ _ _;exact ⟨by show (0:Int)<=0/\(0:Int)<=50*((0:Nat):Int); decide,by show (0:Int)<=0/\(0:Int)<=((0:Nat):Int); decide,by show (0:Int)<=0/\(0:Int)<=15; decide,Nat.le_refl _,fun t h=>absurd h sN,Nat.le_refl _,Nat.le_refl _⟩
set_option maxHeartbeats 4000000 in
theorem dZ (ip:Option Addr) (ic:Nat) (il:List ByteArray) (fp:Option Addr) (fc:Nat) (ff:List Int) (w:World) (hvi:Vw fT w (.slice ip il.length ic) il) (hvf:Vw fB w (.slice fp ff.length fc) ff) (hE:ErrOk w) (hci:il.length<=ic) (hcf:ff.length<=fc) (hch : ∀ c∈il,c.size<=1000) :
 Calls sD 10 #[.slice ip il.length ic,.slice fp ff.length fc] w fun e w'=>∃ (wb:Nat) (a:WV) (T:OwL),e = .returned (pt wb)/\a.d=Pz il ff/\Ya a T/\Ow sD Ai w w' ((wb,46,wc a)::T):=by
 refine Ao (args:=[.slice ip il.length ic,.slice fp ff.length fc]) (m:=46) (n:=48) Tryz.func10 rfl (by kernel_rfl) (by kernel_rfl) fun J V=>?_;have O:=Ow.nil sD Ai w;refine Sa [(4,.pointer none)] V fun J V=>sr 5 (Ka 3 [(9,.agg #[Z 0,Z 0,Y (⟨#[]⟩),.slice none 0 0,Z 0,Z 0,Z 0,.slice none 0 0,.slice none 0 0,Z 0,Z 0,Z 0,Z 0,.slice none 0 0,Y (⟨#[]⟩),Y (⟨#[]⟩),Y (⟨#[]⟩),Y (⟨#[]⟩),Y (⟨#[]⟩),Y (⟨#[]⟩),Y (⟨#[]⟩),Y (⟨#[]⟩),.slice ip il.length ic,.slice fp ff.length fc,Z 0,Z 0,.slice none 0 0,.slice none 0 0,.slice none 0 0,Z 0,Z (-1),I false,I true])] V fun J V=>Mn [Z 0,Z 0,Y (⟨#[]⟩),.slice none 0 0,Z 0,Z 0,Z 0,.slice none 0 0,.slice none 0 0,Z 0,Z 0,Z 0,Z 0,.slice none 0 0,Y (⟨#[]⟩),Y (⟨#[]⟩),Y (⟨#[]⟩),Y (⟨#[]⟩),Y (⟨#[]⟩),Y (⟨#[]⟩),Y (⟨#[]⟩),Y (⟨#[]⟩),.slice ip il.length ic,.slice fp ff.length fc,Z 0,Z 0,.slice none 0 0,.slice none 0 0,.slice none 0 0,Z 0,Z (-1),I false,I true] 46 10 V O fun J w1 wb V O=>Ka 1 [(5,pt wb)] V fun J V=>Ab (Aa ?_));obtain ⟨a0,ha0⟩ : ∃ a:WV,a=(⟨(⟨0,0,⟨#[]⟩,none,0,[],0,0,0,none,0,[],none,0,[]⟩:SV),⟨none,0,Ap 0 0 0⟩,⟨⟨#[]⟩,⟨#[]⟩,⟨#[]⟩,⟨#[]⟩,⟨#[]⟩,⟨#[]⟩,⟨#[]⟩,⟨#[]⟩⟩,ip,ic,il,fp,fc,ff,0,0,none,0,[],none,0,[],none,0,[],0,-1,false,true⟩:WV):=⟨_,rfl⟩;replace O:Ow sD Ai w w1 [(wb,46,(wc a0))]:=by (rw [ha0]; exact O)
 refine wp_seq ?_;have hS:=O.pk [];refine rP [(0,true),(1,true),(2,true),(3,true),(4,true),(5,true),(7,true),(8,true),(11,true),(12,true),(6,false),(9,true),(10,false),(13,true),(14,false)] hS ?_;intro w2 ho; replace O:=O.st ho; clear ho;refine Ke 10 [(16,pf wb 14),(18,pf wb 14),(21,pf wb 14)] V [] (cc (⟨by omega,by omega⟩:(0:Int)<=0/\0 < ((8:Nat):Int)) c0) fun J V=>Av (mSR (off:=14) (ad:=⟨wb,14,none⟩) (vc:=[Y (⟨#[105,110]⟩)]) (l':=(wc {a0 with fl:=a0.fl.set 0 (⟨#[105,110]⟩:ByteArray)})) 0 V O rfl (by kernel_rfl) (by kernel_rfl) fun w3 O=>⟨(O.sub []),?_⟩);refine Ke 1 [(19,pf wb 15)] V [] (cc (⟨by omega,by omega⟩:(0:Int)<=1/\1 < ((8:Nat):Int)) c0) fun J V=>Av (mSR (off:=15) (ad:=⟨wb,15,none⟩) (vc:=[Y (⟨#[111,117,116]⟩)]) (l':=(wc {a0 with fl:=(a0.fl.set 0 (⟨#[105,110]⟩:ByteArray)).set 1 (⟨#[111,117,116]⟩:ByteArray)})) 0 V O rfl (by kernel_rfl) (by kernel_rfl) fun w4 O=>⟨(O.sub []),?_⟩);refine Ke 1 [(22,pf wb 16)] V [] (cc (⟨by omega,by omega⟩:(0:Int)<=2/\2 < ((8:Nat):Int)) c0) fun J V=>Av (mSR (off:=16) (ad:=⟨wb,16,none⟩) (vc:=[Y (⟨#[101,114,114]⟩)]) (l':=(wc {a0 with fl:=((a0.fl.set 0 (⟨#[105,110]⟩:ByteArray)).set 1 (⟨#[111,117,116]⟩:ByteArray)).set 2 (⟨#[101,114,114]⟩:ByteArray)})) 0 V O rfl (by kernel_rfl) (by kernel_rfl) fun w5 O=>⟨(O.sub []),?_⟩);refine Az (Aa (sr 13 (Ka 2 [(24,pt wb),(25,pt wb)] V fun J V=>Mk 26 V O Tryz.func24 (M7 _) fun J w6 V O=>Ag (mC (d:=(some 27)) V Tryz.func16 ((L7 nSV 0 _ (eV _) eU (hE.keep O.only) (by omega) (by omega)).mono ?_)))))
 rintro en w7 ⟨u1,x1,T1,hu1,hx1,hsm1,rfl,hW_,hG1,hXX1⟩;refine ⟨_,rfl,?_⟩;clear V J; intro J V;replace O:Ow sD Ai w _ ([(wb,46,(wc {a0 with fl:=((a0.fl.set 0 (⟨#[105,110]⟩:ByteArray)).set 1 (⟨#[111,117,116]⟩:ByteArray)).set 2 (⟨#[101,114,114]⟩:ByteArray)}))]++[]):=O.to (sP _).symm;replace O:=Ow.join O hW_; clear hW_;replace O:Ow sD Ai w _ ([(wb,46,(wc {a0 with fl:=((a0.fl.set 0 (⟨#[105,110]⟩:ByteArray)).set 1 (⟨#[111,117,116]⟩:ByteArray)).set 2 (⟨#[101,114,114]⟩:ByteArray)}))]++(T1++([]))):=O.to (by first | rfl | (simp only [TP,apd]))
 refine Ka 5 [(28,.agg #[Z u1.mo,Z u1.po,Y u1.inp,.slice u1.pj u1.lj.length u1.cj,Z u1.rd,Z u1.wr,Z u1.pv,.slice u1.pc u1.lc.length u1.cc,.slice u1.pp u1.lp.length u1.cp]),(29,.agg #[Z x1.d.call,Z x1.d.a0,Z x1.d.a1,Z x1.d.a2,.slice x1.p x1.d.data.length x1.c]),(31,pt wb)] V fun J V=>Ag (mSR (off:=0) (ad:=⟨wb,0,none⟩) (vc:=(cS u1.mo u1.po u1.inp u1.pj u1.lj.length u1.cj u1.rd u1.wr u1.pv u1.pc u1.lc.length u1.cc u1.pp u1.lp.length u1.cp)) (l':=(wc {a0 with fl:=((a0.fl.set 0 (⟨#[105,110]⟩:ByteArray)).set 1 (⟨#[111,117,116]⟩:ByteArray)).set 2 (⟨#[101,114,114]⟩:ByteArray),sv:=u1})) 0 V O rfl (by kernel_rfl) (by kernel_rfl) fun w8 O=>Ka 2 [(33,pf wb 9)] V fun J V=>Ag (mSR (off:=9) (ad:=⟨wb,9,none⟩) (vc:=[Z x1.d.call,Z x1.d.a0,Z x1.d.a1,Z x1.d.a2,.slice x1.p x1.d.data.length x1.c]) (l':=(wc {a0 with fl:=((a0.fl.set 0 (⟨#[105,110]⟩:ByteArray)).set 1 (⟨#[111,117,116]⟩:ByteArray)).set 2 (⟨#[101,114,114]⟩:ByteArray),sv:=u1,x:=x1})) 0 V O rfl (by kernel_rfl) (by kernel_rfl) fun w9 O=>Ab (Aa (wp_seq (Sa [(6,Z 0)] V fun J V=>wp_block ?_)))));replace O:Ow sD Ai w w9 ([(wb,46,(wc {a0 with fl:=((a0.fl.set 0 (⟨#[105,110]⟩:ByteArray)).set 1 (⟨#[111,117,116]⟩:ByteArray)).set 2 (⟨#[101,114,114]⟩:ByteArray),sv:=u1,x:=x1}))]++(T1++([]))):=O;obtain ⟨aS,haS⟩ : ∃ a:WV,a = {a0 with fl:=((a0.fl.set 0 (⟨#[105,110]⟩:ByteArray)).set 1 (⟨#[111,117,116]⟩:ByteArray)).set 2 (⟨#[101,114,114]⟩:ByteArray),sv:=u1,x:=x1}:=⟨_,rfl⟩;replace O:Ow sD Ai w w9 ([(wb,46,(wc aS))]++(T1++([]))):=by (rw [haS]; exact O)
 have hdS:aS.d=Md il ff:=by rw [haS]; unfold Md goW; rw [ha0]; show (⟨u1.d,x1.d,_,il,ff,0,0,[],[],[],0,-1,false,true⟩:WL)=_; rw [hu1,hx1]; rfl
 have hT1:Ya aS T1:=⟨[],[],[],T1,rfl,by rw [haS]; exact ⟨hsm1,(by show x1.d.data.length<=128; rw [hx1]; exact J2 (B8 _ _ _).2),(by rw [ha0]; exact One.nil _ _ _),(by rw [ha0]; exact (One.nil _ _ _).off),(by rw [ha0]; exact One.nil _ _ _),Ah.and hG1 hXX1,(by rw [ha0]; exact hci),(by rw [ha0]; exact hcf)⟩⟩;have hXS : ∀ w_,Only Ai w w_->WX w_ aS:=fun w_ k_=>by (rw [haS,ha0]; exact ⟨hE.keep k_,hvi.keep k_,hvf.keep k_⟩)
 have hiS:aS.il=il:=by rw [haS,ha0]
 refine Be (fun mm J W=>∃ (i:Nat) (a:WV) (m:Nat) (TL1:OwL),mm=900 - i/\Holds 48 [] J [(4,.pointer none),(5,pt wb),(6,Z ((i:Nat):Int))]/\Ow sD Ai w W ([(wb,46,(wc a))]++(TL1++([])))/\Ya a TL1/\m+i=900/\Fz m a.d=Pz il ff/\smW i a.d/\(∀ c∈a.il,c.size<=1000)/\(∀ w_,WX w_ aS->WX w_ a)/\True) ?_ ?_
 · exact ⟨_,0,aS,900,T1,rfl,V.ss,O.tt,hT1,rfl,(by rw [hdS]; rfl),(by rw [hdS]; exact smW0 _ _),(by rw [hiS]; exact hch),(fun _ h=>h),trivial⟩
 rintro _ J w10 ⟨i,a,m,TL1,rfl,V,O,hTL1,hmi,hp,hsw,hil_,hXa,-⟩;refine wp_seq (sr 9 (Ka 3 [(35,I (decide (((i:Nat):Int) < 900))),(36,I (decide (((i:Nat):Int) < 900)))] V fun J V=>?_));rcases rX (decide (((i:Nat):Int) < 900)) with h1 | h1
 · rw [h1] at V;have h1p:=rY h1;obtain ⟨m,rfl⟩ : ∃ j,m=j+1:=⟨m - 1,by omega⟩;refine Kb 6 [(42,I (decide (a.exit < 0)))] V [Z a.exit] (cc (O.l1 0 30 3 (Z a.exit)) c0) fun J V=>Ab (Aa ?_);rcases rX (decide (a.exit < 0)) with h2 | h2
   · rw [h2] at V;have h2p:=rY h2;have h2q:a.d.exit < 0:=h2p;refine cT V (wp_skip (Aa (wp_seq (wp_block (rr 2 (Ka 1 [(45,pt wb)] V fun J V=>?_))))));replace O:Ow sD Ai w w10 ([(wb,46,(wc a))]++(TL1++([]))):=O;refine Ag (mC (d:=(some 46)) V Tryz.func27 ((oZ wb a TL1 i _ (Ow.self (A:=[]) O) hTL1 (fun w_ k_=>hXa w_ (hXS w_ (Ow.pan (A:=[]) O k_))) hsw (by omega) hil_).mono ?_));rintro en w11 ⟨a2,T2,hd2,hT2,hX2,rfl,hW_⟩;refine ⟨_,rfl,?_⟩;clear V J; intro J V;replace O:=Ow.pass (A:=[]) O hW_; clear hW_;exact Ab (Ac (Aa (Rc [(6,Z (((i:Nat):Int)+1))] V [I true] (cc ((Am (by omega) (by omega)):inK .i64 (((i:Nat):Int)+1)) c0) fun J V=>Aa (⟨_,by omega,i+1,a2,m,T2,rfl,V.ss,O,hT2,(by omega),(by rw [hd2]; exact (Yz (by assumption)).symm.trans hp),(by rw [hd2]; exact hsw.step),(fun c_ h_=>hil_ c_ (dB a.d c_ (by rw [← hd2]; exact h_))),(fun w_ h_=>hX2 w_ (hXa w_ h_)),trivial⟩))))
   rw [h2] at V;have h2p:=rZ h2;have h2q : ¬ a.d.exit < 0:=h2p;refine cF V (wp_exit (Aj (Aj (An (Aa (Sa [(4,pt wb)] V fun J V=>wp_ret (cv [pt wb] V ?_)))))));replace O:Ow sD Ai w w10 ([(wb,46,(wc a))]++(TL1++([]))):=O;exact ⟨wb,a,TL1,rfl,(Su (by assumption)).symm.trans hp,hTL1,(O).to (by simp only [sP,sQ,List.cons_append])⟩
 rw [h1] at V;have h1p:=rZ h1;obtain rfl:m=0:=by omega
 refine Ka 6 [(42,I false)] V fun J V=>Ab (Aa (cF V (wp_exit (Aj (Aj (An (Aa (Sa [(4,pt wb)] V fun J V=>wp_ret (cv [pt wb] V ?_)))))))));replace O:Ow sD Ai w w10 ([(wb,46,(wc a))]++(TL1++([]))):=O;exact ⟨wb,a,TL1,rfl,hp,hTL1,(O).to (by simp only [sP,sQ,List.cons_append])⟩
def C0:Nat->ByteArray->Nat->List ByteArray
 | 0,s,_=>[s]
 | k+1,s,n=>if n < s.size then s.extract 0 n::C0 k (s.extract n s.size) n else [s]
def Fu (s:ByteArray) (n:Nat):List ByteArray:=C0 s.size s n
theorem Vb {k n:Nat} {s:ByteArray} (h:n < s.size):C0 (k+1) s n=s.extract 0 n::C0 k (s.extract n s.size) n:=by simp only [C0]; rw [if_pos h]
theorem Mq {k n:Nat} {s:ByteArray} (h : ¬ n < s.size):C0 k s n=[s]:=by
 cases k with
 | zero=>rfl
 | succ k=>simp only [C0]; rw [if_neg h]
theorem Qp {n:Nat} (hn : 1<=n) : ∀ (k:Nat) (s:ByteArray),s.size<=k->∀ c∈C0 k s n,c.size<=n
 | 0,s,h,c,hc=>by
  have:c=s:=by simpa [C0] using hc
  rw [this]; omega
 | k+1,s,h,c,hc=>by
  simp only [C0] at hc;split at hc
  · rcases List.mem_cons.1 hc with rfl | hc
    · rw [sV]; omega
    · exact Qp hn k _ (by rw [sV]; omega) c hc
  · have:c=s:=by simpa using hc
    rw [this]; omega
theorem X7 (s:ByteArray) (n:Nat) (w:World) (hn : 1<=n) (hn2:n<=1000) (hs:s.size<=100000) :
 Calls sD 11 #[Y s,Z ((n:Nat):Int)] w fun e w'=>∃ p c T,e = .returned (.slice p (Fu s n).length c)/\One fT 9 1 p c (Fu s n) T/\Ow sD Ai w w' T:=by
 refine Ao (args:=[Y s,Z ((n:Nat):Int)]) (m:=21) (n:=23) Tryz.func11 rfl (by kernel_rfl) (by kernel_rfl) fun J V=>?_;have O:=Ow.nil sD Ai w;refine Sa [(4,.slice none 0 0)] V fun J V=>Sa [(5,.slice none 0 0)] V fun J V=>wp_seq (wp_block ?_);have hT1:=One.nil fT 9 1;refine Be (fun mm J W=>∃ (s1:ByteArray) (k:Nat) (l:List ByteArray) (pL1:Option Addr) (cL1:Nat) (TL1:OwL),mm=s1.size/\Holds 23 [] J [(0,Y s1),(1,Z ((n:Nat):Int)),(4,.slice none 0 0),(5,.slice pL1 l.length cL1)]/\Ow sD Ai w W ([]++(TL1++([])))/\One fT 9 1 pL1 cL1 l TL1/\s1.size<=k/\l++C0 k s1 n=Fu s n/\l.length+s1.size<=s.size/\True) ?_ ?_
 · exact ⟨_,s,s.size,[],none,0,[],rfl,V.ss,O.tt,hT1,(Nat.le_refl _),rfl,(by show 0+s.size<=s.size; omega),trivial⟩
 rintro _ J w1 ⟨s1,k,l,pL1,cL1,TL1,rfl,V,O,hTL1,hk,hR,hl,-⟩;refine wp_seq (Sa [(9,I (decide (((s1.size:Nat):Int) > ((n:Nat):Int))))] V fun J V=>?_);rcases rX (decide (((s1.size:Nat):Int) > ((n:Nat):Int))) with h1 | h1
 · rw [h1] at V;have h1p:=rY h1;obtain ⟨k,rfl⟩ : ∃ j,k=j+1:=⟨k - 1,by omega⟩;have hze_:(s1.extract n s1.size).size=s1.size - n:=by rw [sV]; omega
   refine cT V (wp_skip (Aa (wp_block (sr 7 (Kb 4 [(10,.slice pL1 l.length cL1),(13,Y (s1.extract 0 n))] V [] (cc (⟨by omega,by omega,by omega⟩:(0:Int)<=0/\(0:Int)<=((n:Nat):Int)/\(((n:Nat):Int):Int)<=((s1.size:Nat):Int)) c0) fun J V=>Mv [Y (s1.extract 0 n)] 9 1 14 V O fun J w2 b1 V O=>?_)))));replace O:Ow sD Ai w w2 ([(b1,9,[Y (s1.extract 0 n)])]++(TL1++([]))):=O
   exact Ag (mA (f:=fT) (el:=9) (sz:=1) (bytes:=16) (p:=pL1) (c:=cL1) (l:=l) (l':=([s1.extract 0 n]:List ByteArray)) (T:=TL1) (t:=30) (tx:=30) (ty:=30) (x:= .slice (some ⟨b1,0,none⟩) 1 1) (d:=15) [(b1,9,[Y (s1.extract 0 n)])] ([]) Jo V O hTL1 (Vw.src (e':=9) Jo ((O.b 0).vw (off:=0) (xs:=([s1.extract 0 n]:List ByteArray)) (by kernel_rfl)) (by kernel_rfl)) (by first | omega | (simp only [sF,sG,sH]; omega)) (by unfold maxLen; first | omega | (simp only [sF,sG,sH]; omega)) fun J w3 p1 c1 T2 V O hT2=>Ka 1 [(5,.slice p1 ((l++([s1.extract 0 n]:List ByteArray)).length) c1)] V fun J V=>Ab (Aa (Rc [(0,Y (s1.extract n s1.size))] V [] (cc (⟨by omega,by omega,by omega⟩:(0:Int)<=((n:Nat):Int)/\(((n:Nat):Int):Int)<=((s1.size:Nat):Int)/\(((s1.size:Nat):Int):Int)<=((s1.size:Nat):Int)) c0) fun J V=>Ac (Aa (⟨_,by omega,s1.extract n s1.size,k,l++([s1.extract 0 n]:List ByteArray),p1,c1,T2,rfl,V.ss,(Ow.subP (A:=[_]) O (.cons _ .slnil)),hT2,(by rw [sV]; omega),(by rw [sL]; exact (congrArg (l++·) (Vb (by omega)).symm).trans hR),(by rw [sF,sV]; show l.length+1+_<=_; omega),trivial⟩)))))
 rw [h1] at V;have h1p:=rZ h1;refine cF V (wp_exit (Aj (Aj (An (Aa (sr 5 (Ka 2 [(19,.slice pL1 l.length cL1),(20,Y s1)] V fun J V=>Mv [Y s1] 9 1 21 V O fun J w4 b2 V O=>Ag (mA (f:=fT) (el:=9) (sz:=1) (bytes:=16) (p:=pL1) (c:=cL1) (l:=l) (l':=([s1]:List ByteArray)) (T:=TL1) (t:=30) (tx:=30) (ty:=30) (x:= .slice (some ⟨b2,0,none⟩) 1 1) (d:=22) [(b2,9,[Y s1])] ([]) Jo V O hTL1 (Vw.src (e':=9) Jo ((O.b 0).vw (off:=0) (xs:=([s1]:List ByteArray)) (by kernel_rfl)) (by kernel_rfl)) (by first | omega | (simp only [sF,sG,sH]; omega)) (by unfold maxLen; first | omega | (simp only [sF,sG,sH]; omega)) fun J w5 p2 c2 T3 V O hT3=>Ka 1 [(4,.slice p2 ((l++([s1]:List ByteArray)).length) c2)] V fun J V=>Ab (Aa (wp_ret (cv [.slice p2 ((l++([s1]:List ByteArray)).length) c2] V ?_)))))))))));rw [show l++([s1]:List ByteArray)=Fu s n from (congrArg (l++·) (Mq (by omega)).symm).trans hR] at hT3;exact ⟨_,_,_,(by rw [← show l++([s1]:List ByteArray)=Fu s n from (congrArg (l++·) (Mq (by omega)).symm).trans hR]; rfl),hT3,((Ow.subP (A:=[_]) O (.cons _ .slnil))).to (by simp only [sQ,sP])⟩
open Go Go.RowKit Go.Proofs.Sx
theorem eO:A5 Gi=({Gi with mode:=1},Ap 9 0 80):=D7 rfl rfl (by decide)
theorem eA (inp:List ByteArray) (fails:List Int):Md inp fails=⟨{Gi with mode:=1},Ap 9 0 80,fl0,inp,fails,0,0,[],[],[],0,-1,false,true⟩:=by
 have e:Bf Gi 0 []=({Gi with mode:=1},Ap 9 0 80):=by
  rw [Jb (by rfl)]
  exact eO
 unfold Md goW
 simp only
 rw [e]
theorem O4 {n:Nat} (hn : 1<=n) : ∀ (k:Nat) (s:ByteArray),s.size<=k->O8 (C0 k s n)=s
 | 0,s,h=>Ry s
 | k+1,s,h=>by
  simp only [C0]
  split
  · rename_i hlt
    show s.extract 0 n++O8 (C0 k (s.extract n s.size) n)=s
    rw [O4 hn k _ (by rw [sV]; omega)]
    apply Dm
    rw [ByteArray.data_append,Array.toList_append,C2,C2,List.drop_zero,Nat.sub_zero,List.take_of_length_le (l:=s.data.toList.drop n) (by rw [List.length_drop,Ar]; exact Nat.le_refl _),List.take_append_drop]
  · exact Ry s
theorem O3 {n:Nat} (hn : 1<=n) : ∀ (k:Nat) (s:ByteArray),s.size<=k->0 < s.size->∀ c∈C0 k s n,0 < c.size
 | 0,s,h,h0=>by omega
 | k+1,s,h,h0=>by
  intro c hc
  simp only [C0] at hc
  split at hc
  · rcases List.mem_cons.1 hc with rfl | hc
    · rw [sV]; omega
    · exact O3 hn k _ (by rw [sV]; omega) (by rw [sV]; omega) c hc
  · have:c=s:=by simpa using hc
    rw [this]; exact h0
open Go Go.RowKit Go.Proofs.Sx
theorem oQ : ∀ (l:List UInt8) (c:UInt8),(∀ x∈l,x≠c)->Lib.indexByte l c = -1
 | [],_,_=>rfl
 | y::l,c,h=>by
  have h1:=oQ l c fun x hx=>h x (sS _ hx)
  simp only [Lib.indexByte]
  rw [if_neg (by simpa using h y (sM ..)),h1]
  rfl
theorem gH : ∀ (l:List UInt8) (c:UInt8),(∀ x∈l,x≠c)->Lib.indexByte (l++[c]) c=(l.length:Int)
 | [],c,_=>by simp [Lib.indexByte]
 | y::l,c,h=>by
  have h1:=gH l c fun x hx=>h x (sS _ hx)
  rw [List.cons_append]
  simp only [Lib.indexByte]
  rw [if_neg (by simpa using h y (sM ..)),h1,if_neg (by simp)]
  rfl
def nlB:ByteArray:=⟨#[10]⟩
def kR (s:ByteArray):Prop:=∀ x∈s.data.toList,x≠10
theorem Kz (a b:ByteArray):(a++b).data.toList=a.data.toList++b.data.toList:=by rw [ByteArray.data_append,Array.toList_append]
theorem qC {s a b:ByteArray} (h:kR s) (e:a++b=s++nlB) (hb : 0 < b.size):nlI a < 0:=by
 have e1:a.data.toList++b.data.toList=s.data.toList++[10]:=by rw [← Kz,e,Kz]; rfl
 have hl:=congrArg List.length e1
 rw [sF,sF,List.length_singleton,Ar b] at hl
 have h2:a.data.toList=s.data.toList.take a.data.toList.length:=by
  have:=congrArg (List.take a.data.toList.length) e1
  rw [List.take_left,List.take_append_of_le_length (by omega)] at this
  exact this
 unfold nlI
 rw [oQ _ _ fun x hx=>h x (by rw [h2] at hx; exact List.mem_of_mem_take hx)]
 decide
theorem Y6 {s:ByteArray} (h:kR s):nlI (s++nlB)=(s.size:Int):=by
 unfold nlI
 rw [Kz]
 show Lib.indexByte (s.data.toList++[10]) 10=_
 rw [gH _ _ h,Ar]
theorem mU (s:ByteArray):s.extract 0 s.size=s:=by
 apply Dm
 rw [C2,List.drop_zero,Nat.sub_zero,List.take_of_length_le (by rw [Ar]; exact Nat.le_refl _)]
def stR (p:ByteArray):StL:={Gi with mode:=1,inp:=p}
def stI (p:ByteArray):StL:={Gi with inp:=p}
theorem Sn {s:ByteArray} (h10:kR s) (hs:s.size<=200) : ∀ (cs:List ByteArray) (p:ByteArray) (w:WL),cs≠[]->p++O8 cs=s++nlB->(∀ c∈cs,0 < c.size)->w.exit < 0->w.inp=cs->w.leak=false->Bx w.fl=true->Bq (stR p)=true ->
 Rch cs.length (Bi w (stR p,Ap 9 0 80)) (Bi {w with inp:=[]} (A5 (stI (s++nlB))))/\Pt (stI (s++nlB))
 | [],p,w,hne,_,_,_,_,_,_,_=>absurd rfl hne
 | c::r,p,w,_,hcat,hpos,hex,hinp,hlk,hpl,hv=>by
  have hc:=hpos c (sM ..)
  have hcat':p++c++O8 r=s++nlB:=by rw [← hcat,L6]; rfl
  have hsz:=congrArg ByteArray.size hcat'
  rw [sU,sU,sU] at hsz
  have hn1:nlB.size=1:=rfl
  have est:Bb (stR p) (c.size:Int) (sI c)=A5 (stI (p++c)):=by
   rw [oG rfl]
   unfold E7
   rw [if_pos (by omega)]
   have e1:bsI (((sI c).take (min (c.size:Int).toNat (sI c).length)).take (300 - (stR p).inp.size))=c:=by
    have h1:(sI c).take (min (c.size:Int).toNat (sI c).length)=sI c:=List.take_of_length_le (by rw [Fc]; omega)
    rw [h1,List.take_of_length_le (by rw [Fc]; show c.size<=300 - p.size; omega),X9]
   rw [e1]
   exact Eu (s:=stI (p++c)) (by rfl) 1
  have hst:Ba (Bi w (stR p,Ap 9 0 80))=Bi {w with inp:=r} (A5 (stI (p++c))):=by
   rw [jH (w:=Bi w (stR p,Ap 9 0 80)) rfl hinp,Lx (w:=Bi w (stR p,Ap 9 0 80)) hlk hpl,H1 hv]
   show Bi _ (Bb (stR p) (c.size:Int) (sI c))=_
   rw [est]
   rfl
  have hrun:Rch 1 (Bi w (stR p,Ap 9 0 80)) (Ba (Bi w (stR p,Ap 9 0 80))):=Rch.one hex
  rw [hst] at hrun
  have hv2:Bq (A5 (stI (p++c))).1=true:=by
   have:=Eo hv (c.size:Int) (sI c)
   rwa [est] at this
  cases r with
  | nil =>
   have e2:p++c=s++nlB:=by rw [← hcat']; exact (Ry _).symm
   rw [e2] at hrun hv2
   exact ⟨hrun,hv2,by rfl⟩
  | cons d r =>
   have hd:=hpos d (by simp)
   have hnl:nlI (p++c) < 0:=qC h10 hcat' (by show 0 < (d++O8 r).size; rw [sU]; omega)
   have e3:A5 (stI (p++c))=(stR (p++c),Ap 9 0 80):=Nv (s:=stI (p++c)) rfl rfl hnl
   rw [e3] at hrun hv2
   obtain ⟨h1,h2⟩:=Sn h10 hs (d::r) (p++c) {w with inp:=d::r} (by simp) hcat' (fun x hx=>hpos x (sS _ hx)) hex rfl hlk hpl hv2
   have:=hrun.trans h1
   rw [Nat.add_comm] at this
   exact ⟨this,h2⟩
theorem Z5 : ∀ (cs:List ByteArray),(∀ c∈cs,0 < c.size)->cs.length<=(O8 cs).size
 | [],_=>Nat.zero_le _
 | c::r,h=>by
  have h1:=h c (sM ..)
  have h2:=Z5 r fun x hx=>h x (sS _ hx)
  show r.length+1<=(c++O8 r).size
  rw [sU]
  omega
def ex0:EX:=⟨[],[],0,0,0⟩
theorem fL {l:List JobL} {s:ByteArray} (hp:Dy false s = .ok l) (h10:kR s) (hv:Aq l=true) (hne : ∀ j∈l,j.cmds≠[]) (hc:nC l<=15) (hs:s.size<=200) {cs:List ByteArray} (hcat:O8 cs=s++nlB) (hpos : ∀ c∈cs,0 < c.size) (fails:List Int) :
 Fin (fails=[]) (Pz cs fails) (B4 l ex0).1 (B4 l ex0).2:=by
 have hcne:cs≠[]:=fun h=>by
  rw [h] at hcat
  have:=congrArg ByteArray.size hcat
  rw [sU] at this
  have h1:nlB.size=1:=rfl
  have h2:(O8 []).size=0:=rfl
  omega
 have e0:Md cs fails=Bi ⟨Gi,Ap 0 0 0,fl0,cs,fails,0,0,[],[],[],0,-1,false,true⟩ (stR ⟨#[]⟩,Ap 9 0 80):=eA cs fails
 obtain ⟨h1,h2⟩:=Sn h10 hs cs ⟨#[]⟩ ⟨Gi,Ap 0 0 0,fl0,cs,fails,0,0,[],[],[],0,-1,false,true⟩ hcne (by rw [hcat]; apply Dm; rw [Kz]; rfl) hpos (show (-1:Int) < 0 by decide) rfl rfl (show Bx fl0=true by decide) (by rfl)
 rw [← e0] at h1
 have eS:A5 (stI (s++nlB))=A5 (stP l 0 (-1) [] (-1) (-1) []):=by
  have hn : ¬ nlI (stI (s++nlB)).inp < 0:=by show ¬ nlI (s++nlB) < 0; rw [Y6 h10]; omega
  rw [V1 (by rfl) rfl rfl hn]
  have e1:(nlI (stI (s++nlB)).inp).toNat=s.size:=by show (nlI (s++nlB)).toNat=_; rw [Y6 h10]; omega
  rw [e1]
  have e2:Dy false ((stI (s++nlB)).inp.extract 0 s.size) = .ok l:=by
   show Dy false ((s++nlB).extract 0 s.size)=_
   rw [mR (Nat.le_refl _),mU,hp]
  have e3:(s++nlB).extract (s.size+1) (s++nlB).size=⟨#[]⟩:=by
   apply ba_e
   rw [sV,sU]
   have h1:nlB.size=1:=rfl
   omega
  unfold C3
  rw [e2]
  show A5 {stI (s++nlB) with inp:=(s++nlB).extract (s.size+1) (s++nlB).size,jobs:=l}=_
  rw [e3]
  rfl
 rw [eS] at h1
 have hP:Pt (stP l 0 (-1) [] (-1) (-1) []):=⟨by rw [← eS]; exact h2.v,hv⟩
 obtain ⟨n,w',u1,u2,u3⟩:=Ob (F:=fails=[]) l {(⟨Gi,Ap 0 0 0,fl0,cs,fails,0,0,[],[],[],0,-1,false,true⟩:WL) with inp:=[]} ex0 hne
  ⟨mF inN F0,fun _=>⟨fun h=>absurd h (by decide),fun h=>absurd h (by decide),fun h=>absurd rfl h⟩,by decide,rfl,rfl,(show (-1:Int) < 0 by decide),rfl,by show (0:Int)<=0/\(0:Int)+(nC l:Int)<=15; omega,fun t ht=>absurd ht sN,List.Pairwise.nil,fun t ht=>absurd ht sN,fun h=>absurd rfl h,List.Sublist.refl _,fun r hr=>absurd hr sN,
   fun q=>⟨q,rfl,rfl,rfl,rfl,(show (0:Int)<=0 - ((0:Nat):Int) by decide),rfl,fun i=>Int.le_refl _⟩⟩ hP
 have hlen:=Z5 cs hpos
 rw [hcat,sU] at hlen
 have hn1:nlB.size=1:=rfl
 have hu:n<=0+8*nC l+2:=u2
 have:=(h1.trans u1).play (m:=900) (by omega) u3.ex
 unfold Pz
 rw [this]
 exact u3
open Go Go.RowKit Go.Proofs.Sx
abbrev Tk:=Nat×List UInt8
def pB (c:UInt8):Bool:=Bc (c.toNat:Int)
def hB (p:UInt8->Bool):List UInt8->Bool
 | []=>false
 | x::_=>p x
def nX (c:UInt8):List Tk->List Tk
 | []=>[(1,[c])]
 | t::r=>(t.1,c::t.2)::r
def D5:Bool->List UInt8->List Tk
 | _,[]=>[]
 | true,_::r=>D5 false r
 | false,c::r =>
  if Dk (c.toNat:Int)=true then D5 false r
  else if pB c=true then (if hB pB r=true then nX c (D5 false r) else (1,[c])::D5 false r)
  else if c=62 then (if hB (· == 62) r=true then (4,[])::D5 true r else (3,[])::D5 false r)
  else if c=60 then (2,[])::D5 false r
  else if c=59 then (5,[])::D5 false r
  else if c=38 then (6,[])::D5 false r
  else if c=124 then (7,[])::D5 false r
  else [(8,[])]
def Cn (l:List UInt8):List Tk:=D5 false l
def TL (s:ByteArray) (n:Nat):List Tk:=Cn (s.data.toList.drop n)
section
variable {s:ByteArray} {n:Nat}
theorem Hf (h:n < s.size) : ∃ c,s.data.toList.drop n=c::s.data.toList.drop (n+1)/\sb s n=(c.toNat:Int):=by
 have hl:n < s.data.toList.length:=by rw [Ar]; exact h
 refine ⟨s.data.toList[n],List.drop_eq_getElem_cons hl,?_⟩
 unfold sb
 rw [List.getD_eq_getElem?_getD,List.getElem?_eq_getElem hl]; rfl
theorem rV (h : ¬ n < s.size):TL s n=[]:=by
 unfold TL
 rw [List.drop_eq_nil_of_le (by rw [Ar]; omega)]; rfl
theorem jD (h:n < s.size) (hb:Dk (sb s n)=true):TL s n=TL s (n+1):=by
 obtain ⟨c,hc,hs⟩:=Hf h
 unfold TL Cn
 rw [hc]
 simp only [D5]
 rw [if_pos (by rw [← hs]; exact hb)]
theorem jB (s:ByteArray) : ∀ (k n:Nat),s.size - n<=k->TL s (sk s n)=TL s n
 | 0,n,h=>by rw [Jc (by omega)]
 | k+1,n,h=>by
  by_cases hb:n < s.size/\Dk (sb s n)=true
  · rw [M4 hb.1 hb.2,jB s k (n+1) (by omega),jD hb.1 hb.2]
  · rw [Jc hb]
theorem G4 {c:Int} (h:Bc c=true):Dk c=false:=by
 have:=N5 h
 unfold Dk; exact sB (by omega)
theorem gL (p:UInt8->Bool) (n:Nat):hB p (s.data.toList.drop n)=true↔∃ c:UInt8,n < s.size/\sb s n=(c.toNat:Int)/\p c=true:=by
 by_cases h:n < s.size
 · obtain ⟨c,hc,hs⟩:=Hf h
   rw [hc]
   refine ⟨fun q=>⟨c,h,hs,q⟩,fun ⟨d,_,hd,q⟩=>?_⟩
   have:c=d:=UInt8.toNat_inj.1 (by omega)
   subst this; exact q
 · rw [List.drop_eq_nil_of_le (by rw [Ar]; omega)]
   constructor
   · intro q; cases q
   · intro ⟨_,q,_⟩; exact absurd q h
theorem nY (s:ByteArray) : ∀ (k n:Nat),wl s n=k+1->TL s n=(1,(s.data.toList.drop n).take (k+1))::TL s (n+(k+1)):=by
 intro k
 induction k with
 | zero =>
  intro n h
  have h1:=Jy.1 (show 0 < wl s n by omega)
  have h2 : ¬ (n+1 < s.size/\Bc (sb s (n+1))=true):=fun q=>by have:=M0 h1.1 h1.2; have:=Jy.2 q; omega
  obtain ⟨c,hc,hs⟩:=Hf h1.1
  have hp:pB c=true:=by unfold pB; rw [← hs]; exact h1.2
  unfold TL Cn
  rw [hc]
  simp only [D5]
  rw [if_neg (by rw [← hs,G4 h1.2]; simp),if_pos hp,if_neg (fun q=>by obtain ⟨d,hd,hs2,hp2⟩:=(gL pB (n+1)).1 q; exact h2 ⟨hd,by rw [hs2]; exact hp2⟩)]
  rfl
 | succ k ih =>
  intro n h
  have h1:=Jy.1 (show 0 < wl s n by omega)
  have h3:wl s (n+1)=k+1:=by have:=M0 h1.1 h1.2; omega
  have h2:=Jy.1 (show 0 < wl s (n+1) by omega)
  obtain ⟨c,hc,hs⟩:=Hf h1.1
  obtain ⟨d,_,hs2⟩:=Hf h2.1
  have hp:pB c=true:=by unfold pB; rw [← hs]; exact h1.2
  have hi:=ih (n+1) h3
  unfold TL Cn at hi ⊢
  rw [hc]
  simp only [D5]
  rw [if_neg (by rw [← hs,G4 h1.2]; simp),if_pos hp,if_pos ((gL pB (n+1)).2 ⟨d,h2.1,hs2,by unfold pB; rw [← hs2]; exact h2.2⟩),hi]
  simp only [nX,List.take_succ_cons,show n+1+(k+1)=n+(k+1+1) by omega]
theorem Z9 (hb : ¬ (n < s.size/\Dk (sb s n)=true)):(kd s n=0/\TL s n=[])\/(kd s n=8/\TL s n=[(8,[])])\/(kd s n=1/\TL s n=(1,(tk s n).data.toList)::TL s (nx s n))\/(kd s n≠0/\kd s n≠8/\kd s n≠1/\TL s n=(kd s n,[])::TL s (nx s n)):=by
 have hnx:TL s (nx s n)=TL s (n+tl s n):=jB s _ _ (Nat.le_refl _)
 rw [hnx]
 have hk:=Dv s n
 rcases Dq s n with ⟨h,h1⟩ | ⟨h,h1,h2⟩ | ⟨hn,hp,h⟩
 · exact .inl ⟨h,rV h1⟩
 · refine .inr (.inr (.inl ⟨h,?_⟩))
   obtain ⟨k,hw⟩ : ∃ k,wl s n=k+1:=⟨wl s n - 1,by have:=Jy.2 ⟨h1,h2⟩; omega⟩
   have ht:tl s n=k+1:=by omega
   rw [nY s k n hw,show n+tl s n=n+(k+1) by omega]
   unfold tk
   rw [C2,show n+tl s n - n=k+1 by omega]
 · obtain ⟨c,hc,hs⟩:=Hf hn
   have e0 : ¬ Dk (c.toNat:Int)=true:=fun q=>hb ⟨hn,by rw [hs]; exact q⟩
   have e1 : ¬ pB c=true:=by unfold pB; rw [← hs,hp]; simp
   have eq (x:UInt8):sb s n=(x.toNat:Int)↔c=x:=by
    rw [hs]
    exact ⟨fun q=>UInt8.toNat_inj.1 (by omega),fun q=>by rw [q]⟩
   have q62:=eq 62; have q60:=eq 60; have q59:=eq 59; have q38:=eq 38; have q124:=eq 124
   simp only [show (62:UInt8).toNat=62 from rfl,show (60:UInt8).toNat=60 from rfl,show (59:UInt8).toNat=59 from rfl,show (38:UInt8).toNat=38 from rfl,show (124:UInt8).toNat=124 from rfl] at q62 q60 q59 q38 q124
   have step:TL s n=(if c=62 then (if hB (· == 62) (s.data.toList.drop (n+1))=true then (4,[])::D5 true (s.data.toList.drop (n+1)) else (3,[])::D5 false (s.data.toList.drop (n+1)))
    else if c=60 then (2,[])::D5 false (s.data.toList.drop (n+1)) else if c=59 then (5,[])::D5 false (s.data.toList.drop (n+1)) else if c=38 then (6,[])::D5 false (s.data.toList.drop (n+1)) else if c=124 then (7,[])::D5 false (s.data.toList.drop (n+1)) else [(8,[])]):=by
    unfold TL Cn
    rw [hc]
    simp only [D5]
    rw [if_neg e0,if_neg e1]
   have h62:hB (· == 62) (s.data.toList.drop (n+1))=true↔n+1 < s.size/\sb s (n+1)=62:=by
    rw [gL]
    constructor
    · rintro ⟨d,h1,h2,h3⟩
      have:d=62:=by simpa using h3
      subst this; exact ⟨h1,h2⟩
    · rintro ⟨h1,h2⟩; exact ⟨62,h1,h2,rfl⟩
   rcases h with ⟨h,g⟩ | ⟨h,g,g2⟩ | ⟨h,g,g2⟩ | ⟨h,g⟩ | ⟨h,g⟩ | ⟨h,g⟩ | ⟨h,g⟩
   · refine .inr (.inr (.inr ⟨by omega,by omega,by omega,?_⟩))
     have hc':=q60.1 (by omega)
     rw [step,h,show tl s n=1 by omega,if_neg (by rw [hc']; decide),if_pos hc']; rfl
   · refine .inr (.inr (.inr ⟨by omega,by omega,by omega,?_⟩))
     rw [step,h,show tl s n=1 by omega,if_pos (q62.1 (by omega)),if_neg (fun q=>g2 (h62.1 q))]; rfl
   · refine .inr (.inr (.inr ⟨by omega,by omega,by omega,?_⟩))
     rw [step,h,show tl s n=2 by omega,if_pos (q62.1 (by omega)),if_pos (h62.2 g2)]
     obtain ⟨d,hd,_⟩:=Hf g2.1
     unfold TL Cn
     rw [hd]; rfl
   · refine .inr (.inr (.inr ⟨by omega,by omega,by omega,?_⟩))
     have hc':=q59.1 (by omega)
     rw [step,h,show tl s n=1 by omega,if_neg (by rw [hc']; decide),if_neg (by rw [hc']; decide),if_pos hc']; rfl
   · refine .inr (.inr (.inr ⟨by omega,by omega,by omega,?_⟩))
     have hc':=q38.1 (by omega)
     rw [step,h,show tl s n=1 by omega,if_neg (by rw [hc']; decide),if_neg (by rw [hc']; decide),if_neg (by rw [hc']; decide),if_pos hc']; rfl
   · refine .inr (.inr (.inr ⟨by omega,by omega,by omega,?_⟩))
     have hc':=q124.1 (by omega)
     rw [step,h,show tl s n=1 by omega,if_neg (by rw [hc']; decide),if_neg (by rw [hc']; decide),if_neg (by rw [hc']; decide),if_neg (by rw [hc']; decide),if_pos hc']; rfl
   · refine .inr (.inl ⟨h,?_⟩)
     rw [step,if_neg (fun q=>by have:=q62.2 q; omega),if_neg (fun q=>by have:=q60.2 q; omega),if_neg (fun q=>by have:=q59.2 q; omega),if_neg (fun q=>by have:=q38.2 q; omega),if_neg (fun q=>by have:=q124.2 q; omega)]
end
open Go Go.RowKit Go.Proofs.Sx
def bT (l:List UInt8):ByteArray:=⟨l.toArray⟩
theorem oX (s:ByteArray):bT s.data.toList=s:=by cases s; simp [bT]
def hK:List Tk->Nat
 | []=>0
 | t::_=>t.1
def Jp:List Tk->Except Int (ByteArray×List Tk)
 | []=> .error 3
 | t::r=>if t.1≠1 then .error 3 else if 60 < t.2.length then .error 6 else .ok (bT t.2,r)
def Hu (c:CmdL) (k:Nat) (r:List Tk):Except Int (CmdL×List Tk) :=
 if (k=2/\c.inp.size≠0)\/(k≠2/\c.out.size≠0) then .error 3
 else match Jp r with
  | .error e=> .error e
  | .ok (w,r')=> .ok (if k=2 then ⟨c.words,w,c.out,c.app⟩ else ⟨c.words,c.inp,w,decide (k=4)⟩,r')
def D0:Nat->CmdL->List Tk->Except Int (CmdL×List Tk)
 | 0,c,T=> .ok (c,T)
 | k+1,c,T =>
  if hK T=1 then
   if c.words.length=4 then .error 6
   else match Jp T with
    | .error e=> .error e
    | .ok (w,r)=>D0 k ⟨c.words++[w],c.inp,c.out,c.app⟩ r
  else if hK T=2\/hK T=3\/hK T=4 then
   match Hu c (hK T) T.tail with
    | .error e=> .error e
    | .ok (c',r)=>D0 k c' r
  else if c.words.length=0 then .error 3 else .ok (c,T)
def NB (s:ByteArray) (n:Nat):Prop:=¬ (n < s.size/\Dk (sb s n)=true)
def eP {α:Type} (s:ByteArray):PR α->Except Int (α×List Tk)
 | .error e=> .error e.2
 | .ok v=> .ok (v.1,TL s v.2)
section
variable {s:ByteArray} {n:Nat}
theorem jF (s:ByteArray) : ∀ (k n:Nat),s.size - n<=k->NB s (sk s n)
 | 0,n,h=>by rw [Jc (by omega)]; intro q; omega
 | k+1,n,h=>by
  by_cases hb:n < s.size/\Dk (sb s n)=true
  · rw [M4 hb.1 hb.2]; exact jF s k (n+1) (by omega)
  · rw [Jc hb]; exact hb
theorem Ve (s:ByteArray) (n:Nat):NB s (nx s n):=jF s _ _ (Nat.le_refl _)
theorem Ui (h:NB s n):hK (TL s n)=kd s n:=by
 rcases Z9 h with ⟨h1,h2⟩ | ⟨h1,h2⟩ | ⟨h1,h2⟩ | ⟨_,_,h1,h2⟩
 · rw [h2,h1]; rfl
 · rw [h2,h1]; rfl
 · rw [h2,h1]; rfl
 · rw [h2]; rfl
theorem Rz (h:NB s n):eP s (Cw s n)=Jp (TL s n):=by
 unfold Cw
 rcases Z9 h with ⟨h1,h2⟩ | ⟨h1,h2⟩ | ⟨h1,h2⟩ | ⟨_,_,h1,h2⟩ <;> rw [h2]
 · rw [if_pos (by omega)]; rfl
 · rw [if_pos (by omega)]; rfl
 · rw [if_neg (by omega)]
   simp only [Jp]
   rw [if_neg (show ¬ (1:Nat)≠1 by simp),Ar,Ef,oX]
   split <;> rfl
 · rw [if_pos h1]
   simp only [Jp]
   rw [if_pos h1]; rfl
theorem Yf {w:ByteArray} {m:Nat} (h:Cw s n = .ok (w,m)):NB s m:=by
 unfold Cw at h
 split at h
 · cases h
 · split at h
   · cases h
   · cases h; exact Ve s n
theorem M2 (h:NB s n) (hk:kd s n≠0/\kd s n≠8):(TL s n).tail=TL s (nx s n):=by
 rcases Z9 h with ⟨h1,h2⟩ | ⟨h1,h2⟩ | ⟨h1,h2⟩ | ⟨_,_,h1,h2⟩
 · omega
 · omega
 · rw [h2]; rfl
 · rw [h2]; rfl
theorem aH {c:CmdL} (h:NB s n) (hk:kd s n≠0/\kd s n≠8):eP s (Bn s c n)=Hu c (kd s n) (TL s n).tail:=by
 unfold Bn Hu
 split
 · rfl
 · rw [M2 h hk,← Rz (Ve s n)]
   cases Cw s (nx s n) with
   | error e=>rfl
   | ok q=>rfl
theorem dO {c v:CmdL} {m:Nat} (h:Bn s c n = .ok (v,m)):NB s m:=by
 unfold Bn at h
 split at h
 · cases h
 · cases hw:Cw s (nx s n) with
   | error e=>rw [hw] at h; cases h
   | ok q=>rw [hw] at h; cases h; exact Yf hw
theorem Nb (s:ByteArray) : ∀ (k:Nat) (c:CmdL) (n:Nat),NB s n->eP s (Ed false s k c n)=D0 k c (TL s n)/\∀ v m,Ed false s k c n = .ok (v,m)->NB s m
 | 0,c,n,h=>⟨rfl,fun v m e=>by cases e; exact h⟩
 | k+1,c,n,h=>by
  have hk:=Ui h
  simp only [Ed,D0]
  rw [hk]
  by_cases h1:kd s n=1
  · rw [if_pos h1,if_pos h1]
    by_cases hl:c.words.length=4
    · rw [if_pos hl,if_pos hl]; exact ⟨rfl,fun v m e=>by cases e⟩
    · rw [if_neg hl,if_neg hl,← Rz h]
      cases hw:Cw s n with
      | error e=>exact ⟨rfl,fun v m e=>by cases e⟩
      | ok q=>obtain ⟨u,m⟩:=q; exact Nb s k _ m (Yf hw)
  · rw [if_neg h1,if_neg h1]
    by_cases h2:kd s n=2\/kd s n=3\/kd s n=4
    · rw [if_pos ⟨h2,fun q=>by cases q.1⟩,if_pos h2,← aH h (by omega)]
      cases hw:Bn s c n with
      | error e=>exact ⟨rfl,fun v m e=>by cases e⟩
      | ok q=>obtain ⟨u,m⟩:=q; exact Nb s k _ m (dO hw)
    · rw [if_neg (fun q=>h2 q.1),if_neg h2]
      split
      · exact ⟨rfl,fun v m e=>by cases e⟩
      · exact ⟨rfl,fun v m e=>by cases e; exact h⟩
theorem lX (h:NB s n) (h7:kd s n≠0/\kd s n≠8):hK (TL s n).tail=kd s (nx s n):=by rw [M2 h h7,Ui (Ve s n)]
end
def Lz (F:Nat):Nat->List CmdL->List Tk->Except Int (List CmdL×List Tk)
 | 0,l,T=> .ok (l,T)
 | k+1,l,T =>
  if hK T=7 then
   if l.length=4/\Da (hK T.tail)=true then .error 6
   else match D0 F Fh T.tail with
    | .error e=> .error e
    | .ok (c,r)=>Lz F k (l++[c]) r
  else .ok (l,T)
def Ho (F:Nat) (T:List Tk):Except Int (List CmdL×List Tk) :=
 match D0 F Fh T with
 | .error e=> .error e
 | .ok (c,r)=>Lz F F [c] r
def Fj (F:Nat):Nat->List JobL->List Tk->Except Int (List JobL)
 | 0,l,_=> .ok l
 | k+1,l,T =>
  if T.isEmpty=true then .ok l
  else if l.length=8/\Da (hK T)=true then .error 6
  else match Ho F T with
   | .error e=> .error e
   | .ok (cs,r) =>
    if hK r=0 then .ok (l++[⟨cs,decide (hK r=6)⟩])
    else if hK r=5\/hK r=6 then Fj F k (l++[⟨cs,decide (hK r=6)⟩]) r.tail
    else .error 3
def eL:Except (Nat×Int) (List JobL)->Except Int (List JobL)
 | .error e=> .error e.2
 | .ok v=> .ok v
section
variable {s:ByteArray} {n:Nat}
theorem Zg (s:ByteArray) : ∀ (k:Nat) (l:List CmdL) (n:Nat),NB s n->eP s (Gm false s k l n)=Lz (s.size+1) k l (TL s n)/\∀ v m,Gm false s k l n = .ok (v,m)->NB s m
 | 0,l,n,h=>⟨rfl,fun v m e=>by cases e; exact h⟩
 | k+1,l,n,h=>by
  simp only [Gm,Lz]
  rw [Ui h]
  by_cases h7:kd s n=7
  · rw [if_pos h7,if_pos h7,lX h (by omega),M2 h (by omega)]
    by_cases hl:l.length=4/\Da (kd s (nx s n))=true
    · rw [if_pos hl,if_pos hl]; exact ⟨rfl,fun v m e=>by cases e⟩
    · rw [if_neg hl,if_neg hl]
      obtain ⟨q1,q2⟩:=Nb s (s.size+1) Fh (nx s n) (Ve s n)
      rw [← q1]
      show eP s (match Ed false s (s.size+1) Fh (nx s n) with | .error e=> .error e | .ok (c,m)=>Gm false s k (l++[c]) m)=_/\_
      cases hc:Ed false s (s.size+1) Fh (nx s n) with
      | error e=>exact ⟨rfl,fun v m e=>by simp only [H7,hc] at e; cases e⟩
      | ok q =>
       obtain ⟨c,m⟩:=q
       obtain ⟨q3,q4⟩:=Zg s k (l++[c]) m (q2 _ _ hc)
       refine ⟨q3,fun v m' e=>?_⟩
       simp only [H7,hc] at e
       exact q4 v m' e
  · rw [if_neg h7,if_neg h7]; exact ⟨rfl,fun v m e=>by cases e; exact h⟩
theorem gF (h:NB s n):eP s (G8 false s n)=Ho (s.size+1) (TL s n)/\∀ v m,G8 false s n = .ok (v,m)->NB s m:=by
 obtain ⟨q1,q2⟩:=Nb s (s.size+1) Fh n h
 unfold G8 Ho H7
 rw [← q1]
 cases hc:Ed false s (s.size+1) Fh n with
 | error e=>exact ⟨rfl,fun v m e=>by cases e⟩
 | ok q=>obtain ⟨c,m⟩:=q; exact Zg s _ _ m (q2 _ _ hc)
theorem jC (h:NB s n):(TL s n).isEmpty=decide (¬ n < s.size):=by
 have hk:=Dq s n
 rcases Z9 h with ⟨h1,h2⟩ | ⟨h1,h2⟩ | ⟨h1,h2⟩ | ⟨_,_,_,h2⟩ <;> rw [h2]
 · exact (sA (by omega)).symm
 · exact (sB (by omega)).symm
 · exact (sB (by omega)).symm
 · exact (sB (by omega)).symm
theorem Ty (s:ByteArray) : ∀ (k:Nat) (l:List JobL) (n:Nat),NB s n->eL (Dz false s k l n)=Fj (s.size+1) k l (TL s n)
 | 0,l,n,h=>rfl
 | k+1,l,n,h=>by
  simp only [Dz,Fj]
  rw [jC h,Ui h]
  by_cases hn:n < s.size
  · rw [if_pos hn,if_neg (show ¬ decide (¬ n < s.size)=true by simpa using hn)]
    by_cases hl:l.length=8/\Da (kd s n)=true
    · rw [if_pos hl,if_pos hl]; rfl
    · rw [if_neg hl,if_neg hl]
      obtain ⟨q1,q2⟩:=gF h
      rw [← q1]
      cases hj:G8 false s n with
      | error e=>rfl
      | ok q =>
       obtain ⟨cs,m⟩:=q
       have hm:=q2 _ _ hj
       simp only [eP]
       rw [Ui hm]
       by_cases h0:kd s m=0
       · rw [if_pos h0,if_pos h0]; rfl
       · rw [if_neg h0,if_neg h0]
         by_cases h5:kd s m=5\/kd s m=6
         · rw [if_pos h5,if_pos h5,M2 hm (by omega)]
           exact Ty s k _ _ (Ve s m)
         · rw [if_neg h5,if_neg h5]; rfl
  · rw [if_neg hn,if_pos (show decide (¬ n < s.size)=true by simpa using hn)]; rfl
theorem bF (s:ByteArray):eL (Dy false s)=Fj (s.size+1) (s.size+1) [] (Cn s.data.toList):=by
 unfold Dy
 rw [Ty s _ _ _ (jF s _ _ (Nat.le_refl _)),jB s _ _ (Nat.le_refl _)]
 rfl
end
open Go Go.RowKit Go.Proofs.Sx
theorem Pn {T r:List Tk} {w:ByteArray} (h:Jp T = .ok (w,r)):r.length+1=T.length:=by
 cases T with
 | nil=>cases h
 | cons t T =>
  simp only [Jp] at h
  split at h
  · cases h
  · split at h
    · cases h
    · cases h; rfl
theorem Vx {c v:CmdL} {k:Nat} {T r:List Tk} (h:Hu c k T = .ok (v,r)):r.length+1=T.length:=by
 unfold Hu at h
 split at h
 · cases h
 · cases hw:Jp T with
   | error e=>rw [hw] at h; cases h
   | ok q=>obtain ⟨w,r'⟩:=q; rw [hw] at h; cases h; exact Pn hw
theorem Nm {T:List Tk} (h:hK T≠0):T.tail.length+1=T.length:=by
 cases T with
 | nil=>exact absurd rfl h
 | cons t T=>rfl
theorem Jk : ∀ (k k':Nat) (c:CmdL) (T:List Tk),T.length < k->T.length < k'->D0 k c T=D0 k' c T/\∀ v r,D0 k c T = .ok (v,r)->r.length<=T.length
 | 0,_,_,_,h,_=>absurd h (Nat.not_lt_zero _)
 | _+1,0,_,_,_,h=>absurd h (Nat.not_lt_zero _)
 | k+1,k'+1,c,T,h,h'=>by
  simp only [D0]
  split
  · split
    · exact ⟨rfl,fun v r e=>by cases e⟩
    · cases hw:Jp T with
      | error e=>exact ⟨rfl,fun v r e=>by cases e⟩
      | ok q =>
       obtain ⟨w,r⟩:=q
       have:=Pn hw
       obtain ⟨q1,q2⟩:=Jk k k' ⟨c.words++[w],c.inp,c.out,c.app⟩ r (by omega) (by omega)
       exact ⟨q1,fun v r' e=>by have:=q2 v r' e; omega⟩
  · split
    · rename_i h2
      cases hw:Hu c (hK T) T.tail with
      | error e=>exact ⟨rfl,fun v r e=>by cases e⟩
      | ok q =>
       obtain ⟨w,r⟩:=q
       have:=Vx hw
       have:=Nm (T:=T) (by omega)
       obtain ⟨q1,q2⟩:=Jk k k' w r (by omega) (by omega)
       exact ⟨q1,fun v r' e=>by have:=q2 v r' e; omega⟩
    · split
      · exact ⟨rfl,fun v r e=>by cases e⟩
      · exact ⟨rfl,fun v r e=>by cases e; exact Nat.le_refl _⟩
theorem Qf {F F':Nat} : ∀ (k k':Nat) (l:List CmdL) (T:List Tk),T.length < k->T.length < k'->T.length < F->T.length < F'->Lz F k l T=Lz F' k' l T/\∀ v r,Lz F k l T = .ok (v,r)->r.length<=T.length
 | 0,_,_,_,h,_,_,_=>absurd h (Nat.not_lt_zero _)
 | _+1,0,_,_,_,h,_,_=>absurd h (Nat.not_lt_zero _)
 | k+1,k'+1,l,T,h,h',hF,hF'=>by
  simp only [Lz]
  split
  · rename_i h7
    have ht:=Nm (T:=T) (by omega)
    split
    · exact ⟨rfl,fun v r e=>by cases e⟩
    · obtain ⟨q1,q2⟩:=Jk F F' Fh T.tail (by omega) (by omega)
      rw [← q1]
      cases hc:D0 F Fh T.tail with
      | error e=>exact ⟨rfl,fun v r e=>by cases e⟩
      | ok q =>
       obtain ⟨c,r⟩:=q
       have:=q2 _ _ hc
       obtain ⟨q3,q4⟩:=Qf (F:=F) (F':=F') k k' (l++[c]) r (by omega) (by omega) (by omega) (by omega)
       exact ⟨q3,fun v r' e=>by have:=q4 v r' e; omega⟩
  · exact ⟨rfl,fun v r e=>by cases e; exact Nat.le_refl _⟩
theorem Xm {F F':Nat} {T:List Tk} (h:T.length < F) (h':T.length < F'):Ho F T=Ho F' T/\∀ v r,Ho F T = .ok (v,r)->r.length<=T.length:=by
 obtain ⟨q1,q2⟩:=Jk F F' Fh T h h'
 unfold Ho
 rw [← q1]
 cases hc:D0 F Fh T with
 | error e=>exact ⟨rfl,fun v r e=>by cases e⟩
 | ok q =>
  obtain ⟨c,r⟩:=q
  have:=q2 _ _ hc
  obtain ⟨q3,q4⟩:=Qf (F:=F) (F':=F') F F' [c] r (by omega) (by omega) (by omega) (by omega)
  exact ⟨q3,fun v r' e=>by have:=q4 v r' e; omega⟩
theorem J4 {F F':Nat} : ∀ (k k':Nat) (l:List JobL) (T:List Tk),T.length < k->T.length < k'->T.length < F->T.length < F'->Fj F k l T=Fj F' k' l T
 | 0,_,_,_,h,_,_,_=>absurd h (Nat.not_lt_zero _)
 | _+1,0,_,_,_,h,_,_=>absurd h (Nat.not_lt_zero _)
 | k+1,k'+1,l,T,h,h',hF,hF'=>by
  simp only [Fj]
  split
  · rfl
  split
  · rfl
  obtain ⟨q1,q2⟩:=Xm hF hF'
  rw [← q1]
  cases hj:Ho F T with
  | error e=>rfl
  | ok q =>
   obtain ⟨cs,r⟩:=q
   have:=q2 _ _ hj
   simp only
   split
   · rfl
   split
   · have:=Nm (T:=r) (by omega)
     exact J4 k k' _ _ (by omega) (by omega) (by omega) (by omega)
   · rfl
theorem jA (c:UInt8) (T:List Tk):(nX c T).length<=T.length+1:=by cases T <;> simp [nX]
theorem M8 : ∀ (l:List UInt8) (k:Bool),(D5 k l).length<=l.length
 | [],k=>by cases k <;> exact Nat.le_refl _
 | x::r,true=>Nat.le_succ_of_le (M8 r false)
 | x::r,false=>by
  have h1:=M8 r false
  have h2:=M8 r true
  have h3:=jA x (D5 false r)
  simp only [D5]
  repeat' split
  all_goals simp only [sG,sH] at *; omega
def fU (T:List Tk):Except Int (List JobL):=Fj (T.length+1) (T.length+1) [] T
theorem bG (s:ByteArray):eL (Dy false s)=fU (Cn s.data.toList):=by
 have h:=M8 s.data.toList false
 rw [Ar] at h
 have h':(Cn s.data.toList).length<=s.size:=h
 rw [bF]
 exact J4 _ _ _ _ (by omega) (by omega) (by omega) (by omega)
open Go Go.RowKit Go.Proofs.Sx
def wT (u:ByteArray):Tk:=(1,u.data.toList)
section
variable {k:Nat} {c d:CmdL} {u:ByteArray} {U:List Tk}
theorem Yg (hu:u.size<=60):Jp (wT u::U) = .ok (u,U):=by
 have hl : ¬ 60 < u.data.toList.length:=by rw [Ar]; omega
 show (if (1:Nat)≠1 then Except.error 3 else if 60 < u.data.toList.length then Except.error 6 else Except.ok (bT u.data.toList,U))=_
 rw [if_neg (by simp),if_neg hl,oX]
theorem rL (h:c.words.length≠4) (hu:u.size<=60):D0 (k+1) c (wT u::U)=D0 k ⟨c.words++[u],c.inp,c.out,c.app⟩ U:=by
 simp only [D0]
 rw [if_pos (show hK (wT u::U)=1 from rfl),if_neg h]
 simp only [Yg hu]
theorem Z3 (k:Nat) (U:List Tk) : ∀ (ws:List ByteArray) (c:CmdL),c.words.length+ws.length<=4->(∀ u∈ws,u.size<=60)->D0 (k+ws.length) c (ws.map wT++U)=D0 k ⟨c.words++ws,c.inp,c.out,c.app⟩ U
 | [],c,_,_=>by simp
 | u::r,c,h,hs=>by
  rw [sG] at h
  show D0 (k+r.length+1) c (wT u::(r.map wT++U))=_
  rw [rL (by omega) (hs u sM),Z3 k U r _ (by simp only [sF,sG,sH]; omega) fun v hv=>hs v (sS _ hv)]
  simp only [sL,List.cons_append,sQ]
theorem dP {q:Nat} (hg : ¬ ((q=2/\c.inp.size≠0)\/(q≠2/\c.out.size≠0))) (hu:u.size<=60):Hu c q (wT u::U) = .ok (if q=2 then ⟨c.words,u,c.out,c.app⟩ else ⟨c.words,c.inp,u,decide (q=4)⟩,U):=by
 unfold Hu
 rw [if_neg hg]
 simp only [Yg hu]
theorem iK {q:Nat} (hq:q=2\/q=3\/q=4) (hg : ¬ ((q=2/\c.inp.size≠0)\/(q≠2/\c.out.size≠0))) (hu:u.size<=60):D0 (k+1) c ((q,[])::wT u::U)=D0 k (if q=2 then ⟨c.words,u,c.out,c.app⟩ else ⟨c.words,c.inp,u,decide (q=4)⟩) U:=by
 have e:hK ((q,[])::wT u::U)=q:=rfl
 simp only [D0]
 rw [e,if_neg (by omega),if_pos hq,List.tail_cons]
 simp only [dP hg hu]
theorem nO (h:c.inp.size=0) (hu:u.size<=60):D0 (k+1) c ((2,[])::wT u::U)=D0 k ⟨c.words,u,c.out,c.app⟩ U :=
 iK (q:=2) (.inl rfl) (by omega) hu
theorem U1 {q:Nat} (hq:q=3\/q=4) (h:c.out.size=0) (hu:u.size<=60):D0 (k+1) c ((q,[])::wT u::U)=D0 k ⟨c.words,c.inp,u,decide (q=4)⟩ U:=by
 have:=iK (k:=k) (c:=c) (u:=u) (U:=U) (q:=q) (by omega) (by omega) hu
 rwa [if_neg (show ¬ q=2 by omega)] at this
theorem iM (hU:Da (hK U)=false) (hc:c.words.length≠0):D0 (k+1) c U = .ok (c,U):=by
 have h:=rZ hU
 simp only [D0]
 rw [if_neg (by omega),if_neg (by omega),if_neg hc]
theorem iV (h:u.size=0):u=⟨#[]⟩:=Dm (List.length_eq_zero_iff.1 (by rw [Ar]; exact h))
def Pi (d:CmdL):List Tk:=if d.inp.size=0 then [] else [(2,[]),wT d.inp]
def Pd (d:CmdL):List Tk:=if d.app=true then [(4,[]),wT d.out] else if d.out.size=0 then [] else [(3,[]),wT d.out]
def Mu (d:CmdL):List Tk:=d.words.map wT++(Pi d++Pd d)
theorem iL (h:c.inp=⟨#[]⟩) (hd:d.inp.size<=60) (k:Nat) (U:List Tk):D0 (k+(Pi d).length / 2) c (Pi d++U)=D0 k ⟨c.words,d.inp,c.out,c.app⟩ U:=by
 unfold Pi
 by_cases hi:d.inp.size=0
 · rw [if_pos hi,iV hi,← h]; rfl
 · have e:([(2,[]),wT d.inp]:List Tk).length / 2=1:=by simp
   rw [if_neg hi,e]
   exact nO (by rw [h]; rfl) hd
theorem cA (h:c.out=⟨#[]⟩) (ha:c.app=false) (hd:d.out.size<=60) (k:Nat) (U:List Tk):D0 (k+(Pd d).length / 2) c (Pd d++U)=D0 k ⟨c.words,c.inp,d.out,d.app⟩ U:=by
 unfold Pd
 by_cases hp:d.app=true
 · have e:([(4,[]),wT d.out]:List Tk).length / 2=1:=by simp
   rw [if_pos hp,hp,e]
   exact U1 (.inr rfl) (by rw [h]; rfl) hd
 · have hp':d.app=false:=by simpa using hp
   rw [if_neg hp]
   by_cases ho:d.out.size=0
   · rw [if_pos ho,iV ho,hp',← h,← ha]; rfl
   · have e:([(3,[]),wT d.out]:List Tk).length / 2=1:=by simp
     rw [if_neg ho,hp',e]
     exact U1 (.inl rfl) (by rw [h]; rfl) hd
theorem gK (d:CmdL):(Pi d).length / 2<=1:=by unfold Pi; split <;> simp
theorem eH (d:CmdL):(Pd d).length / 2<=1:=by unfold Pd; split <;> (try split) <;> simp
theorem iN (h:Au d=true) (hU:Da (hK U)=false) (k:Nat):D0 (k+7) Fh (Mu d++U) = .ok (d,U):=by
 obtain ⟨h1,h2,h3,h4,_⟩:=Ay h
 have hi:=gK d
 have ho:=eH d
 obtain ⟨m,hm⟩ : ∃ m,k+7=m+1+(Pd d).length / 2+(Pi d).length / 2+d.words.length:=⟨k+6 - (Pd d).length / 2 - (Pi d).length / 2 - d.words.length,by omega⟩
 unfold Mu
 rw [hm,sL,sL,Z3 _ _ _ _ (by show 0+_<=4; omega) fun u hu=>(C7 (h1 u hu)).2,iL rfl (Bt h3),cA rfl rfl (Bt h4)]
 exact iM hU (by show ([]++d.words).length≠0; rw [sQ]; omega)
end
def Js:List CmdL->List Tk
 | []=>[]
 | c::r=>(7,[])::(Mu c++Js r)
def Qu:List CmdL->List Tk
 | []=>[]
 | c::r=>Mu c++Js r
def dJ (bg last:Bool):List Tk:=if bg=true then [(6,[])] else if last=true then [] else [(5,[])]
def Jr:List JobL->List Tk
 | []=>[]
 | x::r=>Qu x.cmds++(dJ x.bg r.isEmpty++Jr r)
theorem oU (v:List CmdL) (U:List Tk) (hU:Da (hK U)=false):Da (hK (Js v++U))=false:=by
 cases v with
 | nil=>exact hU
 | cons c r=>rfl
theorem Zi {F:Nat} (hF : 7<=F) (U:List Tk) (hU:Da (hK U)=false) (h7:hK U≠7) : ∀ (v:List CmdL) (k:Nat) (l:List CmdL),(∀ c∈v,Au c=true)->l.length+v.length<=4->v.length < k->Lz F k l (Js v++U) = .ok (l++v,U)
 | _,0,_,_,_,h=>absurd h (Nat.not_lt_zero _)
 | [],k+1,l,_,_,_=>by
  show Lz F (k+1) l U=_
  simp only [Lz]
  rw [if_neg h7,sP]
 | c::r,k+1,l,hv,hl,hk=>by
  rw [sG] at hl hk
  obtain ⟨f,rfl⟩ : ∃ f,F=f+7:=⟨F - 7,by omega⟩
  show Lz (f+7) (k+1) l ((7,[])::(Mu c++Js r++U))=_
  simp only [Lz]
  rw [if_pos (show hK ((7,[])::(Mu c++Js r++U))=7 from rfl),if_neg (fun q=>by omega),List.tail_cons,sL,iN (hv c sM) (oU r U hU)]
  simp only
  rw [Zi hF U hU h7 r k _ (fun x hx=>hv x (sS _ hx)) (by simp only [sF,sG,sH]; omega) (by omega)]
  simp only [sL,List.cons_append,sQ]
theorem lK {F:Nat} (hF : 12<=F) {x:JobL} (hx:Bp x=true) (U:List Tk) (hU:Da (hK U)=false) (h7:hK U≠7):Ho F (Qu x.cmds++U) = .ok (x.cmds,U):=by
 unfold Bp at hx
 rw [sY,List.all_eq_true] at hx
 have hl:=rY hx.1
 have hv:=hx.2
 obtain ⟨f,rfl⟩ : ∃ f,F=f+7:=⟨F - 7,by omega⟩
 match hc:x.cmds,hl,hv with
 | [],hl,_=>exact absurd hl.1 (by simp)
 | c::r,hl,hv =>
  rw [sG] at hl
  show Ho (f+7) (Mu c++Js r++U)=_
  unfold Ho
  rw [sL,iN (hv c sM) (oU r U hU)]
  simp only
  rw [Zi (by omega) U hU h7 r _ _ (fun x hx=>hv x (sS _ hx)) (by simp only [sG,sH]; omega) (by omega)]
  rfl
theorem jR {d:CmdL} (h:Au d=true) (U:List Tk):(Mu d++U).isEmpty=false:=by
 obtain ⟨_,h2,_⟩:=Ay h
 unfold Mu
 cases hw:d.words with
 | nil=>rw [hw] at h2; simp at h2
 | cons x r=>rfl
theorem jQ {x:JobL} (hx:Bp x=true) (U:List Tk):(Qu x.cmds++U).isEmpty=false:=by
 unfold Bp at hx
 rw [sY,List.all_eq_true] at hx
 have hl:=rY hx.1
 cases hc:x.cmds with
 | nil=>rw [hc] at hl; simp at hl
 | cons c r =>
  show (Mu c++Js r++U).isEmpty=false
  rw [sL]
  exact jR (hx.2 c (by rw [hc]; exact sM)) _
theorem Tz {F:Nat} (hF : 12<=F) : ∀ (v:List JobL) (k:Nat) (l:List JobL),(∀ x∈v,Bp x=true)->l.length+v.length<=8->v.length < k->Fj F k l (Jr v) = .ok (l++v)
 | _,0,_,_,_,h=>absurd h (Nat.not_lt_zero _)
 | [],k+1,l,_,_,_=>by
  show Fj F (k+1) l []=_
  simp only [Fj]
  rw [if_pos (show ([]:List Tk).isEmpty=true from rfl),sP]
 | ⟨cs,bg⟩::r,k+1,l,hv,hl,hk=>by
  rw [sG] at hl hk
  have hx:=hv ⟨cs,bg⟩ sM
  have ih:=Tz hF r k (l++[⟨cs,bg⟩]) (fun x hx=>hv x (sS _ hx)) (by simp only [sF,sG,sH]; omega) (by omega)
  have hne:(Qu cs++(dJ bg r.isEmpty++Jr r)).isEmpty=false:=jQ hx _
  show Fj F (k+1) l (Qu cs++(dJ bg r.isEmpty++Jr r))=_
  simp only [Fj]
  rw [if_neg (show ¬ (Qu cs++(dJ bg r.isEmpty++Jr r)).isEmpty=true by rw [hne]; simp),if_neg (fun q=>by omega)]
  have hj : ∀ U,Da (hK U)=false->hK U≠7->Ho F (Qu cs++U) = .ok (cs,U):=fun U h1 h2=>lK hF hx U h1 h2
  cases bg with
  | true =>
   rw [hj _ rfl (by show 6≠7; decide)]
   show (if (6:Nat)=0 then _ else if (6:Nat)=5\/(6:Nat)=6 then Fj F k (l++[⟨cs,decide ((6:Nat)=6)⟩]) (Jr r) else _)=_
   rw [if_neg (by decide),if_pos (by decide)]
   refine Eq.trans ?_ (ih.trans ?_)
   · rfl
   · simp only [sL,List.cons_append,sQ]
  | false =>
   cases r with
   | nil =>
    rw [hj _ rfl (by show 0≠7; decide)]
    rfl
   | cons y r =>
    rw [hj _ rfl (by show 5≠7; decide)]
    show (if (5:Nat)=0 then _ else if (5:Nat)=5\/(5:Nat)=6 then Fj F k (l++[⟨cs,decide ((5:Nat)=6)⟩]) (Jr (y::r)) else _)=_
    rw [if_neg (by decide),if_pos (by decide)]
    refine Eq.trans ?_ (ih.trans ?_)
    · rfl
    · simp only [sL,List.cons_append,sQ]
theorem Xg (T:List Tk) (k:Nat):fU T=Fj (T.length+k+1) (T.length+k+1) [] T:=J4 _ _ _ _ (by omega) (by omega) (by omega) (by omega)
theorem Gy {v:List JobL} (h:Aq v=true):(∀ x∈v,Bp x=true)/\v.length<=8:=by
 unfold Aq at h
 rw [sY,List.all_eq_true] at h
 exact ⟨h.1,rY h.2⟩
theorem fS {v:List JobL} (h:Aq v=true):fU (Jr v) = .ok v:=by
 obtain ⟨h1,h2⟩:=Gy h
 rw [Xg _ 20]
 exact Tz (by omega) v _ [] h1 (by simpa using h2) (by omega)
theorem Y3 {s:ByteArray} : ∀ k,okW s k=true->∀ i,i < k->Bc (sb s i)=true
 | 0,_,i,hi=>absurd hi (Nat.not_lt_zero _)
 | k+1,h,i,hi=>by
  simp only [okW,sY] at h
  by_cases e:i=k
  · rw [e]; exact h.2
  · exact Y3 k h.1 i (by omega)
theorem gJ {u:ByteArray} (h:A3 u=true) : ∀ x∈u.data.toList,pB x=true:=by
 intro x hx
 unfold A3 at h
 rw [sY] at h
 obtain ⟨i,hi,he⟩:=List.mem_iff_getElem.1 hx
 have:=Y3 u.size h.1 i (by rw [← Ar]; exact hi)
 unfold sb at this
 rw [List.getD_eq_getElem?_getD,List.getElem?_eq_getElem hi,he] at this
 exact this
theorem qT {u:ByteArray} (h:A3 u=true):u.data.toList≠[]:=fun e=>by have h1:=(C7 h).1; rw [← Ar,e] at h1; simp at h1
theorem Uc : ∀ (xs rest:List UInt8),xs≠[]->(∀ x∈xs,pB x=true)->hB pB rest=false->Cn (xs++rest)=(1,xs)::Cn rest
 | [],_,h,_,_=>absurd rfl h
 | [x],rest,_,hx,hr=>by
  have hp:=hx x sM
  show D5 false (x::rest)=_
  simp only [D5]
  rw [if_neg (by have:=G4 hp; rw [this]; simp),if_pos hp,if_neg (by rw [hr]; simp)]
  rfl
 | x::y::r,rest,_,hx,hr=>by
  have hp:=hx x sM
  have hy:=hx y (sS _ sM)
  have ih:=Uc (y::r) rest (by simp) (fun z hz=>hx z (sS _ hz)) hr
  show D5 false (x::(y::r++rest))=_
  have ih':D5 false (y::r++rest)=(1,y::r)::Cn rest:=ih
  have hh:hB pB (y::r++rest)=true:=hy
  rw [D5]
  rw [if_neg (by have:=G4 hp; rw [this]; simp),if_pos hp,if_pos hh,ih']
  rfl
theorem Ud {u:ByteArray} (h:A3 u=true) {rest:List UInt8} (hr:hB pB rest=false):Cn (u.data.toList++rest)=wT u::Cn rest:=Uc _ _ (qT h) (gJ h) hr
theorem G7 (r:List UInt8):Cn (32::r)=Cn r:=rfl
theorem qN (r:List UInt8):Cn (60::r)=(2,[])::Cn r:=rfl
theorem lE (r:List UInt8):Cn (124::r)=(7,[])::Cn r:=rfl
theorem qO {r:List UInt8} (h:hB (· == 62) r=false):Cn (62::r)=(3,[])::Cn r:=by
 show D5 false (62::r)=_
 rw [D5]
 rw [if_neg (by decide),if_neg (by decide),if_pos rfl,if_neg (by rw [h]; simp)]
 rfl
theorem fV (r:List UInt8):Cn (62::62::r)=(4,[])::Cn r:=rfl
theorem tail_cons (u:ByteArray) (ws:List ByteArray) (rest:List UInt8):Lib.joinTail [32] ((u::ws).map (·.data.toList))++rest=32::(u.data.toList++(Lib.joinTail [32] (ws.map (·.data.toList))++rest)):=by
 simp only [Lib.joinTail,List.map_cons,List.flatten_cons,sL,List.cons_append,sQ]
theorem Yk (ws:List ByteArray) {rest:List UInt8} (hr:hB pB rest=false):hB pB (Lib.joinTail [32] (ws.map (·.data.toList))++rest)=false:=by
 cases ws with
 | nil=>exact hr
 | cons u r=>rw [tail_cons]; rfl
theorem Ue {rest:List UInt8} (hr:hB pB rest=false) : ∀ (ws:List ByteArray),(∀ u∈ws,A3 u=true)->Cn (Lib.joinTail [32] (ws.map (·.data.toList))++rest)=ws.map wT++Cn rest
 | [],_=>rfl
 | u::r,h=>by
  rw [tail_cons,G7,Ud (h u sM) (Yk r hr),Ue hr r fun v hv=>h v (sS _ hv)]
  rfl
def pI (d:CmdL):List UInt8:=if d.inp.size=0 then [] else [32,60,32]++d.inp.data.toList
def pO (d:CmdL):List UInt8:=if d.app=true then [32,62,62,32]++d.out.data.toList else if d.out.size=0 then [] else [32,62,32]++d.out.data.toList
theorem oL (d:CmdL) {rest:List UInt8} (hr:hB pB rest=false):hB pB (pI d++rest)=false:=by unfold pI; split; {exact hr}; {rfl}
theorem eG (d:CmdL) {rest:List UInt8} (hr:hB pB rest=false):hB pB (pO d++rest)=false:=by unfold pO; split; {rfl}; {split; {exact hr}; {rfl}}
theorem Kw {u:ByteArray} (h:Cf u=true) (hz:u.size≠0):A3 u=true:=by
 unfold Cf at h
 rw [Bool.or_eq_true] at h
 rcases h with h | h
 · exact absurd (rY h) hz
 · exact h
theorem qM {d:CmdL} (h:Cf d.inp=true) {rest:List UInt8} (hr:hB pB rest=false):Cn (pI d++rest)=Pi d++Cn rest:=by
 unfold pI Pi
 by_cases hi:d.inp.size=0
 · rw [if_pos hi,if_pos hi]; rfl
 · rw [if_neg hi,if_neg hi]
   show Cn (32::60::32::(d.inp.data.toList++rest))=_
   rw [G7,qN,G7,Ud (Kw h hi) hr]; rfl
theorem qL {d:CmdL} (h:Cf d.out=true) (ha:d.app=true->d.out.size≠0) {rest:List UInt8} (hr:hB pB rest=false):Cn (pO d++rest)=Pd d++Cn rest:=by
 unfold pO Pd
 by_cases hp:d.app=true
 · rw [if_pos hp,if_pos hp]
   show Cn (32::62::62::32::(d.out.data.toList++rest))=_
   rw [G7,fV,G7,Ud (Kw h (ha hp)) hr]; rfl
 · rw [if_neg hp,if_neg hp]
   by_cases ho:d.out.size=0
   · rw [if_pos ho,if_pos ho]; rfl
   · rw [if_neg ho,if_neg ho]
     show Cn (32::62::32::(d.out.data.toList++rest))=_
     rw [G7,qO rfl,G7,Ud (Kw h ho) hr]; rfl
theorem Za {d:CmdL} (h:Au d=true) {rest:List UInt8} (hr:hB pB rest=false):Cn (prC d++rest)=Mu d++Cn rest:=by
 obtain ⟨h1,h2,h3,h4,h5⟩:=Ay h
 rw [Ev h2.1]
 show Cn (Lib.join (d.words.map (·.data.toList)) [32]++(pI d++pO d)++rest)=_
 unfold Mu
 cases hw:d.words with
 | nil=>rw [hw] at h2; simp at h2
 | cons u r =>
  rw [hw] at h1
  rw [List.map_cons,Lib.join_cons]
  simp only [sL]
  rw [Ud (h1 u sM) (Yk r (oL d (eG d hr))),Ue (oL d (eG d hr)) r fun v hv=>h1 v (sS _ hv),qM h3 (eG d hr),qL h4 h5 hr]
  rfl
def Re:List CmdL->List UInt8
 | []=>[]
 | c::r=>[32,124,32]++(prC c++Re r)
theorem Px (l:List CmdL) : ∀ j i,l.length - i=j->1<=i->i<=l.length->Aw l l.length=Aw l i++Re (l.drop i)
 | 0,i,h,h1,h2=>by
  rw [show i=l.length by omega,List.drop_length]
  exact (sP _).symm
 | j+1,i,h,h1,h2=>by
  rw [Px l j (i+1) (by omega) (by omega) (by omega),List.drop_eq_getElem_cons (show i < l.length by omega)]
  simp only [Aw,Re]
  rw [if_neg (by omega),Jj (List.getElem?_eq_getElem (show i < l.length by omega))]
  simp only [sL]
theorem Py (c:CmdL) (r:List CmdL):Aw (c::r) (c::r).length=prC c++Re r:=by
 rw [Px (c::r) r.length 1 (by simp) (Nat.le_refl _) (by simp)]
 show ([]++((if 0=0 then [] else [32,124,32])++prC c))++Re r=_
 rw [if_pos rfl,sQ,sQ]
theorem Yx (v:List CmdL) {rest:List UInt8} (hr:hB pB rest=false):hB pB (Re v++rest)=false:=by
 cases v with
 | nil=>exact hr
 | cons c r=>rfl
theorem Ug {rest:List UInt8} (hr:hB pB rest=false) : ∀ v:List CmdL,(∀ c∈v,Au c=true)->Cn (Re v++rest)=Js v++Cn rest
 | [],_=>rfl
 | c::r,h=>by
  show Cn (32::124::32::(prC c++Re r++rest))=_
  rw [G7,lE,G7,sL,Za (h c sM) (Yx r hr),Ug hr r fun v hv=>h v (sS _ hv)]
  simp only [Js,sL,List.cons_append]
theorem lD {x:JobL} (hx:Bp x=true) {rest:List UInt8} (hr:hB pB rest=false):Cn (prJ x++rest)=Qu x.cmds++Cn rest:=by
 unfold Bp at hx
 rw [sY,List.all_eq_true] at hx
 have hv:=hx.2
 unfold prJ
 cases hc:x.cmds with
 | nil=>rfl
 | cons c r =>
  rw [hc] at hv
  rw [Py,sL,Za (hv c sM) (Yx r hr),Ug hr r fun v hw=>hv v (sS _ hw)]
  simp only [Qu,sL]
def Sr:List JobL->List UInt8
 | []=>[]
 | x::r=>prJ x++(Mw x.bg r.isEmpty++Sr r)
theorem Xz {α:Type} (l:List α) (i:Nat) (h:i<=l.length):(l.drop i).isEmpty=decide (i=l.length):=by
 rw [Bool.eq_iff_iff,List.isEmpty_iff,List.drop_eq_nil_iff]
 simp only [decide_eq_true_eq]
 omega
theorem Sq (l:List JobL) : ∀ j i,l.length - i=j->i<=l.length->prP l l.length=prP l i++Sr (l.drop i)
 | 0,i,h,h2=>by
  rw [show i=l.length by omega,List.drop_length]
  exact (sP _).symm
 | j+1,i,h,h2=>by
  rw [Sq l j (i+1) (by omega) (by omega),List.drop_eq_getElem_cons (show i < l.length by omega)]
  simp only [prP,Sr]
  rw [Jj (List.getElem?_eq_getElem (show i < l.length by omega)),Xz l (i+1) (by omega)]
  simp only [sL]
theorem Ss (l:List JobL):prL l=Sr l:=Sq l _ 0 rfl (Nat.zero_le _)
theorem lC (b c:Bool) (r:List UInt8):Cn (Mw b c++r)=dJ b c++Cn r:=by cases b <;> cases c <;> rfl
theorem pZ (v:List JobL) (b:Bool):hB pB (Mw b v.isEmpty++Sr v)=false:=by
 cases b with
 | true=>cases v.isEmpty <;> rfl
 | false=>cases v with
  | nil=>rfl
  | cons y r=>rfl
theorem Uf : ∀ v:List JobL,(∀ x∈v,Bp x=true)->Cn (Sr v)=Jr v
 | [],_=>rfl
 | x::r,h=>by
  simp only [Sr,Jr]
  rw [lD (h x sM) (pZ r x.bg),lC,Uf r fun v hv=>h v (sS _ hv)]
theorem eL_ok {R:Except (Nat×Int) (List JobL)} {v:List JobL} (h:eL R = .ok v):R = .ok v:=by
 cases R with
 | error e=>cases h
 | ok l=>exact congrArg _ (Except.ok.inj h)
theorem Ua {v:List JobL} (h:Aq v=true):Dy false (bA (prL v)) = .ok v:=by
 refine eL_ok ?_
 rw [bG,Nf,Ss,Uf v (Gy h).1]
 exact fS h
theorem oF {a b:ByteArray}:(a.toList == b.toList)=true↔a=b:=by
 rw [beq_iff_eq,B2,B2];exact ⟨fun h=>Dm h,fun h=>by rw [h]⟩
def awS1:StL:={Gi with mode:=1}
def awS2:StL:=⟨3,0,⟨#[]⟩,[⟨[⟨[⟨#[97]⟩],⟨#[]⟩,⟨#[]⟩,false⟩,⟨[⟨#[98]⟩],⟨#[]⟩,⟨#[]⟩,false⟩],false⟩],-1,-1,-1,[],[]⟩
theorem aw_1:Bf Gi 0 []=(awS1,Ap 9 0 80):=by kernel_rfl
theorem aw_2:Bf awS1 6 ([97,32,124,32,98,10]:List Int)=(awS2,Ap 11 0 0):=by kernel_rfl
theorem aw_3:(Bf awS2 772 []).2=Ap 1 0 0:=by kernel_rfl
set_option maxHeartbeats 4000000 in
theorem Qr (w:World) (hE:ErrOk w) :
 Calls sD 7 #[] w fun e w'=>e = .returned (.bool true)/\Only Ai w w':=by
 refine Ao (args:=[]) (m:=47) (n:=47) Tryz.func7 rfl (by kernel_rfl) (by kernel_rfl) fun J V=>?_;have O:=Ow.nil sD Ai w;refine Sa [(0,I false)] V fun J V=>sr 9 (Mk 8 V O Tryz.func24 (M7 _) fun J w1 V O=>Ag (mC (d:=(some 9)) V Tryz.func16 ((L7 nSV 0 _ (eV _) eU (hE.keep O.only) (by omega) (by omega)).mono ?_)));rintro en w2 ⟨u1,xa1,TA1,hu1,hxa1,hsm1,rfl,hW_,hG1,hXX1⟩;refine ⟨_,rfl,?_⟩;clear V J; intro J V;replace O:Ow sD Ai w _ ([]++[]):=O.to (sP _).symm;replace O:=Ow.join O hW_; clear hW_;replace O:Ow sD Ai w _ ([]++(TA1++([]))):=O.to (by first | rfl | (simp only [TP,apd]));have hPTA1:Ah TA1 (fun w_=>SV.ok u1 w_/\VP w_ xa1):=Ah.and hG1 hXX1;rw [nSV_d,aw_1] at hu1 hxa1
 refine Ka 3 [(10,.agg #[Z u1.mo,Z u1.po,Y u1.inp,.slice u1.pj u1.lj.length u1.cj,Z u1.rd,Z u1.wr,Z u1.pv,.slice u1.pc u1.lc.length u1.cc,.slice u1.pp u1.lp.length u1.cp]),(11,.agg #[Z xa1.d.call,Z xa1.d.a0,Z xa1.d.a1,Z xa1.d.a2,.slice xa1.p xa1.d.data.length xa1.c])] V fun J V=>Mn (cS 0 0 (⟨#[]⟩:ByteArray) none 0 0 0 0 0 none 0 0 none 0 0) 39 1 V O fun J w3 b1 V O=>Mn [Z 0,Z 0,Z 0,Z 0,.slice none 0 0] 43 2 V O fun J w4 b2 V O=>Ms 0 (cS u1.mo u1.po u1.inp u1.pj u1.lj.length u1.cj u1.rd u1.wr u1.pv u1.pc u1.lc.length u1.cc u1.pp u1.lp.length u1.cp) 1 V O fun w5 O=>Ms 0 [Z xa1.d.call,Z xa1.d.a0,Z xa1.d.a1,Z xa1.d.a2,.slice xa1.p xa1.d.data.length xa1.c] 0 V O fun w6 O=>Ab (Aa (sr 11 (Kb 1 [(13,.agg #[Z u1.mo,Z u1.po,Y u1.inp,.slice u1.pj u1.lj.length u1.cj,Z u1.rd,Z u1.wr,Z u1.pv,.slice u1.pc u1.lc.length u1.cc,.slice u1.pp u1.lp.length u1.cp])] V [.agg #[Z u1.mo,Z u1.po,Y u1.inp,.slice u1.pj u1.lj.length u1.cj,Z u1.rd,Z u1.wr,Z u1.pv,.slice u1.pc u1.lc.length u1.cc,.slice u1.pp u1.lp.length u1.cp]] (cc (O.ln 1 0 39 (cS u1.mo u1.po u1.inp u1.pj u1.lj.length u1.cj u1.rd u1.wr u1.pv u1.pc u1.lc.length u1.cc u1.pp u1.lp.length u1.cp)) c0) fun J V=>Mv [u8 97,u8 32,u8 124,u8 32,u8 98,u8 10] 5 6 14 V O fun J w7 b3 V O=>Ag (mV (L:=([(b3,5,[u8 97,u8 32,u8 124,u8 32,u8 98,u8 10]),(b2,43,[Z xa1.d.call,Z xa1.d.a0,Z xa1.d.a1,Z xa1.d.a2,.slice xa1.p xa1.d.data.length xa1.c]),(b1,39,(cS u1.mo u1.po u1.inp u1.pj u1.lj.length u1.cj u1.rd u1.wr u1.pv u1.pc u1.lc.length u1.cc u1.pp u1.lp.length u1.cp))]++(TA1++([])))) (t:=41) (el:=5) (off:=0) (m:=6) (c:=6) (d:=15) 0 V O fun J w8 V O=>Ag (mC (d:=(some 16)) V Tryz.func16 ((Yb u1 6 (some ⟨b3,0,none⟩) 6 ([97,32,124,32,98,10]:List Int) _ (Ah.at (A:=[_,_,_]) hPTA1 O.m).1 hsm1 (show Vw fB _ (.slice (some ⟨b3,0,none⟩) ([97,32,124,32,98,10]:List Int).length 6) ([97,32,124,32,98,10]:List Int) from (O.b 0).vw (off:=0) (xs:=([97,32,124,32,98,10]:List Int)) (by kernel_rfl)) (U8s.cons (H0 (by decide) (by decide)) (U8s.cons (H0 (by decide) (by decide)) (U8s.cons (H0 (by decide) (by decide)) (U8s.cons (H0 (by decide) (by decide)) (U8s.cons (H0 (by decide) (by decide)) (U8s.cons (H0 (by decide) (by decide)) U8s.nil)))))) (by decide) (by decide) (hE.keep O.only) (by omega) (by omega)).mono ?_))))))
 rintro en w9 ⟨u2,xa2,TA2,hu2,hxa2,hsm2,rfl,hW_,hG2,hXX2⟩;refine ⟨_,rfl,?_⟩;clear V J; intro J V;replace O:=Ow.join O hW_; clear hW_;replace O:Ow sD Ai w _ ([(b3,5,[u8 97,u8 32,u8 124,u8 32,u8 98,u8 10]),(b2,43,[Z xa1.d.call,Z xa1.d.a0,Z xa1.d.a1,Z xa1.d.a2,.slice xa1.p xa1.d.data.length xa1.c]),(b1,39,(cS u1.mo u1.po u1.inp u1.pj u1.lj.length u1.cj u1.rd u1.wr u1.pv u1.pc u1.lc.length u1.cc u1.pp u1.lp.length u1.cp))]++(TA1++(TA2++([])))):=O.to (by first | rfl | (simp only [TP,apd]));have hPTA2:Ah TA2 (fun w_=>SV.ok u2 w_/\VP w_ xa2):=Ah.and hG2 hXX2;rw [hu1,aw_2] at hu2 hxa2
 refine Ka 3 [(17,.agg #[Z u2.mo,Z u2.po,Y u2.inp,.slice u2.pj u2.lj.length u2.cj,Z u2.rd,Z u2.wr,Z u2.pv,.slice u2.pc u2.lc.length u2.cc,.slice u2.pp u2.lp.length u2.cp]),(18,.agg #[Z xa2.d.call,Z xa2.d.a0,Z xa2.d.a1,Z xa2.d.a2,.slice xa2.p xa2.d.data.length xa2.c])] V fun J V=>Mn (cS 0 0 (⟨#[]⟩:ByteArray) none 0 0 0 0 0 none 0 0 none 0 0) 39 3 V O fun J w10 b4 V O=>Mn [Z 0,Z 0,Z 0,Z 0,.slice none 0 0] 43 4 V O fun J w11 b5 V O=>Ms 0 (cS u2.mo u2.po u2.inp u2.pj u2.lj.length u2.cj u2.rd u2.wr u2.pv u2.pc u2.lc.length u2.cc u2.pp u2.lp.length u2.cp) 1 V O fun w12 O=>Ms 0 [Z xa2.d.call,Z xa2.d.a0,Z xa2.d.a1,Z xa2.d.a2,.slice xa2.p xa2.d.data.length xa2.c] 0 V O fun w13 O=>Ab (Aa (sr 9 (Kb 1 [(20,.agg #[Z u2.mo,Z u2.po,Y u2.inp,.slice u2.pj u2.lj.length u2.cj,Z u2.rd,Z u2.wr,Z u2.pv,.slice u2.pc u2.lc.length u2.cc,.slice u2.pp u2.lp.length u2.cp])] V [.agg #[Z u2.mo,Z u2.po,Y u2.inp,.slice u2.pj u2.lj.length u2.cj,Z u2.rd,Z u2.wr,Z u2.pv,.slice u2.pc u2.lc.length u2.cc,.slice u2.pp u2.lp.length u2.cp]] (cc (O.ln 1 0 39 (cS u2.mo u2.po u2.inp u2.pj u2.lj.length u2.cj u2.rd u2.wr u2.pv u2.pc u2.lc.length u2.cc u2.pp u2.lp.length u2.cp)) c0) fun J V=>?_)))
 replace O:Ow sD Ai w w13 ([(b5,43,[Z xa2.d.call,Z xa2.d.a0,Z xa2.d.a1,Z xa2.d.a2,.slice xa2.p xa2.d.data.length xa2.c]),(b4,39,(cS u2.mo u2.po u2.inp u2.pj u2.lj.length u2.cj u2.rd u2.wr u2.pv u2.pc u2.lc.length u2.cc u2.pp u2.lp.length u2.cp)),(b3,5,[u8 97,u8 32,u8 124,u8 32,u8 98,u8 10]),(b2,43,[Z xa1.d.call,Z xa1.d.a0,Z xa1.d.a1,Z xa1.d.a2,.slice xa1.p xa1.d.data.length xa1.c]),(b1,39,(cS u1.mo u1.po u1.inp u1.pj u1.lj.length u1.cj u1.rd u1.wr u1.pv u1.pc u1.lc.length u1.cc u1.pp u1.lp.length u1.cp))]++(TA1++(TA2++([])))):=O;refine Ag (mC (d:=(some 21)) V Tryz.func16 ((L7 u2 772 _ (Ah.at hPTA2 (O.tt:Ow sD Ai w _ (([(b5,43,[Z xa2.d.call,Z xa2.d.a0,Z xa2.d.a1,Z xa2.d.a2,.slice xa2.p xa2.d.data.length xa2.c]),(b4,39,(cS u2.mo u2.po u2.inp u2.pj u2.lj.length u2.cj u2.rd u2.wr u2.pv u2.pc u2.lc.length u2.cc u2.pp u2.lp.length u2.cp)),(b3,5,[u8 97,u8 32,u8 124,u8 32,u8 98,u8 10]),(b2,43,[Z xa1.d.call,Z xa1.d.a0,Z xa1.d.a1,Z xa1.d.a2,.slice xa1.p xa1.d.data.length xa1.c]),(b1,39,(cS u1.mo u1.po u1.inp u1.pj u1.lj.length u1.cj u1.rd u1.wr u1.pv u1.pc u1.lc.length u1.cc u1.pp u1.lp.length u1.cp))]++(TA1++([])))++(TA2++([])))).m).1 hsm2 (hE.keep O.only) (by omega) (by omega)).mono ?_));rintro en w14 ⟨u3,xa3,TA3,hu3,hxa3,hsm3,rfl,hW_,hG3,hXX3⟩;refine ⟨_,rfl,?_⟩;clear V J; intro J V;replace O:=Ow.join O hW_; clear hW_
 replace O:Ow sD Ai w _ ([(b5,43,[Z xa2.d.call,Z xa2.d.a0,Z xa2.d.a1,Z xa2.d.a2,.slice xa2.p xa2.d.data.length xa2.c]),(b4,39,(cS u2.mo u2.po u2.inp u2.pj u2.lj.length u2.cj u2.rd u2.wr u2.pv u2.pc u2.lc.length u2.cc u2.pp u2.lp.length u2.cp)),(b3,5,[u8 97,u8 32,u8 124,u8 32,u8 98,u8 10]),(b2,43,[Z xa1.d.call,Z xa1.d.a0,Z xa1.d.a1,Z xa1.d.a2,.slice xa1.p xa1.d.data.length xa1.c]),(b1,39,(cS u1.mo u1.po u1.inp u1.pj u1.lj.length u1.cj u1.rd u1.wr u1.pv u1.pc u1.lc.length u1.cc u1.pp u1.lp.length u1.cp))]++(TA1++(TA2++(TA3++([]))))):=O.to (by first | rfl | (simp only [TP,apd]));have hPTA3:Ah TA3 (fun w_=>SV.ok u3 w_/\VP w_ xa3):=Ah.and hG3 hXX3;rw [hu2,aw_3] at hxa3
 refine Ka 3 [(22,.agg #[Z u3.mo,Z u3.po,Y u3.inp,.slice u3.pj u3.lj.length u3.cj,Z u3.rd,Z u3.wr,Z u3.pv,.slice u3.pc u3.lc.length u3.cc,.slice u3.pp u3.lp.length u3.cp]),(23,.agg #[Z xa3.d.call,Z xa3.d.a0,Z xa3.d.a1,Z xa3.d.a2,.slice xa3.p xa3.d.data.length xa3.c])] V fun J V=>Mn (cS 0 0 (⟨#[]⟩:ByteArray) none 0 0 0 0 0 none 0 0 none 0 0) 39 5 V O fun J w15 b6 V O=>Mn [Z 0,Z 0,Z 0,Z 0,.slice none 0 0] 43 6 V O fun J w16 b7 V O=>Ms 0 (cS u3.mo u3.po u3.inp u3.pj u3.lj.length u3.cj u3.rd u3.wr u3.pv u3.pc u3.lc.length u3.cc u3.pp u3.lp.length u3.cp) 1 V O fun w17 O=>Ms 0 [Z xa3.d.call,Z xa3.d.a0,Z xa3.d.a1,Z xa3.d.a2,.slice xa3.p xa3.d.data.length xa3.c] 0 V O fun w18 O=>Ab (Aa (sr 24 (Kb 4 [(26,I (xa1.d.call == 9)),(27,I (xa1.d.call == 9))] V [Z xa1.d.call] (cc (O.l1 5 0 3 (Z xa1.d.call)) c0) fun J V=>?_)));rw [((by rw [hxa1]; rfl):(xa1.d.call == 9)=true)] at V
 refine Kb 6 [(31,I ((xa1.d.a0 == 0) && ((xa1.d.a1 == 80) && ((xa1.d.a2 == 0) && true)))),(32,I ((xa1.d.a0 == 0) && ((xa1.d.a1 == 80) && ((xa1.d.a2 == 0) && true)))),(33,I ((xa1.d.a0 == 0) && ((xa1.d.a1 == 80) && ((xa1.d.a2 == 0) && true))))] V [.agg #[Z xa1.d.a0,Z xa1.d.a1,Z xa1.d.a2],I ((xa1.d.a0 == 0) && ((xa1.d.a1 == 80) && ((xa1.d.a2 == 0) && true)))] (cc (O.ln 5 1 40 [Z xa1.d.a0,Z xa1.d.a1,Z xa1.d.a2]) (cc ((qY (by kernel_rfl) (by kernel_rfl)):EqG sD 40 (.agg #[Z xa1.d.a0,Z xa1.d.a1,Z xa1.d.a2]) (.agg #[Z 0,Z 80,Z 0]) ((xa1.d.a0 == 0) && ((xa1.d.a1 == 80) && ((xa1.d.a2 == 0) && true)))) c0)) fun J V=>?_;rw [((by rw [hxa1]; rfl):((xa1.d.a0 == 0) && ((xa1.d.a1 == 80) && ((xa1.d.a2 == 0) && true)))=true)] at V;refine Kb 5 [(36,I (xa2.d.call == 11)),(37,I (xa2.d.call == 11)),(38,I (xa2.d.call == 11))] V [Z xa2.d.call] (cc (O.l1 2 0 3 (Z xa2.d.call)) c0) fun J V=>?_;rw [((by rw [hxa2]; rfl):(xa2.d.call == 11)=true)] at V;refine Kb 5 [(41,I (xa3.d.call == 1)),(42,I (xa3.d.call == 1)),(43,I (xa3.d.call == 1))] V [Z xa3.d.call] (cc (O.l1 0 0 3 (Z xa3.d.call)) c0) fun J V=>?_;rw [((by rw [hxa3]; rfl):(xa3.d.call == 1)=true)] at V
 refine Kb 1 [(43,I true),(44,.agg #[Z u2.mo,Z u2.po,Y u2.inp,.slice u2.pj u2.lj.length u2.cj,Z u2.rd,Z u2.wr,Z u2.pv,.slice u2.pc u2.lc.length u2.cc,.slice u2.pp u2.lp.length u2.cp])] V [.agg #[Z u2.mo,Z u2.po,Y u2.inp,.slice u2.pj u2.lj.length u2.cj,Z u2.rd,Z u2.wr,Z u2.pv,.slice u2.pc u2.lc.length u2.cc,.slice u2.pp u2.lp.length u2.cp]] (cc (O.ln 3 0 39 (cS u2.mo u2.po u2.inp u2.pj u2.lj.length u2.cj u2.rd u2.wr u2.pv u2.pc u2.lc.length u2.cc u2.pp u2.lp.length u2.cp)) c0) fun J V=>?_;replace O:Ow sD Ai w w18 ([(b7,43,[Z xa3.d.call,Z xa3.d.a0,Z xa3.d.a1,Z xa3.d.a2,.slice xa3.p xa3.d.data.length xa3.c]),(b6,39,(cS u3.mo u3.po u3.inp u3.pj u3.lj.length u3.cj u3.rd u3.wr u3.pv u3.pc u3.lc.length u3.cc u3.pp u3.lp.length u3.cp)),(b5,43,[Z xa2.d.call,Z xa2.d.a0,Z xa2.d.a1,Z xa2.d.a2,.slice xa2.p xa2.d.data.length xa2.c]),(b4,39,(cS u2.mo u2.po u2.inp u2.pj u2.lj.length u2.cj u2.rd u2.wr u2.pv u2.pc u2.lc.length u2.cc u2.pp u2.lp.length u2.cp)),(b3,5,[u8 97,u8 32,u8 124,u8 32,u8 98,u8 10]),(b2,43,[Z xa1.d.call,Z xa1.d.a0,Z xa1.d.a1,Z xa1.d.a2,.slice xa1.p xa1.d.data.length xa1.c]),(b1,39,(cS u1.mo u1.po u1.inp u1.pj u1.lj.length u1.cj u1.rd u1.wr u1.pv u1.pc u1.lc.length u1.cc u1.pp u1.lp.length u1.cp))]++(TA1++(TA2++(TA3++([]))))):=O
 exact Mk 45 V O Tryz.func22 (rs (Nn u2.mo u2.po u2.inp u2.pj u2.cj u2.lj u2.rd u2.wr u2.pv u2.pc u2.cc u2.lc u2.pp u2.cp u2.lp _ (Ah.at hPTA2 (O.tt:Ow sD Ai w _ (([(b7,43,[Z xa3.d.call,Z xa3.d.a0,Z xa3.d.a1,Z xa3.d.a2,.slice xa3.p xa3.d.data.length xa3.c]),(b6,39,(cS u3.mo u3.po u3.inp u3.pj u3.lj.length u3.cj u3.rd u3.wr u3.pv u3.pc u3.lc.length u3.cc u3.pp u3.lp.length u3.cp)),(b5,43,[Z xa2.d.call,Z xa2.d.a0,Z xa2.d.a1,Z xa2.d.a2,.slice xa2.p xa2.d.data.length xa2.c]),(b4,39,(cS u2.mo u2.po u2.inp u2.pj u2.lj.length u2.cj u2.rd u2.wr u2.pv u2.pc u2.lc.length u2.cc u2.pp u2.lp.length u2.cp)),(b3,5,[u8 97,u8 32,u8 124,u8 32,u8 98,u8 10]),(b2,43,[Z xa1.d.call,Z xa1.d.a0,Z xa1.d.a1,Z xa1.d.a2,.slice xa1.p xa1.d.data.length xa1.c]),(b1,39,(cS u1.mo u1.po u1.inp u1.pj u1.lj.length u1.cj u1.rd u1.wr u1.pv u1.pc u1.lc.length u1.cc u1.pp u1.lp.length u1.cp))]++(TA1++([])))++(TA2++(TA3++([]))))).m).1 hsm2) (congrArg Value.bool (show Bq u2.d=true by rw [hu2]; kernel_rfl))) fun J w19 V O=>Ka 2 [(0,I true)] V fun J V=>Ab (Aa (wp_ret (cv [I true] V (⟨rfl,O.only⟩))))
end Go.Proofs.YtdljjajjonfjbaaGreatDoor
