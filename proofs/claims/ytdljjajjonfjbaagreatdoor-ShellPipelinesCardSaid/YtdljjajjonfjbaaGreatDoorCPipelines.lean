import Derived.Test.YtdljjajjonfjbaaGreatDoorSwf
import Derived.Test.YtdljjajjonfjbaaGreatDoorShpr
import Derived.Test.YtdljjajjonfjbaaGreatDoorSn
import Derived.Test.YtdljjajjonfjbaaGreatDoorSx
import Derived.WalkKit
import Derived.ProofKit
import Derived.OpenShut
import Derived.ShutString
import Derived.ChangeOld
import Derived.Carry
import Derived.LaidMore
import Derived.LaidOnce
import Derived.SevenTiedAt
import Derived.SizedLaws
import Derived.Test.YtdljjajjonfjbaaGreatDoorShBase
import Derived.Test.YtdljjajjonfjbaaGreatDoorShh
import Derived.Test.YtdljjajjonfjbaaGreatDoorCards
import Derived.Test.YtdljjajjonfjbaaGreatDoorTie
import Derived.ChangeMaps5
set_option linter.unusedVariables false
set_option linter.unusedSimpArgs false
set_option maxRecDepth 10000
open Go.Proofs.Tryz renaming prog->sA
open Go.Ending renaming returned->sB
open List renaming length_append->sD,length_cons->sE,length_nil->sF,length_map->sG,mem_cons_self->sK,not_mem_nil->sL,mem_singleton->sM,append_nil->sN,mem_cons_of_mem->sP
open ByteArray renaming size_append->sS
open Bool renaming and_eq_true->sV
namespace Go.Proofs.YtdljjajjonfjbaaGreatDoor
open Go Go.Shelf Go.RowKit Go.Proofs Go.Proofs.Sx
def L4 (l:List JobL):Nat->Int
 | 0=>0
 | i+1=>IntKind.i64.wrap (L4 l i+((l.getD i qP).cmds.length:Int))
def L3 (l:List JobL):Bool:=decide (L4 l l.length<=15) && (Ot l && Aq l)
theorem iM {l:List JV} {i:Nat} {xp:Option Addr} {xc:Nat} {xl:List CV} {xb:Bool} (hx:l[i]? = some ⟨xp,xc,xl,xb⟩):IntKind.i64.wrap (L4 (l.map JV.d) i+((xl.length:Nat):Int))=L4 (l.map JV.d) (i+1):=by
 simp only [L4];rw [Ji (Lu hx)];show _=IntKind.i64.wrap (L4 (l.map JV.d) i+(((xl.map CV.d).length:Nat):Int));rw [sG]
theorem Z5 {l:List JobL} (h : ∀ x∈l,x.cmds.length<=8) (hl:l.length<=12) : ∀ i,i<=l.length->L4 l i=(nC (l.take i):Int)/\nC (l.take i)<=8*i
 | 0,_=>⟨rfl,Nat.le_refl _⟩
 | i+1,hi=>by
  obtain ⟨h1,h2⟩:=Z5 h hl i (by omega);have hx:l[i]? = some l[i]:=List.getElem?_eq_getElem (by omega);have h3:=h _ (List.getElem_mem (show i < l.length by omega))
  have e:nC (l.take (i+1))=nC (l.take i)+l[i].cmds.length:=by
   rw [List.take_add_one,hx]
   have : ∀ (a:List JobL) (x:JobL),nC (a++[x])=nC a+x.cmds.length:=fun a x=>by
    induction a with
    | nil=>show x.cmds.length+0=0+x.cmds.length; omega
    | cons y r ih=>show y.cmds.length+nC (r++[x])=y.cmds.length+nC r+x.cmds.length; omega
   exact this _ _
  refine ⟨?_,by omega⟩;simp only [L4];rw [Ji hx,h1,e];have hk:inK .i64 ((nC (l.take i):Int)+(l[i].cmds.length:Int)):=Am (by omega) (by omega);rw [hk.wrap];omega
theorem gZ {l:List JobL} (h:L3 l=true):Aq l=true/\nC l<=15/\Ot l=true:=by
 unfold L3 at h;rw [sV,sV] at h;obtain ⟨h1,h2,h3⟩:=h;refine ⟨h3,?_,h2⟩;have hf:=h2;unfold Ot at hf;rw [sV,List.all_eq_true] at hf;have hl:=rV hf.2
 have:=(Z5 (fun x hx=>by
  have:=hf.1 x hx;unfold L2 at this;rw [sV] at this;exact rV this.1) hl l.length (Nat.le_refl _)).1
 rw [List.take_length] at this;have:=rV h1;omega
theorem Zy (p:Option Addr) (c:Nat) (l:List JV) (w:World) (hv:VL w (.slice p l.length c) l) (hsm:smL 1000000000000000000 (l.map JV.d)) :
 Calls sA 8 #[.slice p l.length c] w fun e w'=>e = .returned (.bool (L3 (l.map JV.d)))/\Only Ai w w':=by
 refine Ao (args:=[.slice p l.length c]) (m:=28) (n:=29) Tryz.func8 rfl (by kernel_rfl) (by kernel_rfl) fun J V=>?_;have O:=Ow.nil sA Ai w;have hsl:=hsm.len;refine Sa [(2,I false)] V ?_;clear V J; intro J V;refine Sa [(3,Z 0)] V ?_;clear V J; intro J V;refine wp_seq (Sa [(4,Z 0)] V ?_);clear V J; intro J V;refine wp_block (Bc (fun mm J W=>∃ (i:Nat),mm=l.length - i/\Holds 29 [] J [(0,.slice p l.length c),(2,I false),(3,Z (L4 (l.map JV.d) i)),(4,Z ((i:Nat):Int))]/\Ow sA Ai w W []/\i<=l.length/\True) ?_ ?_)
 · exact ⟨_,0,rfl,V.ss,O.to,(Nat.zero_le _),trivial⟩
 rintro _ J w1 ⟨i,rfl,V,O,hi_i,-⟩;refine wp_seq (Sa [(8,I (decide (((i:Nat):Int) < ((l.length:Nat):Int))))] V ?_);clear V J; intro J V;rcases rU (decide (((i:Nat):Int) < ((l.length:Nat):Int))) with h1 | h1
 · rw [h1] at V;have h1p:=rV h1;obtain ⟨ad1,rfl⟩:=(hv.1).pos (by omega);obtain ⟨⟨xp1,xc1,xl1,xb1⟩,hx1⟩ : ∃ x,l[i]? = some x:=⟨_,Bg _ JV0 (by omega)⟩;have hvx1:Vw fC _ (.slice xp1 xl1.length xc1) xl1/\∀ y∈xl1,VC _ y:=hv.2 _ (List.mem_of_getElem? hx1);have hsj1:smJ _ (JV.d ⟨xp1,xc1,xl1,xb1⟩):=hsm.at hx1;have hsjl1:xl1.length<=_:=smJ.len (x:=⟨xp1,xc1,xl1,xb1⟩) hsj1;refine cT V (wp_skip (Aa (wp_seq (wp_block (Rc [(0,.slice (some ad1) l.length c),(3,Z (IntKind.i64.wrap ((L4 (l.map JV.d) i)+((xl1.length:Nat):Int))))] V [.slice xp1 xl1.length xc1,I false] (cc (⟨by omega,by omega⟩:(0:Int)<=((i:Nat):Int)/\((i:Nat):Int) < ((l.length:Nat):Int)) (cc (((hv.1.keep O.only).ld0 Ec hx1 (by rfl)):Ld sA w1 (ad1.add (i*2)) 69 (.slice xp1 xl1.length xc1)) c0)) ?_)))));clear V J; intro J V;refine Ac (Aa (Rc [(4,Z (((i:Nat):Int)+1))] V [I true] (cc ((Am (by omega) (by omega)):inK .i64 (((i:Nat):Int)+1)) c0) ?_));clear V J; intro J V;refine Aa ?_;rw [iM hx1] at V;exact ⟨_,by omega,i+1,rfl,V.ss,O.to,(by omega),trivial⟩
 rw [h1] at V;have h1p:=rX h1;refine cF V (wp_exit (Aj (Aj (An (Aa (sr 11 (Ka 3 [(20,I (decide ((L4 (l.map JV.d) i)<=15))),(21,I (decide ((L4 (l.map JV.d) i)<=15)))] V ?_)))))));clear V J; intro J V;rcases rU (decide ((L4 (l.map JV.d) i)<=15)) with h2 | h2
 · rw [h2] at V;have h2p:=rV h2;refine Ka 1 [(21,I true),(22,.slice p l.length c)] V ?_;clear V J; intro J V;refine Mk 23 V O Tryz.func25 (oD p c l _ (hv.keep O.only) hsm) ?_;clear V O J; intro J w2 V O;refine Ka 2 [(24,I (Ot (l.map JV.d))),(25,I (Ot (l.map JV.d)))] V ?_;clear V J; intro J V;rcases rU (Ot (l.map JV.d)) with h3 | h3
   · rw [h3] at V;refine Ka 1 [(25,I true),(26,.slice p l.length c)] V ?_;clear V J; intro J V;refine Mk 27 V O Tryz.func26 (Mt p c l _ (hv.keep O.only) hsm) ?_;clear V O J; intro J w3 V O;refine Ka 2 [(2,I (Aq (l.map JV.d)))] V ?_;clear V J; intro J V;refine Ab (Aa (wp_ret (cv [I (Aq (l.map JV.d))] V ?_)));have hF:=O.only; clear V O;refine ⟨congrArg (fun b=>sB (.bool b)) ?_,hF⟩;unfold L3;rw [sG,show l.length=i by omega];first | (simp_all; done) | (simp_all; omega)
   rw [h3] at V;refine Ka 4 [] V ?_;clear V J; intro J V;refine Ab (Aa (wp_ret (cv [I false] V ?_)));have hF:=O.only; clear V O;refine ⟨congrArg (fun b=>sB (.bool b)) ?_,hF⟩;unfold L3;rw [sG,show l.length=i by omega];first | (simp_all; done) | (simp_all; omega)
 rw [h2] at V;have h2p:=rX h2;refine Ka 8 [] V ?_;clear V J; intro J V;refine Ab (Aa (wp_ret (cv [I false] V ?_)));have hF:=O.only; clear V O;refine ⟨congrArg (fun b=>sB (.bool b)) ?_,hF⟩;unfold L3;rw [sG,show l.length=i by omega];first | (simp_all; done) | (simp_all; omega)
open Go Go.RowKit Go.Proofs.Sx
def n10 (l:List UInt8):Prop:=∀ x∈l,x≠10
theorem n10.app {a b:List UInt8} (h:n10 a) (k:n10 b):n10 (a++b):=fun x hx=>(List.mem_append.1 hx).elim (h x) (k x)
theorem Kx:n10 []:=fun x hx=>absurd hx sL
theorem Ga {l:List UInt8} (h:l.all (fun x=>x != 10)=true:=by decide):n10 l:=fun x hx=>by
 have:=List.all_eq_true.1 h x hx
 simpa using this
theorem Tj {u:ByteArray} (h:A3 u=true):n10 u.data.toList:=fun x hx e=>by
 have:=gL h x hx
 rw [e] at this
 exact absurd this (by decide)
theorem Ro {u:ByteArray} (h:Cf u=true):n10 u.data.toList:=by
 by_cases hz:u.size=0
 · have:u.data.toList=[]:=List.length_eq_zero_iff.1 (by rw [Ar]; exact hz)
   rw [this]; exact Kx
 · exact Tj (Kw h hz)
theorem fA (r:List (List UInt8)) (h : ∀ y∈r,n10 y):n10 (Lib.joinTail [32] r):=fun x hx=>by
 unfold Lib.joinTail at hx
 obtain ⟨y,hy,hxy⟩:=List.mem_flatten.1 hx
 obtain ⟨z,hz,rfl⟩:=List.mem_map.1 hy
 exact (Ga (l:=[32])).app (h z hz) x hxy
theorem fD : ∀ (r:List (List UInt8)),(∀ y∈r,n10 y)->n10 (Lib.join r [32])
 | [],_=>Kx
 | y::r,h=>by
  rw [Lib.join_cons]
  exact (h y (sK ..)).app (fA r fun z hz=>h z (sP _ hz))
theorem Za {d:CmdL} (h:Au d=true):n10 (prC d):=by
 obtain ⟨h1,h2,h3,h4,h5⟩:=Az h
 unfold prC
 refine fD _ fun y hy=>?_
 obtain ⟨u,hu,rfl⟩:=List.mem_map.1 hy
 rcases List.mem_append.1 hu with hu | hu
 · exact Tj (h1 u hu)
 · unfold Xz at hu
   rcases List.mem_append.1 hu with hu | hu
   · split at hu
     · exact absurd hu sL
     · rcases List.mem_cons.1 hu with rfl | hu
       · exact Ga (l:=[60])
       · rw [sM.1 hu]; exact Ro h3
   · split at hu
     · rcases List.mem_cons.1 hu with rfl | hu
       · exact Ga (l:=[62,62])
       · rw [sM.1 hu]; exact Ro h4
     · split at hu
       · exact absurd hu sL
       · rcases List.mem_cons.1 hu with rfl | hu
         · exact Ga (l:=[62])
         · rw [sM.1 hu]; exact Ro h4
theorem Ts : ∀ v:List CmdL,(∀ c∈v,Au c=true)->n10 (Rh v)
 | [],_=>Kx
 | c::r,h=>(Ga (l:=[32,124,32])).app ((Za (h c (sK ..))).app (Ts r fun x hx=>h x (sP _ hx)))
theorem Kn {x:JobL} (h:Bq x=true):x.cmds≠[]/\∀ c∈x.cmds,Au c=true:=by
 rw [Vq,sV,List.all_eq_true] at h
 have:=rV h.1
 exact ⟨fun e=>by rw [e] at this; simp at this,h.2⟩
theorem kV {x:JobL} (h:Bq x=true):n10 (prJ x):=by
 obtain ⟨h1,h2⟩:=Kn h
 unfold prJ
 cases hc:x.cmds with
 | nil=>exact absurd hc h1
 | cons c r =>
  rw [Pz]
  rw [hc] at h2
  exact (Za (h2 c (sK ..))).app (Ts r fun y hy=>h2 y (sP _ hy))
theorem Tp : ∀ v:List JobL,(∀ x∈v,Bq x=true)->n10 (Su v)
 | [],_=>Kx
 | x::r,h=>by
  have hs:n10 (My x.bg r.isEmpty):=by
   unfold My
   split
   · split
     · exact Ga
     · exact Ga
   · split
     · exact Kx
     · exact Ga
  exact (kV (h x (sK ..))).app (hs.app (Tp r fun y hy=>h y (sP _ hy)))
theorem lH {l:List JobL} (hf:L3 l=true) (hs:(bA (prL l)).size<=200) (fails:List Int):Fin (fails=[]) (P0 (Fu (bA (prL l)++(⟨#[10]⟩:ByteArray)) 80) fails) (Bm l ex0).1 (Bm l ex0).2:=by
 obtain ⟨hv,hn,_⟩:=gZ hf
 have hp:=Gy hv
 refine fO (Ud hv) ?_ hv (fun j hj=>(Kn (hp.1 j hj)).1) hn hs (cs:=Fu (bA (prL l)++nlB) 80) ?_ ?_ fails
 · intro x hx
   rw [Nh,Sv] at hx
   exact Tp l hp.1 x hx
 · exact O5 (by decide) _ _ (Nat.le_refl _)
 · refine O4 (by decide) _ _ (Nat.le_refl _) ?_
   rw [sS]
   have:nlB.size=1:=rfl
   omega
theorem Y0 : ∀ (m i:Nat) (w:WL),smW i w->smW (i+m) (Fz m w)
 | 0,i,w,h=>h
 | m+1,i,w,h=>by
  by_cases he:w.exit < 0
  · rw [Y1 he,show i+(m+1)=(i+1)+m by omega];exact Y0 m (i+1) _ h.step
  · rw [Sy he]
    have : ∀ k,smW (i+k) w:=fun k=>by
     induction k with
     | zero=>exact h
     | succ k ih=>exact ih.up
    exact this _
theorem aT (inp:List ByteArray) (fails:List Int):(P0 inp fails).runs.length<=900:=by
 have:=(Y0 900 0 _ (smW0 inp fails)).runs;rw [Nat.zero_add] at this;exact this
theorem R2.runs {a:WV} {T:OwL} (h:R2 a T):Ah T fun w=>Vw fR w (.slice a.rp a.rl.length a.rc) a.rl:=by
 obtain ⟨TR,TA,TW,TS,rfl,hk⟩:=h;exact hk.r.holds.l
theorem Rd {l:List JV} (h:Aq (l.map JV.d)=true):(bA (prL (l.map JV.d))).size<=1000000:=by
 have h1:=(Dn h).1;have h2:=Rg h l.length (Nat.le_refl _);rw [Bn];unfold prL;rw [sG]; omega
theorem mU {l:List JobL} (h:Aq l=false):L3 l=false:=by unfold L3; rw [h]; simp
theorem K9 {l:List JV} {i:Nat} {x:JV} (hx:l[i]? = some x) (e:EX):Bm ((l.map JV.d).drop i) e=if Be x.d.cmds=true then (e,true) else Bm ((l.map JV.d).drop (i+1)) (Hp x.d e):=by
 have h1:(l.map JV.d)[i]? = some x.d:=Lu hx;have hi:=(List.getElem?_eq_some_iff.1 h1).1;rw [List.drop_eq_getElem_cons hi,(List.getElem?_eq_some_iff.1 h1).2,Bm]
theorem nE {l:List JV} {i:Nat} (h : ¬ i < l.length) (e:EX):Bm ((l.map JV.d).drop i) e=(e,false):=by
 rw [List.drop_eq_nil_of_le (by rw [sG]; omega)]; rfl
theorem X0 {l:List CV} {k:Nat} {y:CV} (hy:l[k]? = some y) (b:ByteArray) (e:EX):Fa ((l.map CV.d).drop k) b e=Fa ((l.map CV.d).drop (k+1)) (Uw (decide (k+1=l.length)) b e) (X1 y.d (decide (k+1=l.length)) b e):=by
 have h1:(l.map CV.d)[k]? = some y.d:=Lu hy;have hi:=(List.getElem?_eq_some_iff.1 h1).1
 have e2:((l.map CV.d).drop (k+1)).isEmpty=decide (k+1=l.length):=by
  rw [Bool.eq_iff_iff,List.isEmpty_iff,List.drop_eq_nil_iff,decide_eq_true_iff,sG];rw [sG] at hi;omega
 rw [List.drop_eq_getElem_cons hi,(List.getElem?_eq_some_iff.1 h1).2,Fa,e2]
theorem Qn {l:List CV} {k:Nat} (h : ¬ k < l.length) (b:ByteArray) (e:EX):Fa ((l.map CV.d).drop k) b e=e:=by
 rw [List.drop_eq_nil_of_le (by rw [sG]; omega)]; rfl
theorem bS {l:List CV} {y:CV} {z:ByteArray} (hy:l[0]? = some y) (hz:y.d.words[0]? = some z):Be (l.map CV.d)=(decide (l.length=1) && (z.toList == Z1.toList)):=by
 unfold Be;rw [sG];have h1:Pk (l.map CV.d)=y.d:=K2 (Lu hy);rw [h1];have:Bp y.d=z:=K2 hz;rw [this]
theorem Qa {l:List CV} {k:Nat} {y:CV} (hy:l[k]? = some y):(l.take (k+1)).any (fun c=>Cy c.d)=((l.take k).any (fun c=>Cy c.d) || Cy y.d):=by
 rw [List.take_add_one,hy,List.any_append];simp
theorem Ua {l:List CV} {k:Nat} (h : ¬ k < l.length):(l.take k).any (fun c=>Cy c.d)=Bz (l.map CV.d):=by
 rw [List.take_of_length_le (by omega)];unfold Bz;rw [List.any_map]; rfl
theorem fL (d:CmdL):Cy d=decide (((d.words.length:Nat):Int) > 1):=decide_eq_decide.2 (by omega)
theorem X2 (p:Int):Utf8.encode (IntKind.i32.wrap (97+(p % 26)))=C5 p:=by unfold C5; rw [(Hd (x:=97+p % 26) (by omega) (by omega)).wrap]
theorem Gj (p:Int):(C5 p).size<=4:=by unfold C5; exact M2 _
theorem mG (nm:ByteArray):A0 0 nm=(⟨#[102,105,108,101,32,48,32]⟩:ByteArray)++nm:=by unfold A0; rw [show Oq++Utf8.encode (48+(0:Int).tmod 10)++spN=(⟨#[102,105,108,101,32,48,32]⟩:ByteArray) from Dm (by decide)]
theorem mE (nm:ByteArray):A0 5 nm=(⟨#[102,105,108,101,32,53,32]⟩:ByteArray)++nm:=by unfold A0; rw [show Oq++Utf8.encode (48+(5:Int).tmod 10)++spN=(⟨#[102,105,108,101,32,53,32]⟩:ByteArray) from Dm (by decide)]
theorem mF (nm:ByteArray):A0 3 nm=(⟨#[102,105,108,101,32,51,32]⟩:ByteArray)++nm:=by unfold A0; rw [show Oq++Utf8.encode (48+(3:Int).tmod 10)++spN=(⟨#[102,105,108,101,32,51,32]⟩:ByteArray) from Dm (by decide)]
set_option maxHeartbeats 4000000 in
theorem Rw (p:Option Addr) (c:Nat) (l:List JV) (w:World) (hv:VL w (.slice p l.length c) l) (hvl:Aq (l.map JV.d)=true) :
 Calls sA 12 #[.slice p l.length c] w fun e w'=>∃ (pr:Option Addr) (cr:Nat) (Tr:OwL) (pw:Option Addr) (cw:Nat) (Tw:OwL),e = .returned (.tuple #[.slice pr (Bm (l.map JV.d) ex0).1.runs.length cr,.slice pw (Bm (l.map JV.d) ex0).1.waited.length cw,Z (Bm (l.map JV.d) ex0).1.told,I (Bm (l.map JV.d) ex0).2])/\One fR 50 9 pr cr (Bm (l.map JV.d) ex0).1.runs Tr/\One fN 3 1 pw cw (Bm (l.map JV.d) ex0).1.waited Tw/\(Bm (l.map JV.d) ex0).1.runs.length<=32/\(Bm (l.map JV.d) ex0).1.waited.length<=32/\Ow sA Ai w w' (Tr++Tw):=by
 refine Ao (args:=[.slice p l.length c]) (m:=150) (n:=151) Tryz.func12 rfl (by kernel_rfl) (by kernel_rfl) fun J V=>?_;have O:=Ow.nil sA Ai w;have hl8:=(Dn hvl).1;have hlit0:(⟨#[102,105,108,101,32,48,32]⟩:ByteArray).size=7:=rfl;have hlit1:(⟨#[102,105,108,101,32,53,32]⟩:ByteArray).size=7:=rfl;have hlit2:(⟨#[102,105,108,101,32,51,32]⟩:ByteArray).size=7:=rfl;have hlit3:(⟨#[114]⟩:ByteArray).size=1:=rfl;have hlit4:(⟨#[119]⟩:ByteArray).size=1:=rfl;refine Sa [(2,.slice none 0 0),(3,.slice none 0 0),(4,Z 0),(5,I false)] V ?_;clear V J; intro J V;refine Sa [(6,Z 0),(7,Z 0)] V ?_;clear V J; intro J V;refine wp_seq (Sa [(8,Z 0)] V ?_);clear V J; intro J V;refine wp_block ?_;have hT1:=One.nil fR 50 9;rw [show ([])=ex0.runs from rfl] at hT1;have hT2:=One.nil fN 3 1;rw [show ([])=ex0.waited from rfl] at hT2;refine Bc (fun mm J W=>∃ (i:Nat) (e1:EX) (pL1:Option Addr) (cL1:Nat) (TL1:OwL) (pL2:Option Addr) (cL2:Nat) (TL2:OwL),mm=l.length - i/\Holds 151 [] J [(0,.slice p l.length c),(2,.slice pL1 e1.runs.length cL1),(3,.slice pL2 e1.waited.length cL2),(4,Z e1.told),(5,I false),(6,Z e1.pipes),(7,Z e1.fin),(8,Z ((i:Nat):Int))]/\Ow sA Ai w W ([]++(TL1++(TL2++([]))))/\One fR 50 9 pL1 cL1 e1.runs TL1/\One fN 3 1 pL2 cL2 e1.waited TL2/\i<=l.length/\Bm ((l.map JV.d).drop i) e1=Bm (l.map JV.d) ex0/\(0<=e1.told/\e1.told<=i)/\(0<=e1.pipes/\e1.pipes<=4*(i:Int))/\(0<=e1.fin/\e1.fin<=4*(i:Int))/\(e1.runs.length<=4*i/\e1.waited.length<=4*i)/\True) ?_ ?_
 · exact ⟨_,0,ex0,none,0,[],none,0,[],rfl,V.ss,O.tt,hT1,hT2,(Nat.zero_le _),rfl,⟨by decide,by decide⟩,⟨by decide,by decide⟩,⟨by decide,by decide⟩,⟨by decide,by decide⟩,trivial⟩
 rintro _ J w1 ⟨i,e1,pL1,cL1,TL1,pL2,cL2,TL2,rfl,V,O,hTL1,hTL2,hi_i,hE,hb1,hb2,hb3,hb4,-⟩;refine wp_seq (Sa [(19,I (decide (((i:Nat):Int) < ((l.length:Nat):Int))))] V ?_);clear V J; intro J V;rcases rU (decide (((i:Nat):Int) < ((l.length:Nat):Int))) with h1 | h1
 · rw [h1] at V;have h1p:=rV h1;obtain ⟨ad1,rfl⟩:=(hv.1).pos (by omega);obtain ⟨⟨xp1,xc1,xl1,xb1⟩,hx1⟩ : ∃ x,l[i]? = some x:=⟨_,Bg _ JV0 (by omega)⟩;have hvx1:Vw fC _ (.slice xp1 xl1.length xc1) xl1/\∀ y∈xl1,VC _ y:=hv.2 _ (List.mem_of_getElem? hx1);obtain ⟨hvj,hvjc⟩:(1<=xl1.length/\xl1.length<=4)/\∀ y∈xl1,Au y.d=true:=(Dn hvl).2 _ (List.mem_of_getElem? hx1);refine cT V (wp_skip (Aa (wp_seq (wp_block (sr 6 (Kb 4 [(0,.slice (some ad1) l.length c),(25,.agg #[.slice xp1 xl1.length xc1,I xb1])] V [.agg #[.slice xp1 xl1.length xc1,I xb1]] (cc (⟨by omega,by omega⟩:(0:Int)<=((i:Nat):Int)/\((i:Nat):Int) < ((l.length:Nat):Int)) (cc (((hv.1.keep O.only).ldn Ec hx1):Ld sA w1 (ad1.add (i*2)) 71 (.agg #[.slice xp1 xl1.length xc1,I xb1])) c0)) ?_))))));clear V J; intro J V;refine Mn [.slice none 0 0,I false] 71 9 V O ?_;clear V O J; intro J w2 b1 V O;refine Ms 0 [.slice xp1 xl1.length xc1,I xb1] 0 V O ?_;clear O; intro w3 O;replace V:=V.sb (e':=[(0,.slice (some ad1) l.length c),(2,.slice pL1 e1.runs.length cL1),(3,.slice pL2 e1.waited.length cL2),(4,Z e1.told),(5,I false),(6,Z e1.pipes),(7,Z e1.fin),(8,Z ((i:Nat):Int)),(9,pt b1)])
   refine Ab (Aa (wp_seq (sJ (fun J W=>Holds 151 [] J [(0,.slice (some ad1) l.length c),(2,.slice pL1 e1.runs.length cL1),(3,.slice pL2 e1.waited.length cL2),(4,Z e1.told),(5,I false),(6,Z e1.pipes),(7,Z e1.fin),(8,Z ((i:Nat):Int)),(9,pt b1),(39,I (Be (xl1.map CV.d)))]/\Ow sA Ai w W ([(b1,71,[.slice xp1 xl1.length xc1,I xb1])]++(TL1++(TL2++([]))))/\True) ?_ ?_)))
   · rintro J w4 ⟨V,O,-⟩;rcases rU (Be (xl1.map CV.d)) with h2 | h2
     · rw [h2] at V;refine cT V (sC (e':=[(0,.slice (some ad1) l.length c),(2,.slice pL1 e1.runs.length cL1),(3,.slice pL2 e1.waited.length cL2),(4,Z e1.told),(5,I true),(6,Z e1.pipes),(7,Z e1.fin),(8,Z ((i:Nat):Int))]) 7 V [] c0 ?_);clear V J; intro J V;refine wp_ret (Ad (Ae (Ad (Ad (Ae (Ad (cv [.slice pL1 e1.runs.length cL1,.slice pL2 e1.waited.length cL2,Z e1.told,I true] V ?_)))))));replace O:Ow sA Ai w w4 ([(b1,71,[.slice xp1 xl1.length xc1,I xb1])]++(TL1++(TL2++([])))):=O;have hq_:Bm (l.map JV.d) ex0=(e1,true):=by rw [← hE,K9 hx1 e1,if_pos (show Be (JV.d (⟨xp1,xc1,xl1,xb1⟩:JV)).cmds=true from h2)]
       rw [hq_];exact ⟨pL1,cL1,TL1,pL2,cL2,TL2,rfl,hTL1,hTL2,(show e1.runs.length<=32 by omega),(show e1.waited.length<=32 by omega),((Ow.subP (A:=[_]) O (.cons _ .slnil))).tt⟩
     rw [h2] at V;refine cF V (wp_skip (Aa (sC (e':=[(0,.slice (some ad1) l.length c),(2,.slice pL1 e1.runs.length cL1),(3,.slice pL2 e1.waited.length cL2),(4,Z e1.told),(5,I false),(6,Z e1.pipes),(7,Z e1.fin),(8,Z ((i:Nat):Int)),(9,pt b1),(10,I false)]) 1 V [] c0 ?_)));clear V J; intro J V;refine wp_seq (sC (e':=[(0,.slice (some ad1) l.length c),(2,.slice pL1 e1.runs.length cL1),(3,.slice pL2 e1.waited.length cL2),(4,Z e1.told),(5,I false),(6,Z e1.pipes),(7,Z e1.fin),(8,Z ((i:Nat):Int)),(9,pt b1),(10,I false),(11,Z 0)]) 1 V [] c0 ?_);clear V J; intro J V;refine wp_block (Bc (fun mm J W=>∃ (m2:Nat),mm=xl1.length - m2/\Holds 151 [] J [(0,.slice (some ad1) l.length c),(2,.slice pL1 e1.runs.length cL1),(3,.slice pL2 e1.waited.length cL2),(4,Z e1.told),(5,I false),(6,Z e1.pipes),(7,Z e1.fin),(8,Z ((i:Nat):Int)),(9,pt b1),(10,I ((xl1.take m2).any (fun c_=>Cy c_.d))),(11,Z ((m2:Nat):Int))]/\Ow sA Ai w W ([(b1,71,[.slice xp1 xl1.length xc1,I xb1])]++(TL1++(TL2++([]))))/\m2<=xl1.length/\True) ?_ ?_)
     · exact ⟨_,0,rfl,(V.sub (e':=[(0,.slice (some ad1) l.length c),(2,.slice pL1 e1.runs.length cL1),(3,.slice pL2 e1.waited.length cL2),(4,Z e1.told),(5,I false),(6,Z e1.pipes),(7,Z e1.fin),(8,Z ((i:Nat):Int)),(9,pt b1),(10,I false),(11,Z 0)]) [0,2,3,4,5,6,7,8,9,10,11] (by kernel_rfl)).cast (by kernel_rfl),O.tt,(Nat.zero_le _),trivial⟩
     rintro _ J w5 ⟨m2,rfl,V,O,hi_m,-⟩;refine wp_seq (sC (e':=[(0,.slice (some ad1) l.length c),(2,.slice pL1 e1.runs.length cL1),(3,.slice pL2 e1.waited.length cL2),(4,Z e1.told),(5,I false),(6,Z e1.pipes),(7,Z e1.fin),(8,Z ((i:Nat):Int)),(9,pt b1),(10,I ((xl1.take m2).any (fun c_=>Cy c_.d))),(11,Z ((m2:Nat):Int)),(47,I (decide (((m2:Nat):Int) < ((xl1.length:Nat):Int))))]) 5 V [.slice xp1 xl1.length xc1] (cc (O.l1 0 0 69 (.slice xp1 xl1.length xc1)) c0) ?_);clear V J; intro J V;rcases rU (decide (((m2:Nat):Int) < ((xl1.length:Nat):Int))) with h3 | h3
     · rw [h3] at V;have h3p:=rV h3;obtain ⟨ad2,rfl⟩:=(hvx1.1).pos (by omega);obtain ⟨⟨yp1,yc1,yd1⟩,hy1⟩ : ∃ x,xl1[m2]? = some x:=⟨_,Bg _ CV0 (by omega)⟩;have hvy1:Vw fT _ (.slice yp1 yd1.words.length yc1) yd1.words:=hvx1.2 _ (List.mem_of_getElem? hy1);have hvc_:Au yd1=true:=hvjc _ (List.mem_of_getElem? hy1);have hwl_:=(Az hvc_).2.1;have hsi_:=Bu (Az hvc_).2.2.1;have hso_:=Bu (Az hvc_).2.2.2.1;refine cT V (wp_skip (Aa (wp_seq (wp_block (rr 12 (Ka 2 [(50,I ((xl1.take m2).any (fun c_=>Cy c_.d))),(51,I ((xl1.take m2).any (fun c_=>Cy c_.d)))] V ?_))))));clear V J; intro J V;rcases rU ((xl1.take m2).any (fun c_=>Cy c_.d)) with h4 | h4
       · rw [h4] at V;refine Ka 10 [(10,I true)] V ?_;clear V J; intro J V;refine Ab (Ac (Aa (Rc [(11,Z (((m2:Nat):Int)+1))] V [I true] (cc ((Am (by omega) (by omega)):inK .i64 (((m2:Nat):Int)+1)) c0) ?_)));clear V J; intro J V;exact Aa (⟨_,by omega,m2+1,rfl,(V.sub (e':=[(0,.slice (some ad1) l.length c),(2,.slice pL1 e1.runs.length cL1),(3,.slice pL2 e1.waited.length cL2),(4,Z e1.told),(5,I false),(6,Z e1.pipes),(7,Z e1.fin),(8,Z ((i:Nat):Int)),(9,pt b1),(10,I true),(11,Z (((m2:Nat):Int)+1))]) [0,2,3,4,5,6,7,8,9,10,11] (by kernel_rfl)).cast (by rw [show (xl1.take (m2+1)).any (fun c_=>Cy c_.d)=true from by (rw [Qa hy1,h4] <;> first | rfl | exact fL _)]; kernel_rfl),O,(by omega),trivial⟩)
       rw [h4] at V;refine Kb 10 [(10,I (decide (((yd1.words.length:Nat):Int) > 1)))] V [.slice (some ad2) xl1.length xc1,.slice yp1 yd1.words.length yc1] (cc (O.l1 0 0 69 (.slice (some ad2) xl1.length xc1)) (cc (⟨by omega,by omega⟩:(0:Int)<=((m2:Nat):Int)/\((m2:Nat):Int) < ((xl1.length:Nat):Int)) (cc (((hvx1.1.keep O.only).ld0 Ey hy1 (by rfl)):Ld sA w5 (ad2.add (m2*4)) 30 (.slice yp1 yd1.words.length yc1)) c0))) ?_;clear V J; intro J V;refine Ab (Ac (Aa (Rc [(11,Z (((m2:Nat):Int)+1))] V [I true] (cc ((Am (by omega) (by omega)):inK .i64 (((m2:Nat):Int)+1)) c0) ?_)));clear V J; intro J V;exact Aa (⟨_,by omega,m2+1,rfl,(V.sub (e':=[(0,.slice (some ad1) l.length c),(2,.slice pL1 e1.runs.length cL1),(3,.slice pL2 e1.waited.length cL2),(4,Z e1.told),(5,I false),(6,Z e1.pipes),(7,Z e1.fin),(8,Z ((i:Nat):Int)),(9,pt b1),(10,I (decide (((yd1.words.length:Nat):Int) > 1))),(11,Z (((m2:Nat):Int)+1))]) [0,2,3,4,5,6,7,8,9,10,11] (by kernel_rfl)).cast (by rw [show (xl1.take (m2+1)).any (fun c_=>Cy c_.d)=decide (((yd1.words.length:Nat):Int) > 1) from by (rw [Qa hy1,h4] <;> first | rfl | exact fL _)]; kernel_rfl),O,(by omega),trivial⟩)
     rw [h3] at V;have h3p:=rX h3;refine cF V (wp_exit (Aj (Aj (An (Aa (wp_seq (Sa [(61,I ((xl1.take m2).any (fun c_=>Cy c_.d)))] V ?_)))))));clear V J; intro J V;rcases rU ((xl1.take m2).any (fun c_=>Cy c_.d)) with h5 | h5
     · rw [h5] at V;have hlj:Bz (xl1.map CV.d)=true:=by rw [← Ua (l:=xl1) (k:=m2) (by omega)]; exact h5
       refine cT V (Sb [(4,Z (e1.told+1))] V [I true] (cc ((Am (by omega) (by omega)):inK .i64 (e1.told+1)) c0) ?_);clear V J; intro J V;refine wp_exit (Aj (An (Aa (rC (e':=[(0,.slice (some ad1) l.length c),(2,.slice pL1 e1.runs.length cL1),(3,.slice pL2 e1.waited.length cL2),(4,Z (e1.told+1)),(5,I false),(6,Z e1.pipes),(7,Z e1.fin),(8,Z (((i:Nat):Int)+1))]) 3 V [I true] (cc ((Am (by omega) (by omega)):inK .i64 (((i:Nat):Int)+1)) c0) ?_))));clear V J; intro J V;refine Aa ?_;have hE2:=hE;rw [K9 hx1 e1,if_neg (show ¬ Be (JV.d (⟨xp1,xc1,xl1,xb1⟩:JV)).cmds=true from (show ¬ Be (xl1.map CV.d)=true by rw [h2]; decide))] at hE2;have hG:Hp (JV.d (⟨xp1,xc1,xl1,xb1⟩:JV)) e1=({e1 with told:=e1.told+1}:EX):=by unfold Hp; exact if_pos hlj
       rw [hG] at hE2;exact ⟨_,by omega,i+1,({e1 with told:=e1.told+1}:EX),pL1,cL1,TL1,pL2,cL2,TL2,rfl,(V.sub (e':=[(0,.slice (some ad1) l.length c),(2,.slice pL1 e1.runs.length cL1),(3,.slice pL2 e1.waited.length cL2),(4,Z (e1.told+1)),(5,I false),(6,Z e1.pipes),(7,Z e1.fin),(8,Z (((i:Nat):Int)+1))]) [0,2,3,4,5,6,7,8] (by kernel_rfl)).cast (by kernel_rfl),(Ow.subP (A:=[_]) O (.cons _ .slnil)),hTL1,hTL2,(by omega),hE2,(by refine ⟨?_,?_⟩ <;> (try simp only []) <;> omega),(by refine ⟨?_,?_⟩ <;> (try simp only []) <;> omega),(by refine ⟨?_,?_⟩ <;> (try simp only []) <;> omega),(by refine ⟨?_,?_⟩ <;> (try simp only []) <;> omega),trivial⟩
     rw [h5] at V;have hlj:Bz (xl1.map CV.d)=false:=by rw [← Ua (l:=xl1) (k:=m2) (by omega)]; exact h5
     refine cF V (wp_skip (Aa (sC (e':=[(0,.slice (some ad1) l.length c),(2,.slice pL1 e1.runs.length cL1),(3,.slice pL2 e1.waited.length cL2),(4,Z e1.told),(5,I false),(6,Z e1.pipes),(7,Z e1.fin),(8,Z ((i:Nat):Int)),(9,pt b1),(12,Y (⟨#[]⟩))]) 1 V [] c0 ?_)));clear V J; intro J V;refine wp_seq (sC (e':=[(0,.slice (some ad1) l.length c),(2,.slice pL1 e1.runs.length cL1),(3,.slice pL2 e1.waited.length cL2),(4,Z e1.told),(5,I false),(6,Z e1.pipes),(7,Z e1.fin),(8,Z ((i:Nat):Int)),(9,pt b1),(12,Y (⟨#[]⟩)),(13,Z 0)]) 1 V [] c0 ?_);clear V J; intro J V;refine wp_block (Bc (fun mm J W=>∃ (k:Nat) (bb:ByteArray) (e2:EX) (pL3:Option Addr) (cL3:Nat) (TL3:OwL) (pL4:Option Addr) (cL4:Nat) (TL4:OwL),mm=xl1.length - k/\Holds 151 [] J [(0,.slice (some ad1) l.length c),(2,.slice pL3 e2.runs.length cL3),(3,.slice pL4 e2.waited.length cL4),(4,Z e2.told),(5,I false),(6,Z e2.pipes),(7,Z e2.fin),(8,Z ((i:Nat):Int)),(9,pt b1),(12,Y bb),(13,Z ((k:Nat):Int))]/\Ow sA Ai w W ([(b1,71,[.slice xp1 xl1.length xc1,I xb1])]++(TL3++(TL4++([]))))/\One fR 50 9 pL3 cL3 e2.runs TL3/\One fN 3 1 pL4 cL4 e2.waited TL4/\k<=xl1.length/\Fa ((xl1.map CV.d).drop k) bb e2=Fa (xl1.map CV.d) ⟨#[]⟩ e1/\(e2.told=e1.told/\e2.fin=e1.fin)/\(0<=e2.pipes/\e2.pipes<=e1.pipes+(k:Int))/\(e2.runs.length=e1.runs.length+k/\e2.waited.length=e1.waited.length+k)/\bb.size<=4/\True) ?_ ?_)
     · exact ⟨_,0,⟨#[]⟩,e1,pL1,cL1,TL1,pL2,cL2,TL2,rfl,(V.sub (e':=[(0,.slice (some ad1) l.length c),(2,.slice pL1 e1.runs.length cL1),(3,.slice pL2 e1.waited.length cL2),(4,Z e1.told),(5,I false),(6,Z e1.pipes),(7,Z e1.fin),(8,Z ((i:Nat):Int)),(9,pt b1),(12,Y (⟨#[]⟩)),(13,Z 0)]) [0,2,3,4,5,6,7,8,9,12,13] (by kernel_rfl)).cast (by kernel_rfl),O.tt,hTL1,hTL2,(Nat.zero_le _),rfl,⟨rfl,rfl⟩,(by omega),⟨rfl,rfl⟩,(Nat.zero_le _),trivial⟩
     rintro _ J w6 ⟨k,bb,e2,pL3,cL3,TL3,pL4,cL4,TL4,rfl,V,O,hTL3,hTL4,hi_k,hC,ht1,ht2,ht3,ht4,-⟩;refine wp_seq (sC (e':=[(0,.slice (some ad1) l.length c),(2,.slice pL3 e2.runs.length cL3),(3,.slice pL4 e2.waited.length cL4),(4,Z e2.told),(5,I false),(6,Z e2.pipes),(7,Z e2.fin),(8,Z ((i:Nat):Int)),(9,pt b1),(12,Y bb),(13,Z ((k:Nat):Int)),(68,I (decide (((k:Nat):Int) < ((xl1.length:Nat):Int))))]) 5 V [.slice xp1 xl1.length xc1] (cc (O.l1 0 0 69 (.slice xp1 xl1.length xc1)) c0) ?_);clear V J; intro J V;rcases rU (decide (((k:Nat):Int) < ((xl1.length:Nat):Int))) with h6 | h6
     · rw [h6] at V;have h6p:=rV h6;obtain ⟨ad3,rfl⟩:=(hvx1.1).pos (by omega);obtain ⟨⟨yp2,yc2,yd2⟩,hy2⟩ : ∃ x,xl1[k]? = some x:=⟨_,Bg _ CV0 (by omega)⟩;have hvy2:Vw fT _ (.slice yp2 yd2.words.length yc2) yd2.words:=hvx1.2 _ (List.mem_of_getElem? hy2);have hvc_:Au yd2=true:=hvjc _ (List.mem_of_getElem? hy2);have hwl_:=(Az hvc_).2.1;have hsi_:=Bu (Az hvc_).2.2.1;have hso_:=Bu (Az hvc_).2.2.2.1;obtain ⟨ad4,rfl⟩:=(hvy2).pos (by omega);obtain ⟨z1,hz1⟩ : ∃ x,yd2.words[0]? = some x:=⟨_,Bg _ ⟨#[]⟩ (by omega)⟩;have hzs_z1:=(C7 ((Az hvc_).1 _ (List.mem_of_getElem? hz1))).2;obtain rfl:z1=Bp yd2:=(K2 hz1).symm;refine cT V (wp_skip (Aa (wp_seq (wp_block (sr 7 (Kb 5 [(75,.agg #[.slice (some ad4) yd2.words.length yc2,Y yd2.inp,Y yd2.out,I yd2.app])] V [.slice (some ad3) xl1.length xc1,.agg #[.slice (some ad4) yd2.words.length yc2,Y yd2.inp,Y yd2.out,I yd2.app]] (cc (O.l1 0 0 69 (.slice (some ad3) xl1.length xc1)) (cc (⟨by omega,by omega⟩:(0:Int)<=((k:Nat):Int)/\((k:Nat):Int) < ((xl1.length:Nat):Int)) (cc (((hvx1.1.keep O.only).ldn Ey hy2):Ld sA w6 (ad3.add (k*4)) 73 (.agg #[.slice (some ad4) yd2.words.length yc2,Y yd2.inp,Y yd2.out,I yd2.app])) c0))) ?_))))));clear V J; intro J V;refine Mn [.slice none 0 0,Y (⟨#[]⟩),Y (⟨#[]⟩),I false] 73 14 V O ?_;clear V O J; intro J w7 b2 V O;refine Ms 0 [.slice (some ad4) yd2.words.length yc2,Y yd2.inp,Y yd2.out,I yd2.app] 0 V O ?_;clear O; intro w8 O
       refine Ab (Aa (sr 7 (Kb 5 [(80,.agg #[Y (Bp yd2),Y (⟨#[]⟩),Y (⟨#[]⟩),Y (⟨#[]⟩),Y (⟨#[]⟩),Y (⟨#[]⟩),Y (⟨#[]⟩),Y (⟨#[]⟩),Y (⟨#[]⟩)])] V [.slice (some ad4) yd2.words.length yc2,Y (Bp yd2)] (cc (O.l1 0 0 30 (.slice (some ad4) yd2.words.length yc2)) (cc (⟨by omega,by omega⟩:(0:Int)<=0/\0 < ((yd2.words.length:Nat):Int)) (cc (((hvy2.keep O.only).ldT hz1):Ld sA w8 (ad4.add 0) 9 (Y (Bp yd2))) c0))) ?_)));clear V J; intro J V;refine Mn [Y (⟨#[]⟩),Y (⟨#[]⟩),Y (⟨#[]⟩),Y (⟨#[]⟩),Y (⟨#[]⟩),Y (⟨#[]⟩),Y (⟨#[]⟩),Y (⟨#[]⟩),Y (⟨#[]⟩)] 50 15 V O ?_;clear V O J; intro J w9 b3 V O;refine Ms 0 [Y (Bp yd2),Y (⟨#[]⟩),Y (⟨#[]⟩),Y (⟨#[]⟩),Y (⟨#[]⟩),Y (⟨#[]⟩),Y (⟨#[]⟩),Y (⟨#[]⟩),Y (⟨#[]⟩)] 0 V O ?_;clear O; intro w10 O;refine Ab (Aa (sr 9 (Kb 2 [(82,pf b3 1)] V [] (cc (⟨by omega,by omega⟩:(0:Int)<=0/\0 < ((8:Nat):Int)) c0) ?_)));clear V J; intro J V;refine Ms 1 [Y (⟨#[105,110]⟩)] 0 V O ?_;clear O; intro w11 O;refine Kb 2 [(84,pf b3 2)] V [] (cc (⟨by omega,by omega⟩:(0:Int)<=1/\1 < ((8:Nat):Int)) c0) ?_;clear V J; intro J V;refine Ms 2 [Y (⟨#[111,117,116]⟩)] 0 V O ?_;clear O; intro w12 O;refine Kb 2 [(86,pf b3 3)] V [] (cc (⟨by omega,by omega⟩:(0:Int)<=2/\2 < ((8:Nat):Int)) c0) ?_;clear V J; intro J V;refine Ms 3 [Y (⟨#[101,114,114]⟩)] 0 V O ?_;clear O; intro w13 O
       refine Ab (Aa (sJ (fun J W=>Holds 151 [] J [(0,.slice (some ad1) l.length c),(2,.slice pL3 e2.runs.length cL3),(3,.slice pL4 e2.waited.length cL4),(4,Z e2.told),(5,I false),(6,Z e2.pipes),(7,Z e2.fin),(8,Z ((i:Nat):Int)),(9,pt b1),(12,Y bb),(13,Z ((k:Nat):Int)),(14,pt b2),(15,pt b3)]/\Ow sA Ai w W ([(b3,50,[Y (Bp yd2),Y (Ea bb),Y (⟨#[111,117,116]⟩),Y (⟨#[101,114,114]⟩),Y (⟨#[]⟩),Y (⟨#[]⟩),Y (⟨#[]⟩),Y (⟨#[]⟩),Y (⟨#[]⟩)]),(b2,73,[.slice (some ad4) yd2.words.length yc2,Y yd2.inp,Y yd2.out,I yd2.app]),(b1,71,[.slice (some ad3) xl1.length xc1,I xb1])]++(TL3++(TL4++([]))))/\True) ?_ ?_))
       · rintro J w14 ⟨V,O,-⟩;refine sJ (fun J W=>Holds 151 [] J [(0,.slice (some ad1) l.length c),(2,.slice pL3 e2.runs.length cL3),(3,.slice pL4 e2.waited.length cL4),(4,Z e2.told),(5,I false),(6,Z (if decide (k+1=xl1.length)=true then e2.pipes else e2.pipes+1)),(7,Z e2.fin),(8,Z ((i:Nat):Int)),(9,pt b1),(12,Y (Uw (decide (k+1=xl1.length)) bb e2)),(13,Z ((k:Nat):Int)),(14,pt b2),(15,pt b3)]/\Ow sA Ai w W ([(b3,50,[Y (Bp yd2),Y (Ea bb),Y (Fe (decide (k+1=xl1.length)) e2.pipes),Y (⟨#[101,114,114]⟩),Y (⟨#[]⟩),Y (⟨#[]⟩),Y (⟨#[]⟩),Y (⟨#[]⟩),Y (⟨#[]⟩)]),(b2,73,[.slice (some ad4) yd2.words.length yc2,Y yd2.inp,Y yd2.out,I yd2.app]),(b1,71,[.slice (some ad3) xl1.length xc1,I xb1])]++(TL3++(TL4++([]))))/\True) ?_ ?_
         · rintro J w15 ⟨V,O,-⟩;refine sJ (fun J W=>Holds 151 [] J [(0,.slice (some ad1) l.length c),(2,.slice pL3 e2.runs.length cL3),(3,.slice pL4 e2.waited.length cL4),(4,Z e2.told),(5,I false),(6,Z (if decide (k+1=xl1.length)=true then e2.pipes else e2.pipes+1)),(7,Z e2.fin),(8,Z ((i:Nat):Int)),(9,pt b1),(12,Y (Uw (decide (k+1=xl1.length)) bb e2)),(13,Z ((k:Nat):Int)),(14,pt b2),(15,pt b3)]/\Ow sA Ai w W ([(b3,50,[Y (Bp yd2),Y (if yd2.inp.size=0 then Ea bb else A0 0 yd2.inp),Y (Fe (decide (k+1=xl1.length)) e2.pipes),Y (⟨#[101,114,114]⟩),Y (⟨#[]⟩),Y (⟨#[]⟩),Y (⟨#[]⟩),Y (⟨#[]⟩),Y (⟨#[]⟩)]),(b2,73,[.slice (some ad4) yd2.words.length yc2,Y yd2.inp,Y yd2.out,I yd2.app]),(b1,71,[.slice (some ad3) xl1.length xc1,I xb1])]++(TL3++(TL4++([]))))/\True) ?_ ?_
           · rintro J w16 ⟨V,O,-⟩;refine sJ (fun J W=>Holds 151 [] J [(0,.slice (some ad1) l.length c),(2,.slice pL3 e2.runs.length cL3),(3,.slice pL4 e2.waited.length cL4),(4,Z e2.told),(5,I false),(6,Z (if decide (k+1=xl1.length)=true then e2.pipes else e2.pipes+1)),(7,Z e2.fin),(8,Z ((i:Nat):Int)),(9,pt b1),(12,Y (Uw (decide (k+1=xl1.length)) bb e2)),(13,Z ((k:Nat):Int)),(15,pt b3)]/\Ow sA Ai w W ([(b3,50,[Y (Bp yd2),Y (if yd2.inp.size=0 then Ea bb else A0 0 yd2.inp),Y (if yd2.app=true then A0 5 yd2.out else if yd2.out.size=0 then Fe (decide (k+1=xl1.length)) e2.pipes else A0 3 yd2.out),Y (⟨#[101,114,114]⟩),Y (⟨#[]⟩),Y (⟨#[]⟩),Y (⟨#[]⟩),Y (⟨#[]⟩),Y (⟨#[]⟩)]),(b2,73,[.slice (some ad4) yd2.words.length yc2,Y yd2.inp,Y yd2.out,I yd2.app]),(b1,71,[.slice (some ad3) xl1.length xc1,I xb1])]++(TL3++(TL4++([]))))/\True) ?_ ?_
             · rintro J w17 ⟨V,O,-⟩;refine rr 10 (Kb 2 [(135,.slice pL3 e2.runs.length cL3),(136,.agg #[Y (Bp yd2),Y (if yd2.inp.size=0 then Ea bb else A0 0 yd2.inp),Y (if yd2.app=true then A0 5 yd2.out else if yd2.out.size=0 then Fe (decide (k+1=xl1.length)) e2.pipes else A0 3 yd2.out),Y (⟨#[101,114,114]⟩),Y (⟨#[]⟩),Y (⟨#[]⟩),Y (⟨#[]⟩),Y (⟨#[]⟩),Y (⟨#[]⟩)])] V [.agg #[Y (Bp yd2),Y (if yd2.inp.size=0 then Ea bb else A0 0 yd2.inp),Y (if yd2.app=true then A0 5 yd2.out else if yd2.out.size=0 then Fe (decide (k+1=xl1.length)) e2.pipes else A0 3 yd2.out),Y (⟨#[101,114,114]⟩),Y (⟨#[]⟩),Y (⟨#[]⟩),Y (⟨#[]⟩),Y (⟨#[]⟩),Y (⟨#[]⟩)]] (cc (O.ln 0 0 50 [Y (Bp yd2),Y (if yd2.inp.size=0 then Ea bb else A0 0 yd2.inp),Y (if yd2.app=true then A0 5 yd2.out else if yd2.out.size=0 then Fe (decide (k+1=xl1.length)) e2.pipes else A0 3 yd2.out),Y (⟨#[101,114,114]⟩),Y (⟨#[]⟩),Y (⟨#[]⟩),Y (⟨#[]⟩),Y (⟨#[]⟩),Y (⟨#[]⟩)]) c0) ?_);clear V J; intro J V;refine Mv [Y (Bp yd2),Y (if yd2.inp.size=0 then Ea bb else A0 0 yd2.inp),Y (if yd2.app=true then A0 5 yd2.out else if yd2.out.size=0 then Fe (decide (k+1=xl1.length)) e2.pipes else A0 3 yd2.out),Y (⟨#[101,114,114]⟩),Y (⟨#[]⟩),Y (⟨#[]⟩),Y (⟨#[]⟩),Y (⟨#[]⟩),Y (⟨#[]⟩)] 50 1 137 V O ?_;clear V O J; intro J w18 b4 V O
               replace O:Ow sA Ai w w18 ([(b4,50,[Y (Bp yd2),Y (if yd2.inp.size=0 then Ea bb else A0 0 yd2.inp),Y (if yd2.app=true then A0 5 yd2.out else if yd2.out.size=0 then Fe (decide (k+1=xl1.length)) e2.pipes else A0 3 yd2.out),Y (⟨#[101,114,114]⟩),Y (⟨#[]⟩),Y (⟨#[]⟩),Y (⟨#[]⟩),Y (⟨#[]⟩),Y (⟨#[]⟩)]),(b3,50,[Y (Bp yd2),Y (if yd2.inp.size=0 then Ea bb else A0 0 yd2.inp),Y (if yd2.app=true then A0 5 yd2.out else if yd2.out.size=0 then Fe (decide (k+1=xl1.length)) e2.pipes else A0 3 yd2.out),Y (⟨#[101,114,114]⟩),Y (⟨#[]⟩),Y (⟨#[]⟩),Y (⟨#[]⟩),Y (⟨#[]⟩),Y (⟨#[]⟩)]),(b2,73,[.slice (some ad4) yd2.words.length yc2,Y yd2.inp,Y yd2.out,I yd2.app]),(b1,71,[.slice (some ad3) xl1.length xc1,I xb1])]++(TL3++(TL4++([])))):=O
               refine Ag (mA (f:=fR) (el:=50) (sz:=9) (bytes:=144) (p:=pL3) (c:=cL3) (l:=e2.runs) (l':=([⟨Bp yd2,⟨if yd2.inp.size=0 then Ea bb else A0 0 yd2.inp,if yd2.app=true then A0 5 yd2.out else if yd2.out.size=0 then Fe (decide (k+1=xl1.length)) e2.pipes else A0 3 yd2.out,⟨#[101,114,114]⟩,⟨#[]⟩,⟨#[]⟩,⟨#[]⟩,⟨#[]⟩,⟨#[]⟩⟩⟩]:List RunL)) (T:=TL3) (t:=32) (tx:=32) (ty:=32) (x:= .slice (some ⟨b4,0,none⟩) 1 1) (d:=138) [(b4,50,[Y (Bp yd2),Y (if yd2.inp.size=0 then Ea bb else A0 0 yd2.inp),Y (if yd2.app=true then A0 5 yd2.out else if yd2.out.size=0 then Fe (decide (k+1=xl1.length)) e2.pipes else A0 3 yd2.out),Y (⟨#[101,114,114]⟩),Y (⟨#[]⟩),Y (⟨#[]⟩),Y (⟨#[]⟩),Y (⟨#[]⟩),Y (⟨#[]⟩)]),(b3,50,[Y (Bp yd2),Y (if yd2.inp.size=0 then Ea bb else A0 0 yd2.inp),Y (if yd2.app=true then A0 5 yd2.out else if yd2.out.size=0 then Fe (decide (k+1=xl1.length)) e2.pipes else A0 3 yd2.out),Y (⟨#[101,114,114]⟩),Y (⟨#[]⟩),Y (⟨#[]⟩),Y (⟨#[]⟩),Y (⟨#[]⟩),Y (⟨#[]⟩)]),(b2,73,[.slice (some ad4) yd2.words.length yc2,Y yd2.inp,Y yd2.out,I yd2.app]),(b1,71,[.slice (some ad3) xl1.length xc1,I xb1])] (TL4++([])) U0 V O hTL3 (Vw.src (e':=50) U0 ((O.b 0).vw (off:=0) (xs:=([⟨Bp yd2,⟨if yd2.inp.size=0 then Ea bb else A0 0 yd2.inp,if yd2.app=true then A0 5 yd2.out else if yd2.out.size=0 then Fe (decide (k+1=xl1.length)) e2.pipes else A0 3 yd2.out,⟨#[101,114,114]⟩,⟨#[]⟩,⟨#[]⟩,⟨#[]⟩,⟨#[]⟩,⟨#[]⟩⟩⟩]:List RunL)) (by kernel_rfl)) (by kernel_rfl)) (by first | omega | (simp only [sD,sE,sF]; omega)) (by unfold maxLen; first | omega | (simp only [sD,sE,sF]; omega)) ?_)
               clear V O J; intro J w19 p1 c1 T3 V O hT3;refine Ka 2 [(139,.slice pL4 e2.waited.length cL4),(140,Z e2.fin)] V ?_;clear V J; intro J V;refine Mv [Z e2.fin] 3 1 141 V O ?_;clear V O J; intro J w20 b5 V O;replace O:Ow sA Ai w w20 ([(b5,3,[Z e2.fin]),(b4,50,[Y (Bp yd2),Y (if yd2.inp.size=0 then Ea bb else A0 0 yd2.inp),Y (if yd2.app=true then A0 5 yd2.out else if yd2.out.size=0 then Fe (decide (k+1=xl1.length)) e2.pipes else A0 3 yd2.out),Y (⟨#[101,114,114]⟩),Y (⟨#[]⟩),Y (⟨#[]⟩),Y (⟨#[]⟩),Y (⟨#[]⟩),Y (⟨#[]⟩)]),(b3,50,[Y (Bp yd2),Y (if yd2.inp.size=0 then Ea bb else A0 0 yd2.inp),Y (if yd2.app=true then A0 5 yd2.out else if yd2.out.size=0 then Fe (decide (k+1=xl1.length)) e2.pipes else A0 3 yd2.out),Y (⟨#[101,114,114]⟩),Y (⟨#[]⟩),Y (⟨#[]⟩),Y (⟨#[]⟩),Y (⟨#[]⟩),Y (⟨#[]⟩)]),(b2,73,[.slice (some ad4) yd2.words.length yc2,Y yd2.inp,Y yd2.out,I yd2.app]),(b1,71,[.slice (some ad3) xl1.length xc1,I xb1])]++(T3++(TL4++([])))):=O
               refine Ag (mA (f:=fN) (el:=3) (sz:=1) (bytes:=8) (p:=pL4) (c:=cL4) (l:=e2.waited) (l':=([e2.fin]:List Int)) (T:=TL4) (t:=33) (tx:=33) (ty:=33) (x:= .slice (some ⟨b5,0,none⟩) 1 1) (d:=142) ([(b5,3,[Z e2.fin]),(b4,50,[Y (Bp yd2),Y (if yd2.inp.size=0 then Ea bb else A0 0 yd2.inp),Y (if yd2.app=true then A0 5 yd2.out else if yd2.out.size=0 then Fe (decide (k+1=xl1.length)) e2.pipes else A0 3 yd2.out),Y (⟨#[101,114,114]⟩),Y (⟨#[]⟩),Y (⟨#[]⟩),Y (⟨#[]⟩),Y (⟨#[]⟩),Y (⟨#[]⟩)]),(b3,50,[Y (Bp yd2),Y (if yd2.inp.size=0 then Ea bb else A0 0 yd2.inp),Y (if yd2.app=true then A0 5 yd2.out else if yd2.out.size=0 then Fe (decide (k+1=xl1.length)) e2.pipes else A0 3 yd2.out),Y (⟨#[101,114,114]⟩),Y (⟨#[]⟩),Y (⟨#[]⟩),Y (⟨#[]⟩),Y (⟨#[]⟩),Y (⟨#[]⟩)]),(b2,73,[.slice (some ad4) yd2.words.length yc2,Y yd2.inp,Y yd2.out,I yd2.app]),(b1,71,[.slice (some ad3) xl1.length xc1,I xb1])]++(T3++([]))) ([]) Fg V (O.tt:Ow sA Ai w _ (([(b5,3,[Z e2.fin]),(b4,50,[Y (Bp yd2),Y (if yd2.inp.size=0 then Ea bb else A0 0 yd2.inp),Y (if yd2.app=true then A0 5 yd2.out else if yd2.out.size=0 then Fe (decide (k+1=xl1.length)) e2.pipes else A0 3 yd2.out),Y (⟨#[101,114,114]⟩),Y (⟨#[]⟩),Y (⟨#[]⟩),Y (⟨#[]⟩),Y (⟨#[]⟩),Y (⟨#[]⟩)]),(b3,50,[Y (Bp yd2),Y (if yd2.inp.size=0 then Ea bb else A0 0 yd2.inp),Y (if yd2.app=true then A0 5 yd2.out else if yd2.out.size=0 then Fe (decide (k+1=xl1.length)) e2.pipes else A0 3 yd2.out),Y (⟨#[101,114,114]⟩),Y (⟨#[]⟩),Y (⟨#[]⟩),Y (⟨#[]⟩),Y (⟨#[]⟩),Y (⟨#[]⟩)]),(b2,73,[.slice (some ad4) yd2.words.length yc2,Y yd2.inp,Y yd2.out,I yd2.app]),(b1,71,[.slice (some ad3) xl1.length xc1,I xb1])]++(T3++([])))++(TL4++([])))) hTL4 (Vw.src (e':=3) Fg ((O.b 0).vw (off:=0) (xs:=([e2.fin]:List Int)) (by kernel_rfl)) (by kernel_rfl)) (by first | omega | (simp only [sD,sE,sF]; omega)) (by unfold maxLen; first | omega | (simp only [sD,sE,sF]; omega)) ?_)
               clear V O J; intro J w21 p2 c2 T4 V O hT4;replace O:Ow sA Ai w w21 ([(b5,3,[Z e2.fin]),(b4,50,[Y (Bp yd2),Y (if yd2.inp.size=0 then Ea bb else A0 0 yd2.inp),Y (if yd2.app=true then A0 5 yd2.out else if yd2.out.size=0 then Fe (decide (k+1=xl1.length)) e2.pipes else A0 3 yd2.out),Y (⟨#[101,114,114]⟩),Y (⟨#[]⟩),Y (⟨#[]⟩),Y (⟨#[]⟩),Y (⟨#[]⟩),Y (⟨#[]⟩)]),(b3,50,[Y (Bp yd2),Y (if yd2.inp.size=0 then Ea bb else A0 0 yd2.inp),Y (if yd2.app=true then A0 5 yd2.out else if yd2.out.size=0 then Fe (decide (k+1=xl1.length)) e2.pipes else A0 3 yd2.out),Y (⟨#[101,114,114]⟩),Y (⟨#[]⟩),Y (⟨#[]⟩),Y (⟨#[]⟩),Y (⟨#[]⟩),Y (⟨#[]⟩)]),(b2,73,[.slice (some ad4) yd2.words.length yc2,Y yd2.inp,Y yd2.out,I yd2.app]),(b1,71,[.slice (some ad3) xl1.length xc1,I xb1])]++(T3++(T4++([])))):=O.to (by first | rfl | (simp only [TP,apd]));refine Ka 2 [(2,.slice p1 ((e2.runs++([⟨Bp yd2,⟨if yd2.inp.size=0 then Ea bb else A0 0 yd2.inp,if yd2.app=true then A0 5 yd2.out else if yd2.out.size=0 then Fe (decide (k+1=xl1.length)) e2.pipes else A0 3 yd2.out,⟨#[101,114,114]⟩,⟨#[]⟩,⟨#[]⟩,⟨#[]⟩,⟨#[]⟩,⟨#[]⟩⟩⟩]:List RunL)).length) c1),(3,.slice p2 ((e2.waited++([e2.fin]:List Int)).length) c2)] V ?_;clear V J; intro J V;refine Ab (Ac (Aa (Rc [(13,Z (((k:Nat):Int)+1))] V [I true] (cc ((Am (by omega) (by omega)):inK .i64 (((k:Nat):Int)+1)) c0) ?_)));clear V J; intro J V
               exact Aa (⟨_,by omega,k+1,Uw (decide (k+1=xl1.length)) bb e2,X1 yd2 (decide (k+1=xl1.length)) bb e2,p1,c1,T3,p2,c2,T4,rfl,V.ss,(Ow.subP (A:=[_,_,_,_,_]) O (.cons _ (.cons _ (.cons _ (.cons _ (.cons_cons _ .slnil)))))),hT3,hT4,(by omega),((X0 hy2 bb e2).symm.trans hC),⟨ht1.1,ht1.2⟩,(show 0<=(if decide (k+1=xl1.length)=true then e2.pipes else e2.pipes+1)/\(if decide (k+1=xl1.length)=true then e2.pipes else e2.pipes+1)<=e1.pipes+((k+1:Nat):Int) by constructor <;> split <;> omega),(by constructor <;> (show (_++[_]).length=_; rw [sD,List.length_singleton]; omega)),(by unfold Uw; split <;> first | omega | exact M2 _),trivial⟩)
             refine wp_block (Sb [(118,I yd2.app)] V [I yd2.app] (cc (O.l1 1 3 4 (I yd2.app)) c0) ?_);clear V J; intro J V;rcases rU (yd2.app) with h7 | h7
             · rw [h7] at V;refine cT V (rr 6 (Kb 5 [(123,Y ((⟨#[102,105,108,101,32,53,32]⟩:ByteArray)++yd2.out)),(125,pf b3 2)] V [Y yd2.out] (cc (O.l1 1 2 9 (Y yd2.out)) (cc ((by first | omega | (have q_:=Gj (e2.pipes+1); omega)):(⟨#[102,105,108,101,32,53,32]⟩:ByteArray).size+yd2.out.size<=9223372036854775807) (cc (⟨by omega,by omega⟩:(0:Int)<=1/\1 < ((8:Nat):Int)) c0))) ?_));clear V J; intro J V;refine Ms 2 [Y ((⟨#[102,105,108,101,32,53,32]⟩:ByteArray)++yd2.out)] 0 V O ?_;clear O; intro w22 O;exact Ab (Ac (Aa (⟨V.sb,((O).to (by rw [if_pos (show yd2.app=true from h7),mE] <;> rfl)),trivial⟩)))
             rw [h7] at V;refine cF V (Sb [(126,I (!(yd2.out.toList == (⟨#[]⟩:ByteArray).toList)))] V [Y yd2.out] (cc (O.l1 1 2 9 (Y yd2.out)) c0) ?_);clear V J; intro J V;rw [(As yd2.out:(yd2.out.toList == (⟨#[]⟩:ByteArray).toList)=(decide (yd2.out.size=0)))] at V;rcases rU (decide (yd2.out.size=0)) with h8 | h8
             · rw [h8] at V;have h8p:=rV h8;exact cF V (wp_skip (Ac (Aa (⟨V.sb,((O).to (by rw [if_neg (show ¬ yd2.app=true by rw [h7]; decide),if_pos (show yd2.out.size=0 from rV h8)] <;> rfl)),trivial⟩))))
             rw [h8] at V;have h8p:=rX h8;refine cT V (rr 6 (Kb 5 [(132,Y ((⟨#[102,105,108,101,32,51,32]⟩:ByteArray)++yd2.out)),(134,pf b3 2)] V [Y yd2.out] (cc (O.l1 1 2 9 (Y yd2.out)) (cc ((by first | omega | (have q_:=Gj (e2.pipes+1); omega)):(⟨#[102,105,108,101,32,51,32]⟩:ByteArray).size+yd2.out.size<=9223372036854775807) (cc (⟨by omega,by omega⟩:(0:Int)<=1/\1 < ((8:Nat):Int)) c0))) ?_));clear V J; intro J V;refine Ms 2 [Y ((⟨#[102,105,108,101,32,51,32]⟩:ByteArray)++yd2.out)] 0 V O ?_;clear O; intro w23 O;exact Ab (Ac (Aa (⟨V.sb,((O).to (by rw [if_neg (show ¬ yd2.app=true by rw [h7]; decide),if_neg (show ¬ yd2.out.size=0 from rX h8),mF] <;> rfl)),trivial⟩)))
           refine Sb [(112,I (!(yd2.inp.toList == (⟨#[]⟩:ByteArray).toList)))] V [Y yd2.inp] (cc (O.l1 1 1 9 (Y yd2.inp)) c0) ?_;clear V J; intro J V;rw [(As yd2.inp:(yd2.inp.toList == (⟨#[]⟩:ByteArray).toList)=(decide (yd2.inp.size=0)))] at V;rcases rU (decide (yd2.inp.size=0)) with h9 | h9
           · rw [h9] at V;have h9p:=rV h9;exact cF V (wp_skip (Aa (⟨V.sb,((O).to (by rw [if_pos (show yd2.inp.size=0 from rV h9)] <;> rfl)),trivial⟩)))
           rw [h9] at V;have h9p:=rX h9;refine cT V (rr 6 (Kb 5 [(115,Y ((⟨#[102,105,108,101,32,48,32]⟩:ByteArray)++yd2.inp)),(117,pf b3 1)] V [Y yd2.inp] (cc (O.l1 1 1 9 (Y yd2.inp)) (cc ((by first | omega | (have q_:=Gj (e2.pipes+1); omega)):(⟨#[102,105,108,101,32,48,32]⟩:ByteArray).size+yd2.inp.size<=9223372036854775807) (cc (⟨by omega,by omega⟩:(0:Int)<=0/\0 < ((8:Nat):Int)) c0))) ?_));clear V J; intro J V;refine Ms 1 [Y ((⟨#[102,105,108,101,32,48,32]⟩:ByteArray)++yd2.inp)] 0 V O ?_;clear O; intro w24 O;exact Ab (Aa (⟨V.sb,((O).to (by rw [if_neg (show ¬ yd2.inp.size=0 from rX h9),mG] <;> rfl)),trivial⟩))
         refine Sb [(98,I (decide (((k:Nat):Int) < (((xl1.length:Nat):Int) - 1))))] V [.slice (some ad3) xl1.length xc1,I true] (cc (O.l1 2 0 69 (.slice (some ad3) xl1.length xc1)) (cc ((Am (by omega) (by omega)):inK .i64 (((xl1.length:Nat):Int) - 1)) c0)) ?_;clear V J; intro J V;rcases rU (decide (((k:Nat):Int) < (((xl1.length:Nat):Int) - 1))) with h10 | h10
         · rw [h10] at V;have h10p:=rV h10;refine cT V (Sb [(6,Z (e2.pipes+1))] V [I true] (cc ((Am (by omega) (by omega)):inK .i64 (e2.pipes+1)) c0) ?_);clear V J; intro J V;refine Sb [(12,Y (Utf8.encode (IntKind.i32.wrap (97+((e2.pipes+1) % 26)))))] V [I true,I true,I false] (cc (⟨by omega,by omega,Am (by omega) (by omega)⟩:(0:Int)<=e2.pipes+1/\(0:Int) < 26/\inK .i64 (e2.pipes+1)) (cc ((Am (by omega) (by omega)):inK .i64 (97+((e2.pipes+1) % 26))) c0)) ?_;clear V J; intro J V;rw [show (Utf8.encode (IntKind.i32.wrap (97+((e2.pipes+1) % 26))))=(C5 (e2.pipes+1)) from X2 _] at V;refine rr 5 (Kb 4 [(12,Y (C5 (e2.pipes+1))),(107,Y ((⟨#[119]⟩:ByteArray)++(C5 (e2.pipes+1)))),(109,pf b3 2)] V [] (cc ((by first | omega | (have q_:=Gj (e2.pipes+1); omega)):(⟨#[119]⟩:ByteArray).size+(C5 (e2.pipes+1)).size<=9223372036854775807) (cc (⟨by omega,by omega⟩:(0:Int)<=1/\1 < ((8:Nat):Int)) c0)) ?_);clear V J; intro J V;refine Ms 2 [Y ((⟨#[119]⟩:ByteArray)++(C5 (e2.pipes+1)))] 0 V O ?_;clear O; intro w25 O
           exact Ab (Aa (⟨(V.sub (e':=[(0,.slice (some ad1) l.length c),(2,.slice pL3 e2.runs.length cL3),(3,.slice pL4 e2.waited.length cL4),(4,Z e2.told),(5,I false),(6,Z (e2.pipes+1)),(7,Z e2.fin),(8,Z ((i:Nat):Int)),(9,pt b1),(12,Y (C5 (e2.pipes+1))),(13,Z ((k:Nat):Int)),(14,pt b2),(15,pt b3)]) [0,2,3,4,5,6,7,8,9,12,13,14,15] (by kernel_rfl)).cast (by rw [show decide (k+1=xl1.length)=false from rZ (by omega)]; kernel_rfl),((O).to (by rw [show decide (k+1=xl1.length)=false from rZ (by omega)] <;> rfl)),trivial⟩))
         rw [h10] at V;have h10p:=rX h10;exact cF V (wp_skip (Aa (⟨(V.sub (e':=[(0,.slice (some ad1) l.length c),(2,.slice pL3 e2.runs.length cL3),(3,.slice pL4 e2.waited.length cL4),(4,Z e2.told),(5,I false),(6,Z e2.pipes),(7,Z e2.fin),(8,Z ((i:Nat):Int)),(9,pt b1),(12,Y bb),(13,Z ((k:Nat):Int)),(14,pt b2),(15,pt b3)]) [0,2,3,4,5,6,7,8,9,12,13,14,15] (by kernel_rfl)).cast (by rw [show decide (k+1=xl1.length)=true from rY (by omega)]; kernel_rfl),((O).to (by rw [show decide (k+1=xl1.length)=true from rY (by omega)] <;> rfl)),trivial⟩)))
       refine Sa [(88,I (!(bb.toList == (⟨#[]⟩:ByteArray).toList)))] V ?_;clear V J; intro J V;rw [(As bb:(bb.toList == (⟨#[]⟩:ByteArray).toList)=(decide (bb.size=0)))] at V;rcases rU (decide (bb.size=0)) with h11 | h11
       · rw [h11] at V;have h11p:=rV h11;exact cF V (wp_skip (Aa (⟨V.sb,((O).to (by rw [show Ea bb=inN from by unfold Ea; rw [if_neg (fun q_=>q_ (rV h11))] <;> rfl] <;> rfl)),trivial⟩)))
       rw [h11] at V;have h11p:=rX h11;refine cT V (rr 5 (Kb 4 [(90,Y ((⟨#[114]⟩:ByteArray)++bb)),(92,pf b3 1)] V [] (cc ((by first | omega | (have q_:=Gj (e2.pipes+1); omega)):(⟨#[114]⟩:ByteArray).size+bb.size<=9223372036854775807) (cc (⟨by omega,by omega⟩:(0:Int)<=0/\0 < ((8:Nat):Int)) c0)) ?_));clear V J; intro J V;refine Ms 1 [Y ((⟨#[114]⟩:ByteArray)++bb)] 0 V O ?_;clear O; intro w26 O;exact Ab (Aa (⟨V.sb,((O).to (by rw [show Ea bb=rB++bb from by unfold Ea; rw [if_pos (rX h11)] <;> rfl] <;> rfl)),trivial⟩))
     rw [h6] at V;have h6p:=rX h6;refine cF V (wp_exit (Aj (Aj (An (Aa (Sb [(145,I (!xb1))] V [I xb1] (cc (O.l1 0 1 4 (I xb1)) c0) ?_))))));clear V J; intro J V;rcases rU (xb1) with h12 | h12
     · rw [h12] at V;refine cF V (wp_skip (Ac (Aa (Rc [(8,Z (((i:Nat):Int)+1))] V [I true] (cc ((Am (by omega) (by omega)):inK .i64 (((i:Nat):Int)+1)) c0) ?_))));clear V J; intro J V;refine Aa ?_;have hE2:=hE;rw [K9 hx1 e1,if_neg (show ¬ Be (JV.d (⟨xp1,xc1,xl1,xb1⟩:JV)).cmds=true from (show ¬ Be (xl1.map CV.d)=true by rw [h2]; decide))] at hE2;have hC2:=hC;rw [Qn (by omega)] at hC2;have hG:Hp (JV.d (⟨xp1,xc1,xl1,xb1⟩:JV)) e1=e2:=by unfold Hp; rw [if_neg (show ¬ Bz (JV.d (⟨xp1,xc1,xl1,xb1⟩:JV)).cmds=true from (show ¬ Bz (xl1.map CV.d)=true by rw [hlj]; decide))]; show Uz xb1 (Fa (xl1.map CV.d) ⟨#[]⟩ e1)=_; rw [← hC2]; unfold Uz; rw [if_pos h12] <;> rfl
       rw [hG] at hE2;exact ⟨_,by omega,i+1,e2,pL3,cL3,TL3,pL4,cL4,TL4,rfl,V.ss,(Ow.subP (A:=[_]) O (.cons _ .slnil)),hTL3,hTL4,(by omega),hE2,(by refine ⟨?_,?_⟩ <;> (try simp only []) <;> omega),(by refine ⟨?_,?_⟩ <;> (try simp only []) <;> omega),(by refine ⟨?_,?_⟩ <;> (try simp only []) <;> omega),(by refine ⟨?_,?_⟩ <;> (try simp only []) <;> omega),trivial⟩
     rw [h12] at V;refine cT V (Rc [(7,Z ((e2.runs.length:Nat):Int))] V [] c0 ?_);clear V J; intro J V;refine Ac (Aa (Rc [(8,Z (((i:Nat):Int)+1))] V [I true] (cc ((Am (by omega) (by omega)):inK .i64 (((i:Nat):Int)+1)) c0) ?_));clear V J; intro J V;refine Aa ?_;have hE2:=hE;rw [K9 hx1 e1,if_neg (show ¬ Be (JV.d (⟨xp1,xc1,xl1,xb1⟩:JV)).cmds=true from (show ¬ Be (xl1.map CV.d)=true by rw [h2]; decide))] at hE2;have hC2:=hC;rw [Qn (by omega)] at hC2;have hG:Hp (JV.d (⟨xp1,xc1,xl1,xb1⟩:JV)) e1=({e2 with fin:=(e2.runs.length:Int)}:EX):=by unfold Hp; rw [if_neg (show ¬ Bz (JV.d (⟨xp1,xc1,xl1,xb1⟩:JV)).cmds=true from (show ¬ Bz (xl1.map CV.d)=true by rw [hlj]; decide))]; show Uz xb1 (Fa (xl1.map CV.d) ⟨#[]⟩ e1)=_; rw [← hC2]; unfold Uz; rw [if_neg (by rw [h12]; decide)] <;> rfl
     rw [hG] at hE2;exact ⟨_,by omega,i+1,({e2 with fin:=(e2.runs.length:Int)}:EX),pL3,cL3,TL3,pL4,cL4,TL4,rfl,V.ss,(Ow.subP (A:=[_]) O (.cons _ .slnil)),hTL3,hTL4,(by omega),hE2,(by refine ⟨?_,?_⟩ <;> (try simp only []) <;> omega),(by refine ⟨?_,?_⟩ <;> (try simp only []) <;> omega),(by refine ⟨?_,?_⟩ <;> (try simp only []) <;> omega),(by refine ⟨?_,?_⟩ <;> (try simp only []) <;> omega),trivial⟩
   refine rr 14 (Kb 5 [(29,I (((xl1.length:Nat):Int) == 1)),(30,I (((xl1.length:Nat):Int) == 1))] V [.slice xp1 xl1.length xc1] (cc (O.l1 0 0 69 (.slice xp1 xl1.length xc1)) c0) ?_);clear V J; intro J V;rcases rU (((xl1.length:Nat):Int) == 1) with h13 | h13
   · rw [h13] at V;have h13p:=eq_of_beq h13;obtain ⟨ad5,rfl⟩:=(hvx1.1).pos (by omega);obtain ⟨⟨yp3,yc3,yd3⟩,hy3⟩ : ∃ x,xl1[0]? = some x:=⟨_,Bg _ CV0 (by omega)⟩;have hvy3:Vw fT _ (.slice yp3 yd3.words.length yc3) yd3.words:=hvx1.2 _ (List.mem_of_getElem? hy3);have hvc_:Au yd3=true:=hvjc _ (List.mem_of_getElem? hy3);have hwl_:=(Az hvc_).2.1;have hsi_:=Bu (Az hvc_).2.2.1;have hso_:=Bu (Az hvc_).2.2.2.1;obtain ⟨ad6,rfl⟩:=(hvy3).pos (by omega);obtain ⟨z2,hz2⟩ : ∃ x,yd3.words[0]? = some x:=⟨_,Bg _ ⟨#[]⟩ (by omega)⟩;have hzs_z2:=(C7 ((Az hvc_).1 _ (List.mem_of_getElem? hz2))).2;refine Kb 9 [(39,I (z2.toList == (⟨#[101,120,105,116]⟩:ByteArray).toList))] V [.slice (some ad5) xl1.length xc1,.slice (some ad6) yd3.words.length yc3,Y z2] (cc (O.l1 0 0 69 (.slice (some ad5) xl1.length xc1)) (cc (⟨by omega,by omega⟩:(0:Int)<=0/\0 < ((xl1.length:Nat):Int)) (cc (((hvx1.1.keep O.only).ld0 Ey hy3 (by rfl)):Ld sA w3 (ad5.add 0) 30 (.slice (some ad6) yd3.words.length yc3)) (cc (⟨by omega,by omega⟩:(0:Int)<=0/\0 < ((yd3.words.length:Nat):Int)) (cc (((hvy3.keep O.only).ldT hz2):Ld sA w3 (ad6.add 0) 9 (Y z2)) c0))))) ?_;clear V J; intro J V
     exact Ab (Aa (⟨(V.sub (e':=[(0,.slice (some ad1) l.length c),(2,.slice pL1 e1.runs.length cL1),(3,.slice pL2 e1.waited.length cL2),(4,Z e1.told),(5,I false),(6,Z e1.pipes),(7,Z e1.fin),(8,Z ((i:Nat):Int)),(9,pt b1),(39,I (z2.toList == (⟨#[101,120,105,116]⟩:ByteArray).toList))]) [0,2,3,4,5,6,7,8,9,39] (by kernel_rfl)).cast (by rw [bS hy3 hz2,rY (show xl1.length=1 by omega)] <;> kernel_rfl),O.tt,trivial⟩))
   rw [h13] at V;have h13p:=ne_of_beq_false h13;refine Ka 9 [(39,I false)] V ?_;clear V J; intro J V;exact Ab (Aa (⟨(V.sub (e':=[(0,.slice (some ad1) l.length c),(2,.slice pL1 e1.runs.length cL1),(3,.slice pL2 e1.waited.length cL2),(4,Z e1.told),(5,I false),(6,Z e1.pipes),(7,Z e1.fin),(8,Z ((i:Nat):Int)),(9,pt b1),(39,I false)]) [0,2,3,4,5,6,7,8,9,39] (by kernel_rfl)).cast (by rw [show Be (xl1.map CV.d)=false from by (unfold Be; rw [sG,rZ (show ¬ xl1.length=1 by omega)] <;> rfl)] <;> kernel_rfl),O.tt,trivial⟩))
 rw [h1] at V;have h1p:=rX h1;refine cF V (wp_exit (Aj (Aj (An (Aa (Sa [] V ?_))))));clear V J; intro J V;refine wp_ret (cv [.slice pL1 e1.runs.length cL1,.slice pL2 e1.waited.length cL2,Z e1.told,I false] V ?_);replace O:Ow sA Ai w w1 ([]++(TL1++(TL2++([])))):=O;have hq_:Bm (l.map JV.d) ex0=(e1,false):=by rw [← hE,nE (by omega)]
 rw [hq_];exact ⟨pL1,cL1,TL1,pL2,cL2,TL2,rfl,hTL1,hTL2,(show e1.runs.length<=32 by omega),(show e1.waited.length<=32 by omega),(O).tt⟩
theorem R2.waits {a:WV} {T:OwL} (h:R2 a T):Ah T fun w=>Vw fN w (.slice a.wp a.wl.length a.wk) a.wl:=by
 obtain ⟨TR,TA,TW,TS,rfl,hk⟩:=h;exact hk.wl.holds.l.r.r
theorem Zu {a b:List Int} {i:Nat} {x y:Int} (h : ∀ i,b.getD i 0<=a.getD i 0) (hx:a[i]? = some x) (hy:b[i]? = some y):y<=x:=by
 have:=h i;rwa [List.getD_eq_getElem?_getD,List.getD_eq_getElem?_getD,hx,hy] at this
set_option maxHeartbeats 4000000 in
theorem aV (p:Option Addr) (c:Nat) (l:List JV) (w:World) (hE:ErrOk w) (hv:VL w (.slice p l.length c) l) (hsm:smL 1000000000000000000 (l.map JV.d)) (hvl:Aq (l.map JV.d)=false) :
 Calls sA 3 #[.slice p l.length c] w fun e w'=>e = .returned (.bool true)/\Only Ai w w':=by
 refine Ao (args:=[.slice p l.length c]) (m:=108) (n:=109) Tryz.func3 rfl (by kernel_rfl) (by kernel_rfl) fun J V=>?_;have O:=Ow.nil sA Ai w;refine Sa [(2,I false)] V fun J V=>wp_seq (sr 2 (Ag (mC (d:=(some 11)) V Tryz.func7 ((Qs _ (hE.keep O.only)).mono ?_))));rintro en w1 ⟨rfl,ho⟩;refine ⟨_,rfl,?_⟩;clear V J; intro J V;replace O:=O.st ho; clear ho;refine Ka 1 [(12,I false)] V fun J V=>Ab (Aa (cF V (wp_skip (Aa (wp_seq (sr 3 (Ka 1 [(13,.slice p l.length c)] V fun J V=>Mk 14 V O Tryz.func8 (Zy p c l _ (hv.keep O.only) hsm) fun J w2 V O=>Ka 1 [(15,I (!(L3 (l.map JV.d))))] V fun J V=>Ab (Aa ?_))))))));rw [((mU hvl):(L3 (l.map JV.d))=false)] at V;exact cT V (Sa [(2,I true)] V fun J V=>wp_ret (Ad (cv [I true] V (⟨rfl,O.only⟩))))
set_option maxHeartbeats 4000000 in
theorem eG (p:Option Addr) (c:Nat) (l:List JV) (w:World) (hE:ErrOk w) (hv:VL w (.slice p l.length c) l) (hsm:smL 1000000000000000000 (l.map JV.d)) (hvl:Aq (l.map JV.d)=true) :
 Calls sA 3 #[.slice p l.length c] w fun e w'=>e = .returned (.bool true)/\Only Ai w w':=by
 refine Ao (args:=[.slice p l.length c]) (m:=108) (n:=109) Tryz.func3 rfl (by kernel_rfl) (by kernel_rfl) fun J V=>?_;have O:=Ow.nil sA Ai w;have hpz:=Rd hvl;refine Sa [(2,I false)] V fun J V=>wp_seq (sr 2 (Ag (mC (d:=(some 11)) V Tryz.func7 ((Qs _ (hE.keep O.only)).mono ?_))));rintro en w1 ⟨rfl,ho⟩;refine ⟨_,rfl,?_⟩;clear V J; intro J V;replace O:=O.st ho; clear ho;refine Ka 1 [(12,I false)] V fun J V=>Ab (Aa (cF V (wp_skip (Aa (wp_seq (sr 3 (Ka 1 [(13,.slice p l.length c)] V fun J V=>Mk 14 V O Tryz.func8 (Zy p c l _ (hv.keep O.only) hsm) fun J w2 V O=>Ka 1 [(15,I (!(L3 (l.map JV.d))))] V fun J V=>Ab (Aa ?_))))))));rcases rU (L3 (l.map JV.d)) with h1 | h1
 · rw [h1] at V;refine cF V (wp_skip (Aa (sr 7 (Ka 1 [(17,.slice p l.length c)] V fun J V=>Mk 18 V O Tryz.func9 (cV p c l _ (hv.keep O.only) (Ma hvl) hvl) fun J w3 V O=>Ka 5 [(3,Y (bA (prL (l.map JV.d))))] V fun J V=>Ab (Aa (wp_seq (Sa [(23,I (decide ((((bA (prL (l.map JV.d))).size:Nat):Int) > 200)))] V fun J V=>?_)))))));rcases rU (decide ((((bA (prL (l.map JV.d))).size:Nat):Int) > 200)) with h2 | h2
   · rw [h2] at V;have h2p:=rV h2;exact cT V (Sa [(2,I true)] V fun J V=>wp_ret (Ad (cv [I true] V (⟨rfl,O.only⟩))))
   rw [h2] at V;have h2p:=rX h2;refine cF V (wp_skip (Aa (sr 5 (Kb 2 [(25,Y ((bA (prL (l.map JV.d)))++(⟨#[10]⟩:ByteArray)))] V [] (cc ((by have z1_:(⟨#[10]⟩:ByteArray).size=1:=rfl; omega):(bA (prL (l.map JV.d))).size+(⟨#[10]⟩:ByteArray).size<=9223372036854775807) c0) fun J V=>Ag (mC (d:=(some 26)) V Tryz.func11 ((Yb ((bA (prL (l.map JV.d)))++(⟨#[10]⟩:ByteArray)) 80 _ (by omega) (by omega) (by rw [sS]; show (bA (prL (l.map JV.d))).size+1<=_; omega)).mono ?_))))));rintro en w4 ⟨p1,c1,T1,rfl,hT1,hW⟩;refine ⟨_,rfl,?_⟩;clear V J; intro J V;replace O:Ow sA Ai w _ ([]++[]):=O.to (sN _).symm;replace O:=Ow.join O hW; clear hW;replace O:Ow sA Ai w _ ([]++(T1++([]))):=O.to (by first | rfl | (simp only [TP,apd]));replace O:Ow sA Ai w w4 ([]++(T1++([]))):=O;refine Ag (mC (d:=(some 27)) V Tryz.func10 ((eA p1 c1 (Fu ((bA (prL (l.map JV.d)))++(⟨#[10]⟩:ByteArray)) 80) none 0 [] _ (hT1.vw (A:=[]) (B:=[]) O.m) (.inl ⟨rfl,rfl⟩) (hE.keep O.only) hT1.le (Nat.le_refl _) (fun c_ h_=>by (have q_:=Qq (n:=80) (by omega) _ _ (Nat.le_refl _) c_ h_; omega))).mono ?_));rintro en w5 ⟨wb1,a1,TW1,rfl,hd1,hTW1,hW⟩;refine ⟨_,rfl,?_⟩;clear V J; intro J V;replace O:=Ow.join O hW; clear hW;refine Ka 1 [(5,pt wb1)] V fun J V=>Ab (Aa ?_);have hfin:Fin (([]:List Int)=[]) a1.d (Bm (l.map JV.d) ex0).1 (Bm (l.map JV.d) ex0).2:=hd1 ▸ lH (l:=l.map JV.d) (by assumption) (by omega) []
   have hfu:a1.rl=(Bm (l.map JV.d) ex0).1.runs/\a1.told=(Bm (l.map JV.d) ex0).1.told/\a1.wl.length=(Bm (l.map JV.d) ex0).1.waited.length/\∀ i,(Bm (l.map JV.d) ex0).1.waited.getD i 0<=a1.wl.getD i 0:=hfin.full rfl;have hrl1:a1.rl.length<=900:=by have q_:=aT (Fu (bA (prL (l.map JV.d))++(⟨#[10]⟩:ByteArray)) 80) []; rw [← hd1] at q_; exact q_
   refine sr 11 (Ka 1 [(29,.slice p l.length c)] V fun J V=>Ag (mC (d:=(some 30)) V Tryz.func12 ((Rw p c l _ (hv.keep O.only) hvl).mono ?_)));rintro en w6 ⟨pr,cr,Tr,pw,cw,Tw,rfl,hTr,hTw,hrl_,hwl_,hW⟩;refine ⟨_,rfl,?_⟩;clear V J; intro J V;replace O:=Ow.join O hW; clear hW;refine Ka 9 [(6,.slice pr (((Bm (l.map JV.d) ex0).1.runs).length) cr),(7,.slice pw (((Bm (l.map JV.d) ex0).1.waited).length) cw),(8,Z ((Bm (l.map JV.d) ex0).1.told)),(9,I ((Bm (l.map JV.d) ex0).2))] V fun J V=>Ab (Aa (wp_seq (sr 56 (Kb 6 [(39,I (!a1.ok)),(40,I (!a1.ok))] V [I a1.ok] (cc (((O.m.blk (wb1,46,wc a1) (by simp)).ld1 (i:=32) (by kernel_rfl) (by kernel_rfl)):Ld sA w6 ⟨wb1,32,none⟩ 4 (I a1.ok)) c0) fun J V=>?_))));replace V:=V.ss.bool (f:=fun z_=>[(2,I false),(5,pt wb1),(6,.slice pr (((Bm (l.map JV.d) ex0).1.runs).length) cr),(7,.slice pw (((Bm (l.map JV.d) ex0).1.waited).length) cw),(8,Z ((Bm (l.map JV.d) ex0).1.told)),(9,I ((Bm (l.map JV.d) ex0).2)),(39,.bool !z_),(40,.bool !z_)]) (hfin.ok:(a1.ok)=true);refine Kb 6 [(44,I a1.leak),(45,I a1.leak),(46,I a1.leak)] V [I a1.leak] (cc (((O.m.blk (wb1,46,wc a1) (by simp)).ld1 (i:=31) (by kernel_rfl) (by kernel_rfl)):Ld sA w6 ⟨wb1,31,none⟩ 4 (I a1.leak)) c0) fun J V=>?_
   replace V:=V.ss.bool (f:=fun z_=>[(2,I false),(5,pt wb1),(6,.slice pr (((Bm (l.map JV.d) ex0).1.runs).length) cr),(7,.slice pw (((Bm (l.map JV.d) ex0).1.waited).length) cw),(8,Z ((Bm (l.map JV.d) ex0).1.told)),(9,I ((Bm (l.map JV.d) ex0).2)),(44,.bool z_),(45,.bool z_),(46,.bool z_)]) (hfin.lk:(a1.leak)=false);refine Kb 7 [(51,I (decide (a1.exit < 0))),(52,I (decide (a1.exit < 0))),(53,I (decide (a1.exit < 0)))] V [Z a1.exit] (cc (((O.m.blk (wb1,46,wc a1) (by simp)).ld1 (i:=30) (by kernel_rfl) (by kernel_rfl)):Ld sA w6 ⟨wb1,30,none⟩ 3 (Z a1.exit)) c0) fun J V=>?_;rw [((rZ (by have q_:(0:Int)<=a1.exit:=hfin.ex; omega)):(decide (a1.exit < 0))=false)] at V
   refine Kb 5 [(53,I false),(57,.slice a1.rp a1.rl.length a1.rc),(58,.slice pr (((Bm (l.map JV.d) ex0).1.runs).length) cr)] V [.slice a1.rp a1.rl.length a1.rc] (cc (((O.m.blk (wb1,46,wc a1) (by simp)).ld1 (i:=27) (by kernel_rfl) (by kernel_rfl)):Ld sA w6 ⟨wb1,27,none⟩ 32 (.slice a1.rp a1.rl.length a1.rc)) c0) fun J V=>Ag (mC (d:=(some 59)) V Tryz.func13 ((dM a1.rp a1.rc a1.rl pr cr (Bm (l.map JV.d) ex0).1.runs _ (Ah.at (A:=([]++(T1++([])))) (B:=Tr++(Tw++([]))) (T:=((wb1,46,wc a1)::TW1)) (Ah.r (T:=[(wb1,46,wc a1)]) hTW1.runs) (O.tt:Ow sA Ai w _ (([]++(T1++([])))++(((wb1,46,wc a1)::TW1)++(Tr++(Tw++([])))))).m) (show Vw fR _ (.slice pr ((Bm (l.map JV.d) ex0).1.runs).length cr) ((Bm (l.map JV.d) ex0).1.runs) from One.vw hTr (A:=([]++(T1++(((wb1,46,wc a1)::TW1)++([]))))) (B:=Tw++([])) (O.tt:Ow sA Ai w _ (([]++(T1++(((wb1,46,wc a1)::TW1)++([]))))++(Tr++(Tw++([]))))).m) (by omega) (by omega)).mono ?_));rintro en w7 ⟨rs_,rfl,hrs_,ho⟩;refine ⟨_,rfl,?_⟩;clear V J; intro J V;replace O:=O.st ho; clear ho;refine Ka 3 [(60,I (!rs_)),(61,I (!rs_)),(62,I (!rs_))] V fun J V=>?_;rw [((hrs_.2 hfu.1):(rs_)=true)] at V;refine Kb 8 [(68,I (a1.told != ((Bm (l.map JV.d) ex0).1.told))),(69,I (a1.told != ((Bm (l.map JV.d) ex0).1.told))),(70,I (a1.told != ((Bm (l.map JV.d) ex0).1.told)))] V [Z a1.told] (cc (((O.m.blk (wb1,46,wc a1) (by simp)).ld1 (i:=29) (by kernel_rfl) (by kernel_rfl)):Ld sA w7 ⟨wb1,29,none⟩ 3 (Z a1.told)) c0) fun J V=>?_
   rw [((by rw [hfu.2.1]; simp):(a1.told != ((Bm (l.map JV.d) ex0).1.told))=false)] at V;refine Kb 10 [(78,I (((a1.wl.length:Nat):Int) != ((((Bm (l.map JV.d) ex0).1.waited).length:Nat):Int))),(79,I (((a1.wl.length:Nat):Int) != ((((Bm (l.map JV.d) ex0).1.waited).length:Nat):Int))),(80,I (((a1.wl.length:Nat):Int) != ((((Bm (l.map JV.d) ex0).1.waited).length:Nat):Int)))] V [.slice a1.wp a1.wl.length a1.wk] (cc (((O.m.blk (wb1,46,wc a1) (by simp)).ld1 (i:=28) (by kernel_rfl) (by kernel_rfl)):Ld sA w7 ⟨wb1,28,none⟩ 33 (.slice a1.wp a1.wl.length a1.wk)) c0) fun J V=>?_;rw [((by rw [show a1.wl.length=((Bm (l.map JV.d) ex0).1.waited).length from hfu.2.2.1]; simp):(((a1.wl.length:Nat):Int) != ((((Bm (l.map JV.d) ex0).1.waited).length:Nat):Int))=false)] at V;refine Ka 3 [(80,I false),(82,I (!((Bm (l.map JV.d) ex0).2))),(83,I (!((Bm (l.map JV.d) ex0).2)))] V fun J V=>?_;rcases rU ((Bm (l.map JV.d) ex0).2) with h3 | h3
   · rw [h3] at V;refine Ka 7 [(90,I false)] V fun J V=>Ab (Aa (cF V (wp_skip (Aa (wp_seq (Sa [(10,Z 0)] V fun J V=>wp_block (Bc (fun mm J W=>∃ (i:Nat),mm=(Bm (l.map JV.d) ex0).1.waited.length - i/\Holds 109 [] J [(2,I false),(5,pt wb1),(7,.slice pw (((Bm (l.map JV.d) ex0).1.waited).length) cw),(10,Z ((i:Nat):Int))]/\Ow sA Ai w W ([]++(T1++(((wb1,46,wc a1)::TW1)++(Tr++(Tw++([]))))))/\i<=(Bm (l.map JV.d) ex0).1.waited.length/\True) ?_ ?_)))))))
     · exact ⟨_,0,rfl,V.ss,O.tt,(Nat.zero_le _),trivial⟩
     rintro _ J w8 ⟨i,rfl,V,O,hi,-⟩;refine wp_seq (Sa [(94,I (decide (((i:Nat):Int) < ((((Bm (l.map JV.d) ex0).1.waited).length:Nat):Int))))] V fun J V=>?_);rcases rU (decide (((i:Nat):Int) < ((((Bm (l.map JV.d) ex0).1.waited).length:Nat):Int))) with h4 | h4
     · rw [h4] at V;have h4p:=rV h4;obtain ⟨x,hx⟩ : ∃ x,a1.wl[i]? = some x:=⟨_,List.getElem?_eq_getElem (by have:=hfu.2.2.1; omega)⟩;obtain ⟨y,hy⟩ : ∃ x,(Bm (l.map JV.d) ex0).1.waited[i]? = some x:=⟨_,List.getElem?_eq_getElem (by omega)⟩;have hxy:=Zu hfu.2.2.2 hx hy;obtain ⟨ad3,hwp⟩ : ∃ ad,a1.wp=some ad:=Vw.pos (w:=w8) (m:=a1.wl.length) (c:=a1.wk) (Ah.at (A:=([]++(T1++([])))) (B:=Tr++(Tw++([]))) (T:=((wb1,46,wc a1)::TW1)) (Ah.r (T:=[(wb1,46,wc a1)]) hTW1.waits) (O.tt:Ow sA Ai w _ (([]++(T1++([])))++(((wb1,46,wc a1)::TW1)++(Tr++(Tw++([])))))).m) (by have:=hfu.2.2.1; omega);obtain ⟨ad4,rfl⟩ : ∃ ad,pw=some ad:=by (obtain ⟨b_,r_,e_,_⟩:=hTw.open (by omega); exact ⟨_,e_⟩)
       refine cT V (wp_skip (Aa (wp_seq (wp_block (wp_seq ?_)))));have hS:=O;refine rP [(0,true),(1,true),(2,true),(3,true),(4,true),(5,true),(6,true),(7,true),(8,true),(9,true),(10,true),(11,true)] hS ?_;intro w9 ho; replace O:=O.st ho; clear ho
       refine Ke 12 [(7,.slice (some ad4) (((Bm (l.map JV.d) ex0).1.waited).length) cw),(108,I (decide (x < y)))] V [.slice (some ad3) a1.wl.length a1.wk,Z x,Z y] (cc (hS.sx ⟨wb1,28,none⟩ 33 (.slice (some ad3) a1.wl.length a1.wk) fun _ O=>(by have q_:=(((O.m.blk (wb1,46,wc a1) (by simp)).ld1 (i:=28) (by kernel_rfl) (by kernel_rfl)):Ld sA _ ⟨wb1,28,none⟩ 33 (.slice a1.wp a1.wl.length a1.wk)); rw [hwp] at q_; exact q_)) (cc (⟨by omega,by omega⟩:(0:Int)<=((i:Nat):Int)/\((i:Nat):Int) < ((a1.wl.length:Nat):Int)) (cc (hS.sx (ad3.add i) 3 (Z x) fun _ O=>(ldN ((show Vw fN _ (.slice (some ad3) a1.wl.length a1.wk) a1.wl from hwp ▸ (show Vw fN _ (.slice a1.wp a1.wl.length a1.wk) a1.wl from (Ah.at (A:=([]++(T1++([])))) (B:=Tr++(Tw++([]))) (T:=((wb1,46,wc a1)::TW1)) (Ah.r (T:=[(wb1,46,wc a1)]) hTW1.waits) (O.tt:Ow sA Ai w _ (([]++(T1++([])))++(((wb1,46,wc a1)::TW1)++(Tr++(Tw++([])))))).m)))) hx)) (cc (⟨by omega,by omega⟩:(0:Int)<=((i:Nat):Int)/\((i:Nat):Int) < ((((Bm (l.map JV.d) ex0).1.waited).length:Nat):Int)) (cc (hS.sx (ad4.add i) 3 (Z y) fun _ O=>(ldN ((show Vw fN _ (.slice (some ad4) ((Bm (l.map JV.d) ex0).1.waited).length cw) ((Bm (l.map JV.d) ex0).1.waited) from One.vw hTw (A:=([]++(T1++(((wb1,46,wc a1)::TW1)++(Tr++([])))))) (B:=[]) (O.tt:Ow sA Ai w _ (([]++(T1++(((wb1,46,wc a1)::TW1)++(Tr++([])))))++(Tw++([])))).m)) hy)) c0))))) fun J V=>Ax (Aa ?_);rcases rU (decide (x < y)) with h5 | h5
       · exact absurd (rV h5) (by omega)
       rw [h5] at V;have h5p:=rX h5;exact cF V (wp_skip (Ac (Aa (Rc [(10,Z (((i:Nat):Int)+1))] V [I true] (cc ((Am (by omega) (by omega)):inK .i64 (((i:Nat):Int)+1)) c0) fun J V=>Aa (⟨_,by omega,i+1,rfl,V.ss,O,(by omega),trivial⟩)))))
     rw [h4] at V;have h4p:=rX h4;exact cF V (wp_exit (Aj (Aj (An (Aa (Sa [(2,I true)] V fun J V=>wp_ret (cv [I true] V (⟨rfl,O.only⟩))))))))
   rw [h3] at V;refine Kb 7 [(90,I (a1.exit != 0))] V [Z a1.exit] (cc (((O.m.blk (wb1,46,wc a1) (by simp)).ld1 (i:=30) (by kernel_rfl) (by kernel_rfl)):Ld sA w7 ⟨wb1,30,none⟩ 3 (Z a1.exit)) c0) fun J V=>Ab (Aa ?_);rw [((by rw [show a1.exit=0 from hfin.e0 (by assumption)]; rfl):(a1.exit != 0)=false)] at V;refine cF V (wp_skip (Aa (wp_seq (Sa [(10,Z 0)] V fun J V=>wp_block (Bc (fun mm J W=>∃ (i:Nat),mm=(Bm (l.map JV.d) ex0).1.waited.length - i/\Holds 109 [] J [(2,I false),(5,pt wb1),(7,.slice pw (((Bm (l.map JV.d) ex0).1.waited).length) cw),(10,Z ((i:Nat):Int))]/\Ow sA Ai w W ([]++(T1++(((wb1,46,wc a1)::TW1)++(Tr++(Tw++([]))))))/\i<=(Bm (l.map JV.d) ex0).1.waited.length/\True) ?_ ?_)))))
   · exact ⟨_,0,rfl,V.ss,O.tt,(Nat.zero_le _),trivial⟩
   rintro _ J w10 ⟨i,rfl,V,O,hi,-⟩;refine wp_seq (Sa [(94,I (decide (((i:Nat):Int) < ((((Bm (l.map JV.d) ex0).1.waited).length:Nat):Int))))] V fun J V=>?_);rcases rU (decide (((i:Nat):Int) < ((((Bm (l.map JV.d) ex0).1.waited).length:Nat):Int))) with h6 | h6
   · rw [h6] at V;have h6p:=rV h6;obtain ⟨x,hx⟩ : ∃ x,a1.wl[i]? = some x:=⟨_,List.getElem?_eq_getElem (by have:=hfu.2.2.1; omega)⟩;obtain ⟨y,hy⟩ : ∃ x,(Bm (l.map JV.d) ex0).1.waited[i]? = some x:=⟨_,List.getElem?_eq_getElem (by omega)⟩;have hxy:=Zu hfu.2.2.2 hx hy;obtain ⟨ad3,hwp⟩ : ∃ ad,a1.wp=some ad:=Vw.pos (w:=w10) (m:=a1.wl.length) (c:=a1.wk) (Ah.at (A:=([]++(T1++([])))) (B:=Tr++(Tw++([]))) (T:=((wb1,46,wc a1)::TW1)) (Ah.r (T:=[(wb1,46,wc a1)]) hTW1.waits) (O.tt:Ow sA Ai w _ (([]++(T1++([])))++(((wb1,46,wc a1)::TW1)++(Tr++(Tw++([])))))).m) (by have:=hfu.2.2.1; omega);obtain ⟨ad4,rfl⟩ : ∃ ad,pw=some ad:=by (obtain ⟨b_,r_,e_,_⟩:=hTw.open (by omega); exact ⟨_,e_⟩)
     refine cT V (wp_skip (Aa (wp_seq (wp_block (wp_seq ?_)))));have hS:=O;refine rP [(0,true),(1,true),(2,true),(3,true),(4,true),(5,true),(6,true),(7,true),(8,true),(9,true),(10,true),(11,true)] hS ?_;intro w11 ho; replace O:=O.st ho; clear ho
     refine Ke 12 [(7,.slice (some ad4) (((Bm (l.map JV.d) ex0).1.waited).length) cw),(108,I (decide (x < y)))] V [.slice (some ad3) a1.wl.length a1.wk,Z x,Z y] (cc (hS.sx ⟨wb1,28,none⟩ 33 (.slice (some ad3) a1.wl.length a1.wk) fun _ O=>(by have q_:=(((O.m.blk (wb1,46,wc a1) (by simp)).ld1 (i:=28) (by kernel_rfl) (by kernel_rfl)):Ld sA _ ⟨wb1,28,none⟩ 33 (.slice a1.wp a1.wl.length a1.wk)); rw [hwp] at q_; exact q_)) (cc (⟨by omega,by omega⟩:(0:Int)<=((i:Nat):Int)/\((i:Nat):Int) < ((a1.wl.length:Nat):Int)) (cc (hS.sx (ad3.add i) 3 (Z x) fun _ O=>(ldN ((show Vw fN _ (.slice (some ad3) a1.wl.length a1.wk) a1.wl from hwp ▸ (show Vw fN _ (.slice a1.wp a1.wl.length a1.wk) a1.wl from (Ah.at (A:=([]++(T1++([])))) (B:=Tr++(Tw++([]))) (T:=((wb1,46,wc a1)::TW1)) (Ah.r (T:=[(wb1,46,wc a1)]) hTW1.waits) (O.tt:Ow sA Ai w _ (([]++(T1++([])))++(((wb1,46,wc a1)::TW1)++(Tr++(Tw++([])))))).m)))) hx)) (cc (⟨by omega,by omega⟩:(0:Int)<=((i:Nat):Int)/\((i:Nat):Int) < ((((Bm (l.map JV.d) ex0).1.waited).length:Nat):Int)) (cc (hS.sx (ad4.add i) 3 (Z y) fun _ O=>(ldN ((show Vw fN _ (.slice (some ad4) ((Bm (l.map JV.d) ex0).1.waited).length cw) ((Bm (l.map JV.d) ex0).1.waited) from One.vw hTw (A:=([]++(T1++(((wb1,46,wc a1)::TW1)++(Tr++([])))))) (B:=[]) (O.tt:Ow sA Ai w _ (([]++(T1++(((wb1,46,wc a1)::TW1)++(Tr++([])))))++(Tw++([])))).m)) hy)) c0))))) fun J V=>Ax (Aa ?_);rcases rU (decide (x < y)) with h7 | h7
     · exact absurd (rV h7) (by omega)
     rw [h7] at V;have h7p:=rX h7;exact cF V (wp_skip (Ac (Aa (Rc [(10,Z (((i:Nat):Int)+1))] V [I true] (cc ((Am (by omega) (by omega)):inK .i64 (((i:Nat):Int)+1)) c0) fun J V=>Aa (⟨_,by omega,i+1,rfl,V.ss,O,(by omega),trivial⟩)))))
   rw [h6] at V;have h6p:=rX h6;exact cF V (wp_exit (Aj (Aj (An (Aa (Sa [(2,I true)] V fun J V=>wp_ret (cv [I true] V (⟨rfl,O.only⟩))))))))
 rw [h1] at V;exact cT V (Sa [(2,I true)] V fun J V=>wp_ret (Ad (cv [I true] V (⟨rfl,O.only⟩))))
theorem aX (p:Option Addr) (c:Nat) (l:List JV) (w:World) (hE:ErrOk w) (hv:VL w (.slice p l.length c) l) (hsm:smL 1000000000000000000 (l.map JV.d)) :
 Calls sA 3 #[.slice p l.length c] w fun e w'=>e = .returned (.bool true)/\Only Ai w w':=by
 cases hvl:Aq (l.map JV.d) with
 | false=>exact aV p c l w hE hv hsm hvl
 | true=>exact eG p c l w hE hv hsm hvl
end Go.Proofs.YtdljjajjonfjbaaGreatDoor
namespace Go.Proofs.Fr
open Go Go.ChangeShapes Go.WideShapes Go.ChangeAt Go.RowKit Go.Proofs.Sx
section
variable {H:Type} {enc:TypeId×Value->H} {P:Program}
theorem Jp (hl:laidOutB P=true) {W W':World} (hb:Below W.heap.size W W') : ∀ (ts:List TypeId) (vs:List Value) (ds:List (DataW H)) (ps:List MemPlace),
 (ts.all fun t=>P.readableRec t && decide (t < P.types.size))=true->DataW.TrodAll enc P W 0 (fun _=>true) true ts vs ds ps->DataW.TrodAll enc P W' 0 (fun b=>decide (b < W.heap.size)) true ts vs ds ps
 | [],[],[],_,_,h=>h
 | [],[],_::_,_,_,h=>h.elim
 | [],_::_,_,_,_,h=>h.elim
 | _::_,[],_,_,_,h=>h.elim
 | _::_,_::_,[],_,_,h=>h.elim
 | t::ts,v::vs,d::ds,ps,ht,h=>by
  obtain ⟨p,q,h1,h2,rfl⟩:=h
  simp only [List.all_cons,sV,decide_eq_true_eq] at ht
  have lt : ∀ x∈p,x.block < W.heap.size:=by obtain ⟨m,hm⟩:=h1; exact DataW.trod_lt m _ _ _ hm
  exact ⟨p,q,Below.trod hl ht.1.1 ht.1.2 h1 hb lt,Jp hl hb ts vs ds q ht.2 h2,rfl⟩
theorem Xt {C:Checked} {os:Os} {f:FuncId} {fn:Func} {s:ChangeSpec} {conds:List PathCond} {apart fresh handsOn:Bool} {X:World->Prop}
 (hX : ∀ (w w':World),w.heap=w'.heap->X w->X w') (own:ownKnob C.prog.godebug=none) (started:os.Started) (noInit:C.prog.inits.idxOf? f=none) (hfn:C.prog.funcs[f]? = some fn)
 (witness : ∃ (w:World) (tape:Tape) (i:Input),w.os=os/\(w.forCall tape i).Shaped C.prog/\i.vars=[]/\Input.okWide C.prog (w.forCall tape i) .any w.heap.size f i /\
  ((s.pre enc C.prog fn conds apart (w.forCall tape i).memory i.args/\X (w.forCall tape i).memory)/\sizedMet enc C.prog fn (OpenSpec.ofChange s) apart (w.forCall tape i).memory i.args)/\({}:Assume).holds C.prog (lone (Frame.enter C.prog f i.args .normal) [] (w.forCall tape i)))
 (hl:laidOutB C.prog=true) (hps:(fn.params.toList.all fun t=>C.prog.readableRec t && decide (t < C.prog.types.size))=true) (hb : ∃ t,fn.resultTypes=#[t]/\C.prog.underlying t=some .bool)
 (hvars:s.vars=[]) (hs : ∀ ds:List (DataW H),ds.length=fn.params.toList.length->s.fn H ds = {results:=[.lit (.bool true)],args:=ds})
 (walk : ∀ (W:World) (base:Nat) (args:Array Value) (ds:List (DataW H)) (p:List MemPlace),(∀ (j:Nat) t v,fn.params[j]? = some t->args[j]? = some v->Value.okWide C.prog W .any base t v) ->
  DataW.TrodAll enc C.prog W 0 (fun _=>true) true fn.params.toList args.toList ds p->conds.all (PathCond.test C.prog ⟨fn.params.toList,ds,s.plain.varTypes C.prog,[]⟩)=true->(∀ (j:Nat) t d,fn.params.toList[j]? = some t->ds[j]? = some d->∀ n∈d.weights C.prog t,n<=reachBytes)->X W ->
  Calls C.prog f args W fun e W'=>e = .returned (.bool true)/\Only Ai W W') :
 ReturnsInHanded {} C os f .any (fun w args=>(s.pre enc C.prog fn conds apart w args/\X w)/\sizedMet enc C.prog fn (OpenSpec.ofChange s) apart w args) (s.post enc C.prog fn apart fresh handsOn false):=by
 refine returnsInHanded_of_change_and (C:=C) (X:=fun w _=>X w) (fun w w' _ hh h=>hX w w' hh h) own started noInit hfn witness ?_
 intro W base args ds gs before hval hW hcnd hwt hL _
 have hW':=hW
 obtain ⟨p,q,V,hV,rfl,hfz,hnd⟩:=hW
 have hgs:gs=[]/\q=[]:=by
  rw [hvars] at hV
  cases gs with
  | nil=>exact ⟨rfl,hV⟩
  | cons g gs=>exact hV.elim
 obtain ⟨rfl,rfl⟩:=hgs
 obtain ⟨tb,hrt,htb⟩:=hb
 have hlen : ∀ (ts:List TypeId) (vs:List Value) (ds:List (DataW H)) (p:List MemPlace),DataW.TrodAll enc C.prog W 0 (fun _=>true) true ts vs ds p->ds.length=ts.length:=by
  intro ts
  induction ts with
  | nil=>intro vs ds p h; cases vs <;> cases ds <;> first | rfl | exact h.elim
  | cons t ts ih=>intro vs ds p h; cases vs <;> cases ds <;> first | exact h.elim | (obtain ⟨_,q,_,h2,_⟩:=h; simp [ih _ _ q h2])
 have hsd:=hs ds (hlen _ _ _ _ V)
 have hwt' : ∀ (j:Nat) t d,fn.params.toList[j]? = some t->ds[j]? = some d->∀ n∈d.weights C.prog t,n<=reachBytes:=fun j t d ht hd n hn=>by
  have hj:=List.all_eq_true.1 hwt n (DataW.weights_mem_each (j:=j) (t:=t) (d:=d) (by rw [List.getElem?_append_left (List.getElem?_eq_some_iff.1 ht).1]; exact ht) (by rw [sN]; exact hd) n hn)
  exact rV hj
 refine (walk W base args ds p hval V hcnd hwt' hL).mono fun e W' ⟨he,ho⟩=>?_
 subst he
 have bel:=ho.below
 refine ⟨_,rfl,ds,[],p++[],[],p,[],hW',?_,?_,?_,bel.frame _,fun h=>by cases h⟩
 · rw [hrt,sN,hsd]
   exact trodAll_mk1 (shut_bool htb true)
 · rw [sN,hsd]
   exact Jp hl bel _ _ _ _ hps V
 · rw [sN,hsd,hvars]
   rfl
end
end Go.Proofs.Fr
set_option maxRecDepth 100000
namespace Go.Proofs.YtdljjajjonfjbaaGreatDoor
open Go Go.ChangeShapes Go.WideShapes Go.ChangeAt Go.RowKit Go.Proofs.Sx
section
variable {H:Type} {enc:TypeId×Value->H} {P:Program} {W:World}
theorem R5 {e:TypeId} {n:Nat} : ∀ {l:List (DataW H)} {d:DataW H},d∈l->n∈d.weights P e->n∈DataW.weightsAll P e l
 | [],_,h,_=>absurd h sL
 | x::r,d,h,hn=>by
  simp only [DataW.weightsAll,List.mem_append]
  rcases List.mem_cons.1 h with rfl | h
  · exact .inl hn
  · exact .inr (R5 h hn)
theorem Yw {α:Type} {f : α->List Value} {G : α->Prop} {sz:Nat} {a:Addr} (E:Enc f sz) : ∀ n,(∀ i,i < n->∃ x : α,(∀ k,k < sz->W.cell? (a.add (i*sz+k))=(f x)[k]?)/\G x) ->
 ∃ l:List α,l.length=n/\(∀ j u,(l.flatMap f)[j]? = some u->W.cell? (a.add j)=some u)/\∀ x∈l,G x
 | 0,_=>⟨[],rfl,fun j u h=>by simp at h,fun x hx=>absurd hx sL⟩
 | n+1,h=>by
  obtain ⟨l,hl,hc,hg⟩:=Yw E n fun i hi=>h i (by omega)
  obtain ⟨x,hx,gx⟩:=h n (by omega)
  refine ⟨l++[x],by simp [hl],fun j u hj=>?_,fun y hy=>?_⟩
  · rw [List.flatMap_append,show [x].flatMap f=f x by simp] at hj
    have hfl:(l.flatMap f).length=n*sz:=by rw [E.flen,hl]
    by_cases hlt:j < n*sz
    · rw [List.getElem?_append_left (by omega)] at hj; exact hc j u hj
    · rw [List.getElem?_append_right (by omega),hfl] at hj
      have hk:j - n*sz < sz:=by
       have:=(List.getElem?_eq_some_iff.1 hj).1
       rw [E.len] at this; exact this
      have:=hx _ hk
      rw [show n*sz+(j - n*sz)=j by omega,hj] at this
      exact this
  · rcases List.mem_append.1 hy with hy | hy
    · exact hg y hy
    · rw [sM.1 hy]; exact gx
theorem Qv {α:Type} {f : α->List Value} {G : α->Prop} {t e:TypeId} {sz N fuel:Nat} {cs:List Value} {x:DataW H×List MemPlace} (ht:P.underlying t=some (.slice e)) (hc:P.cellsOf e=sz) (E:Enc f sz) (hb:decide (1<=P.bytesOf e)=true)
 (el : ∀ n cs y,DataW.trod enc P W 0 (fun _=>true) true n e cs=some y->(∀ k∈y.1.weights P e,k<=N)->∃ x : α,cs=f x/\G x)
 (h:DataW.trod enc P W 0 (fun _=>true) true fuel t cs=some x) (hw : ∀ k∈x.1.weights P t,k<=N) :
 ∃ p c,∃ l:List α,cs=[.slice p l.length c]/\Vw f W (.slice p l.length c) l/\l.length<=N/\∀ x∈l,G x:=by
 rcases DataW.trod_slice ht h with ⟨rfl,_⟩ | ⟨a,len,cap,elems,rest,n,rfl,rfl,rfl,_,hl,hm,hlen,hel,_,_⟩
 · exact ⟨none,0,[],rfl,.inl ⟨rfl,rfl⟩,Nat.zero_le _,fun x hx=>absurd hx sL⟩
 · have hlN:len<=N:=by
    have:=hw ((elems.length+rest.length)*P.bytesOf e) (by simp [DataW.weights,ht])
    have h2:len*1<=(elems.length+rest.length)*P.bytesOf e:=Nat.mul_le_mul (by omega) (rV hb)
    omega
   obtain ⟨l,h1,h2,h3⟩:=Yw (W:=W) (a:=a) (G:=G) E len fun i hi=>by
    have g:=hel i hi
    rw [List.getElem?_eq_getElem (by omega),Option.bind_eq_some_iff] at g
    obtain ⟨cs,hcs,hy⟩:=g
    obtain ⟨_,hcl,hcell⟩:=World.cells?_some hcs
    obtain ⟨x,rfl,hG⟩:=el n _ _ hy fun k hk=>hw k (by
     simp only [DataW.weights,ht,List.mem_cons,List.mem_append]
     exact .inr (.inl (R5 (List.mem_map_of_mem (List.getElem_mem _)) hk)))
    rw [hc] at hcell
    exact ⟨x,fun k hk=>by rw [← Sx.add_add]; exact hcell k hk,hG⟩
   exact ⟨some a,cap,l,by rw [h1],.inr ⟨a,cap,rfl,h2⟩,by omega,h3⟩
theorem Vv {t:TypeId} {N fuel:Nat} {cs:List Value} {x:DataW H×List MemPlace} (ht:P.underlying t=some .string) (h:DataW.trod enc P W 0 (fun _=>true) true fuel t cs=some x) (hw : ∀ k∈x.1.weights P t,k<=N) : ∃ s:ByteArray,cs=[.string s]/\s.size<=N:=by
 obtain ⟨s,rfl,rfl,_⟩:=DataW.trod_string ht h
 refine ⟨s,rfl,hw _ ?_⟩
 simp [DataW.weights]
theorem Qm {t:TypeId} {fs:Array Field} {N fuel:Nat} {cs:List Value} {x:DataW H×List MemPlace} (ht:P.underlying t=some (.struct fs)) (h:DataW.trod enc P W 0 (fun _=>true) true fuel t cs=some x) (hw : ∀ k∈x.1.weights P t,k<=N) :
 cs.length=P.cellsOf t/\∃ n,∀ (i:Nat) (f:Field),fs[i]? = some f->∃ y,DataW.trod enc P W 0 (fun _=>true) true n f.type ((cs.drop f.offset).take (P.cellsOf f.type))=some y/\∀ k∈y.1.weights P f.type,k<=N:=by
 obtain ⟨xs,n,rfl,rfl,h1,h2,h3⟩:=DataW.trod_struct ht h
 refine ⟨h1,n,fun i f hf=>?_⟩
 have hi:i < xs.length:=by have:=(Array.getElem?_eq_some_iff.1 hf).1; omega
 refine ⟨xs[i],by rw [h3 i f hf,List.getElem?_eq_getElem hi],fun k hk=>hw k ?_⟩
 simp only [DataW.weights,ht]
 exact DataW.weights_mem_each (j:=i) (t:=f.type) (d:=xs[i].1) (by simp [hf]) (by simp [hi]) k hk
end
section
variable {H:Type} {enc:TypeId×Value->H} {W:World} {N:Nat}
theorem oF:sA.underlying 22=some (.slice 71):=by kernel_rfl
theorem und69:sA.underlying 69=some (.slice 73):=by kernel_rfl
theorem und30:sA.underlying 30=some (.slice 9):=by kernel_rfl
theorem pF:sA.underlying 9=some .string:=by kernel_rfl
theorem und4:sA.underlying 4=some .bool:=by kernel_rfl
theorem rH {n:Nat} {cs:List Value} {y:DataW H×List MemPlace} (h:DataW.trod enc sA W 0 (fun _=>true) true n 73 cs=some y) (hw : ∀ k∈y.1.weights sA 73,k<=N) : ∃ x:CV,cs=fC x/\(VC W x/\smC N x.d):=by
 obtain ⟨fs,hfs,g0,g1,g2,g3⟩ : ∃ fs,sA.underlying 73=some (.struct fs)/\(fs[0]?.map fun f=>(f.type,f.offset))=some (30,0)/\(fs[1]?.map fun f=>(f.type,f.offset))=some (9,1)/\(fs[2]?.map fun f=>(f.type,f.offset))=some (9,2)/\(fs[3]?.map fun f=>(f.type,f.offset))=some (4,3) :=
  ⟨(match sA.underlying 73 with | some (.struct fs)=>fs | _=>#[]),by kernel_rfl,by kernel_rfl,by kernel_rfl,by kernel_rfl,by kernel_rfl⟩
 obtain ⟨hl,m,hx⟩:=Qm hfs h hw
 rw [show sA.cellsOf 73=4 by kernel_rfl] at hl
 match cs,hl with
 | [a,b,c,d],_ =>
  have fld : ∀ {i t o:Nat},(fs[i]?.map fun f:Field=>(f.type,f.offset))=some (t,o)->∃ z,DataW.trod enc sA W 0 (fun _=>true) true m t (([a,b,c,d].drop o).take (sA.cellsOf t))=some z/\∀ k∈z.1.weights sA t,k<=N:=by
   intro i t o hg
   obtain ⟨f,hf,he⟩:=Option.map_eq_some_iff.1 hg
   obtain ⟨rfl,rfl⟩:=Prod.mk.inj he
   exact hx i f hf
  obtain ⟨z0,q0,w0⟩:=fld g0
  obtain ⟨z1,q1,w1⟩:=fld g1
  obtain ⟨z2,q2,w2⟩:=fld g2
  obtain ⟨z3,q3,_⟩:=fld g3
  rw [show sA.cellsOf 30=1 by kernel_rfl] at q0
  rw [show sA.cellsOf 9=1 by kernel_rfl] at q1 q2
  rw [show sA.cellsOf 4=1 by kernel_rfl] at q3
  simp only [List.drop_zero,List.drop_succ_cons,List.take_succ_cons,List.take_zero] at q0 q1 q2 q3
  obtain ⟨p,k,ws,e0,hv,hn,hs⟩:=Qv (f:=fT) (G:=fun s=>s.size<=N) und30 (by kernel_rfl) Jn (by kernel_rfl) (fun _ _ _ g gw=>by obtain ⟨s,e,hs⟩:=Vv pF g gw; exact ⟨s,e,hs⟩) q0 w0
  obtain ⟨s1,e1,n1⟩:=Vv pF q1 w1
  obtain ⟨s2,e2,n2⟩:=Vv pF q2 w2
  obtain ⟨b3,e3,_⟩:=DataW.trod_bool und4 q3
  cases e0; cases e1; cases e2; cases e3
  exact ⟨⟨p,k,⟨ws,s1,s2,b3⟩⟩,rfl,hv,hs,n1,n2,hn⟩
theorem qO {n:Nat} {cs:List Value} {y:DataW H×List MemPlace} (h:DataW.trod enc sA W 0 (fun _=>true) true n 71 cs=some y) (hw : ∀ k∈y.1.weights sA 71,k<=N) : ∃ x:JV,cs=fJ x/\(VJ W x/\smJ N x.d):=by
 obtain ⟨fs,hfs,g0,g1⟩ : ∃ fs,sA.underlying 71=some (.struct fs)/\(fs[0]?.map fun f=>(f.type,f.offset))=some (69,0)/\(fs[1]?.map fun f=>(f.type,f.offset))=some (4,1) :=
  ⟨(match sA.underlying 71 with | some (.struct fs)=>fs | _=>#[]),by kernel_rfl,by kernel_rfl,by kernel_rfl⟩
 obtain ⟨hl,m,hx⟩:=Qm hfs h hw
 rw [show sA.cellsOf 71=2 by kernel_rfl] at hl
 match cs,hl with
 | [a,b],_ =>
  have fld : ∀ {i t o:Nat},(fs[i]?.map fun f:Field=>(f.type,f.offset))=some (t,o)->∃ z,DataW.trod enc sA W 0 (fun _=>true) true m t (([a,b].drop o).take (sA.cellsOf t))=some z/\∀ k∈z.1.weights sA t,k<=N:=by
   intro i t o hg
   obtain ⟨f,hf,he⟩:=Option.map_eq_some_iff.1 hg
   obtain ⟨rfl,rfl⟩:=Prod.mk.inj he
   exact hx i f hf
  obtain ⟨z0,q0,w0⟩:=fld g0
  obtain ⟨z1,q1,_⟩:=fld g1
  rw [show sA.cellsOf 69=1 by kernel_rfl] at q0
  rw [show sA.cellsOf 4=1 by kernel_rfl] at q1
  simp only [List.drop_zero,List.drop_succ_cons,List.take_succ_cons,List.take_zero] at q0 q1
  obtain ⟨p,k,ys,e0,hv,hn,hs⟩:=Qv (f:=fC) (G:=fun x=>VC W x/\smC N x.d) und69 (by kernel_rfl) Ey (by kernel_rfl) (fun _ _ _ g gw=>rH g gw) q0 w0
  obtain ⟨b1,e1,_⟩:=DataW.trod_bool und4 q1
  cases e0; cases e1
  refine ⟨⟨p,k,ys,b1⟩,rfl,⟨hv,fun y hy=>(hs y hy).1⟩,?_,fun c hc=>?_⟩
  · show (ys.map (·.d)).length<=N
    rw [sG]; exact hn
  · obtain ⟨y,hy,rfl⟩:=List.mem_map.1 hc
    exact (hs y hy).2
theorem gF {base:Nat} {v:Value} {d:DataW H} {p:List MemPlace} (hv:Value.okWide sA W .any base 22 v) (h:DataW.Trod enc sA W 0 (fun _=>true) true 22 v d p) (hw : ∀ k∈d.weights sA 22,k<=reachBytes) :
 ∃ p c,∃ l:List JV,v = .slice p l.length c/\VL W (.slice p l.length c) l/\smL 1000000000000000000 (l.map JV.d):=by
 obtain ⟨a,len,cap,rfl⟩:=okWide_slice oF hv
 obtain ⟨fuel,hf⟩:=h
 obtain ⟨p,c,l,e,h1,h2,h3⟩:=Qv (f:=fJ) (G:=fun x=>VJ W x/\smJ reachBytes x.d) oF (by kernel_rfl) Ec (by kernel_rfl) (fun _ _ _ g gw=>qO g gw) hf hw
 have hr:reachBytes<=1000000000000000000:=by decide
 have hC : ∀ {c:CmdL},smC reachBytes c->smC 1000000000000000000 c:=fun h=>⟨fun u hu=>Nat.le_trans (h.1 u hu) hr,Nat.le_trans h.2.1 hr,Nat.le_trans h.2.2.1 hr,Nat.le_trans h.2.2.2 hr⟩
 refine ⟨p,c,l,by simpa [Value.cells] using e,⟨h1,fun x hx=>(h3 x hx).1⟩,by rw [sG]; omega,fun x hx=>?_⟩
 obtain ⟨y,hy,rfl⟩:=List.mem_map.1 hx
 exact ⟨Nat.le_trans (h3 y hy).2.1 hr,fun c hc=>hC ((h3 y hy).2.2 c hc)⟩
end
end Go.Proofs.YtdljjajjonfjbaaGreatDoor
namespace Go.Proofs.Fr
open Go Go.RowKit Go.Proofs.Sx
section
variable {P:Program} {w:World} {name:String} {D:DataW Unit} {rest:List (String×DataW Unit)} {ps:List MemPlace} {g:Nat} {t:TypeId} {cs:List Value}
theorem lv_of {laid:List (String×DataW Unit)} (h:laidMet P laid w) : ∃ ps,DataW.LaidVars P w laid ps:=⟨_,h.choose_spec.1⟩
theorem G5 (h : ∃ ps,DataW.LaidVars P w ((name,D)::rest) ps) : ∃ ps,DataW.LaidVars P w rest ps:=by
 obtain ⟨ps,g',t',cs',fu',p',q,_,_,_,_,hr,_⟩:=h
 exact ⟨q,hr⟩
end
section
variable {P:Program} {w:World} {name:String} {D:DataW Unit} {rest:List (String×DataW Unit)} {g:Nat} {t:TypeId}
theorem Vs {u:TypeId} {H:Type} (enc:TypeId×Value->H) (P:Program) (w:World) (b:Nat) (sp:Nat->Bool) (held:Bool) : ∀ (fu:Nat) (t:TypeId) (cs:List Value) (x:DataW H×List MemPlace) {ms},P.underlying t=some (.interface ms)->DataW.trod enc P w b sp held fu t cs=some x ->
 ∃ v,cs=[v]/\(v = .nilIface\/∃ te pe,v = .iface te pe):=by
 intro fu t cs x ms hu h
 cases fu with
 | zero=>simp [DataW.trod] at h
 | succ fu =>
  unfold DataW.trod at h
  rw [hu] at h
  split at h
  all_goals first
   | (exact ⟨_,rfl,.inl rfl⟩)
   | (exact ⟨_,rfl,.inr ⟨_,_,rfl⟩⟩)
   | (simp_all; done)
theorem Tz (h : ∃ ps,DataW.LaidVars P w ((name,D)::rest) ps) (hg:P.globalNamed name=some g) (ht:(P.globals[g]?).map (·.type)=some t) (hu0:(match P.underlying t with | some (.interface _)=>true | _=>false)=true) :
 ∃ v,w.cell? ⟨g,0,none⟩=some v/\(v = .nilIface\/∃ te pe,v = .iface te pe):=by
 obtain ⟨ps,g',t',cs',fu',p',q,hg',ht',hvar,hd',_,_⟩:=h
 obtain rfl:=Option.some.inj (hg.symm.trans hg')
 obtain rfl:=Option.some.inj (ht.symm.trans ht')
 have hu : ∃ ms,P.underlying t=some (.interface ms):=by
  split at hu0
  · exact ⟨_,by assumption⟩
  · cases hu0
 obtain ⟨ms,hu⟩:=hu
 obtain ⟨v,hc,hv⟩:=Vs (u:=0) _ _ _ _ _ _ _ _ _ _ hu hd'
 refine ⟨v,?_,hv⟩
 have:=World.var?_cell hg hvar 0
 rw [this,← Array.getElem?_toList,hc]
 rfl
end
end Go.Proofs.Fr
namespace Go.Proofs.YtdljjajjonfjbaaGreatDoor
open Go Go.ChangeShapes Go.WideShapes Go.ChangeAt Go.RowKit Go.Proofs.Sx Go.Proofs.Fr
theorem aZ:ownKnob sA.godebug=none:=by kernel_rfl
theorem bB:laidOutB sA=true:=by kernel_rfl
theorem iA {W:World} {A B C D E:DataW Unit} {a b c:String} (h : ∃ ps,DataW.LaidVars sA W [(a,A),(b,B),(c,C),("strconv.ErrRange",D),("strconv.ErrSyntax",E)] ps):ErrOk W :=
 ⟨Tz (g:=1) (t:=155) (G5 (G5 (G5 (G5 h)))) (by kernel_rfl) (by kernel_rfl) (by kernel_rfl),
  Tz (g:=2) (t:=155) (G5 (G5 (G5 h))) (by kernel_rfl) (by kernel_rfl) (by kernel_rfl)⟩
open Go Go.ChangeShapes Go.WideShapes Go.ChangeAt Go.ChangeMaps Go.RowKit Go.Proofs.Sx Go.Proofs.Fr
theorem J3 (os:Os) (args:Array Value):laidMet sA Rows.shellPipelinesRow.laid ((World.doorLaid sA 200 os).forCall (fun _ _=>0) ⟨#[],args,[]⟩).memory :=
 laidMet_of_run' 8 (by kernel_rfl) (by kernel_rfl)
set_option maxRecDepth 100000 in
theorem shellPipelines_lifted (os:Os) (started:os.Started) (H:Type) (enc:TypeId×Value->H) :
 ReturnsInHanded {} Tryz.checked os 3 .any (fun w args=>(Rows.shellPipelinesSpec.pre enc sA Tryz.f3 [] false w args/\laidMet sA Rows.shellPipelinesRow.laid w)/\sizedMet enc sA Tryz.f3 (OpenSpec.ofChange Rows.shellPipelinesSpec) false w args)
  (Rows.shellPipelinesSpec.post enc sA Tryz.f3 false true false false):=by
 refine Xt (C:=Tryz.checked) (X:=fun w=>laidMet sA Rows.shellPipelinesRow.laid w) (fun _ _ hh h=>h.of_heap hh) aZ started (by kernel_rfl) Tryz.func3
  (ChangeSpec.witness_shaped (enc:=enc) (C:=Tryz.checked) (os:=os) (X:=fun w _=>laidMet sA Rows.shellPipelinesRow.laid w) false (World.doorLaid sA 200 os) #[.slice none 0 0] 8 rfl (World.shaped_of_RefB (by kernel_rfl) (by kernel_rfl)) (by kernel_rfl) (by kernel_rfl) (by kernel_rfl) (J3 os _))
  bB (by kernel_rfl) ⟨4,by kernel_rfl,by kernel_rfl⟩ rfl (fun ds hd=>by
   have hd':ds.length=1:=hd
   match ds,hd' with
   | [_],_=>rfl) ?_
 intro W base args ds p hval0 hA0 _ hwt0 hL
 have hval : ∀ (j:Nat) t v,Tryz.f3.params[j]? = some t->args[j]? = some v->Value.okWide sA W .any base t v:=hval0
 have V:DataW.TrodAll enc sA W 0 (fun _=>true) true Tryz.f3.params.toList args.toList ds p:=hA0
 have hwt : ∀ (j:Nat) t d,Tryz.f3.params.toList[j]? = some t->ds[j]? = some d->∀ n∈d.weights sA t,n<=reachBytes:=hwt0
 have hE:=iA (lv_of hL)
 rw [Tryz.params3] at V hval hwt
 obtain ⟨v0,vs0,d0,ds0,p0,q0,hargs,rfl,rfl,h0,r0⟩:=trodAll_cons V
 obtain ⟨rfl,rfl,rfl⟩:=trodAll_nil r0
 obtain rfl:args=#[v0]:=by cases args; simp_all
 obtain ⟨a0,c0,l0,rfl,hl0,hm0⟩:=gF (hval 0 22 _ rfl rfl) h0 (hwt 0 22 _ rfl rfl)
 exact aX a0 c0 l0 W hE hl0 hm0
theorem shellPipelines_holds:Rows.shellPipelinesRow.holds Tryz.pinned (OpenSpec.ofChange Rows.shellPipelinesSpec) :=
 OpenClaim.holds_of_wide 3 Tryz.f3 rfl rfl rfl rfl rfl rfl rfl ⟨rfl,rfl,rfl,rfl,rfl⟩ rfl rfl rfl rfl rfl (by kernel_rfl) Tryz.func3 (by kernel_rfl)
  (rV (by kernel_rfl)) (by unfold Func.isWrapper; first | (rw [if_pos (by decide +kernel)]; kernel_rfl) | (rw [if_neg (by decide +kernel)]; exact ⟨rfl,rfl⟩))
  (fun os started H enc _=>shellPipelines_lifted os started H enc)
theorem shellPipelines_card:Rows.ShellPipelinesCardSaid :=
 Claim7.holds_tied_plain_at .later [] [.data,.data,.data,.sentinel,.sentinel] true (true,"4734b94de298b7b64cc2fd277eff1d3660d84aa407701e3cb9226c78e0ecb46d") true
  shellPipelines_holds (fun _ h=>by cases h) (by kernel_rfl) (fun _ h=>by cases h) shellPipelines_row_tie rfl ⟨rfl,rfl⟩ (by kernel_rfl) rfl
  (fun f fn hf hfn=>by
   obtain rfl:f=3:=Option.some.inj ((show sA.funcNamed "ratoon/ratoonlaw52.ShellPipelines" = some 3 by kernel_rfl).symm.trans hf) |>.symm
   obtain rfl:fn=Tryz.f3:=(Option.some.inj (Tryz.func3.symm.trans hfn)).symm
   exact ⟨by kernel_rfl,fun j t ht=>by
    rw [Tryz.params3] at ht
    have hm:t∈[22]:=by simpa using Array.mem_of_getElem? ht
    have hall:([22].all fun u=>!sA.wantsStandIn u)=true:=by kernel_rfl
    exact (show sA.wantsStandIn t=false by simpa using List.all_eq_true.1 hall t hm)⟩)
  (by kernel_rfl)
#print axioms shellPipelines_card
end Go.Proofs.YtdljjajjonfjbaaGreatDoor
