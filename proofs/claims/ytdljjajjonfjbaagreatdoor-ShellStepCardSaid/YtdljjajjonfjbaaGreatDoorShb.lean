import Derived.Test.YtdljjajjonfjbaaGreatDoorEquals
import Derived.Test.YtdljjajjonfjbaaGreatDoorParsc
import Derived.Test.YtdljjajjonfjbaaGreatDoorCmdBase
import Derived.Lib.ConvBytes
import Derived.Laws.AppendOwn
set_option linter.unusedVariables false
set_option linter.unusedSimpArgs false
set_option maxRecDepth 10000
open Go.Value renaming slice->C,agg->D
open Option renaming some->F,none->G
open Go.Proofs.Tryz renaming prog->jP
open Go.Ending renaming returned->jQ
open List renaming length_append->jR,length_cons->jS,length_nil->jT,mem_singleton->jZ
namespace Go.Proofs.YtdljjajjonfjbaaGreatDoor
open Go Go.Shelf Go.RowKit Go.Proofs Go.Proofs.Sx
def JV.S (x:JV):List CV×Bool:=(x.cmds,x.bg)
theorem Uj {a b:List JV} (h:a.map JV.S=b.map JV.S):a.map JV.d=b.map JV.d:=by
 have : ∀ l:List JV,l.map JV.d=(l.map JV.S).map (fun q=>(⟨q.1.map CV.d,q.2⟩:JobL)):=fun l=>by rw [List.map_map]; rfl
 rw [this a,this b,h]
theorem V1 {a b:List JV} {w:World} (h:a.map JV.S=b.map JV.S) (hb : ∀ x∈b,∀ y∈x.cmds,VC w y) : ∀ x∈a,∀ y∈x.cmds,VC w y:=fun x hx y hy=>by
 have h1:x.S∈b.map JV.S:=h ▸ List.mem_map.2 ⟨x,hx,rfl⟩;obtain ⟨z,hz,e⟩:=List.mem_map.1 h1;have h2:z.cmds=x.cmds:=congrArg Prod.fst e;exact hb z hz y (h2 ▸ hy)
theorem Qg {r l:List JV} {i k:Nat} {p:Option Addr} {c:Nat} {xp:Option Addr} {xc:Nat} {xl:List CV} {xb:Bool} (h:r.map JV.S=(l.take i).map JV.S) (hx:l[i]? = F ⟨xp,xc,xl,xb⟩) (hk : ¬ k < xl.length) :
 (r++[(⟨p,c,xl.take k,xb⟩:JV)]).map JV.S=(l.take (i+1)).map JV.S:=by
 have hk2:xl.take k=xl:=List.take_of_length_le oo;rw [List.map_append,h,List.take_add_one,hx,List.map_append,hk2]; rfl
theorem Ui {r l:List JV} {i:Nat} (h:r.map JV.S=(l.take i).map JV.S) (hi : ¬ i < l.length):r.map JV.S=l.map JV.S:=by rwa [List.take_of_length_le (by omega)] at h
theorem Ny (p:Option Addr) (c:Nat) (l:List JV) (w:World) (hv:VL w (C p l.length c) l) (hsm:smL 1000000 (l.map JV.d)) :
 Calls jP 43 #[C p l.length c] w fun e w'=>∃ p' k' r T0 T1,e = .returned (C p' r.length k')/\One fJ 71 2 p' k' r T0/\InW 73 r T1/\r.map JV.S=l.map JV.S/\Ow jP Ag w w' (T0++T1):=by
 let j:=(C G 0 0:Value);refine Ak (args:=[C p l.length c]) (m:=46) (n:=47) Tryz.func43 rfl kR kR fun J V=>?_;have O:=Ow.nil jP Ag w;have hsl:=hsm.len;refine Sa [(2,j)] V ?_;clear V J; intro J V;refine Sa [(3,j)] V ?_;clear V J; intro J V;refine wp_seq (Sa [(4,Z 0)] V ?_);clear V J; intro J V;refine wp_block ?_;have hT1:=One.nil fJ 71 2;have hC0:InW 73 [] []:=rfl;refine Ay (fun mm J W=>∃ (i:Nat) (r:List JV) (pL1:Option Addr) (cL1:Nat) (TL1:OwL) (TL2:OwL),mm=l.length - i/\Holds 47 [] J [(0,C p l.length c),(2,j),(3,C pL1 r.length cL1),(4,Z ((i:Nat):Int))]/\Ow jP Ag w W ([]++(TL1++(TL2++([]))))/\One fJ 71 2 pL1 cL1 r TL1/\InW 73 r TL2/\i<=l.length/\r.map JV.S=(l.take i).map JV.S/\r.length<=i/\True) ?_ ?_
 · exact ⟨_,0,[],G,0,[],[],rfl,V.ss,O.tt,hT1,hC0,(Nat.zero_le _),rfl,(Nat.le_refl _),trivial⟩
 rintro _ J w1 ⟨i,r,pL1,cL1,TL1,TL2,rfl,V,O,hTL1,hTL2,hi_i,hsim,hrl,-⟩;let o:=(C pL1 r.length cL1:Value);refine wp_seq (Sa [(10,I (decide (((i:Nat):Int) < ((l.length:Nat):Int))))] V ?_);clear V J; intro J V;rcases dC (((i:Nat):Int) < ((l.length:Nat):Int)) with ⟨h1,h1p⟩|⟨h1,h1p⟩
 · rw [h1] at V;obtain ⟨ad1,rfl⟩:=(hv.1).pos oo;let z:=((0,C (F ad1) l.length c):Nat×Value);obtain ⟨⟨xp1,xc1,xl1,xb1⟩,hx1⟩ : ∃ x,l[i]? = F x:=⟨_,Av _ JV0 oo⟩;let s:=(C xp1 xl1.length xc1:Value);have hvx1:Vw fC _ (s) xl1/\∀ y∈xl1,VC _ y:=hv.2 _ (List.mem_of_getElem? hx1);have hsj1:smJ _ (JV.d ⟨xp1,xc1,xl1,xb1⟩):=hsm.at hx1;have hsjl1:xl1.length<=_:=smJ.len (x:=⟨xp1,xc1,xl1,xb1⟩) hsj1;refine cT V (wp_skip (Aa (wp_seq (wp_block (sr 8 (Kb 6 [z,(18,D #[j,I xb1])] V [I xb1] (cc (oo:(0:Int)<=((i:Nat):Int)/\((i:Nat):Int) < ((l.length:Nat):Int)) (cc (((hv.1.keep O.only).ld1 Bg hx1 (k:=1) (by rfl)):Ld jP w1 ((ad1.add (i*2)).add 1) 4 (I xb1)) c0)) ?_))))));clear V J; intro J V;refine Mn [j,I false] 71 5 V O ?_;clear V O J; intro J w2 b1 V O;refine Ms 0 [j,I xb1] 0 V O ?_;clear O; intro w3 O;refine Ab (Aa (wp_seq (Sa [(6,Z 0)] V ?_)));clear V J; intro J V;refine wp_block ?_;have hT2:=One.nil fC 73 4;refine Ay (fun mm J W=>∃ (k:Nat) (pL3:Option Addr) (cL3:Nat) (TL3:OwL),mm=xl1.length - k/\Holds 47 [] J [z,(2,j),(3,o),(4,Z ((i:Nat):Int)),(5,pt b1),(6,Z ((k:Nat):Int))]/\Ow jP Ag w W ([(b1,71,[C pL3 ((xl1.take k).length) cL3,I xb1])]++(TL1++(TL2++(TL3++([])))))/\One fC 73 4 pL3 cL3 (xl1.take k) TL3/\k<=xl1.length/\True) ?_ ?_
   · exact ⟨_,0,G,0,[],rfl,V.ss,O.tt,hT2,(Nat.zero_le _),trivial⟩
   rintro _ J w4 ⟨k,pL3,cL3,TL3,rfl,V,O,hTL3,hi_k,-⟩;let a:=(C pL3 ((xl1.take k).length) cL3:Value);let q:=(r++([⟨pL3,cL3,xl1.take k,xb1⟩]:List JV));let u:=(b1,71,[a,I xb1]);let a0:=[(6,Z (((k:Nat):Int)+1))];have htk:(xl1.take k).length=k:=by rw [List.length_take]; omega
   refine wp_seq (Sb [(26,I (decide (((k:Nat):Int) < ((xl1.length:Nat):Int))))] V [s] (cc (oo:(0:Int)<=((i:Nat):Int)/\((i:Nat):Int) < ((l.length:Nat):Int)) (cc (((hv.1.keep O.only).ld0 Bg hx1 (by rfl)):Ld jP w4 (ad1.add (i*2)) 101 (s)) c0)) ?_);clear V J; intro J V;rcases dC (((k:Nat):Int) < ((xl1.length:Nat):Int)) with ⟨h2,h2p⟩|⟨h2,h2p⟩
   · rw [h2] at V;obtain ⟨ad2,rfl⟩:=(hvx1.1).pos oo;obtain ⟨⟨yp1,yc1,yd1⟩,hy1⟩ : ∃ x,xl1[k]? = F x:=⟨_,Av _ CV0 oo⟩;let g:=([C yp1 yd1.words.length yc1,Y yd1.inp,Y yd1.out,I yd1.app]:List Value);let h:=(D #[C yp1 yd1.words.length yc1,Y yd1.inp,Y yd1.out,I yd1.app]:Value);have hvy1:Vw fT _ (C yp1 yd1.words.length yc1) yd1.words:=hvx1.2 _ (List.mem_of_getElem? hy1);have hsc1:smC _ yd1:=smJ.at (x:=⟨_,_,xl1,_⟩) hsj1 hy1;obtain ⟨-,smi1,smo1,sml1⟩:=id hsc1;refine cT V (wp_skip (Aa (wp_seq (wp_block ?_))));have hS:=O.pk [];refine rT (.q 0 (.q 2 (.q 3 (.q 4 (.q 5 (.q 6 (.q 7 (.q 8 (.q 9 (.m 1 (.m 10 (.m 11 (.q 12 (mm [13])) .non) .non) (.m 10 (.m 1 (.m 11 (.q 12 (mm [13])) .non) .non) .non))))))))))) hS ?_;intro w5 ho; replace O:=O.st ho; clear ho;refine Kt [0,2,3,4,5,6,7,8,9] [(29,pt b1),(38,h)] V [C (F ad2) xl1.length xc1,h] (cc (oo:(0:Int)<=((i:Nat):Int)/\((i:Nat):Int) < ((l.length:Nat):Int)) (cc (hS.sx (ad1.add (i*2)) 101 (C (F ad2) xl1.length xc1) fun _ O=>((hv.1.keep O.only).ld0 Bg hx1 (by rfl))) (cc (oo:(0:Int)<=((k:Nat):Int)/\((k:Nat):Int) < ((xl1.length:Nat):Int)) (cc (hS.sx (ad2.add (k*4)) 104 (h) fun _ O=>((hvx1.1.keep O.only).ldn Bm hy1)) c0)))) ?_;clear V J; intro J V;refine Ap ?_ ?_
     · refine (Qc [(30,a)] V [a] (cc (O.l1 0 0 69 (a)) c0) ?_);clear V J; intro J V;refine ⟨(O.sub []),?_⟩;refine tm ((mN (l:=g) (t:=73) (v:=fun b=> C (F ⟨b,0,G⟩) 1 1) (d:=39) V O ?_));clear V O J; intro J w6 b2 V O;refine ⟨(O.sub []),?_⟩;refine tm ((mA (f:=fC) (el:=73) (sz:=4) (bytes:=64) (p:=pL3) (c:=cL3) (l:=xl1.take k) (l':=([⟨yp1,yc1,yd1⟩]:List CV)) (T:=TL3) (t:=69) (tx:=69) (ty:=69) (x:= C (F ⟨b2,0,G⟩) 1 1) (d:=40) ([(b2,73,[C yp1 yd1.words.length yc1,Y yd1.inp,Y yd1.out,I yd1.app]),(b1,71,[C pL3 ((xl1.take k).length) cL3,I xb1])]++(TL1++(TL2++([])))) ([]) Bm V (O.tt:Ow jP Ag w _ (([(b2,73,[C yp1 yd1.words.length yc1,Y yd1.inp,Y yd1.out,I yd1.app]),(b1,71,[C pL3 ((xl1.take k).length) cL3,I xb1])]++(TL1++(TL2++([]))))++(TL3++([])))) hTL3 (Vw.src (e':=73) Bm ((O.b 0).vw (off:=0) (xs:=([⟨yp1,yc1,yd1⟩]:List CV)) kR) kR) (by (simp only [jR,jS,jT]; omega)) (by unfold maxLen; (simp only [jR,jS,jT]; omega)) ?_));clear V O J; intro J w7 p1 c1 T3 V O hT3;rw [show ((xl1.take k)++([⟨yp1,yc1,yd1⟩]:List CV))=xl1.take (k+1) from (by rw [List.take_add_one,hy1]; rfl)] at V hT3;replace O:Ow jP Ag w w7 ([(b2,73,g),u]++(TL1++(TL2++(T3++([]))))):=O.tt;refine ⟨(O.sub []),?_⟩;refine Kt [12] [(41,pt b1)] V [] c0 ?_;clear V J; intro J V;refine tm ((mS (off:=0) (vc:=[C p1 ((xl1.take (k+1)).length) c1]) 1 V O ?_));clear O; intro w8 O;refine ⟨(O.sub []),?_⟩
       refine Aq (Af (Aa (Rc a0 V [I true] (cc ((An oo oo):inK .i64 (((k:Nat):Int)+1)) c0) ?_)));clear V J; intro J V;exact Aa (⟨_,oo,k+1,p1,c1,T3,rfl,V.ss,(Ow.subP (A:=[_,_]) O (.cons _ (.cons_cons _ .slnil))),hT3,oo,trivial⟩)
     refine tm ((mN (l:=g) (t:=73) (v:=fun b=> C (F ⟨b,0,G⟩) 1 1) (d:=39) V O ?_));clear V O J; intro J w9 b3 V O;refine ⟨(O.sub []),?_⟩;refine tm ((Qc [(30,a)] V [a] (cc (O.l1 1 0 69 (a)) c0) ?_));clear V J; intro J V;refine ⟨(O.sub []),?_⟩;refine tm ((mA (f:=fC) (el:=73) (sz:=4) (bytes:=64) (p:=pL3) (c:=cL3) (l:=xl1.take k) (l':=([⟨yp1,yc1,yd1⟩]:List CV)) (T:=TL3) (t:=69) (tx:=69) (ty:=69) (x:= C (F ⟨b3,0,G⟩) 1 1) (d:=40) ([(b3,73,[C yp1 yd1.words.length yc1,Y yd1.inp,Y yd1.out,I yd1.app]),(b1,71,[C pL3 ((xl1.take k).length) cL3,I xb1])]++(TL1++(TL2++([])))) ([]) Bm V (O.tt:Ow jP Ag w _ (([(b3,73,[C yp1 yd1.words.length yc1,Y yd1.inp,Y yd1.out,I yd1.app]),(b1,71,[C pL3 ((xl1.take k).length) cL3,I xb1])]++(TL1++(TL2++([]))))++(TL3++([])))) hTL3 (Vw.src (e':=73) Bm ((O.b 0).vw (off:=0) (xs:=([⟨yp1,yc1,yd1⟩]:List CV)) kR) kR) (by (simp only [jR,jS,jT]; omega)) (by unfold maxLen; (simp only [jR,jS,jT]; omega)) ?_));clear V O J; intro J w10 p2 c2 T4 V O hT4;rw [show ((xl1.take k)++([⟨yp1,yc1,yd1⟩]:List CV))=xl1.take (k+1) from (by rw [List.take_add_one,hy1]; rfl)] at V hT4;replace O:Ow jP Ag w w10 ([(b3,73,g),u]++(TL1++(TL2++(T4++([]))))):=O.tt;refine ⟨(O.sub []),?_⟩;refine Kt [12] [(41,pt b1)] V [] c0 ?_;clear V J; intro J V;refine tm ((mS (off:=0) (vc:=[C p2 ((xl1.take (k+1)).length) c2]) 1 V O ?_));clear O; intro w11 O;refine ⟨(O.sub []),?_⟩
     refine Aq (Af (Aa (Rc a0 V [I true] (cc ((An oo oo):inK .i64 (((k:Nat):Int)+1)) c0) ?_)));clear V J; intro J V;exact Aa (⟨_,oo,k+1,p2,c2,T4,rfl,V.ss,(Ow.subP (A:=[_,_]) O (.cons _ (.cons_cons _ .slnil))),hT4,oo,trivial⟩)
   rw [h2] at V;refine cF V (wp_exit (Ai (Ai (Aj (Aa (rr 5 (Kb 2 [(42,o),(43,D #[a,I xb1])] V [D #[a,I xb1]] (cc (O.ln 0 0 71 [a,I xb1]) c0) ?_)))))));clear V J; intro J V;refine Mv [a,I xb1] 71 1 44 V O ?_;clear V O J; intro J w12 b4 V O;refine Ae (mA (f:=fJ) (el:=71) (sz:=2) (bytes:=32) (p:=pL1) (c:=cL1) (l:=r) (l':=([⟨pL3,cL3,xl1.take k,xb1⟩]:List JV)) (T:=TL1) (t:=22) (tx:=22) (ty:=22) (x:= C (F ⟨b4,0,G⟩) 1 1) (d:=45) [(b4,71,[C pL3 ((xl1.take k).length) cL3,I xb1]),(b1,71,[C pL3 ((xl1.take k).length) cL3,I xb1])] (TL2++(TL3++([]))) Bg V O hTL1 (Vw.src (e':=71) Bg ((O.b 0).vw (off:=0) (xs:=([⟨pL3,cL3,xl1.take k,xb1⟩]:List JV)) kR) kR) (by (simp only [jR,jS,jT]; omega)) (by unfold maxLen; (simp only [jR,jS,jT]; omega)) ?_);clear V O J; intro J w13 p3 c3 T5 V O hT5;refine Ka 1 [(3,C p3 (q.length) c3)] V ?_;clear V J; intro J V;refine Ab (Af (Aa (Rc [(4,Z (((i:Nat):Int)+1))] V [I true] (cc ((An oo oo):inK .i64 (((i:Nat):Int)+1)) c0) ?_)));clear V J; intro J V;refine Aa ?_;have hC1:InW 73 q (TL2++TL3):=InW.snoc (x:=⟨pL3,cL3,xl1.take k,xb1⟩) hTL3 hTL2;replace O:Ow jP Ag w w13 ([(b4,71,[a,I xb1]),u]++(T5++((TL2++TL3)++([])))):=O.tt
   exact ⟨_,oo,i+1,r++([⟨pL3,cL3,xl1.take k,xb1⟩]:List JV),p3,c3,T5,(TL2++TL3),rfl,V.ss,(Ow.subP (A:=[_,_]) O (.cons _ (.cons _ .slnil))),hT5,hC1,oo,(Qg hsim hx1 oo),(by simp only [jR,jS,jT]; omega),trivial⟩
 rw [h1] at V;refine cF V (wp_exit (Ai (Ai (Aj (Aa (Sa [(2,o)] V ?_))))));clear V J; intro J V;exact wp_ret (cv [o] V (⟨_,_,r,_,_,rfl,hTL1,hTL2,Ui hsim oo,O.tt⟩))
theorem Vr (p:Option Addr) (c:Nat) (l:List JV) (w:World) (hv:VL w (C p l.length c) l) (hsm:smL 1000000 (l.map JV.d)) :
 Calls jP 32 #[C p l.length c] w fun e w'=>∃ p' k' r T0 T1,e = .returned (C p' r.length k')/\One fJ 103 2 p' k' r T0/\InW 104 r T1/\r.map JV.S=l.map JV.S/\Ow jP Ag w w' (T0++T1):=by
 let j:=(C G 0 0:Value);refine Ak (args:=[C p l.length c]) (m:=46) (n:=47) Tryz.func32 rfl kR kR fun J V=>?_;have O:=Ow.nil jP Ag w;have hsl:=hsm.len;refine Sa [(2,j)] V ?_;clear V J; intro J V;refine Sa [(3,j)] V ?_;clear V J; intro J V;refine wp_seq (Sa [(4,Z 0)] V ?_);clear V J; intro J V;refine wp_block ?_;have hT1:=One.nil fJ 103 2;have hC0:InW 104 [] []:=rfl;refine Ay (fun mm J W=>∃ (i:Nat) (r:List JV) (pL1:Option Addr) (cL1:Nat) (TL1:OwL) (TL2:OwL),mm=l.length - i/\Holds 47 [] J [(0,C p l.length c),(2,j),(3,C pL1 r.length cL1),(4,Z ((i:Nat):Int))]/\Ow jP Ag w W ([]++(TL1++(TL2++([]))))/\One fJ 103 2 pL1 cL1 r TL1/\InW 104 r TL2/\i<=l.length/\r.map JV.S=(l.take i).map JV.S/\r.length<=i/\True) ?_ ?_
 · exact ⟨_,0,[],G,0,[],[],rfl,V.ss,O.tt,hT1,hC0,(Nat.zero_le _),rfl,(Nat.le_refl _),trivial⟩
 rintro _ J w1 ⟨i,r,pL1,cL1,TL1,TL2,rfl,V,O,hTL1,hTL2,hi_i,hsim,hrl,-⟩;let o:=(C pL1 r.length cL1:Value);refine wp_seq (Sa [(10,I (decide (((i:Nat):Int) < ((l.length:Nat):Int))))] V ?_);clear V J; intro J V;rcases dC (((i:Nat):Int) < ((l.length:Nat):Int)) with ⟨h1,h1p⟩|⟨h1,h1p⟩
 · rw [h1] at V;obtain ⟨ad1,rfl⟩:=(hv.1).pos oo;let z:=((0,C (F ad1) l.length c):Nat×Value);obtain ⟨⟨xp1,xc1,xl1,xb1⟩,hx1⟩ : ∃ x,l[i]? = F x:=⟨_,Av _ JV0 oo⟩;let s:=(C xp1 xl1.length xc1:Value);have hvx1:Vw fC _ (s) xl1/\∀ y∈xl1,VC _ y:=hv.2 _ (List.mem_of_getElem? hx1);have hsj1:smJ _ (JV.d ⟨xp1,xc1,xl1,xb1⟩):=hsm.at hx1;have hsjl1:xl1.length<=_:=smJ.len (x:=⟨xp1,xc1,xl1,xb1⟩) hsj1;refine cT V (wp_skip (Aa (wp_seq (wp_block (sr 8 (Kb 6 [z,(18,D #[j,I xb1])] V [I xb1] (cc (oo:(0:Int)<=((i:Nat):Int)/\((i:Nat):Int) < ((l.length:Nat):Int)) (cc (((hv.1.keep O.only).ld1 Bg hx1 (k:=1) (by rfl)):Ld jP w1 ((ad1.add (i*2)).add 1) 4 (I xb1)) c0)) ?_))))));clear V J; intro J V;refine Mn [j,I false] 103 5 V O ?_;clear V O J; intro J w2 b1 V O;refine Ms 0 [j,I xb1] 0 V O ?_;clear O; intro w3 O;refine Ab (Aa (wp_seq (Sa [(6,Z 0)] V ?_)));clear V J; intro J V;refine wp_block ?_;have hT2:=One.nil fC 104 4;refine Ay (fun mm J W=>∃ (k:Nat) (pL3:Option Addr) (cL3:Nat) (TL3:OwL),mm=xl1.length - k/\Holds 47 [] J [z,(2,j),(3,o),(4,Z ((i:Nat):Int)),(5,pt b1),(6,Z ((k:Nat):Int))]/\Ow jP Ag w W ([(b1,103,[C pL3 ((xl1.take k).length) cL3,I xb1])]++(TL1++(TL2++(TL3++([])))))/\One fC 104 4 pL3 cL3 (xl1.take k) TL3/\k<=xl1.length/\True) ?_ ?_
   · exact ⟨_,0,G,0,[],rfl,V.ss,O.tt,hT2,(Nat.zero_le _),trivial⟩
   rintro _ J w4 ⟨k,pL3,cL3,TL3,rfl,V,O,hTL3,hi_k,-⟩;let a:=(C pL3 ((xl1.take k).length) cL3:Value);let q:=(r++([⟨pL3,cL3,xl1.take k,xb1⟩]:List JV));let u:=(b1,103,[a,I xb1]);let a0:=[(6,Z (((k:Nat):Int)+1))];have htk:(xl1.take k).length=k:=by rw [List.length_take]; omega
   refine wp_seq (Sb [(26,I (decide (((k:Nat):Int) < ((xl1.length:Nat):Int))))] V [s] (cc (oo:(0:Int)<=((i:Nat):Int)/\((i:Nat):Int) < ((l.length:Nat):Int)) (cc (((hv.1.keep O.only).ld0 Bg hx1 (by rfl)):Ld jP w4 (ad1.add (i*2)) 69 (s)) c0)) ?_);clear V J; intro J V;rcases dC (((k:Nat):Int) < ((xl1.length:Nat):Int)) with ⟨h2,h2p⟩|⟨h2,h2p⟩
   · rw [h2] at V;obtain ⟨ad2,rfl⟩:=(hvx1.1).pos oo;obtain ⟨⟨yp1,yc1,yd1⟩,hy1⟩ : ∃ x,xl1[k]? = F x:=⟨_,Av _ CV0 oo⟩;let g:=([C yp1 yd1.words.length yc1,Y yd1.inp,Y yd1.out,I yd1.app]:List Value);let h:=(D #[C yp1 yd1.words.length yc1,Y yd1.inp,Y yd1.out,I yd1.app]:Value);have hvy1:Vw fT _ (C yp1 yd1.words.length yc1) yd1.words:=hvx1.2 _ (List.mem_of_getElem? hy1);have hsc1:smC _ yd1:=smJ.at (x:=⟨_,_,xl1,_⟩) hsj1 hy1;obtain ⟨-,smi1,smo1,sml1⟩:=id hsc1;refine cT V (wp_skip (Aa (wp_seq (wp_block ?_))));have hS:=O.pk [];refine rT (.q 0 (.q 2 (.q 3 (.q 4 (.q 5 (.q 6 (.q 7 (.q 8 (.q 9 (.m 1 (.m 10 (.m 11 (.q 12 (mm [13])) .non) .non) (.m 10 (.m 1 (.m 11 (.q 12 (mm [13])) .non) .non) .non))))))))))) hS ?_;intro w5 ho; replace O:=O.st ho; clear ho;refine Kt [0,2,3,4,5,6,7,8,9] [(29,pt b1),(38,h)] V [C (F ad2) xl1.length xc1,h] (cc (oo:(0:Int)<=((i:Nat):Int)/\((i:Nat):Int) < ((l.length:Nat):Int)) (cc (hS.sx (ad1.add (i*2)) 69 (C (F ad2) xl1.length xc1) fun _ O=>((hv.1.keep O.only).ld0 Bg hx1 (by rfl))) (cc (oo:(0:Int)<=((k:Nat):Int)/\((k:Nat):Int) < ((xl1.length:Nat):Int)) (cc (hS.sx (ad2.add (k*4)) 73 (h) fun _ O=>((hvx1.1.keep O.only).ldn Bm hy1)) c0)))) ?_;clear V J; intro J V;refine Ap ?_ ?_
     · refine (Qc [(30,a)] V [a] (cc (O.l1 0 0 101 (a)) c0) ?_);clear V J; intro J V;refine ⟨(O.sub []),?_⟩;refine tm ((mN (l:=g) (t:=104) (v:=fun b=> C (F ⟨b,0,G⟩) 1 1) (d:=39) V O ?_));clear V O J; intro J w6 b2 V O;refine ⟨(O.sub []),?_⟩;refine tm ((mA (f:=fC) (el:=104) (sz:=4) (bytes:=64) (p:=pL3) (c:=cL3) (l:=xl1.take k) (l':=([⟨yp1,yc1,yd1⟩]:List CV)) (T:=TL3) (t:=101) (tx:=101) (ty:=101) (x:= C (F ⟨b2,0,G⟩) 1 1) (d:=40) ([(b2,104,[C yp1 yd1.words.length yc1,Y yd1.inp,Y yd1.out,I yd1.app]),(b1,103,[C pL3 ((xl1.take k).length) cL3,I xb1])]++(TL1++(TL2++([])))) ([]) Bm V (O.tt:Ow jP Ag w _ (([(b2,104,[C yp1 yd1.words.length yc1,Y yd1.inp,Y yd1.out,I yd1.app]),(b1,103,[C pL3 ((xl1.take k).length) cL3,I xb1])]++(TL1++(TL2++([]))))++(TL3++([])))) hTL3 (Vw.src (e':=104) Bm ((O.b 0).vw (off:=0) (xs:=([⟨yp1,yc1,yd1⟩]:List CV)) kR) kR) (by (simp only [jR,jS,jT]; omega)) (by unfold maxLen; (simp only [jR,jS,jT]; omega)) ?_));clear V O J; intro J w7 p1 c1 T3 V O hT3;rw [show ((xl1.take k)++([⟨yp1,yc1,yd1⟩]:List CV))=xl1.take (k+1) from (by rw [List.take_add_one,hy1]; rfl)] at V hT3;replace O:Ow jP Ag w w7 ([(b2,104,g),u]++(TL1++(TL2++(T3++([]))))):=O.tt;refine ⟨(O.sub []),?_⟩;refine Kt [12] [(41,pt b1)] V [] c0 ?_;clear V J; intro J V;refine tm ((mS (off:=0) (vc:=[C p1 ((xl1.take (k+1)).length) c1]) 1 V O ?_));clear O; intro w8 O;refine ⟨(O.sub []),?_⟩
       refine Aq (Af (Aa (Rc a0 V [I true] (cc ((An oo oo):inK .i64 (((k:Nat):Int)+1)) c0) ?_)));clear V J; intro J V;exact Aa (⟨_,oo,k+1,p1,c1,T3,rfl,V.ss,(Ow.subP (A:=[_,_]) O (.cons _ (.cons_cons _ .slnil))),hT3,oo,trivial⟩)
     refine tm ((mN (l:=g) (t:=104) (v:=fun b=> C (F ⟨b,0,G⟩) 1 1) (d:=39) V O ?_));clear V O J; intro J w9 b3 V O;refine ⟨(O.sub []),?_⟩;refine tm ((Qc [(30,a)] V [a] (cc (O.l1 1 0 101 (a)) c0) ?_));clear V J; intro J V;refine ⟨(O.sub []),?_⟩;refine tm ((mA (f:=fC) (el:=104) (sz:=4) (bytes:=64) (p:=pL3) (c:=cL3) (l:=xl1.take k) (l':=([⟨yp1,yc1,yd1⟩]:List CV)) (T:=TL3) (t:=101) (tx:=101) (ty:=101) (x:= C (F ⟨b3,0,G⟩) 1 1) (d:=40) ([(b3,104,[C yp1 yd1.words.length yc1,Y yd1.inp,Y yd1.out,I yd1.app]),(b1,103,[C pL3 ((xl1.take k).length) cL3,I xb1])]++(TL1++(TL2++([])))) ([]) Bm V (O.tt:Ow jP Ag w _ (([(b3,104,[C yp1 yd1.words.length yc1,Y yd1.inp,Y yd1.out,I yd1.app]),(b1,103,[C pL3 ((xl1.take k).length) cL3,I xb1])]++(TL1++(TL2++([]))))++(TL3++([])))) hTL3 (Vw.src (e':=104) Bm ((O.b 0).vw (off:=0) (xs:=([⟨yp1,yc1,yd1⟩]:List CV)) kR) kR) (by (simp only [jR,jS,jT]; omega)) (by unfold maxLen; (simp only [jR,jS,jT]; omega)) ?_));clear V O J; intro J w10 p2 c2 T4 V O hT4;rw [show ((xl1.take k)++([⟨yp1,yc1,yd1⟩]:List CV))=xl1.take (k+1) from (by rw [List.take_add_one,hy1]; rfl)] at V hT4;replace O:Ow jP Ag w w10 ([(b3,104,g),u]++(TL1++(TL2++(T4++([]))))):=O.tt;refine ⟨(O.sub []),?_⟩;refine Kt [12] [(41,pt b1)] V [] c0 ?_;clear V J; intro J V;refine tm ((mS (off:=0) (vc:=[C p2 ((xl1.take (k+1)).length) c2]) 1 V O ?_));clear O; intro w11 O;refine ⟨(O.sub []),?_⟩
     refine Aq (Af (Aa (Rc a0 V [I true] (cc ((An oo oo):inK .i64 (((k:Nat):Int)+1)) c0) ?_)));clear V J; intro J V;exact Aa (⟨_,oo,k+1,p2,c2,T4,rfl,V.ss,(Ow.subP (A:=[_,_]) O (.cons _ (.cons_cons _ .slnil))),hT4,oo,trivial⟩)
   rw [h2] at V;refine cF V (wp_exit (Ai (Ai (Aj (Aa (rr 5 (Kb 2 [(42,o),(43,D #[a,I xb1])] V [D #[a,I xb1]] (cc (O.ln 0 0 103 [a,I xb1]) c0) ?_)))))));clear V J; intro J V;refine Mv [a,I xb1] 103 1 44 V O ?_;clear V O J; intro J w12 b4 V O;refine Ae (mA (f:=fJ) (el:=103) (sz:=2) (bytes:=32) (p:=pL1) (c:=cL1) (l:=r) (l':=([⟨pL3,cL3,xl1.take k,xb1⟩]:List JV)) (T:=TL1) (t:=36) (tx:=36) (ty:=36) (x:= C (F ⟨b4,0,G⟩) 1 1) (d:=45) [(b4,103,[C pL3 ((xl1.take k).length) cL3,I xb1]),(b1,103,[C pL3 ((xl1.take k).length) cL3,I xb1])] (TL2++(TL3++([]))) Bg V O hTL1 (Vw.src (e':=103) Bg ((O.b 0).vw (off:=0) (xs:=([⟨pL3,cL3,xl1.take k,xb1⟩]:List JV)) kR) kR) (by (simp only [jR,jS,jT]; omega)) (by unfold maxLen; (simp only [jR,jS,jT]; omega)) ?_);clear V O J; intro J w13 p3 c3 T5 V O hT5;refine Ka 1 [(3,C p3 (q.length) c3)] V ?_;clear V J; intro J V;refine Ab (Af (Aa (Rc [(4,Z (((i:Nat):Int)+1))] V [I true] (cc ((An oo oo):inK .i64 (((i:Nat):Int)+1)) c0) ?_)));clear V J; intro J V;refine Aa ?_;have hC1:InW 104 q (TL2++TL3):=InW.snoc (x:=⟨pL3,cL3,xl1.take k,xb1⟩) hTL3 hTL2;replace O:Ow jP Ag w w13 ([(b4,103,[a,I xb1]),u]++(T5++((TL2++TL3)++([])))):=O.tt
   exact ⟨_,oo,i+1,r++([⟨pL3,cL3,xl1.take k,xb1⟩]:List JV),p3,c3,T5,(TL2++TL3),rfl,V.ss,(Ow.subP (A:=[_,_]) O (.cons _ (.cons _ .slnil))),hT5,hC1,oo,(Qg hsim hx1 oo),(by simp only [jR,jS,jT]; omega),trivial⟩
 rw [h1] at V;refine cF V (wp_exit (Ai (Ai (Aj (Aa (Sa [(2,o)] V ?_))))));clear V J; intro J V;exact wp_ret (cv [o] V (⟨_,_,r,_,_,rfl,hTL1,hTL2,Ui hsim oo,O.tt⟩))
end Go.Proofs.YtdljjajjonfjbaaGreatDoor
namespace Go.Proofs.Sx
open Go Go.RowKit
theorem mB {P:Program} {ops:Array Oper} {Q:Exit->Act->World->Prop} {n:Nat} {ds:List Deferred} {a:Act} {e:Env} {w:World} {K:Act->World->Prop} {i:Nat} {L:OwL} {X:Nat->Prop} {w₀:World} {t0 t el:TypeId} {s:ByteArray} {d:Nat}
 (V:Holds n ds a e) (O:Ow P X w₀ w L) (hsz:s.size<=maxLen) (hK : ∀ a' w' p c T,Holds n ds a' ((d,C p (sI s).length c)::e)->Ow P X w₀ w' (L++T)->One fB el 1 p c (sI s) T->K a' w')
 (he:P2 ops e i=F (t0,t,.string s,F d):=by kernel_rfl) (hd:Nat.blt d n=true:=by kernel_rfl) (h0:P.underlying t0=F .string:=by kernel_rfl) (ht:P.underlying t=F (.slice el):=by kernel_rfl) (hel:P.underlying el=F (.int .u8):=by kernel_rfl):wpOp P ops Q i K a w:=by
 unfold P2 at he
 repeat' split at he
 all_goals try (cases he; done)
 rename_i o ho _ src dst x hop _ v hv
 simp only [Option.some.injEq,Prod.mk.injEq] at he
 obtain ⟨rfl,rfl,rfl,hdst⟩:=he
 refine Dm V ho ?_
 have hc:=Lib.run_convert_string_bytes (P:=P) w src dst el s h0 ht hel
 have hrun:(execOp a.eval o).run P w = .ok (.value (C (F ⟨w.heap.size,0,G⟩) s.size (grownCap w s.size 0 el))) (Lib.bytesWorld w el s):=by
  unfold execOp
  simp only [hop,V.eval hv,Sem.run_bind,Sem.run_pure,Result.andThen_ok,run_program,hc]
 unfold Oper.wp
 rw [hrun]
 have hcells:(Lib.bytesCells w el s).toList=(sI s).flatMap fB++List.replicate (grownCap w s.size 0 el - s.size) (.int .u8 0):=by
  rw [Uk]
  unfold Lib.bytesCells byteCells
  simp
 have hlen:(Lib.bytesCells w el s).toList.length=grownCap w s.size 0 el:=by
  rw [hcells,jR,Xt.flen,Mw,List.length_replicate]
  have:=grownCap_ge w s.size 0 el
  omega
 have hT:OwM Ag w (Lib.bytesWorld w el s) [(w.heap.size,el,(sI s).flatMap fB++List.replicate (grownCap w s.size 0 el - s.size) (.int .u8 0))]:=by
  refine ⟨⟨by (unfold Lib.bytesWorld; simp [World.freeze]) <;> rfl,by (unfold Lib.bytesWorld; simp [World.freeze]) <;> rfl,by (unfold Lib.bytesWorld; simp [World.freeze]) <;> rfl,by rw [Lib.bytesWorld_size]; omega,fun k hk _=>Lib.bytesWorld_at_old w el s k hk⟩,fun y hy=>?_,List.pairwise_singleton _ _,fun y hy=>?_⟩
  · rw [jZ] at hy; subst hy
    refine ⟨((Lib.bytesCells w el s).size,(Lib.bytesCells w el s).size+1),?_,?_⟩
    · rw [Lib.bytesWorld_at_new,← hcells]
    · right
      rw [← hcells]; simp
  · rw [jZ] at hy; subst hy; exact .inl (Nat.le_refl _)
 refine hK _ _ (F ⟨w.heap.size,0,G⟩) (grownCap w s.size 0 el) _ ?_ ((O.m.join hT).o) (.inr ⟨w.heap.size,_,rfl,by rw [Mw]; exact grownCap_ge w s.size 0 el,grownCap_le_maxLen w s.size 0 el hsz,by rw [← hcells,hlen,Nat.mul_one],rfl⟩)
 rw [hdst,Mw]; exact V.put _ (by simpa [Nat.blt_eq] using hd)
theorem Og {P:Program} {X:Nat->Prop} {w₀ w:World} {A A' B:OwL} (h:Ow P X w₀ w (A++B)) (p:A.Perm A'):Ow P X w₀ w (A'++B):=(h.m.perm (List.Perm.append_right B p)).o
theorem A1 {P:Program} {ops:Array Oper} {Q:Exit->Act->World->Prop} {S:World->Prop} {t t1:PT} {a:Act} {w:World} (R:Act->World->Prop) (h1 : ∀ a w,R a w->Cn P ops Q S t1 a w) (h2:(∀ a w,R a w->Cn P ops Q S t1 a w)->Cn P ops Q S t a w):Cn P ops Q S t a w:=h2 h1
end Go.Proofs.Sx
namespace Go.Proofs.YtdljjajjonfjbaaGreatDoor
open Go Go.RowKit Go.Proofs.Sx
structure CallL where
 call:Int
 a0:Int
 a1:Int
 a2:Int
 data:List Int
structure StL where
 mode:Int
 pos:Int
 inp:ByteArray
 jobs:List JobL
 rd:Int
 wr:Int
 pv:Int
 kids:List Int
 plan:List CallL
def A3 (n a b:Int):CallL:=⟨n,a,b,0,[]⟩
def Sw:StL:=⟨0,0,⟨#[]⟩,[],-1,-1,-1,[],[]⟩
def Fa:CallL:=⟨10,2,0,0,[63,10]⟩
def B4 (t:Int):Bool:=decide (16<=t/\t < 32)
def eR (n:Int):Bool:=decide (-1<=n/\n<=1000)
def okC (c:CallL):Bool:=eR c.a0 && (eR c.a1 && (eR c.a2 && (decide (0<=c.call/\c.call < 20) && decide (c.data.length<=128))))
def C2 (l:List Int):Nat->Bool
 | 0=>true
 | i+1=>C2 l i && (B4 (l.getD i 0) && !(l.take i).contains (l.getD i 0))
def Cz (l:List Int) (p:List CallL):Bool:=C2 l l.length && (p.all okC && decide (p.length<=12))
def Bh (l:List JobL):Nat:=match l with
 | []=>0
 | j::_=>j.cmds.length
def cA (n:Int):Bool:=decide (-1<=n/\n < 8)
def fM (s:StL):Bool:=cA s.rd && (cA s.wr && cA s.pv)
def fitB (s:StL):Bool:=decide (0<=s.mode/\s.mode<=7) && (decide (s.inp.size<=300) && (As s.jobs && (Cz s.kids s.plan && decide (0<=s.pos/\s.pos<=(Bh s.jobs:Int)))))
def fX (s:StL):Bool:=if s.mode=3\/s.mode=4 then decide (s.pos < (Bh s.jobs:Int)) else if s.mode=5 then decide (0 < s.jobs.length) else true
def Ba (s:StL):Bool:=fM s && (fitB s && ((decide (0 < s.plan.length) == decide (s.mode=2\/s.mode=6)) && fX s))
def D1 (c:CmdL):Bool:=decide (1 < c.words.length)
def Bw (l:List CmdL):Bool:=l.any D1
def Vh:ByteArray:=⟨#[101,120,105,116]⟩
def aS (l:List CmdL):CmdL:=l.getD 0 H8
def Jz (c:CmdL):ByteArray:=c.words.getD 0 ⟨#[]⟩
def Bv (l:List CmdL):Bool:=decide (l.length=1) && ((Jz (aS l)).toList == Vh.toList)
def H7 (l:List UInt8):Bool:=l.all fun c=>decide (48<=c.toNat/\c.toNat<=57)
def N2 (l:List UInt8):Nat:=l.foldl (fun n c=>10*n+(c.toNat - 48)) 0
def B0 (ws:List ByteArray):Int:=match ws with
 | _::w::_=>if H7 w.data.toList=true/\w.size<=3 then ((N2 w.data.toList % 256:Nat):Int) else 1
 | _=>0
def Br (l:List Int):List CallL:=(l.filter fun n=>decide (0<=n)).map fun n=>A3 8 n 0
def Dc (s:StL):StL×Option CallL :=
 match s.jobs with
 | []=>(s,G)
 | j::r =>
  if Bv j.cmds=true/\s.pos=0 then ({s with mode:=7},F (A3 0 (B0 (aS j.cmds).words) 0))
  else if s.pos=0/\Bw j.cmds=true then ({s with jobs:=r,plan:=s.plan++[Fa]},G)
  else if s.pos=(j.cmds.length:Int) - 1 then ({s with mode:=4},F (A3 1 0 0))
  else if s.pos < (j.cmds.length:Int) then ({s with mode:=3},F (A3 11 0 0))
  else if j.bg=false/\0 < s.kids.length then ({s with mode:=5},F (A3 3 0 0))
  else ({s with jobs:=r,kids:=[],pos:=0,pv:=-1},G)
def Dh (s:StL) (n:Nat):StL:=match Cc false (s.inp.extract 0 n) with
 | .error _=>{s with inp:=s.inp.extract (n+1) s.inp.size,plan:=s.plan++[Fa]}
 | .ok l=>{s with inp:=s.inp.extract (n+1) s.inp.size,jobs:=l}
def nlI (s:ByteArray):Int:=Lib.indexByte s.data.toList 10
def Dg:Nat->StL->StL×CallL
 | 0,s=>(s,A3 0 0 0)
 | k+1,s=>match s.plan with
  | c::_=>({s with mode:=2},c)
  | []=>match s.jobs with
   | _::_=>match Dc s with
    | (s',F c)=>(s',c)
    | (s',G)=>Dg k s'
   | []=>if nlI s.inp < 0 then ({s with mode:=1},A3 9 0 80) else Dg k (Dh s (nlI s.inp).toNat)
def K7 (s:StL):Nat:=9*s.inp.size+s.jobs.length
def By (s:StL):StL×CallL:=Dg (K7 s+2) s
def Vi (s:StL) (n:Int):StL×CallL:=({s with mode:=7},A3 0 n 0)
def Ev (s:StL) (result:Int) (data:List Int):StL×CallL :=
 if 0 < result then By {s with inp:=s.inp++bsI ((data.take (min result.toNat data.length)).take (300 - s.inp.size))}
 else if s.inp.size=0 then Vi s (if result=0 then 0 else 1)
 else By {s with inp:=s.inp.extract 0 (min s.inp.size 299)++⟨#[10]⟩}
def upS (s:StL):StL×CallL:=By {s with plan:=s.plan++Br [s.pv,s.rd,s.wr]++[Fa],rd:=-1,wr:=-1,pv:=-1,pos:=(Bh s.jobs:Int)}
def G7 (nm:ByteArray) (fl fd:Int):List CallL:=[⟨7,fl,0,0,sI nm⟩,A3 12 (-1) fd,A3 8 (-1) 0]
def Hi (s:StL) (c:CmdL):List CallL :=
 (if 0<=s.pv then [A3 12 s.pv 0,A3 8 s.pv 0] else [])++((if 0<=s.wr then [A3 12 s.wr 1,A3 8 s.wr 0,A3 8 s.rd 0] else []) ++
  ((if c.inp.size=0 then [] else G7 c.inp 0 0)++((if c.app=true then G7 c.out 5 1 else if c.out.size=0 then [] else G7 c.out 3 1)++[⟨2,0,0,0,sI (Jz c)⟩])))
def Kp (s:StL):CmdL:=match s.jobs with
 | []=>H8
 | j::_=>j.cmds.getD s.pos.toNat H8
def Fq (l:List CallL):CallL:=l.getD 0 (A3 0 0 0)
def Cv (l:List Int) (t:Int):List Int:=if B4 t=true/\l.contains t=false then l++[t] else l
def Di (s:StL) (result:Int):StL×CallL :=
 if result < 0 then upS s
 else if result=0 then ({Sw with mode:=6,plan:=Hi s (Kp s)},Fq (Hi s (Kp s)))
 else By {s with kids:=Cv s.kids (result % 32),plan:=s.plan++Br [s.pv,s.wr],pv:=s.rd,rd:=-1,wr:=-1,pos:=s.pos+1}
def Th (r:Int) (c:CallL):CallL:=if c.a0 = -1 then {c with a0:=r % 8} else c
def Hp (r:Int):List CallL->List CallL
 | a::b::l=>Th r a::Th r b::l
 | [a]=>[Th r a]
 | []=>[]
def Us (l:List CallL):List CallL:=if l.length=0 then [A3 0 127 0] else l
def Fy (l:List CallL) (result:Int):List CallL :=
 if result < 0/\(Fq l).call≠10 then [Fa,A3 0 127 0]
 else Us (if (Fq l).call=7 then Hp result l.tail else l.tail)
def Du (s:StL) (result:Int):StL×CallL:=({s with plan:=Fy s.plan result},Fq (Fy s.plan result))
def Bi (s:StL) (result:Int) (data:List Int):StL×CallL :=
 if s.mode=0 then By s
 else if s.mode=1 then Ev s result data
 else if s.mode=2 then By {s with plan:=s.plan.tail}
 else if s.mode=3 then (if result < 0 then upS s else ({s with rd:=result / 256 % 8,wr:=result % 256 % 8,mode:=4},A3 1 0 0))
 else if s.mode=4 then Di s result
 else if s.mode=5 then By {s with kids:=if result < 0 then [] else s.kids.filter fun t=>!(t == result / 256)}
 else if s.mode=6 then Du s result
 else (s,A3 0 255 0)
def A4 (s:StL) (result:Int) (data:List Int):StL×CallL:=if Ba s=true then Bi s result data else ({Sw with mode:=7},A3 0 254 0)
def fN (x:Int):List Value:=[.int .i64 x]
theorem G9:Enc fN 1:=⟨fun _=>rfl,fun x v hv=>by simp only [fN,jZ] at hv; subst hv; rfl⟩
structure PV where
 p:Option Addr
 c:Nat
 d:CallL
def fP (x:PV):List Value:=[.int .i64 x.d.call,.int .i64 x.d.a0,.int .i64 x.d.a1,.int .i64 x.d.a2,C x.p x.d.data.length x.c]
theorem A7:Enc fP 5:=⟨fun _=>rfl,fun x v hv=>by
 simp only [fP,List.mem_cons,List.not_mem_nil,or_false] at hv
 rcases hv with rfl | rfl | rfl | rfl | rfl <;> rfl⟩
def VP (w:World) (x:PV):Prop:=Vw fB w (C x.p x.d.data.length x.c) x.d.data/\U8s x.d.data
def PL (w:World) (v:Value) (l:List PV):Prop:=Vw fP w v l/\∀ x∈l,VP w x
structure SV where
 mo:Int
 po:Int
 inp:ByteArray
 pj:Option Addr
 cj:Nat
 lj:List JV
 rd:Int
 wr:Int
 pv:Int
 pc:Option Addr
 cc:Nat
 lc:List Int
 pp:Option Addr
 cp:Nat
 lp:List PV
def SV.d (x:SV):StL:=⟨x.mo,x.po,x.inp,x.lj.map JV.d,x.rd,x.wr,x.pv,x.lc,x.lp.map PV.d⟩
@[reducible] def cS (mo po:Int) (inp:ByteArray) (pj:Option Addr) (nj kj:Nat) (rd wr pv:Int) (pn:Option Addr) (nn kn:Nat) (pp:Option Addr) (np kp:Nat):List Value:=[.int .i64 mo,.int .i64 po,.string inp,C pj nj kj,.int .i64 rd,.int .i64 wr,.int .i64 pv,C pn nn kn,C pp np kp]
def SV.cells (x:SV):List Value:=cS x.mo x.po x.inp x.pj x.lj.length x.cj x.rd x.wr x.pv x.pc x.lc.length x.cc x.pp x.lp.length x.cp
structure SV.ok (x:SV) (w:World):Prop where
 j:VL w (C x.pj x.lj.length x.cj) x.lj
 k:Vw fN w (C x.pc x.lc.length x.cc) x.lc
 p:PL w (C x.pp x.lp.length x.cp) x.lp
structure SV.sm (x:SV):Prop where
 i:x.inp.size<=1000000
 j:smL 1000000 (x.lj.map JV.d)
 k:x.lc.length<=1000000
 p:x.lp.length<=1000000
 ck:x.lc.length<=x.cc
 cj:x.lj.length<=x.cj
 cp:x.lp.length<=x.cp
theorem VP.keep {w w':World} {x:PV} (h:VP w x) (k:Only Ag w w'):VP w' x:=⟨h.1.keep k,h.2⟩
theorem PL.keep {w w':World} {v:Value} {l:List PV} (h:PL w v l) (k:Only Ag w w'):PL w' v l:=⟨h.1.keep k,fun x hx=>(h.2 x hx).keep k⟩
theorem SV.ok.keep {x:SV} {w w':World} (h:x.ok w) (k:Only Ag w w'):x.ok w':=⟨h.j.keep k,h.k.keep k,h.p.keep k⟩
def Ah (T:OwL) (Q:World->Prop):Prop:=∀ (X:Nat->Prop) (w₀ w:World),OwM X w₀ w T->Q w
theorem Ah.at {T A B:OwL} {Q:World->Prop} (h:Ah T Q) {X:Nat->Prop} {w₀ w:World} (O:OwM X w₀ w (A++(T++B))):Q w :=
 h X w₀ w (O.less ((List.sublist_append_left T B).trans (List.sublist_append_right A _)))
theorem Ah.mono {T:OwL} {Q R:World->Prop} (h:Ah T Q) (hq : ∀ w,Q w->R w):Ah T R:=fun X w₀ w O=>hq w (h X w₀ w O)
theorem Ah.l {T T':OwL} {Q:World->Prop} (h:Ah T Q):Ah (T++T') Q:=fun X w₀ w O=>h X w₀ w (O.less (List.sublist_append_left T T'))
theorem Ah.r {T T':OwL} {Q:World->Prop} (h:Ah T' Q):Ah (T++T') Q:=fun X w₀ w O=>h X w₀ w (O.less (List.sublist_append_right T T'))
theorem Ah.and {T:OwL} {Q R:World->Prop} (h:Ah T Q) (h':Ah T R):Ah T fun w=>Q w/\R w:=fun X w₀ w O=>⟨h X w₀ w O,h' X w₀ w O⟩
theorem _root_.Go.Proofs.Sx.One.holds {α:Type} {f : α->List Value} {e:TypeId} {sz:Nat} {p:Option Addr} {c:Nat} {l:List α} {T:OwL} (h:One f e sz p c l T):Ah T fun w=>Vw f w (C p l.length c) l:=fun X w₀ w O =>
 h.vw (A:=[]) (B:=[]) (by simpa using O)
theorem Lv {α:Type} {l:List α} {i:Nat} {x d : α} (h:l[i]? = F x):l.getD i d=x:=by rw [List.getD_eq_getElem?_getD,h]; rfl
theorem _root_.Go.Proofs.Sx.Vw.tail {α:Type} {f : α->List Value} {sz:Nat} (E:Enc f sz) {w:World} {ad:Addr} {x : α} {r:List α} {m c c':Nat} (h:Vw f w (C (F ad) m c) (x::r)):Vw f w (C (F (ad.add sz)) r.length c') r:=by
 rcases h with ⟨h,_⟩ | ⟨ad',cap,h,hc⟩
 · cases h
 · cases h
   refine .inr ⟨_,c',rfl,fun j u hj=>?_⟩
   rw [Sx.add_add]
   refine hc (sz+j) u ?_
   rw [List.flatMap_cons,List.getElem?_append_right (by rw [E.len]; omega),E.len]
   simpa using hj
theorem _root_.Go.Proofs.Sx.Vw.nil_any {α:Type} {f : α->List Value} {w:World} {p:Option Addr} {m c:Nat} {x : α} (h:Vw f w (C p m c) [x]) (c':Nat):Vw f w (C p 0 c') []:=by
 rcases h with ⟨_,h⟩ | ⟨ad',cap,h,hc⟩
 · cases h
 · cases h
   exact .inr ⟨_,c',rfl,fun j u hj=>by simp at hj⟩
theorem Pr (w:World) :
 Calls jP 24 #[] w fun e w'=>e = .returned (D #[Z 0,Z 0,Y ⟨#[]⟩,C G 0 0,Z (-1),Z (-1),Z (-1),C G 0 0,C G 0 0])/\Only Ag w w':=by
 let a:=(C G 0 0:Value);refine Ak (args:=[]) (m:=2) (n:=2) Tryz.func24 rfl kR kR fun J V=>?_;have O:=Ow.nil jP Ag w;exact sr 1 (Mn [Z 0,Z 0,Y (⟨#[]⟩),a,Z 0,Z 0,Z 0,a,a] 39 0 V O fun J w1 b1 V O=>Ab (Aa (sr 2 (Ka 1 [(1,D #[Z 0,Z 0,Y (⟨#[]⟩),a,Z (-1),Z (-1),Z (-1),a,a])] V fun J V=>Ms 0 [Z 0,Z 0,Y (⟨#[]⟩),a,Z (-1),Z (-1),Z (-1),a,a] 0 V O fun w2 O=>Ab (Aa (wp_ret (cR (cs:=[F (⟨b1,0,G⟩,39)]) (us:=[D #[Z 0,Z 0,Y (⟨#[]⟩),a,Z (-1),Z (-1),Z (-1),a,a]]) V [D #[Z 0,Z 0,Y (⟨#[]⟩),a,Z (-1),Z (-1),Z (-1),a,a]] ⟨(O.ln 0 0 39 [Z 0,Z 0,Y (⟨#[]⟩),a,Z (-1),Z (-1),Z (-1),a,a]),trivial⟩ (⟨rfl,O.only⟩))))))))
theorem P4 (n:Int) (w:World) :
 Calls jP 28 #[Z n,C G 0 0] w fun e w'=>e = .returned (D #[Z n,Z 0,Z 0,Z 0,C G 0 0])/\Only Ag w w':=by
 let a:=([Z n,Z 0,Z 0,Z 0,C G 0 0]:List Value);let b:=(D #[Z n,Z 0,Z 0,Z 0,C G 0 0]:Value);let c:=([Z 0,Z 0,Z 0,Z 0,C G 0 0]:List Value);refine Ak (args:=[Z n,C G 0 0]) (m:=11) (n:=13) Tryz.func28 rfl kR kR fun J V=>?_;have O:=Ow.nil jP Ag w;refine sr 1 (Mn c 43 4 V O fun J w1 b1 V O=>Ab (Aa (sr 4 (Ka 2 [(7,b)] V fun J V=>Mn c 43 5 V O fun J w2 b2 V O=>Ms 0 a 0 V O fun w3 O=>Ab (Aa (sr 4 (Kb 3 [(9,C (F ⟨b2,1,G⟩) 3 3),(10,C G 0 0)] V [I false] (cc (oo:(0:Int)<=0/\(0:Int)<=((3:Nat):Int)/\((3:Nat):Int)<=((3:Nat):Int)/\((3:Nat):Int)<=((3:Nat):Int)/\((0:Int)=((3:Nat):Int)\/(0:Int)=0)) c0) fun J V=>Ae (mY (f:=fN) (el:=3) (L:=[(b2,43,a),(b1,43,c)]) (t:=33) (tx:=33) (ty:=3) (x:= C G 0 0) (xs:=[]) (off:=1) (dl:=3) (dc:=3) (m:=0) (d:=(F 11)) (l':=a) 0 G9 V O (.inl ⟨rfl,rfl⟩) rfl (Nat.le_of_ble_eq_true kR) kR ?_ oo))))))));clear V O J; intro J w4 V O;exact Ab (Aa (sr 2 (Kb 1 [(12,b)] V [b] (cc (O.ln 0 0 43 a) c0) fun J V=>Ms 0 a 1 V O fun w5 O=>Ab (Aa (wp_ret (cR (cs:=[F (⟨b1,0,G⟩,43)]) (us:=[b]) V [b] ⟨(O.ln 1 0 43 a),trivial⟩ (⟨rfl,O.only⟩)))))))
theorem C5 (n x0:Int) (ad:Addr) (c:Nat) (w:World) (hv:Vw fN w (C (F ad) 1 c) [x0]) :
 Calls jP 28 #[Z n,C (F ad) 1 c] w fun e w'=>e = .returned (D #[Z n,Z x0,Z 0,Z 0,C G 0 0])/\Only Ag w w':=by
 let a:=(C G 0 0:Value);let b:=(D #[Z n,Z x0,Z 0,Z 0,a]:Value);let g:=[Z n,Z x0,Z 0,Z 0,a];let h:=[Z 0,Z 0,Z 0,Z 0,a];let i:=[Z n,Z 0,Z 0,Z 0,a];refine Ak (args:=[Z n,C (F ad) 1 c]) (m:=11) (n:=13) Tryz.func28 rfl kR kR fun J V=>?_;have O:=Ow.nil jP Ag w;refine sr 1 (Mn h 43 4 V O fun J w1 b1 V O=>Ab (Aa (sr 4 (Ka 2 [(7,D #[Z n,Z 0,Z 0,Z 0,a])] V fun J V=>Mn h 43 5 V O fun J w2 b2 V O=>Ms 0 i 0 V O fun w3 O=>Ab (Aa (sr 4 (Kb 3 [(9,C (F ⟨b2,1,G⟩) 3 3),(10,C (F ad) 1 c)] V [I false] (cc (oo:(0:Int)<=0/\(0:Int)<=((3:Nat):Int)/\((3:Nat):Int)<=((3:Nat):Int)/\((3:Nat):Int)<=((3:Nat):Int)/\((0:Int)=((3:Nat):Int)\/(0:Int)=0)) c0) fun J V=>Ae (mY (f:=fN) (el:=3) (L:=[(b2,43,i),(b1,43,h)]) (t:=33) (tx:=33) (ty:=3) (x:= C (F ad) 1 c) (xs:=[x0]) (off:=1) (dl:=3) (dc:=3) (m:=1) (d:=(F 11)) (l':=g) 0 G9 V O (hv.keep O.only) rfl (Nat.le_of_ble_eq_true kR) kR ?_ oo))))))));clear V O J; intro J w4 V O;exact Ab (Aa (sr 2 (Kb 1 [(12,b)] V [b] (cc (O.ln 0 0 43 g) c0) fun J V=>Ms 0 g 1 V O fun w5 O=>Ab (Aa (wp_ret (cR (cs:=[F (⟨b1,0,G⟩,43)]) (us:=[b]) V [b] ⟨(O.ln 1 0 43 g),trivial⟩ (⟨rfl,O.only⟩)))))))
theorem Ej (n x0 x1:Int) (ad:Addr) (c:Nat) (w:World) (hv:Vw fN w (C (F ad) 2 c) [x0,x1]) :
 Calls jP 28 #[Z n,C (F ad) 2 c] w fun e w'=>e = .returned (D #[Z n,Z x0,Z x1,Z 0,C G 0 0])/\Only Ag w w':=by
 let a:=(C G 0 0:Value);let b:=(D #[Z n,Z x0,Z x1,Z 0,a]:Value);let g:=[Z n,Z x0,Z x1,Z 0,a];let h:=[Z 0,Z 0,Z 0,Z 0,a];let i:=[Z n,Z 0,Z 0,Z 0,a];refine Ak (args:=[Z n,C (F ad) 2 c]) (m:=11) (n:=13) Tryz.func28 rfl kR kR fun J V=>?_;have O:=Ow.nil jP Ag w;refine sr 1 (Mn h 43 4 V O fun J w1 b1 V O=>Ab (Aa (sr 4 (Ka 2 [(7,D #[Z n,Z 0,Z 0,Z 0,a])] V fun J V=>Mn h 43 5 V O fun J w2 b2 V O=>Ms 0 i 0 V O fun w3 O=>Ab (Aa (sr 4 (Kb 3 [(9,C (F ⟨b2,1,G⟩) 3 3),(10,C (F ad) 2 c)] V [I false] (cc (oo:(0:Int)<=0/\(0:Int)<=((3:Nat):Int)/\((3:Nat):Int)<=((3:Nat):Int)/\((3:Nat):Int)<=((3:Nat):Int)/\((0:Int)=((3:Nat):Int)\/(0:Int)=0)) c0) fun J V=>Ae (mY (f:=fN) (el:=3) (L:=[(b2,43,i),(b1,43,h)]) (t:=33) (tx:=33) (ty:=3) (x:= C (F ad) 2 c) (xs:=[x0,x1]) (off:=1) (dl:=3) (dc:=3) (m:=2) (d:=(F 11)) (l':=g) 0 G9 V O (hv.keep O.only) rfl (Nat.le_of_ble_eq_true kR) kR ?_ oo))))))));clear V O J; intro J w4 V O;exact Ab (Aa (sr 2 (Kb 1 [(12,b)] V [b] (cc (O.ln 0 0 43 g) c0) fun J V=>Ms 0 g 1 V O fun w5 O=>Ab (Aa (wp_ret (cR (cs:=[F (⟨b1,0,G⟩,43)]) (us:=[b]) V [b] ⟨(O.ln 1 0 43 g),trivial⟩ (⟨rfl,O.only⟩)))))))
theorem Qa (t:Int) (w:World) :
 Calls jP 80 #[Z t] w fun e w'=>e = .returned (.bool (B4 t))/\Only Ag w w':=by
 refine Ak (args:=[Z t]) (m:=8) (n:=9) Tryz.func80 rfl kR kR fun J V=>?_;have O:=Ow.nil jP Ag w;refine Sa [(2,I false)] V fun J V=>sr 7 (Ka 3 [(4,I (decide (t ≥ 16))),(5,I (decide (t ≥ 16)))] V fun J V=>?_);rcases dC (t ≥ 16) with ⟨h1,h1p⟩|⟨h1,h1p⟩
 · rw [h1] at V;refine Ka 4 [(2,I (decide (t < 32)))] V fun J V=>Ab (Aa (wp_ret (cv [I (decide (t < 32))] V (⟨rB ?_,O.only⟩))));unfold B4;exact decide_eq_decide.2 oo
 rw [h1] at V;refine Ka 4 [] V fun J V=>Ab (Aa (wp_ret (cv [I false] V (⟨rB ?_,O.only⟩))));unfold B4;exact (jO oo).symm
theorem Cp (c:CallL):okC c=decide ((-1<=c.a0/\c.a0<=1000)/\(-1<=c.a1/\c.a1<=1000)/\(-1<=c.a2/\c.a2<=1000)/\(0<=c.call/\c.call < 20)/\c.data.length<=128):=by
 unfold okC eR;rw [Bool.eq_iff_iff]; simp only [Bool.and_eq_true,decide_eq_true_eq]
theorem Ti (x:PV) (w:World) :
 Calls jP 82 #[D #[Z x.d.call,Z x.d.a0,Z x.d.a1,Z x.d.a2,C x.p x.d.data.length x.c]] w fun e w'=>e = .returned (.bool (okC x.d))/\Only Ag w w':=by
 let a:=([Z x.d.call,Z x.d.a0,Z x.d.a1,Z x.d.a2,C x.p x.d.data.length x.c]:List Value);let b:=#[Z x.d.a0,Z x.d.a1,Z x.d.a2];let c:=(C x.p x.d.data.length x.c:Value);let d:=(2,I false);let f:=[(15,I true)];refine Ak (args:=[D #[Z x.d.call,Z x.d.a0,Z x.d.a1,Z x.d.a2,c]]) (m:=30) (n:=31) Tryz.func82 rfl kR kR fun J V=>?_;have O:=Ow.nil jP Ag w;refine sr 2 (Mn a 43 1 V O fun J w1 b1 V O=>Ka 1 [d] V fun J V=>Ab (Aa (wp_seq (Sb [(6,D b),(7,Z 0)] V [D b] (cc (O.ln 0 1 40 [Z x.d.a0,Z x.d.a1,Z x.d.a2]) c0) fun J V=>wp_block (Ay (fun mm J W=>(mm=3/\Holds 31 [] J [(1,pt b1),d,(6,D b),(7,Z 0)]/\Ow jP Ag w W [(b1,43,a)])\/(mm=2/\Holds 31 [] J [(1,pt b1),d,(6,D b),(7,Z 1)]/\Ow jP Ag w W [(b1,43,a)]/\(-1<=x.d.a0/\x.d.a0<=1000))\/(mm=1/\Holds 31 [] J [(1,pt b1),d,(6,D b),(7,Z 2)]/\Ow jP Ag w W [(b1,43,a)]/\(-1<=x.d.a0/\x.d.a0<=1000)/\(-1<=x.d.a1/\x.d.a1<=1000))\/(mm=0/\Holds 31 [] J [(1,pt b1),d,(6,D b),(7,Z 3)]/\Ow jP Ag w W [(b1,43,a)]/\(-1<=x.d.a0/\x.d.a0<=1000)/\(-1<=x.d.a1/\x.d.a1<=1000)/\(-1<=x.d.a2/\x.d.a2<=1000))) ?_ ?_)))))
 · exact ⟨_,(.inl ⟨rfl,V.sb,O.to⟩)⟩
 rintro _ J w2 (⟨rfl,V,O⟩ | ⟨rfl,V,O,hu⟩ | ⟨rfl,V,O,hu⟩ | ⟨rfl,V,O,hu⟩)
 · refine Sa [(8,I true)] V fun J V=>wp_seq (cT V (wp_skip (Aa (wp_seq (wp_block (Sb [(4,Z x.d.a0)] V [Z x.d.a0] (cc (⟨oo,oo,kR⟩:(0:Int)<=0/\0 < ((3:Nat):Int)/\(b)[(0:Int).toNat*1]? = F (Z x.d.a0)) c0) fun J V=>sr 6 (Ka 3 [(11,I (decide (x.d.a0 < (-1)))),(12,I (decide (x.d.a0 < (-1))))] V fun J V=>?_)))))));rcases dC (x.d.a0 < (-1)) with ⟨h1,h1p⟩|⟨h1,h1p⟩
   · rw [h1] at V;refine Ka 3 f V fun J V=>Ab (Aa (cT V (Sa [] V fun J V=>wp_ret (Ad (Ac (Ac (Ad (Ac (cv [I false] V (⟨rB ?_,O.only⟩))))))))));rw [Cp];exact (jO oo).symm
   rw [h1] at V;refine Ka 3 [(15,I (decide (x.d.a0 > 1000)))] V fun J V=>Ab (Aa ?_);rcases dC (x.d.a0 > 1000) with ⟨h2,h2p⟩|⟨h2,h2p⟩
   · rw [h2] at V;refine cT V (Sa [] V fun J V=>wp_ret (Ad (Ac (Ac (Ad (Ac (cv [I false] V (⟨rB ?_,O.only⟩))))))));rw [Cp];exact (jO oo).symm
   rw [h2] at V;exact cF V (wp_skip (Af (Aa (Rc [(7,Z 1)] V [I false] c0 fun J V=>Aa (⟨2,dD,(.inr (.inl ⟨rfl,V.sb,O.to,oo⟩))⟩)))))
 · refine Sa [(7,Z 1),(8,I true)] V fun J V=>wp_seq (cT V (wp_skip (Aa (wp_seq (wp_block (Sb [(4,Z x.d.a1)] V [Z x.d.a1] (cc (⟨oo,oo,kR⟩:(0:Int)<=1/\1 < ((3:Nat):Int)/\(b)[(1:Int).toNat*1]? = F (Z x.d.a1)) c0) fun J V=>sr 6 (Ka 3 [(11,I (decide (x.d.a1 < (-1)))),(12,I (decide (x.d.a1 < (-1))))] V fun J V=>?_)))))));rcases dC (x.d.a1 < (-1)) with ⟨h3,h3p⟩|⟨h3,h3p⟩
   · rw [h3] at V;refine Ka 3 f V fun J V=>Ab (Aa (cT V (Sa [] V fun J V=>wp_ret (Ad (Ac (Ac (Ad (Ac (cv [I false] V (⟨rB ?_,O.only⟩))))))))));rw [Cp];exact (jO oo).symm
   rw [h3] at V;refine Ka 3 [(15,I (decide (x.d.a1 > 1000)))] V fun J V=>Ab (Aa ?_);rcases dC (x.d.a1 > 1000) with ⟨h4,h4p⟩|⟨h4,h4p⟩
   · rw [h4] at V;refine cT V (Sa [] V fun J V=>wp_ret (Ad (Ac (Ac (Ad (Ac (cv [I false] V (⟨rB ?_,O.only⟩))))))));rw [Cp];exact (jO oo).symm
   rw [h4] at V;exact cF V (wp_skip (Af (Aa (Rc [(7,Z 2)] V [I false] c0 fun J V=>Aa (⟨1,dD,(.inr (.inr (.inl ⟨rfl,V.sb,O.to,oo⟩)))⟩)))))
 · refine Sa [(7,Z 2),(8,I true)] V fun J V=>wp_seq (cT V (wp_skip (Aa (wp_seq (wp_block (Sb [(4,Z x.d.a2)] V [Z x.d.a2] (cc (⟨oo,oo,kR⟩:(0:Int)<=2/\2 < ((3:Nat):Int)/\(b)[(2:Int).toNat*1]? = F (Z x.d.a2)) c0) fun J V=>sr 6 (Ka 3 [(11,I (decide (x.d.a2 < (-1)))),(12,I (decide (x.d.a2 < (-1))))] V fun J V=>?_)))))));rcases dC (x.d.a2 < (-1)) with ⟨h5,h5p⟩|⟨h5,h5p⟩
   · rw [h5] at V;refine Ka 3 f V fun J V=>Ab (Aa (cT V (Sa [] V fun J V=>wp_ret (Ad (Ac (Ac (Ad (Ac (cv [I false] V (⟨rB ?_,O.only⟩))))))))));rw [Cp];exact (jO oo).symm
   rw [h5] at V;refine Ka 3 [(15,I (decide (x.d.a2 > 1000)))] V fun J V=>Ab (Aa ?_);rcases dC (x.d.a2 > 1000) with ⟨h6,h6p⟩|⟨h6,h6p⟩
   · rw [h6] at V;refine cT V (Sa [] V fun J V=>wp_ret (Ad (Ac (Ac (Ad (Ac (cv [I false] V (⟨rB ?_,O.only⟩))))))));rw [Cp];exact (jO oo).symm
   rw [h6] at V;exact cF V (wp_skip (Af (Aa (Rc [(7,Z 3)] V [I false] c0 fun J V=>Aa (⟨0,dD,(.inr (.inr (.inr ⟨rfl,V.sb,O.to,oo⟩)))⟩)))))
 refine Sa [(7,Z 3),(8,I false)] V fun J V=>wp_seq (cF V (wp_exit (Ai (Ai (Aj (Aa (sr 15 (Kb 4 [(19,I (decide (x.d.call ≥ 0))),(20,I (decide (x.d.call ≥ 0)))] V [Z x.d.call] (cc (O.l1 0 0 3 (Z x.d.call)) c0) fun J V=>?_))))))));rcases dC (x.d.call ≥ 0) with ⟨h7,h7p⟩|⟨h7,h7p⟩
 · rw [h7] at V;refine Kb 5 [(23,I (decide (x.d.call < 20))),(24,I (decide (x.d.call < 20))),(25,I (decide (x.d.call < 20)))] V [Z x.d.call] (cc (O.l1 0 0 3 (Z x.d.call)) c0) fun J V=>?_;rcases dC (x.d.call < 20) with ⟨h8,h8p⟩|⟨h8,h8p⟩
   · rw [h8] at V;refine Kb 6 [(2,I (decide (((x.d.data.length:Nat):Int)<=128)))] V [c] (cc (O.l1 0 4 41 (c)) c0) fun J V=>Ab (Aa (wp_ret (cv [I (decide (((x.d.data.length:Nat):Int)<=128))] V (⟨rB ?_,O.only⟩))));rw [Cp];exact decide_eq_decide.2 oo
   rw [h8] at V;refine Ka 6 [] V fun J V=>Ab (Aa (wp_ret (cv [I false] V (⟨rB ?_,O.only⟩))));rw [Cp];exact (jO oo).symm
 rw [h7] at V;refine Ka 11 [] V fun J V=>Ab (Aa (wp_ret (cv [I false] V (⟨rB ?_,O.only⟩))));rw [Cp];exact (jO oo).symm
def PV0:PV:=⟨G,0,A3 0 0 0⟩
theorem ldN {P:Program} {w:World} {ad:Addr} {m c:Nat} {l:List Int} (h:Vw fN w (.slice (some ad) m c) l) {i:Nat} {x:Int} (hx:l[i]? = some x) {t:TypeId} (ht:K6 P t=true:=by kernel_rfl):Ld P w (ad.add i) t (.int .i64 x):=by
 have:=h.cell G9 (k:=0) hx (v:= .int .i64 x) rfl;rw [Nat.mul_one,Nat.add_zero] at this;exact E1 ht this
theorem Vn {l:List Int} {i:Nat} {x v:Int} (h:(l.take i).contains x=false) (hx:l[i]? = F v) (hn:(x == v)=false):(l.take (i+1)).contains x=false:=by
 rw [List.take_add_one,hx,List.contains_append,h,Bool.false_or];show [v].contains x=false;rw [List.contains_cons,hn]; rfl
theorem aH {l:List Int} {i:Nat} {x v:Int} (hx:l[i]? = F v) (hn:(x == v)=true):l.contains x=true:=by
 rw [List.contains_iff_exists_mem_beq];exact ⟨v,List.mem_of_getElem? hx,hn⟩
theorem aL {l:List Int} {i:Nat} {x:Int} (h:(l.take i).contains x=false) (hi : ¬ i < l.length):l.contains x=false:=by rwa [List.take_of_length_le (by omega)] at h
theorem _root_.Go.Proofs.Sx.Vw.take {α:Type} {f : α->List Value} {w:World} {p:Option Addr} {m c i c':Nat} {l:List α} (h:Vw f w (C p m c) l) (hm:m=l.length) (hi:i<=l.length) (hp:p=G->c'=0):Vw f w (C p i c') (l.take i):=by
 rcases h with ⟨h,rfl⟩ | ⟨ad,cap,h,hc⟩
 · cases h;have:i=0:=by simpa using hi
   subst this;rw [hp rfl]; exact .inl ⟨rfl,rfl⟩
 cases h;refine .inr ⟨ad,c',?_,fun j u hj=>hc j u ?_⟩
 · rw [List.length_take,Nat.min_eq_left hi]
 have e:l.flatMap f=(l.take i).flatMap f++(l.drop i).flatMap f:=by rw [← List.flatMap_append,List.take_append_drop]
 rw [e,List.getElem?_append_left (List.getElem?_eq_some_iff.1 hj).1]; exact hj
theorem _root_.Go.Proofs.Sx.Vw.nilcap {α:Type} {f : α->List Value} {w:World} {p:Option Addr} {m c:Nat} {l:List α} (h:Vw f w (C p m c) l):p=G->c=0:=by
 rcases h with ⟨h,_⟩ | ⟨ad,cap,h,_⟩
 · cases h; exact fun _=>rfl
 cases h; exact fun h=>by cases h
theorem _root_.Go.Proofs.Sx.Vw.len {α:Type} {f : α->List Value} {w:World} {p:Option Addr} {m c:Nat} {l:List α} (h:Vw f w (C p m c) l):m=l.length:=by
 rcases h with ⟨h,rfl⟩ | ⟨ad,cap,h,_⟩
 · cases h; rfl
 cases h; rfl
theorem dV (p:Option Addr) (c:Nat) (l:List Int) (x:Int) (w:World) (hv:Vw fN w (C p l.length c) l) (hm:l.length<=1000000) :
 Calls jP 105 #[C p l.length c,Z x] w fun e w'=>∃ r:Int,e = .returned (Z r)/\decide (r ≥ 0)=l.contains x/\Only Ag w w':=by
 refine Ak (args:=[C p l.length c,Z x]) (m:=17) (n:=19) Tryz.func105 rfl kR kR fun J V=>?_;have O:=Ow.nil jP Ag w;refine Sa [(4,Z 0)] V ?_;clear V J; intro J V;refine wp_seq (Sa [(7,Z ((l.length:Nat):Int)),(8,Z 0)] V ?_);clear V J; intro J V;refine wp_block (Ay (fun mm J W=>∃ (i:Nat),mm=l.length - i/\Holds 19 [] J [(0,C p l.length c),(1,Z x),(4,Z 0),(7,Z ((l.length:Nat):Int)),(8,Z ((i:Nat):Int))]/\Ow jP Ag w W []/\i<=l.length/\(l.take i).contains x=false/\True) ?_ ?_)
 · exact ⟨_,0,rfl,V.ss,O.to,(Nat.zero_le _),rfl,trivial⟩
 rintro _ J w1 ⟨i,rfl,V,O,hi,ho,-⟩;refine Sa [(9,I (decide (((i:Nat):Int) < ((l.length:Nat):Int))))] V ?_;clear V J; intro J V;refine wp_seq ?_;rcases dC (((i:Nat):Int) < ((l.length:Nat):Int)) with ⟨h1,h1p⟩|⟨h1,h1p⟩
 · rw [h1] at V;obtain ⟨ad1,rfl⟩:=((hv.keep O.only)).pos oo;obtain ⟨v1,hx1⟩ : ∃ x,(l)[i]? = F x:=⟨_,Av _ 0 oo⟩;refine cT V (wp_skip (Aa (wp_seq (wp_block (Sa [(0,C (F ad1) l.length c),(5,Z ((i:Nat):Int))] V ?_)))));clear V J; intro J V;refine Sb [(16,I (x == v1))] V [Z v1] (cc (oo:(0:Int)<=((i:Nat):Int)/\((i:Nat):Int) < ((l.length:Nat):Int)) (cc ((ldN ((hv.keep O.only)) hx1):Ld jP w1 (ad1.add i) 3 (Z v1)) c0)) ?_;clear V J; intro J V;rcases bC x v1 with ⟨h2,h2p⟩|⟨h2,h2p⟩
   · rw [h2] at V;refine cT V (Sa [(4,Z ((i:Nat):Int))] V ?_);clear V J; intro J V;exact wp_ret (Ad (Ac (Ac (Ad (Ac (cv [Z ((i:Nat):Int)] V (⟨_,rfl,(jN oo).trans (aH hx1 aM).symm,O.only⟩)))))))
   rw [h2] at V;refine cF V (wp_skip (Af (Aa (Rc [(8,Z (((i:Nat):Int)+1))] V [I true] (cc ((An oo oo):inK .i64 (((i:Nat):Int)+1)) c0) ?_))));clear V J; intro J V;exact Aa (⟨_,oo,i+1,rfl,V.ss,O.to,oo,(Vn ho hx1 aM),trivial⟩)
 rw [h1] at V;refine cF V (wp_exit (Ai (Ai (Aj (Aa (Sa [(4,Z (-1))] V ?_))))));clear V J; intro J V;exact wp_ret (cv [Z (-1)] V (⟨_,rfl,(jO oo).trans (aL ho oo).symm,O.only⟩))
theorem N3 (p:Option Addr) (c:Nat) (l:List Int) (x:Int) (w:World) (hv:Vw fN w (C p l.length c) l) (hm:l.length<=1000000) :
 Calls jP 81 #[C p l.length c,Z x] w fun e w'=>e = .returned (.bool (l.contains x))/\Only Ag w w':=by
 refine Ak (args:=[C p l.length c,Z x]) (m:=7) (n:=9) Tryz.func81 rfl kR kR fun J V=>?_;have O:=Ow.nil jP Ag w;refine Sa [(4,I false)] V fun J V=>sr 5 (Ka 2 [(5,C p l.length c),(6,Z x)] V fun J V=>Ae (mC (d:=(F 7)) V Tryz.func105 ((dV p c l x _ (hv.keep O.only) hm).mono ?_)));rintro en w1 ⟨r1,rfl,hr1,ho⟩;refine ⟨_,rfl,?_⟩;clear V J; intro J V;replace O:=O.st ho; clear ho;exact Ka 2 [(4,I (decide (r1 ≥ 0)))] V fun J V=>Ab (Aa (wp_ret (cv [I (decide (r1 ≥ 0))] V (⟨rB hr1,O.only⟩))))
theorem Ko (p:Option Addr) (m c:Nat) (l:List Int) (x:Int) (w:World) (hv:Vw fN w (C p m c) l) (hm:l.length<=1000000):Calls jP 81 #[C p m c,Z x] w fun e w'=>e = .returned (.bool (l.contains x))/\Only Ag w w':=by
 have:=hv.len;subst this;exact N3 p c l x w hv hm
theorem Q9 {l:List JV} (h:((l.length:Nat):Int)=0):Bh (l.map JV.d)=0:=by
 cases l with
 | nil=>rfl
 | cons x r=>simp only [jS] at h; omega
theorem Ps {l:List JV} {xp:Option Addr} {xc:Nat} {xl:List CV} {xb:Bool} (h:l[0]? = F ⟨xp,xc,xl,xb⟩):Bh (l.map JV.d)=xl.length:=by
 cases l with
 | nil=>simp at h
 | cons x r =>
  simp only [List.getElem?_cons_zero,Option.some.injEq] at h;subst h;show (xl.map CV.d).length=_;rw [List.length_map]
theorem Da (mo po:Int) (inp:ByteArray) (pj:Option Addr) (kj:Nat) (lj:List JV) (rd wr pv:Int) (pn:Option Addr) (kn:Nat) (ln:List Int) (pp:Option Addr) (kp:Nat) (lp:List PV) (w:World) (hs:SV.ok (⟨mo,po,inp,pj,kj,lj,rd,wr,pv,pn,kn,ln,pp,kp,lp⟩:SV) w) :
 Calls jP 47 #[D #[Z mo,Z po,Y inp,C pj lj.length kj,Z rd,Z wr,Z pv,C pn ln.length kn,C pp lp.length kp]] w fun e w'=>e = .returned (Z ((Bh (lj.map JV.d):Nat):Int))/\Only Ag w w':=by
 let a:=(C pj lj.length kj:Value);refine Ak (args:=[D #[Z mo,Z po,Y inp,a,Z rd,Z wr,Z pv,C pn ln.length kn,C pp lp.length kp]]) (m:=12) (n:=13) Tryz.func47 rfl kR kR fun J V=>?_;have O:=Ow.nil jP Ag w;have hv_j:VL w (a) lj:=hs.j;refine sr 2 (Mn [Z mo,Z po,Y inp,a,Z rd,Z wr,Z pv,C pn ln.length kn,C pp lp.length kp] 39 1 V O ?_);clear V O J; intro J w1 b1 V O;refine Ka 1 [(2,Z 0)] V ?_;clear V J; intro J V;refine Ab (Aa (wp_seq (Sb [(6,I (((lj.length:Nat):Int) == 0))] V [a] (cc (O.l1 0 3 36 (a)) c0) ?_)));clear V J; intro J V;rcases bC ((lj.length:Nat):Int) 0 with ⟨h1,h1p⟩|⟨h1,h1p⟩
 · rw [h1] at V;refine cT V (Sa [] V ?_);clear V J; intro J V;exact wp_ret (Ac (cv [Z 0] V (⟨congrArg (fun k:Nat=>jQ (Z ((k:Nat):Int))) (Q9 aM).symm,O.only⟩)))
 rw [h1] at V;obtain ⟨ad1,rfl⟩:=((hv_j.keep O.only).1).pos oo;obtain ⟨⟨xp1,xc1,xl1,xb1⟩,hx1⟩ : ∃ x,(lj)[0]? = F x:=⟨_,Av _ JV0 oo⟩;refine cF V (wp_skip (Aa (Sb [(2,Z ((xl1.length:Nat):Int))] V [C (F ad1) lj.length kj,C xp1 xl1.length xc1] (cc (O.l1 0 3 36 (C (F ad1) lj.length kj)) (cc (oo:(0:Int)<=0/\0 < ((lj.length:Nat):Int)) (cc ((((hv_j.keep O.only).1).ld0 Bg hx1 (by rfl)):Ld jP w1 (ad1.add 0) 101 (C xp1 xl1.length xc1)) c0))) ?_)));clear V J; intro J V;exact wp_ret (cv [Z ((xl1.length:Nat):Int)] V (⟨congrArg (fun k:Nat=>jQ (Z ((k:Nat):Int))) (Ps hx1).symm,O.only⟩))
end Go.Proofs.YtdljjajjonfjbaaGreatDoor
