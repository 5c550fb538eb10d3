import Derived.Test.YtdljjajjonfjbaaGreatDoorShb
import Derived.Test.YtdljjajjonfjbaaGreatDoorParsc
import Derived.Shelf.Pu.ParseUintPublic10
set_option linter.unusedVariables false
set_option linter.unusedSimpArgs false
set_option maxRecDepth 10000
open Go.Value renaming slice->D,agg->E
open Option renaming some->F,none->G
open Go.Proofs.Tryz renaming prog->jP
open Go.Ending renaming returned->jQ
open List renaming length_append->jR,length_cons->jS,length_nil->jT,length_map->jU,append_assoc->jV,not_mem_nil->jY,mem_singleton->jZ,append_nil->kC,nil_append->kD,mem_cons_of_mem->kE
namespace Go.Proofs.YtdljjajjonfjbaaGreatDoor
open Go Go.Shelf Go.RowKit Go.Proofs Go.Proofs.Sx
section
variable {l:List Int} {i:Nat} {v:Int}
theorem Ot (h:C2 l i=true) (hx:l[i]? = F v) (hu:B4 v=true) (hc:(l.take i).contains v=false):C2 l (i+1)=true:=by
 have hg:l.getD i 0=v:=Lv hx;simp only [C2]; rw [hg,h,hu,hc]; rfl
theorem U6 (h:C2 l i=false) : ∀ m,i<=m->C2 l m=false
 | 0, hm => by
  have : i = 0 := oo
  rw [← this]; exact h
 | m+1,hm=>by
  by_cases e:i=m+1
  · rw [← e]; exact h
  · simp only [C2]; rw [U6 h m oo,Bool.false_and]
theorem L8 (hx:l[i]? = F v) (h:B4 v=false\/(l.take i).contains v=true):C2 l l.length=false:=by
 have hg:l.getD i 0=v:=Lv hx;have hi:=(List.getElem?_eq_some_iff.1 hx).1;refine U6 (i:=i+1) ?_ _ oo;simp only [C2]; rw [hg];rcases h with h | h <;> rw [h] <;> simp
end
theorem H1 (l:List Int) (p:List PV):Cz l (p.map PV.d)=(C2 l l.length && ((p.all fun x=>okC x.d) && decide (p.length<=12))):=by
 unfold Cz;rw [List.all_map,jU]; rfl
theorem Nd {l:List Int} {p:List PV} (h:C2 l l.length=false):Cz l (p.map PV.d)=false:=by rw [H1,h,Bool.false_and]
theorem S2 {l:List Int} {p:List PV} {i:Nat} {x:PV} (hx:p[i]? = F x) (h:okC x.d=false):Cz l (p.map PV.d)=false:=by rw [H1,C7 (p:=fun x=>okC x.d) hx h]; simp
theorem Xk {l:List Int} {p:List PV} {i j:Nat} (h:C2 l i=true) (hi : ¬ i < l.length) (hi':i<=l.length) (g:(p.take j).all (fun x=>okC x.d)=true) (hj : ¬ j < p.length):Cz l (p.map PV.d)=decide (p.length<=12):=by
 rw [H1,show l.length=i by omega,h,Bc g hj]; rfl
theorem Xm (mo po:Int) (inp:ByteArray) (pj:Option Addr) (kj:Nat) (lj:List JV) (rd wr pv:Int) (pn:Option Addr) (kn:Nat) (ln:List Int) (pp:Option Addr) (kp:Nat) (lp:List PV) (w:World) (hs:SV.ok (⟨mo,po,inp,pj,kj,lj,rd,wr,pv,pn,kn,ln,pp,kp,lp⟩:SV) w) (hm:SV.sm (⟨mo,po,inp,pj,kj,lj,rd,wr,pv,pn,kn,ln,pp,kp,lp⟩:SV)) :
 Calls jP 46 #[E #[Z mo,Z po,Y inp,D pj lj.length kj,Z rd,Z wr,Z pv,D pn ln.length kn,D pp lp.length kp]] w fun e w'=>e = .returned (.bool (Cz ln (lp.map PV.d)))/\Only Ag w w':=by
 let b:=([Z mo,Z po,Y inp,D pj lj.length kj,Z rd,Z wr,Z pv,D pn ln.length kn,D pp lp.length kp]:List Value);let c:=(D pp lp.length kp:Value);let d:=(D pn ln.length kn:Value);refine Ak (args:=[E #[Z mo,Z po,Y inp,D pj lj.length kj,Z rd,Z wr,Z pv,d,c]]) (m:=41) (n:=42) Tryz.func46 rfl kR kR fun J V=>?_;have O:=Ow.nil jP Ag w;have hv_k:Vw fN w (d) ln:=hs.k;have hv_p:PL w (c) lp:=hs.p;have hm_ck:ln.length<=kn:=hm.ck;have hm_cj:lj.length<=kj:=hm.cj;have hm_cp:lp.length<=kp:=hm.cp;have hm_i:inp.size<=1000000:=hm.i;have hm_k:ln.length<=1000000:=hm.k;have hm_p:lp.length<=1000000:=hm.p;have hm_j:smL 1000000 (lj.map JV.d):=hm.j;have hm_jl:lj.length<=1000000:=hm_j.len;refine sr 2 (Mn b 39 1 V O ?_);clear V O J; intro J w1 b1 V O;refine Ka 1 [(2,I false)] V ?_;clear V J; intro J V;refine Ab (Aa (wp_seq (Sb [(8,d),(9,Z ((ln.length:Nat):Int)),(10,Z 0)] V [d] (cc (O.l1 0 7 33 (d)) c0) ?_)));clear V J; intro J V;refine wp_block (Ay (fun mm J W=>∃ (i:Nat),mm=ln.length - i/\Holds 42 [] J [(1,pt b1),(2,I false),(8,d),(9,Z ((ln.length:Nat):Int)),(10,Z ((i:Nat):Int))]/\Ow jP Ag w W [(b1,39,b)]/\i<=ln.length/\C2 ln i=true/\True) ?_ ?_)
 · exact ⟨_,0,rfl,V.ss,O.to,(Nat.zero_le _),rfl,trivial⟩
 rintro _ J w2 ⟨i,rfl,V,O,hi_i,ho,-⟩;refine Sa [(11,I (decide (((i:Nat):Int) < ((ln.length:Nat):Int))))] V ?_;clear V J; intro J V;refine wp_seq ?_;rcases dC (((i:Nat):Int) < ((ln.length:Nat):Int)) with ⟨h1,h1p⟩|⟨h1,h1p⟩
 · rw [h1] at V;obtain ⟨ad1,rfl⟩:=((hv_k.keep O.only)).pos oo;let g:=(D (F ad1) ln.length kn:Value);obtain ⟨v1,hx1⟩ : ∃ x,(ln)[i]? = F x:=⟨_,Av _ 0 oo⟩;refine cT V (wp_skip (Aa (wp_seq (wp_block (Sb [(3,Z ((i:Nat):Int)),(4,Z v1),(8,g)] V [Z v1] (cc (oo:(0:Int)<=((i:Nat):Int)/\((i:Nat):Int) < ((ln.length:Nat):Int)) (cc ((ldN ((hv_k.keep O.only)) hx1):Ld jP w2 (ad1.add i) 3 (Z v1)) c0)) ?_)))));clear V J; intro J V;refine sr 11 (Ka 1 [(15,Z v1)] V ?_);clear V J; intro J V;refine Mk 16 V O Tryz.func80 (Qa v1 _) ?_;clear V O J; intro J w3 V O;refine Ka 2 [(17,I (!(B4 v1))),(18,I (!(B4 v1)))] V ?_;clear V J; intro J V;rcases jK (B4 v1) with h2 | h2
   · rw [h2] at V;refine Kb 5 [(18,I false),(22,D (F ad1) i kn),(23,Z v1)] V [g,I false] (cc (O.l1 0 7 33 (g)) (cc (oo:(0:Int)<=0/\(0:Int)<=((i:Nat):Int)/\(((i:Nat):Int):Int)<=((kn:Nat):Int)/\(((kn:Nat):Int):Int)<=((kn:Nat):Int)/\(0=((kn:Nat):Int)\/0=(0:Int))) c0)) ?_;clear V J; intro J V;refine Mk 24 V O Tryz.func81 (Ko (F ad1) i kn (ln.take i) v1 _ ((hv_k.keep O.only).take rfl oo (hv_k.keep O.only).nilcap) (by rw [List.length_take]; omega)) ?_;clear V O J; intro J w4 V O;refine Ka 1 [(25,I ((ln.take i).contains v1))] V ?_;clear V J; intro J V;refine Ab (Aa ?_);rcases jK ((ln.take i).contains v1) with h3 | h3
     · rw [h3] at V;refine cT V (Sa [] V ?_);clear V J; intro J V;exact wp_ret (Ad (Ac (Ac (Ad (Ac (cv [I false] V (⟨rB (Nd (L8 hx1 (by exact .inr aM))).symm,O.only⟩)))))))
     rw [h3] at V;refine cF V (wp_skip (Af (Aa (Rc [(10,Z (((i:Nat):Int)+1))] V [I true] (cc ((An oo oo):inK .i64 (((i:Nat):Int)+1)) c0) ?_))));clear V J; intro J V;exact Aa (⟨_,oo,i+1,rfl,V.ss,O.to,oo,(Ot ho hx1 aM aM),trivial⟩)
   rw [h2] at V;refine Ka 7 [(25,I true)] V ?_;clear V J; intro J V;refine Ab (Aa (cT V (Sa [] V ?_)));clear V J; intro J V;exact wp_ret (Ad (Ac (Ac (Ad (Ac (cv [I false] V (⟨rB (Nd (L8 hx1 (by exact .inl aM))).symm,O.only⟩)))))))
 rw [h1] at V;refine cF V (wp_exit (Ai (Ai (Aj (Aa (wp_seq (Sb [(28,c),(29,Z ((lp.length:Nat):Int)),(30,Z 0)] V [c] (cc (O.l1 0 8 37 (c)) c0) ?_)))))));clear V J; intro J V;refine wp_block (Ay (fun mm J W=>∃ (j:Nat),mm=lp.length - j/\Holds 42 [] J [(1,pt b1),(2,I false),(28,c),(29,Z ((lp.length:Nat):Int)),(30,Z ((j:Nat):Int))]/\Ow jP Ag w W [(b1,39,b)]/\j<=lp.length/\(lp.take j).all (fun x=>okC x.d)=true/\True) ?_ ?_)
 · exact ⟨_,0,rfl,V.ss,O.to,(Nat.zero_le _),rfl,trivial⟩
 rintro _ J w5 ⟨j,rfl,V,O,hi_j,hp,-⟩;refine Sa [(31,I (decide (((j:Nat):Int) < ((lp.length:Nat):Int))))] V ?_;clear V J; intro J V;refine wp_seq ?_;rcases dC (((j:Nat):Int) < ((lp.length:Nat):Int)) with ⟨h4,h4p⟩|⟨h4,h4p⟩
 · rw [h4] at V;obtain ⟨ad2,rfl⟩:=((hv_p.keep O.only).1).pos oo;obtain ⟨⟨qp1,qc1,qd1⟩,hx2⟩ : ∃ x,(lp)[j]? = F x:=⟨_,Av _ PV0 oo⟩;let a:=(E #[Z qd1.call,Z qd1.a0,Z qd1.a1,Z qd1.a2,D qp1 qd1.data.length qc1]:Value);let f:=([Z qd1.call,Z qd1.a0,Z qd1.a1,Z qd1.a2,D qp1 qd1.data.length qc1]:List Value);refine cT V (wp_skip (Aa (wp_seq (wp_block (sr 4 (Kb 2 [(28,D (F ad2) lp.length kp),(33,a)] V [a] (cc (oo:(0:Int)<=((j:Nat):Int)/\((j:Nat):Int) < ((lp.length:Nat):Int)) (cc ((((hv_p.keep O.only).1).ldn A7 hx2):Ld jP w5 (ad2.add (j*5)) 43 (a)) c0)) ?_))))));clear V J; intro J V;refine Mn [Z 0,Z 0,Z 0,Z 0,D G 0 0] 43 6 V O ?_;clear V O J; intro J w6 b2 V O;refine Ms 0 f 0 V O ?_;clear O; intro w7 O;refine Ab (Aa (sr 3 (Kb 1 [(34,a)] V [a] (cc (O.ln 0 0 43 f) c0) ?_)));clear V J; intro J V;refine Mk 35 V O Tryz.func82 (Ti ⟨qp1,qc1,qd1⟩ _) ?_;clear V O J; intro J w8 V O;refine Ka 1 [(36,I (!(okC qd1)))] V ?_;clear V J; intro J V;refine Ab (Aa ?_);rcases jK (okC qd1) with h5 | h5
   · rw [h5] at V;refine cF V (wp_skip (Af (Aa (Rc [(30,Z (((j:Nat):Int)+1))] V [I true] (cc ((An oo oo):inK .i64 (((j:Nat):Int)+1)) c0) ?_))));clear V J; intro J V;exact Aa (⟨_,oo,j+1,rfl,V.ss,(O.sub [1]),oo,(Ck hp hx2 aM),trivial⟩)
   rw [h5] at V;refine cT V (Sa [] V ?_);clear V J; intro J V;exact wp_ret (Ad (Ac (Ac (Ad (Ac (cv [I false] V (⟨rB (S2 hx2 aM).symm,O.only⟩)))))))
 rw [h4] at V;refine cF V (wp_exit (Ai (Ai (Aj (Aa (Sb [(2,I (decide (((lp.length:Nat):Int)<=12)))] V [c] (cc (O.l1 0 8 37 (c)) c0) ?_))))));clear V J; intro J V;exact wp_ret (cv [I (decide (((lp.length:Nat):Int)<=12))] V (⟨rB ((Xk ho oo hi_i hp oo).trans (decide_eq_decide.2 oo)).symm,O.only⟩))
theorem jG {n:Nat} {m:Int} (h:(decide (((n:Nat):Int) > 0) == (m == 6))=true) : 0 < n↔m=6:=by
 rw [beq_iff_eq,Bool.eq_iff_iff,decide_eq_true_eq,beq_iff_eq] at h; omega
theorem bq_no {n:Nat} {m:Int} (h:(decide (((n:Nat):Int) > 0) == (m == 6))=false) : ¬ (0 < n↔m=6):=by
 rw [beq_eq_false_iff_ne,ne_eq,Bool.eq_iff_iff,decide_eq_true_eq,beq_iff_eq] at h; omega
theorem jF {n:Nat} (h:(decide (((n:Nat):Int) > 0) == true)=true) : 0 < n:=by
 rw [beq_iff_eq,decide_eq_true_eq] at h; omega
theorem bt_no {n:Nat} (h:(decide (((n:Nat):Int) > 0) == true)=false) : ¬ 0 < n:=by
 rw [beq_eq_false_iff_ne,ne_eq,decide_eq_true_eq] at h; omega
section
variable {s:StL}
theorem Ku (s:StL):Ba s=decide (((-1<=s.rd/\s.rd < 8)/\(-1<=s.wr/\s.wr < 8)/\(-1<=s.pv/\s.pv < 8))/\((0<=s.mode/\s.mode<=7)/\s.inp.size<=300/\As s.jobs=true/\Cz s.kids s.plan=true/\(0<=s.pos/\s.pos<=(Bh s.jobs:Int)))/\((0 < s.plan.length↔(s.mode=2\/s.mode=6))/\(s.mode=3\/s.mode=4->s.pos < (Bh s.jobs:Int))/\(s.mode=5->0 < s.jobs.length))):=by
 unfold Ba fM fitB fX cA;rw [Bool.eq_iff_iff];simp only [Bool.and_eq_true,decide_eq_true_eq,beq_iff_eq,decide_eq_decide];refine and_congr_right fun _=>and_congr_right fun _=>and_congr_right fun _=>?_;by_cases h:s.mode=3\/s.mode=4
 · rw [if_pos h,decide_eq_true_eq];exact ⟨fun q=>⟨fun _=>q,fun q=>oo⟩,fun q=>q.1 h⟩
 rw [if_neg h];by_cases h5:s.mode=5
 · rw [if_pos h5,decide_eq_true_eq];exact ⟨fun q=>⟨fun q=>absurd q h,fun _=>q⟩,fun q=>q.2 h5⟩
 rw [if_neg h5];exact ⟨fun _=>⟨fun q=>absurd q h,fun q=>absurd q h5⟩,fun _=>rfl⟩
end
section
variable {mo po:Int} {inp:ByteArray} {pj:Option Addr} {kj:Nat} {lj:List JV} {rd wr pv:Int} {pn:Option Addr} {kn:Nat} {ln:List Int} {pp:Option Addr} {kp:Nat} {lp:List PV}
theorem Qd:Ba (SV.d (⟨mo,po,inp,pj,kj,lj,rd,wr,pv,pn,kn,ln,pp,kp,lp⟩:SV))=decide (((-1<=rd/\rd < 8)/\(-1<=wr/\wr < 8)/\(-1<=pv/\pv < 8))/\((0<=mo/\mo<=7)/\inp.size<=300/\As (lj.map JV.d)=true/\Cz ln (lp.map PV.d)=true/\(0<=po/\po<=(Bh (lj.map JV.d):Int)))/\((0 < lp.length↔(mo=2\/mo=6))/\(mo=3\/mo=4->po < (Bh (lj.map JV.d):Int))/\(mo=5->0 < lj.length))):=by rw [Ku]; simp only [SV.d,jU]
theorem Jj (h:(((-1<=rd/\rd < 8)/\(-1<=wr/\wr < 8)/\(-1<=pv/\pv < 8))/\((0<=mo/\mo<=7)/\inp.size<=300/\As (lj.map JV.d)=true/\Cz ln (lp.map PV.d)=true/\(0<=po/\po<=(Bh (lj.map JV.d):Int)))/\((0 < lp.length↔(mo=2\/mo=6))/\(mo=3\/mo=4->po < (Bh (lj.map JV.d):Int))/\(mo=5->0 < lj.length)))->False):false=Ba (SV.d (⟨mo,po,inp,pj,kj,lj,rd,wr,pv,pn,kn,ln,pp,kp,lp⟩:SV)):=Qd.symm ▸ (jO h).symm
theorem sv_t (h:(((-1<=rd/\rd < 8)/\(-1<=wr/\wr < 8)/\(-1<=pv/\pv < 8))/\((0<=mo/\mo<=7)/\inp.size<=300/\As (lj.map JV.d)=true/\Cz ln (lp.map PV.d)=true/\(0<=po/\po<=(Bh (lj.map JV.d):Int)))/\((0 < lp.length↔(mo=2\/mo=6))/\(mo=3\/mo=4->po < (Bh (lj.map JV.d):Int))/\(mo=5->0 < lj.length)))):true=Ba (SV.d (⟨mo,po,inp,pj,kj,lj,rd,wr,pv,pn,kn,ln,pp,kp,lp⟩:SV)):=Qd.symm ▸ (jN h).symm
end
theorem Ji (mo po:Int) (inp:ByteArray) (pj:Option Addr) (kj:Nat) (lj:List JV) (rd wr pv:Int) (pn:Option Addr) (kn:Nat) (ln:List Int) (pp:Option Addr) (kp:Nat) (lp:List PV) (w:World) (hs:SV.ok (⟨mo,po,inp,pj,kj,lj,rd,wr,pv,pn,kn,ln,pp,kp,lp⟩:SV) w) (hm:SV.sm (⟨mo,po,inp,pj,kj,lj,rd,wr,pv,pn,kn,ln,pp,kp,lp⟩:SV)) :
 Calls jP 22 #[E #[Z mo,Z po,Y inp,D pj lj.length kj,Z rd,Z wr,Z pv,D pn ln.length kn,D pp lp.length kp]] w fun e w'=>e = .returned (.bool (Ba (SV.d (⟨mo,po,inp,pj,kj,lj,rd,wr,pv,pn,kn,ln,pp,kp,lp⟩:SV))))/\Only Ag w w':=by
 let a:=(E #[Z mo,Z po,Y inp,D pj lj.length kj,Z rd,Z wr,Z pv,D pn ln.length kn,D pp lp.length kp]:Value);let b:=([Z mo,Z po,Y inp,D pj lj.length kj,Z rd,Z wr,Z pv,D pn ln.length kn,D pp lp.length kp]:List Value);let c:=([(52,I true),(54,.tuple #[]),(55,.tuple #[])]:Env);let f:=[(2,I (decide (po < ((Bh (lj.map JV.d):Nat):Int))))];let g:=#[Z rd,Z wr,Z pv];let h:=[I (decide (po < ((Bh (lj.map JV.d):Nat):Int)))];let i:=(D pj lj.length kj:Value);let j:=([(42,I true),(43,.tuple #[])]:Env);let k:=[(58,I true)];let l:=([(36,I true),(38,.tuple #[])]:Env);let o:=[(78,Z po),(79,a)];let p:=[(2,I (decide (((lj.length:Nat):Int) > 0)))];let r:=(2,I false);let s:=[I (decide (((lj.length:Nat):Int) > 0))];let t:=[(20,I true)];refine Ak (args:=[a]) (m:=87) (n:=88) Tryz.func22 rfl kR kR fun J V=>?_;have O:=Ow.nil jP Ag w;have hv_j:VL w (i) lj:=hs.j;have hm_j:smL 1000000 (lj.map JV.d):=hm.j
 refine sr 2 (Mn b 39 1 V O fun J w1 b1 V O=>Ka 1 [r] V fun J V=>Ab (Aa (wp_seq (Sb [(11,E g),(12,Z 0)] V [Z rd,Z wr,Z pv] (cc (O.l1 0 4 3 (Z rd)) (cc (O.l1 0 5 3 (Z wr)) (cc (O.l1 0 6 3 (Z pv)) c0))) fun J V=>wp_block (Ay (fun mm J W=>(mm=3/\Holds 88 [] J [(1,pt b1),r,(11,E g),(12,Z 0)]/\Ow jP Ag w W [(b1,39,b)])\/(mm=2/\Holds 88 [] J [(1,pt b1),r,(11,E g),(12,Z 1)]/\Ow jP Ag w W [(b1,39,b)]/\(-1<=rd/\rd < 8))\/(mm=1/\Holds 88 [] J [(1,pt b1),r,(11,E g),(12,Z 2)]/\Ow jP Ag w W [(b1,39,b)]/\(-1<=rd/\rd < 8)/\(-1<=wr/\wr < 8))\/(mm=0/\Holds 88 [] J [(1,pt b1),r,(11,E g),(12,Z 3)]/\Ow jP Ag w W [(b1,39,b)]/\(-1<=rd/\rd < 8)/\(-1<=wr/\wr < 8)/\(-1<=pv/\pv < 8))) ?_ ?_)))))
 · exact ⟨_,(.inl ⟨rfl,V.sb,O.to⟩)⟩
 rintro _ J w2 (⟨rfl,V,O⟩ | ⟨rfl,V,O,hu⟩ | ⟨rfl,V,O,hu⟩ | ⟨rfl,V,O,hu⟩)
 · refine Sa [(13,I true)] V fun J V=>wp_seq (cT V (wp_skip (Aa (wp_seq (wp_block (Sb [(4,Z rd)] V [Z rd] (cc (⟨oo,oo,kR⟩:(0:Int)<=0/\0 < ((3:Nat):Int)/\(g)[(0:Int).toNat*1]? = F (Z rd)) c0) fun J V=>sr 6 (Ka 3 [(16,I (decide (rd < (-1)))),(17,I (decide (rd < (-1))))] V fun J V=>?_)))))));rcases dC (rd < (-1)) with ⟨h1,h1p⟩|⟨h1,h1p⟩
   · rw [h1] at V;exact Ka 3 t V fun J V=>Ab (Aa (cT V (Sa [] V fun J V=>wp_ret (Ad (Ac (Ac (Ad (Ac (cv [I false] V (⟨rB (Jj fun q=>oo),O.only⟩))))))))))
   rw [h1] at V;refine Ka 3 [(20,I (decide (rd ≥ 8)))] V fun J V=>Ab (Aa ?_);rcases dC (rd ≥ 8) with ⟨h2,h2p⟩|⟨h2,h2p⟩
   · rw [h2] at V;exact cT V (Sa [] V fun J V=>wp_ret (Ad (Ac (Ac (Ad (Ac (cv [I false] V (⟨rB (Jj fun q=>oo),O.only⟩))))))))
   rw [h2] at V;exact cF V (wp_skip (Af (Aa (Rc [(12,Z 1)] V [I false] c0 fun J V=>Aa (⟨2,dD,(.inr (.inl ⟨rfl,V.sb,O.to,oo⟩))⟩)))))
 · refine Sa [(12,Z 1),(13,I true)] V fun J V=>wp_seq (cT V (wp_skip (Aa (wp_seq (wp_block (Sb [(4,Z wr)] V [Z wr] (cc (⟨oo,oo,kR⟩:(0:Int)<=1/\1 < ((3:Nat):Int)/\(g)[(1:Int).toNat*1]? = F (Z wr)) c0) fun J V=>sr 6 (Ka 3 [(16,I (decide (wr < (-1)))),(17,I (decide (wr < (-1))))] V fun J V=>?_)))))));rcases dC (wr < (-1)) with ⟨h3,h3p⟩|⟨h3,h3p⟩
   · rw [h3] at V;exact Ka 3 t V fun J V=>Ab (Aa (cT V (Sa [] V fun J V=>wp_ret (Ad (Ac (Ac (Ad (Ac (cv [I false] V (⟨rB (Jj fun q=>oo),O.only⟩))))))))))
   rw [h3] at V;refine Ka 3 [(20,I (decide (wr ≥ 8)))] V fun J V=>Ab (Aa ?_);rcases dC (wr ≥ 8) with ⟨h4,h4p⟩|⟨h4,h4p⟩
   · rw [h4] at V;exact cT V (Sa [] V fun J V=>wp_ret (Ad (Ac (Ac (Ad (Ac (cv [I false] V (⟨rB (Jj fun q=>oo),O.only⟩))))))))
   rw [h4] at V;exact cF V (wp_skip (Af (Aa (Rc [(12,Z 2)] V [I false] c0 fun J V=>Aa (⟨1,dD,(.inr (.inr (.inl ⟨rfl,V.sb,O.to,oo⟩)))⟩)))))
 · refine Sa [(12,Z 2),(13,I true)] V fun J V=>wp_seq (cT V (wp_skip (Aa (wp_seq (wp_block (Sb [(4,Z pv)] V [Z pv] (cc (⟨oo,oo,kR⟩:(0:Int)<=2/\2 < ((3:Nat):Int)/\(g)[(2:Int).toNat*1]? = F (Z pv)) c0) fun J V=>sr 6 (Ka 3 [(16,I (decide (pv < (-1)))),(17,I (decide (pv < (-1))))] V fun J V=>?_)))))));rcases dC (pv < (-1)) with ⟨h5,h5p⟩|⟨h5,h5p⟩
   · rw [h5] at V;exact Ka 3 t V fun J V=>Ab (Aa (cT V (Sa [] V fun J V=>wp_ret (Ad (Ac (Ac (Ad (Ac (cv [I false] V (⟨rB (Jj fun q=>oo),O.only⟩))))))))))
   rw [h5] at V;refine Ka 3 [(20,I (decide (pv ≥ 8)))] V fun J V=>Ab (Aa ?_);rcases dC (pv ≥ 8) with ⟨h6,h6p⟩|⟨h6,h6p⟩
   · rw [h6] at V;exact cT V (Sa [] V fun J V=>wp_ret (Ad (Ac (Ac (Ad (Ac (cv [I false] V (⟨rB (Jj fun q=>oo),O.only⟩))))))))
   rw [h6] at V;exact cF V (wp_skip (Af (Aa (Rc [(12,Z 3)] V [I false] c0 fun J V=>Aa (⟨0,dD,(.inr (.inr (.inr ⟨rfl,V.sb,O.to,oo⟩)))⟩)))))
 refine Sa [(12,Z 3),(13,I false)] V fun J V=>wp_seq (cF V (wp_exit (Ai (Ai (Aj (Aa (wp_seq (wp_seq ?_))))))));have hS:=O;refine rP [(0,true),(1,true),(2,true),(3,true),(4,true),(5,true),(6,true),(7,true),(8,true),(9,true),(10,true),(11,true),(12,true),(13,true),(14,true),(15,true),(16,true),(17,false),(18,true),(19,true),(20,true),(21,true),(22,false),(23,true),(24,true),(25,true),(26,true),(27,true),(28,true),(29,true),(30,true),(31,true),(32,true),(33,true),(34,false),(35,true),(36,true)] hS ?_;intro w3 ho; replace O:=O.st ho; clear ho;refine Ke 4 [(24,I (decide (mo < 0))),(25,I (decide (mo < 0)))] V [Z mo] (cc (hS.s1 0 0 3 (Z mo)) c0) fun J V=>?_;rcases dC (mo < 0) with ⟨h7,h7p⟩|⟨h7,h7p⟩
 · rw [h7] at V;refine Kd 13 l V fun J V=>Am (Ed (d:=(F 39)) V kR kR fun J V=>⟨O.tt,?_⟩);refine Kd 4 j V fun J V=>Am (Ed (d:=(F 44)) V kR kR fun J V=>⟨O.tt,?_⟩);refine Kd 11 c V fun J V=>Am (Ed (d:=(F 56)) V kR kR fun J V=>⟨O.tt,?_⟩);exact Kd 2 k V fun J V=>Ar (Aa (cT V (Sa [] V fun J V=>wp_ret (Ac (cv [I false] V (⟨rB (Jj fun q=>oo),O.only⟩))))))
 rw [h7] at V;refine Ke 5 [(28,I (decide (mo > 7))),(29,I (decide (mo > 7))),(30,I (decide (mo > 7)))] V [Z mo] (cc (hS.s1 0 0 3 (Z mo)) c0) fun J V=>?_;rcases dC (mo > 7) with ⟨h8,h8p⟩|⟨h8,h8p⟩
 · rw [h8] at V;refine Kd 8 l V fun J V=>Am (Ed (d:=(F 39)) V kR kR fun J V=>⟨O.tt,?_⟩);refine Kd 4 j V fun J V=>Am (Ed (d:=(F 44)) V kR kR fun J V=>⟨O.tt,?_⟩);refine Kd 11 c V fun J V=>Am (Ed (d:=(F 56)) V kR kR fun J V=>⟨O.tt,?_⟩);exact Kd 2 k V fun J V=>Ar (Aa (cT V (Sa [] V fun J V=>wp_ret (Ac (cv [I false] V (⟨rB (Jj fun q=>oo),O.only⟩))))))
 rw [h8] at V;refine Ke 6 [(34,I (decide (((inp.size:Nat):Int) > 300))),(35,I (decide (((inp.size:Nat):Int) > 300))),(36,I (decide (((inp.size:Nat):Int) > 300)))] V [Y inp] (cc (hS.s1 0 2 9 (Y inp)) c0) fun J V=>?_;rcases dC (((inp.size:Nat):Int) > 300) with ⟨h9,h9p⟩|⟨h9,h9p⟩
 · rw [h9] at V;refine Kd 2 l V fun J V=>Am (Ed (d:=(F 39)) V kR kR fun J V=>⟨O.tt,?_⟩);refine Kd 4 j V fun J V=>Am (Ed (d:=(F 44)) V kR kR fun J V=>⟨O.tt,?_⟩);refine Kd 11 c V fun J V=>Am (Ed (d:=(F 56)) V kR kR fun J V=>⟨O.tt,?_⟩);exact Kd 2 k V fun J V=>Ar (Aa (cT V (Sa [] V fun J V=>wp_ret (Ac (cv [I false] V (⟨rB (Jj fun q=>oo),O.only⟩))))))
 rw [h9] at V;refine Ke 2 [(36,I false),(38,i)] V [i] (cc (hS.s1 0 3 36 (i)) c0) fun J V=>Am (mK (d:=(F 39)) V O Tryz.func45 (X2 pj kj lj _ (hv_j.keep O.only) hm_j) fun J w4 V O=>⟨O.tt,?_⟩);refine Kd 3 [(40,I (!(As (lj.map JV.d)))),(41,I (!(As (lj.map JV.d)))),(42,I (!(As (lj.map JV.d))))] V fun J V=>?_;rcases jK (As (lj.map JV.d)) with h10 | h10
 · rw [h10] at V;refine Ke 1 [(42,I false),(43,a)] V [a] (cc (hS.sn 0 0 39 b) c0) fun J V=>Am (mK (d:=(F 44)) V O Tryz.func46 (Xm mo po inp pj kj lj rd wr pv pn kn ln pp kp lp _ (hs.keep O.only) hm) fun J w5 V O=>⟨O.tt,?_⟩);refine Kd 3 [(45,I (!(Cz ln (lp.map PV.d)))),(46,I (!(Cz ln (lp.map PV.d)))),(47,I (!(Cz ln (lp.map PV.d))))] V fun J V=>?_;rcases jK (Cz ln (lp.map PV.d)) with h11 | h11
   · rw [h11] at V;refine Ke 5 [(50,I (decide (po < 0))),(51,I (decide (po < 0))),(52,I (decide (po < 0)))] V [Z po] (cc (hS.s1 0 1 3 (Z po)) c0) fun J V=>?_;rcases dC (po < 0) with ⟨h12,h12p⟩|⟨h12,h12p⟩
     · rw [h12] at V;refine Kd 3 c V fun J V=>Am (Ed (d:=(F 56)) V kR kR fun J V=>⟨O.tt,?_⟩);exact Kd 2 k V fun J V=>Ar (Aa (cT V (Sa [] V fun J V=>wp_ret (Ac (cv [I false] V (⟨rB (Jj fun q=>oo),O.only⟩))))))
     rw [h12] at V;refine Ke 3 [(52,I false),(54,Z po),(55,a)] V [Z po,a] (cc (hS.s1 0 1 3 (Z po)) (cc (hS.sn 0 0 39 b) c0)) fun J V=>Am (mK (d:=(F 56)) V O Tryz.func47 (Da mo po inp pj kj lj rd wr pv pn kn ln pp kp lp _ (hs.keep O.only)) fun J w6 V O=>⟨O.tt,?_⟩);refine Kd 2 [(58,I (decide (po > ((Bh (lj.map JV.d):Nat):Int))))] V fun J V=>Ar (Aa ?_);rcases dC (po > ((Bh (lj.map JV.d):Nat):Int)) with ⟨h13,h13p⟩|⟨h13,h13p⟩
     · rw [h13] at V;exact cT V (Sa [] V fun J V=>wp_ret (Ac (cv [I false] V (⟨rB (Jj fun q=>oo),O.only⟩))))
     rw [h13] at V;refine cF V (wp_skip (Aa (wp_seq (sr 13 (Kb 8 [(62,I (decide (((lp.length:Nat):Int) > 0))),(65,I (mo == 2)),(66,I (mo == 2))] V [D pp lp.length kp,Z mo] (cc (O.l1 0 8 37 (D pp lp.length kp)) (cc (O.l1 0 0 3 (Z mo)) c0)) fun J V=>?_)))));rcases bC mo 2 with ⟨h14,h14p⟩|⟨h14,h14p⟩
     · rw [h14] at V;refine Ka 5 [(71,I (!((decide (((lp.length:Nat):Int) > 0)) == true)))] V fun J V=>Ab (Aa ?_);rcases bC (decide (((lp.length:Nat):Int) > 0)) true with ⟨h15,h15p⟩|⟨h15,h15p⟩
       · rw [h15] at V;have hbp:=jF h15;refine cF V (wp_skip (Aa (wp_seq (Sb [(73,Z mo)] V [Z mo] (cc (O.l1 0 0 3 (Z mo)) c0) fun J V=>wp_block (wp_seq (Sa [(74,I (mo == 3))] V fun J V=>?_))))));rcases bC mo 3 with ⟨h16,h16p⟩|⟨h16,h16p⟩
         · rw [h16] at V;refine cT V (wp_skip (Aa (cT V (wp_seq ?_))));have hS:=O;refine rP [(0,true),(1,true),(2,true),(3,false),(4,true),(5,true)] hS ?_;intro w7 ho; replace O:=O.st ho; clear ho;refine Ke 3 o V [Z po,a] (cc (hS.s1 0 1 3 (Z po)) (cc (hS.sn 0 0 39 b) c0)) fun J V=>Am (mK (d:=(F 80)) V O Tryz.func47 (Da mo po inp pj kj lj rd wr pv pn kn ln pp kp lp _ (hs.keep O.only)) fun J w8 V O=>⟨O.tt,?_⟩);exact Kd 2 f V fun J V=>Ar (Aa (wp_ret (Ad (Ac (cv h V (⟨rB (Qd.symm ▸ decide_eq_decide.2 ⟨fun q=>⟨oo,⟨oo,oo,aM,aM,oo⟩,oo,oo,oo⟩,fun q=>oo⟩),O.only⟩))))))
         rw [h16] at V;refine cF V (Rc [(74,I (mo == 4))] V [] c0 fun J V=>Aa ?_);rcases bC mo 4 with ⟨h17,h17p⟩|⟨h17,h17p⟩
         · rw [h17] at V;refine cT V (wp_seq ?_);have hS:=O;refine rP [(0,true),(1,true),(2,true),(3,false),(4,true),(5,true)] hS ?_;intro w9 ho; replace O:=O.st ho; clear ho;refine Ke 3 o V [Z po,a] (cc (hS.s1 0 1 3 (Z po)) (cc (hS.sn 0 0 39 b) c0)) fun J V=>Am (mK (d:=(F 80)) V O Tryz.func47 (Da mo po inp pj kj lj rd wr pv pn kn ln pp kp lp _ (hs.keep O.only)) fun J w10 V O=>⟨O.tt,?_⟩);exact Kd 2 f V fun J V=>Ar (Aa (wp_ret (Ad (Ac (cv h V (⟨rB (Qd.symm ▸ decide_eq_decide.2 ⟨fun q=>⟨oo,⟨oo,oo,aM,aM,oo⟩,oo,oo,oo⟩,fun q=>oo⟩),O.only⟩))))))
         rw [h17] at V;refine cF V (Sa [(82,I (mo == 5))] V fun J V=>?_);rcases bC mo 5 with ⟨h18,h18p⟩|⟨h18,h18p⟩
         · rw [h18] at V;exact cT V (Sb p V [i] (cc (O.l1 0 3 36 (i)) c0) fun J V=>wp_ret (Ad (Ac (cv s V (⟨rB (Qd.symm ▸ decide_eq_decide.2 ⟨fun q=>⟨oo,⟨oo,oo,aM,aM,oo⟩,oo,oo,oo⟩,fun q=>oo⟩),O.only⟩)))))
         rw [h18] at V;exact cF V (wp_skip (Af (Aa (Sa [(2,I true)] V fun J V=>wp_ret (cv [I true] V (⟨rB (sv_t ⟨oo,⟨oo,oo,aM,aM,oo⟩,oo,oo,oo⟩),O.only⟩))))))
       rw [h15] at V;have hbp:=bt_no h15;exact cT V (Sa [] V fun J V=>wp_ret (Ac (cv [I false] V (⟨rB (Jj fun q=>oo),O.only⟩))))
     rw [h14] at V;refine Kb 5 [(71,I (!((decide (((lp.length:Nat):Int) > 0)) == (mo == 6))))] V [Z mo] (cc (O.l1 0 0 3 (Z mo)) c0) fun J V=>Ab (Aa ?_);rcases bC (decide (((lp.length:Nat):Int) > 0)) (mo == 6) with ⟨h19,h19p⟩|⟨h19,h19p⟩
     · rw [h19] at V;have hbp:=jG h19;refine cF V (wp_skip (Aa (wp_seq (Sb [(73,Z mo)] V [Z mo] (cc (O.l1 0 0 3 (Z mo)) c0) fun J V=>wp_block (wp_seq (Sa [(74,I (mo == 3))] V fun J V=>?_))))));rcases bC mo 3 with ⟨h20,h20p⟩|⟨h20,h20p⟩
       · rw [h20] at V;refine cT V (wp_skip (Aa (cT V (wp_seq ?_))));have hS:=O;refine rP [(0,true),(1,true),(2,true),(3,false),(4,true),(5,true)] hS ?_;intro w11 ho; replace O:=O.st ho; clear ho;refine Ke 3 o V [Z po,a] (cc (hS.s1 0 1 3 (Z po)) (cc (hS.sn 0 0 39 b) c0)) fun J V=>Am (mK (d:=(F 80)) V O Tryz.func47 (Da mo po inp pj kj lj rd wr pv pn kn ln pp kp lp _ (hs.keep O.only)) fun J w12 V O=>⟨O.tt,?_⟩);exact Kd 2 f V fun J V=>Ar (Aa (wp_ret (Ad (Ac (cv h V (⟨rB (Qd.symm ▸ decide_eq_decide.2 ⟨fun q=>⟨oo,⟨oo,oo,aM,aM,oo⟩,oo,oo,oo⟩,fun q=>oo⟩),O.only⟩))))))
       rw [h20] at V;refine cF V (Rc [(74,I (mo == 4))] V [] c0 fun J V=>Aa ?_);rcases bC mo 4 with ⟨h21,h21p⟩|⟨h21,h21p⟩
       · rw [h21] at V;refine cT V (wp_seq ?_);have hS:=O;refine rP [(0,true),(1,true),(2,true),(3,false),(4,true),(5,true)] hS ?_;intro w13 ho; replace O:=O.st ho; clear ho;refine Ke 3 o V [Z po,a] (cc (hS.s1 0 1 3 (Z po)) (cc (hS.sn 0 0 39 b) c0)) fun J V=>Am (mK (d:=(F 80)) V O Tryz.func47 (Da mo po inp pj kj lj rd wr pv pn kn ln pp kp lp _ (hs.keep O.only)) fun J w14 V O=>⟨O.tt,?_⟩);exact Kd 2 f V fun J V=>Ar (Aa (wp_ret (Ad (Ac (cv h V (⟨rB (Qd.symm ▸ decide_eq_decide.2 ⟨fun q=>⟨oo,⟨oo,oo,aM,aM,oo⟩,oo,oo,oo⟩,fun q=>oo⟩),O.only⟩))))))
       rw [h21] at V;refine cF V (Sa [(82,I (mo == 5))] V fun J V=>?_);rcases bC mo 5 with ⟨h22,h22p⟩|⟨h22,h22p⟩
       · rw [h22] at V;exact cT V (Sb p V [i] (cc (O.l1 0 3 36 (i)) c0) fun J V=>wp_ret (Ad (Ac (cv s V (⟨rB (Qd.symm ▸ decide_eq_decide.2 ⟨fun q=>⟨oo,⟨oo,oo,aM,aM,oo⟩,oo,oo,oo⟩,fun q=>oo⟩),O.only⟩)))))
       rw [h22] at V;exact cF V (wp_skip (Af (Aa (Sa [(2,I true)] V fun J V=>wp_ret (cv [I true] V (⟨rB (sv_t ⟨oo,⟨oo,oo,aM,aM,oo⟩,oo,oo,oo⟩),O.only⟩))))))
     rw [h19] at V;have hbp:=bq_no h19;exact cT V (Sa [] V fun J V=>wp_ret (Ac (cv [I false] V (⟨rB (Jj fun q=>oo),O.only⟩))))
   rw [h11] at V;refine Kd 8 c V fun J V=>Am (Ed (d:=(F 56)) V kR kR fun J V=>⟨O.tt,?_⟩);exact Kd 2 k V fun J V=>Ar (Aa (cT V (Sa [] V fun J V=>wp_ret (Ac (cv [I false] V (⟨rB (Jj fun q=>by (obtain ⟨q1,⟨q2,q3,q4,q5,q6⟩,q7,q8,q9⟩:=q; simp_all; done)),O.only⟩))))))
 rw [h10] at V;refine Kd 1 j V fun J V=>Am (Ed (d:=(F 44)) V kR kR fun J V=>⟨O.tt,?_⟩);refine Kd 11 c V fun J V=>Am (Ed (d:=(F 56)) V kR kR fun J V=>⟨O.tt,?_⟩);exact Kd 2 k V fun J V=>Ar (Aa (cT V (Sa [] V fun J V=>wp_ret (Ac (cv [I false] V (⟨rB (Jj fun q=>by (obtain ⟨q1,⟨q2,q3,q4,q5,q6⟩,q7,q8,q9⟩:=q; simp_all; done)),O.only⟩))))))
theorem R5 (ad:Addr) (c:Nat) (l:List Int) (w:World) (hv:Vw fB w (D (F ad) l.length c) l) (hl:l.length<=1000000) (hu:U8s l) :
 Calls jP 31 #[D (F ad) l.length c] w fun e w'=>∃ p' c' T,e = .returned (D p' l.length c')/\One fB 5 1 p' c' l T/\Ow jP Ag w w' T:=by
 refine Ak (args:=[D (F ad) l.length c]) (m:=7) (n:=8) Tryz.func31 rfl kR kR fun J V=>?_;have O:=Ow.nil jP Ag w;refine Sa [(2,D G 0 0)] V fun J V=>wp_seq (Sa [(4,I false)] V fun J V=>cF V (wp_skip (Aa (sr 4 (Mv [] 5 0 5 V O fun J w1 b1 V O=>Ka 1 [(6,D (F ad) l.length c)] V fun J V=>?_)))));have hT1:One fB 5 1 (F ⟨b1,0,G⟩) 0 [] [(b1,5,[])]:=One.ofBlk (r:=[]) kR (by simp) dD kR;replace O:=Ow.move (A:=[]) (B:=[]) (C:=[]) (x:=(b1,5,[])) O;refine Ae (mA (f:=fB) (el:=5) (sz:=1) (bytes:=1) (p:=F ⟨b1,0,G⟩) (c:=0) (l:=[]) (l':=l) (T:=[(b1,5,[])]) (t:=41) (tx:=41) (ty:=41) (x:= D (F ad) l.length c) (d:=7) [] ([]) Xt V O hT1 (Vw.src (e':=5) Xt (hv.keep O.only) kR) (by (simp only [jR,jS,jT]; omega)) (by unfold maxLen; (simp only [jR,jS,jT]; omega)) fun J w2 p1 c1 T2 V O hT2=>?_);have huT2:U8s (([])++l):=(U8s.app U8s.nil hu);rw [show (([])++l)=l from kD _] at V hT2 huT2;exact Ka 1 [(2,D p1 l.length c1)] V fun J V=>Ab (Aa (wp_ret (cv [D p1 l.length c1] V (⟨_,_,_,rfl,hT2,(O).tt⟩))))
theorem R6 (w:World) :
 Calls jP 31 #[D G 0 0] w fun e w'=>e = .returned (D G 0 0)/\Only Ag w w':=by
 refine Ak (args:=[D G 0 0]) (m:=7) (n:=8) Tryz.func31 rfl kR kR fun J V=>?_;have O:=Ow.nil jP Ag w;exact Sa [(2,D G 0 0)] V fun J V=>wp_seq (Sa [(4,I true)] V fun J V=>cT V (Sa [] V fun J V=>wp_ret (Ac (cv [D G 0 0] V (⟨rfl,O.only⟩)))))
theorem Nv (p:Option Addr) (c:Nat) (l:List Int) (w:World) (hv:Vw fB w (D p l.length c) l) (hl:l.length<=1000000) (hu:U8s l):Calls jP 31 #[D p l.length c] w fun e w'=>∃ p' c' T,e = .returned (D p' l.length c')/\One fB 5 1 p' c' l T/\Ow jP Ag w w' T:=by
 rcases hv with ⟨h,rfl⟩ | ⟨ad,cap,h,hc⟩
 · cases h;exact (R6 w).mono fun e w' h=>⟨none,0,[],h.1,One.nil _ _ _,(Ow.nil jP Ag w).st h.2⟩
 cases h;exact R5 ad c l w (.inr ⟨ad,c,rfl,hc⟩) hl hu
theorem R3 (ad:Addr) (c:Nat) (l:List Int) (w:World) (hv:Vw fN w (D (F ad) l.length c) l) (hl:l.length<=1000000) :
 Calls jP 58 #[D (F ad) l.length c] w fun e w'=>∃ p' c' T,e = .returned (D p' l.length c')/\One fN 3 1 p' c' l T/\Ow jP Ag w w' T:=by
 refine Ak (args:=[D (F ad) l.length c]) (m:=7) (n:=8) Tryz.func58 rfl kR kR fun J V=>?_;have O:=Ow.nil jP Ag w;refine Sa [(2,D G 0 0)] V fun J V=>wp_seq (Sa [(4,I false)] V fun J V=>cF V (wp_skip (Aa (sr 4 (Mv [] 3 0 5 V O fun J w1 b1 V O=>Ka 1 [(6,D (F ad) l.length c)] V fun J V=>?_)))));have hT1:One fN 3 1 (F ⟨b1,0,G⟩) 0 ([]:List Int) [(b1,3,[])]:=One.ofBlk (r:=[]) kR (by simp) dD kR;replace O:=Ow.move (A:=[]) (B:=[]) (C:=[]) (x:=(b1,3,[])) O;refine Ae (mA (f:=fN) (el:=3) (sz:=1) (bytes:=8) (p:=F ⟨b1,0,G⟩) (c:=0) (l:=([]:List Int)) (l':=l) (T:=[(b1,3,[])]) (t:=33) (tx:=33) (ty:=33) (x:= D (F ad) l.length c) (d:=7) [] ([]) G9 V O hT1 (Vw.src (e':=3) G9 (hv.keep O.only) kR) (by (simp only [jR,jS,jT]; omega)) (by unfold maxLen; (simp only [jR,jS,jT]; omega)) fun J w2 p1 c1 T2 V O hT2=>?_);rw [show (([]:List Int)++l)=l from kD _] at V hT2;exact Ka 1 [(2,D p1 l.length c1)] V fun J V=>Ab (Aa (wp_ret (cv [D p1 l.length c1] V (⟨_,_,_,rfl,hT2,(O).tt⟩))))
theorem R4 (w:World) :
 Calls jP 58 #[D G 0 0] w fun e w'=>e = .returned (D G 0 0)/\Only Ag w w':=by
 refine Ak (args:=[D G 0 0]) (m:=7) (n:=8) Tryz.func58 rfl kR kR fun J V=>?_;have O:=Ow.nil jP Ag w;exact Sa [(2,D G 0 0)] V fun J V=>wp_seq (Sa [(4,I true)] V fun J V=>cT V (Sa [] V fun J V=>wp_ret (Ac (cv [D G 0 0] V (⟨rfl,O.only⟩)))))
theorem G2 (p:Option Addr) (c:Nat) (l:List Int) (w:World) (hv:Vw fN w (D p l.length c) l) (hl:l.length<=1000000):Calls jP 58 #[D p l.length c] w fun e w'=>∃ p' c' T,e = .returned (D p' l.length c')/\One fN 3 1 p' c' l T/\Ow jP Ag w w' T:=by
 rcases hv with ⟨h,rfl⟩ | ⟨ad,cap,h,hc⟩
 · cases h;exact (R4 w).mono fun e w' h=>⟨none,0,[],h.1,One.nil _ _ _,(Ow.nil jP Ag w).st h.2⟩
 cases h;exact R3 ad c l w (.inr ⟨ad,c,rfl,hc⟩) hl
theorem R1 (ad:Addr) (c:Nat) (l:List PV) (w:World) (hv:Vw fP w (D (F ad) l.length c) l) (hl:l.length<=1000000) :
 Calls jP 59 #[D (F ad) l.length c] w fun e w'=>∃ p' c' T,e = .returned (D p' l.length c')/\One fP 43 5 p' c' l T/\Ow jP Ag w w' T:=by
 refine Ak (args:=[D (F ad) l.length c]) (m:=7) (n:=8) Tryz.func59 rfl kR kR fun J V=>?_;have O:=Ow.nil jP Ag w;refine Sa [(2,D G 0 0)] V fun J V=>wp_seq (Sa [(4,I false)] V fun J V=>cF V (wp_skip (Aa (sr 4 (Mv [] 43 0 5 V O fun J w1 b1 V O=>Ka 1 [(6,D (F ad) l.length c)] V fun J V=>?_)))));have hT1:One fP 43 5 (F ⟨b1,0,G⟩) 0 ([]:List PV) [(b1,43,[])]:=One.ofBlk (r:=[]) kR (by simp) dD kR;replace O:=Ow.move (A:=[]) (B:=[]) (C:=[]) (x:=(b1,43,[])) O;refine Ae (mA (f:=fP) (el:=43) (sz:=5) (bytes:=56) (p:=F ⟨b1,0,G⟩) (c:=0) (l:=([]:List PV)) (l':=l) (T:=[(b1,43,[])]) (t:=37) (tx:=37) (ty:=37) (x:= D (F ad) l.length c) (d:=7) [] ([]) A7 V O hT1 (Vw.src (e':=43) A7 (hv.keep O.only) kR) (by (simp only [jR,jS,jT]; omega)) (by unfold maxLen; (simp only [jR,jS,jT]; omega)) fun J w2 p1 c1 T2 V O hT2=>?_);rw [show (([]:List PV)++l)=l from kD _] at V hT2;exact Ka 1 [(2,D p1 l.length c1)] V fun J V=>Ab (Aa (wp_ret (cv [D p1 l.length c1] V (⟨_,_,_,rfl,hT2,(O).tt⟩))))
theorem R2 (w:World) :
 Calls jP 59 #[D G 0 0] w fun e w'=>e = .returned (D G 0 0)/\Only Ag w w':=by
 refine Ak (args:=[D G 0 0]) (m:=7) (n:=8) Tryz.func59 rfl kR kR fun J V=>?_;have O:=Ow.nil jP Ag w;exact Sa [(2,D G 0 0)] V fun J V=>wp_seq (Sa [(4,I true)] V fun J V=>cT V (Sa [] V fun J V=>wp_ret (Ac (cv [D G 0 0] V (⟨rfl,O.only⟩)))))
theorem Ff (p:Option Addr) (c:Nat) (l:List PV) (w:World) (hv:Vw fP w (D p l.length c) l) (hl:l.length<=1000000):Calls jP 59 #[D p l.length c] w fun e w'=>∃ p' c' T,e = .returned (D p' l.length c')/\One fP 43 5 p' c' l T/\Ow jP Ag w w' T:=by
 rcases hv with ⟨h,rfl⟩ | ⟨ad,cap,h,hc⟩
 · cases h;exact (R2 w).mono fun e w' h=>⟨none,0,[],h.1,One.nil _ _ _,(Ow.nil jP Ag w).st h.2⟩
 cases h;exact R1 ad c l w (.inr ⟨ad,c,rfl,hc⟩) hl
theorem Rz (ad:Addr) (c:Nat) (l:List ByteArray) (w:World) (hv:Vw fT w (D (F ad) l.length c) l) (hl:l.length<=1000000) :
 Calls jP 60 #[D (F ad) l.length c] w fun e w'=>∃ p' c' T,e = .returned (D p' l.length c')/\One fT 9 1 p' c' l T/\Ow jP Ag w w' T:=by
 refine Ak (args:=[D (F ad) l.length c]) (m:=7) (n:=8) Tryz.func60 rfl kR kR fun J V=>?_;have O:=Ow.nil jP Ag w;refine Sa [(2,D G 0 0)] V fun J V=>wp_seq (Sa [(4,I false)] V fun J V=>cF V (wp_skip (Aa (sr 4 (Mv [] 9 0 5 V O fun J w1 b1 V O=>Ka 1 [(6,D (F ad) l.length c)] V fun J V=>?_)))));have hT1:One fT 9 1 (F ⟨b1,0,G⟩) 0 ([]:List ByteArray) [(b1,9,[])]:=One.ofBlk (r:=[]) kR (by simp) dD kR;replace O:=Ow.move (A:=[]) (B:=[]) (C:=[]) (x:=(b1,9,[])) O;refine Ae (mA (f:=fT) (el:=9) (sz:=1) (bytes:=16) (p:=F ⟨b1,0,G⟩) (c:=0) (l:=([]:List ByteArray)) (l':=l) (T:=[(b1,9,[])]) (t:=30) (tx:=30) (ty:=30) (x:= D (F ad) l.length c) (d:=7) [] ([]) Fi V O hT1 (Vw.src (e':=9) Fi (hv.keep O.only) kR) (by (simp only [jR,jS,jT]; omega)) (by unfold maxLen; (simp only [jR,jS,jT]; omega)) fun J w2 p1 c1 T2 V O hT2=>?_);rw [show (([]:List ByteArray)++l)=l from kD _] at V hT2;exact Ka 1 [(2,D p1 l.length c1)] V fun J V=>Ab (Aa (wp_ret (cv [D p1 l.length c1] V (⟨_,_,_,rfl,hT2,(O).tt⟩))))
theorem R0 (w:World) :
 Calls jP 60 #[D G 0 0] w fun e w'=>e = .returned (D G 0 0)/\Only Ag w w':=by
 refine Ak (args:=[D G 0 0]) (m:=7) (n:=8) Tryz.func60 rfl kR kR fun J V=>?_;have O:=Ow.nil jP Ag w;exact Sa [(2,D G 0 0)] V fun J V=>wp_seq (Sa [(4,I true)] V fun J V=>cT V (Sa [] V fun J V=>wp_ret (Ac (cv [D G 0 0] V (⟨rfl,O.only⟩)))))
theorem Tp (p:Option Addr) (c:Nat) (l:List ByteArray) (w:World) (hv:Vw fT w (D p l.length c) l) (hl:l.length<=1000000):Calls jP 60 #[D p l.length c] w fun e w'=>∃ p' c' T,e = .returned (D p' l.length c')/\One fT 9 1 p' c' l T/\Ow jP Ag w w' T:=by
 rcases hv with ⟨h,rfl⟩ | ⟨ad,cap,h,hc⟩
 · cases h;exact (R0 w).mono fun e w' h=>⟨none,0,[],h.1,One.nil _ _ _,(Ow.nil jP Ag w).st h.2⟩
 cases h;exact Rz ad c l w (.inr ⟨ad,c,rfl,hc⟩) hl
open Go Go.RowKit Go.Proofs.Sx
section
variable {P:Program} {X:Nat->Prop} {w₀ w w':World} {A B T Tn:OwL} {x x':Nat×TypeId×List Value}
theorem Cb (h:Ow P X w₀ w ((A++[x])++(T++B))):Ow P (inT (x::T)) w w (x::T) :=
 Ow.self (A:=A) (T:=x::T) (B:=B) (h.to (by simp only [jV,List.cons_append,kD]))
theorem Ch (h:Ow P X w₀ w ((A++[x])++(T++B))) (h':Ow P (inT (x::T)) w w' (x'::(T++Tn))):Ow P X w₀ w' ((A++[x'])++(T++(Tn++B))) :=
 (Ow.pass (A:=A) (T:=x::T) (B:=B) (T':=x'::(T++Tn)) (h.to (by simp only [jV,List.cons_append,kD])) h').to (by simp only [jV,List.cons_append,kD])
theorem Ra (h:Ow P X w₀ w ((A++[x])++(T++B))) (k:Only (inT [x]) w w'):Ow P X w₀ w' (A++(T++B)) :=
 Ow.pan3 (A:=A) (T:=[x]) (B:=T++B) (h.to (by simp only [jV,List.cons_append,kD])) k
theorem Na (h:Ow P X w₀ w ((A++[x])++(T++B))) (k:Only (inT (x::T)) w w'):Ow P X w₀ w' (A++B) :=
 Ow.pan3 (A:=A) (T:=x::T) (B:=B) (h.to (by simp only [jV,List.cons_append,kD])) k
theorem Uz {Q:World->Prop} (hT:Ah T Q) (h:Ow P X w₀ w ((A++[x])++(T++B))) : ∀ w',Only (inT [x]) w w'->Q w':=fun w' k=>hT.at (Ra h k).m
theorem Zc {C:OwL} (h:Ow P X w₀ w (A++(x::(B++C)))):Ow P X w₀ w (A++(B++(C++[x]))):=by
 refine (h.m.perm (List.Perm.append_left A ?_)).o
 rw [← jV]
 exact (List.perm_append_singleton x (B++C)).symm
end
section
variable {T T':OwL} {l l1 l2:List PV} {v:Value}
theorem Ah.sub {Q:World->Prop} (h:Ah T Q) (s:T.Sublist T'):Ah T' Q:=fun X w₀ w O=>h X w₀ w (O.less s)
theorem Ah.to {Q:World->Prop} (h:Ah T Q) (e:T=T'):Ah T' Q:=e ▸ h
theorem Ah.tt {Q:World->Prop} (h:Ah T Q) (e:T=T':=by first | rfl | simp only [List.append_assoc,List.cons_append,List.nil_append,List.append_nil]):Ah T' Q:=e ▸ h
theorem ok3 {x:SV} (h1:Ah T fun w=>VL w (D x.pj x.lj.length x.cj) x.lj) (h2:Ah T fun w=>Vw fN w (D x.pc x.lc.length x.cc) x.lc) (h3:Ah T fun w=>PL w (D x.pp x.lp.length x.cp) x.lp):Ah T x.ok:=fun X w₀ w O=>⟨h1 X w₀ w O,h2 X w₀ w O,h3 X w₀ w O⟩
def R8 (l:List PV):Prop:=∀ x∈l,x.p=G/\x.c=0/\x.d.data=[]
theorem Bf (h:R8 l) (w:World) : ∀ x∈l,VP w x:=fun x hx=>by
 obtain ⟨h1,h2,h3⟩:=h x hx
 unfold VP
 rw [h1,h2,h3]
 exact ⟨.inl ⟨rfl,rfl⟩,fun x h=>absurd h jY⟩
theorem bG (h:R8 l1) (h':R8 l2):R8 (l1++l2):=fun x hx=>(List.mem_append.1 hx).elim (h x) (h' x)
theorem bF:R8 []:=fun x hx=>absurd hx jY
theorem Bn (a b c d:Int):R8 [⟨G,0,⟨a,b,c,d,[]⟩⟩]:=fun x hx=>by rw [jZ.1 hx]; exact ⟨rfl,rfl,rfl⟩
theorem M3 (h:Ah T fun w=>Vw fP w v (l1++l2)) (h1:Ah T fun w=>∀ x∈l1,VP w x) (h2:Ah T fun w=>∀ x∈l2,VP w x):Ah T fun w=>PL w v (l1++l2):=fun X w₀ w O =>
 ⟨h X w₀ w O,fun x hx=>(List.mem_append.1 hx).elim (h1 X w₀ w O x) (h2 X w₀ w O x)⟩
theorem Cj {x:PV} (h:Ah T fun w=>Vw fB w (D x.p x.d.data.length x.c) x.d.data) (hu:U8s x.d.data):Ah T fun w=>∀ y∈[x],VP w y:=fun X w₀ w O y hy=>by
 rw [jZ.1 hy]; exact ⟨h X w₀ w O,hu⟩
end
theorem _root_.Go.Proofs.Sx.One.le {α:Type} {f : α->List Value} {e:TypeId} {sz:Nat} {p:Option Addr} {c:Nat} {l:List α} {T:OwL} (h:One f e sz p c l T):l.length<=c:=by
 rcases h with ⟨_,rfl,rfl,_⟩ | ⟨b,r,_,h1,_⟩
 · exact Nat.le_refl _
 · exact h1
theorem Ly {l:List Int} {i:Nat} {v:Int} (hx:l[i]? = F v):Br (l.take (i+1))=Br (l.take i)++(if 0<=v then [A3 8 v 0] else []):=by
 unfold Br
 rw [List.take_add_one,hx,List.filter_append,List.map_append]
 congr 1
 by_cases h : 0<=v
 · rw [if_pos h]; simp [h]
 · rw [if_neg h]; simp [h]
theorem Ns {l:List Int} {i:Nat} {v:Int} {q r:List PV} {p:Option Addr} {c:Nat} (h:q.map PV.d=r.map PV.d++Br (l.take i)) (hx:l[i]? = F v) (hv:v ≥ 0):(q++[(⟨p,c,⟨8,v,0,0,[]⟩⟩:PV)]).map PV.d=r.map PV.d++Br (l.take (i+1)):=by
 rw [Ly hx,if_pos (show 0<=v from hv),List.map_append,h,jV]; rfl
theorem O0 {l:List Int} {i:Nat} {v:Int} {q r:List PV} (h:q.map PV.d=r.map PV.d++Br (l.take i)) (hx:l[i]? = F v) (hv : ¬ v ≥ 0):q.map PV.d=r.map PV.d++Br (l.take (i+1)):=by
 rw [Ly hx,if_neg (show ¬ 0<=v from hv),kC,h]
theorem Nu {l:List Int} {i:Nat} {q r:List PV} (h:q.map PV.d=r.map PV.d++Br (l.take i)) (hi : ¬ i < l.length):q.map PV.d=r.map PV.d++Br l:=by rwa [List.take_of_length_le (by omega)] at h
theorem Hv (ad:Addr):De ad 2 1=ad.add 2:=by rw [Fu]; rfl
theorem Gc (ad:Addr):De ad 5 1=ad.add 5:=by rw [Fu]; rfl
theorem J0 {w:World} {ad:Addr} {x:JV} {r:List JV} {m c c':Nat} (h:VL w (D (F ad) m c) (x::r)):VL w (D (F (ad.add 2)) r.length c') r:=⟨Vw.tail Bg h.1,fun y hy=>h.2 y (kE _ hy)⟩
theorem Fo {w:World} {ad:Addr} {x:PV} {r:List PV} {m c c':Nat} (h:PL w (D (F ad) m c) (x::r)):PL w (D (F (ad.add 5)) r.length c') r:=⟨Vw.tail A7 h.1,fun y hy=>h.2 y (kE _ hy)⟩
theorem Fk (w:World) :
 Calls jP 96 #[] w fun e w'=>∃ p c T,e = .returned (E #[Z 10,Z 2,Z 0,Z 0,D p ([63,10]:List Int).length c])/\One fB 5 1 p c [63,10] T/\Ow jP Ag w w' T:=by
 let g:=([Z 0,Z 0,Z 0,Z 0,D G 0 0]:List Value);refine Ak (args:=[]) (m:=5) (n:=5) Tryz.func96 rfl kR kR fun J V=>?_;have O:=Ow.nil jP Ag w;refine sr 1 (Mn g 43 0 V O fun J w1 b1 V O=>Ab (Aa (sr 5 (Ka 1 [(1,E #[Z 2,Z 0,Z 0])] V fun J V=>Mv [u8 63,u8 10] 5 2 2 V O fun J w2 b2 V O=>let a:=(D (F ⟨b2,0,G⟩) 2 2:Value);let b:=(E #[Z 10,Z 2,Z 0,Z 0,a]:Value);let f:=[Z 10,Z 2,Z 0,Z 0,a];Ae (mV (L:=[(b2,5,[u8 63,u8 10]),(b1,43,g)]) (t:=41) (el:=5) (off:=0) (m:=2) (c:=2) (d:=3) 0 V O fun J w3 V O=>Ka 1 [(4,b)] V fun J V=>Ms 0 f 1 V O fun w4 O=>Ab (Aa (wp_ret (cR (cs:=[F (⟨b1,0,G⟩,43)]) (us:=[b]) V [b] ⟨(O.ln 1 0 43 f),trivial⟩ ?_))))))));have hT1:One fB 5 1 (F ⟨b2,0,G⟩) 2 [63,10] [(b2,5,[u8 63,u8 10])]:=One.ofBlk (r:=[]) kR (by simp) dD kR;replace O:=Ow.move (A:=[]) (B:=[(b1,43,f)]) (C:=[]) (x:=(b2,5,[u8 63,u8 10])) O;exact ⟨_,_,_,rfl,hT1,((Ow.subP (A:=[_]) O (.cons _ .slnil))).tt⟩
theorem Bx:U8s [63,10]:=U8s.cons (Gv (by decide) (by decide)) (U8s.cons (Gv (by decide) (by decide)) U8s.nil)
theorem J9 (pb:Nat) (mo po:Int) (inp:ByteArray) (pj:Option Addr) (kj:Nat) (lj:List JV) (rd wr pv:Int) (pn:Option Addr) (kn:Nat) (ln:List Int) (pp:Option Addr) (kp:Nat) (lp:List PV) (x:PV) (al:Addr) (cl:Nat) (w:World) (h0:Ow jP (inT [(pb,39,cS mo po inp pj lj.length kj rd wr pv pn ln.length kn pp lp.length kp)]) w w [(pb,39,cS mo po inp pj lj.length kj rd wr pv pn ln.length kn pp lp.length kp)]) (hvp : ∀ w',Only (inT [(pb,39,cS mo po inp pj lj.length kj rd wr pv pn ln.length kn pp lp.length kp)]) w w'->Vw fP w' (D pp lp.length kp) lp) (hvl : ∀ w',Only (inT [(pb,39,cS mo po inp pj lj.length kj rd wr pv pn ln.length kn pp lp.length kp)]) w w'->Vw fP w' (D (F al) 1 cl) [x]) (hlp:lp.length<=1000000) :
 Calls jP 95 #[pt pb,D (F al) 1 cl] w fun e w'=>e = .returned (.tuple #[])/\∃ p' c' Tn,One fP 43 5 p' c' (lp++[x]) Tn/\Ow jP (inT [(pb,39,cS mo po inp pj lj.length kj rd wr pv pn ln.length kn pp lp.length kp)]) w w' ([(pb,39,cS mo po inp pj lj.length kj rd wr pv pn ln.length kn p' ((lp++[x]).length) c')]++Tn):=by
 let a:=[(pb,39,(cS mo po inp pj lj.length kj rd wr pv pn ln.length kn pp lp.length kp))];let b:=(D pp lp.length kp:Value);refine Ak (args:=[pt pb,D (F al) 1 cl]) (m:=12) (n:=14) Tryz.func95 rfl kR kR fun J V=>?_;generalize inT [(pb,39,cS mo po inp pj lj.length kj rd wr pv pn ln.length kn pp lp.length kp)]=M at *;have O:Ow jP M w w a:=h0.tt;refine rr 11 (Kb 5 [(4,pt pb),(8,b)] V [b] (cc (O.l1 0 8 37 (b)) c0) fun J V=>Ae (mC (d:=(F 9)) V Tryz.func59 ((Ff pp kp lp _ (hvp _ O.only) oo).mono ?_)));rintro en w1 ⟨p1,c1,T1,rfl,hT1,hW⟩;refine ⟨_,rfl,?_⟩;clear V J; intro J V;replace O:Ow jP M w _ (a++[]):=O.to (kC _).symm;replace O:=O.j0 hW; clear hW;exact Ka 1 [(10,D (F al) 1 cl)] V fun J V=>Ae (mA (f:=fP) (el:=43) (sz:=5) (bytes:=56) (p:=p1) (c:=c1) (l:=lp) (l':=[x]) (T:=T1) (t:=37) (tx:=37) (ty:=37) (x:= D (F al) 1 cl) (d:=11) [(pb,39,(cS mo po inp pj lj.length kj rd wr pv pn ln.length kn pp lp.length kp))] ([]) A7 V O hT1 (Vw.src (e':=43) A7 (hvl _ O.only) kR) (by (simp only [jR,jS,jT]; omega)) (by unfold maxLen; (simp only [jR,jS,jT]; omega)) fun J w2 p2 c2 T2 V O hT2=>Ka 2 [(13,pf pb 8)] V fun J V=>Ms 8 [D p2 ((lp++([x])).length) c2] 0 V O fun w3 O=>Ab (Ew (cv [] V (⟨rfl,_,_,_,hT2,(O).tt⟩))))
theorem Ru (pb:Nat) (mo po:Int) (inp:ByteArray) (aj:Addr) (kj:Nat) (xj:JV) (rj:List JV) (rd wr pv:Int) (pn:Option Addr) (kn:Nat) (ln:List Int) (pp:Option Addr) (kp:Nat) (lp:List PV)  (w:World) (h0:Ow jP (inT [(pb,39,cS mo po inp (F aj) ((xj::rj).length) kj rd wr pv pn ln.length kn pp lp.length kp)]) w w [(pb,39,cS mo po inp (F aj) ((xj::rj).length) kj rd wr pv pn ln.length kn pp lp.length kp)]) (hk:(xj::rj).length<=kj) (h1 : 1 < kj) :
 Calls jP 109 #[pt pb] w fun e w'=>e = .returned (.tuple #[])/\Ow jP (inT [(pb,39,cS mo po inp (F aj) ((xj::rj).length) kj rd wr pv pn ln.length kn pp lp.length kp)]) w w' [(pb,39,cS mo po inp (F (aj.add 2)) rj.length (kj - 1) rd wr pv pn ln.length kn pp lp.length kp)]:=by
 let a:=(D (F aj) ((xj::rj).length) kj:Value);refine Ak (args:=[pt pb]) (m:=9) (n:=10) Tryz.func109 rfl kR kR fun J V=>?_;generalize inT [(pb,39,cS mo po inp (F aj) ((xj::rj).length) kj rd wr pv pn ln.length kn pp lp.length kp)]=M at *;have O:Ow jP M w w [(pb,39,(cS mo po inp (F aj) ((xj::rj).length) kj rd wr pv pn ln.length kn pp lp.length kp))]:=h0.tt;have hpos_:(1:Int)<=(((xj::rj).length:Nat):Int):=by rw [jS]; omega
 refine rr 9 (Kb 8 [(7,D (F (De (aj:Addr) 2 1)) (((xj::rj).length) - (1)) ((kj) - (1))),(9,pf pb 3)] V [a,I true] (cc (O.l1 0 3 36 (a)) (cc (⟨oo,hpos_,oo,oo,oo⟩:(0:Int)<=1/\(1:Int)<=(((xj::rj).length:Nat):Int)/\(((xj::rj).length:Nat):Int)<=((kj:Nat):Int)/\((kj:Nat):Int)<=((kj:Nat):Int)/\(1:Int) < ((kj:Nat):Int)) c0)) fun J V=>?_);rw [show De aj 2 1=((aj.add 2):Addr) from Hv _] at V;rw [show (((xj::rj).length) - (1))=rj.length from rfl] at V;rw [show ((kj) - (1))=(kj - 1) from rfl] at V;exact Ms 3 [D (F (aj.add 2)) rj.length (kj - 1)] 0 V O fun w1 O=>Ab (Ew (cv [] V (⟨rfl,O.to⟩)))
theorem Rv (pb:Nat) (mo po:Int) (inp:ByteArray) (aj:Addr) (kj:Nat) (xj:JV) (rj:List JV) (rd wr pv:Int) (pn:Option Addr) (kn:Nat) (ln:List Int) (pp:Option Addr) (kp:Nat) (lp:List PV)  (w:World) (h0:Ow jP (inT [(pb,39,cS mo po inp (F aj) ((xj::rj).length) 1 rd wr pv pn ln.length kn pp lp.length kp)]) w w [(pb,39,cS mo po inp (F aj) ((xj::rj).length) 1 rd wr pv pn ln.length kn pp lp.length kp)]) (hk:(xj::rj).length<=1) :
 Calls jP 109 #[pt pb] w fun e w'=>e = .returned (.tuple #[])/\Ow jP (inT [(pb,39,cS mo po inp (F aj) ((xj::rj).length) 1 rd wr pv pn ln.length kn pp lp.length kp)]) w w' [(pb,39,cS mo po inp (F aj) rj.length 0 rd wr pv pn ln.length kn pp lp.length kp)]:=by
 let a:=(D (F aj) ((xj::rj).length) 1:Value);refine Ak (args:=[pt pb]) (m:=9) (n:=10) Tryz.func109 rfl kR kR fun J V=>?_;generalize inT [(pb,39,cS mo po inp (F aj) ((xj::rj).length) 1 rd wr pv pn ln.length kn pp lp.length kp)]=M at *;have O:Ow jP M w w [(pb,39,(cS mo po inp (F aj) ((xj::rj).length) 1 rd wr pv pn ln.length kn pp lp.length kp))]:=h0.tt;have hpos_:(1:Int)<=(((xj::rj).length:Nat):Int):=by rw [jS]; omega
 refine rr 9 (Kb 8 [(7,D (F aj) (((xj::rj).length) - (1)) 0),(9,pf pb 3)] V [a,I false] (cc (O.l1 0 3 36 (a)) (cc (⟨oo,hpos_,oo,oo,oo⟩:(0:Int)<=1/\(1:Int)<=(((xj::rj).length:Nat):Int)/\(((xj::rj).length:Nat):Int)<=((1:Nat):Int)/\((1:Nat):Int)<=((1:Nat):Int)/\((1:Int)=((1:Nat):Int)\/(1:Int)=0)) c0)) fun J V=>?_);rw [show (((xj::rj).length) - (1))=rj.length from rfl] at V;exact Ms 3 [D (F aj) rj.length 0] 0 V O fun w1 O=>Ab (Ew (cv [] V (⟨rfl,O.to⟩)))
theorem Nk (pb:Nat) (mo po:Int) (inp:ByteArray) (aj:Addr) (kj:Nat) (xj:JV) (rj:List JV) (rd wr pv:Int) (pn:Option Addr) (kn:Nat) (ln:List Int) (pp:Option Addr) (kp:Nat) (lp:List PV) (w:World) (h0:Ow jP (inT [(pb,39,cS mo po inp (F aj) ((xj::rj).length) kj rd wr pv pn ln.length kn pp lp.length kp)]) w w [(pb,39,cS mo po inp (F aj) ((xj::rj).length) kj rd wr pv pn ln.length kn pp lp.length kp)]) (hk:(xj::rj).length<=kj):Calls jP 109 #[pt pb] w fun e w'=>e = .returned (.tuple #[])/\∃ p' c',Ow jP (inT [(pb,39,cS mo po inp (F aj) ((xj::rj).length) kj rd wr pv pn ln.length kn pp lp.length kp)]) w w' [(pb,39,cS mo po inp p' rj.length c' rd wr pv pn ln.length kn pp lp.length kp)]/\rj.length<=c'/\∀ w,VL w (D (F aj) (xj::rj).length kj) (xj::rj)->VL w (D p' rj.length c') rj:=by
 by_cases h1 : 1 < kj
 · exact (Ru pb mo po inp aj kj xj rj rd wr pv pn kn ln pp kp lp w h0 hk h1).mono fun e w' h=>⟨h.1,_,_,h.2,by rw [jS] at hk; omega,fun w h=>J0 h⟩
 · have:kj=1:=by rw [jS] at hk; omega
   subst this
   have hr:rj=[]:=by cases rj with
    | nil=>rfl
    | cons y r=>simp only [jS] at hk; omega
   subst hr;exact (Rv pb mo po inp aj 1 xj [] rd wr pv pn kn ln pp kp lp w h0 hk).mono fun e w' h=>⟨h.1,_,_,h.2,Nat.le_refl _,fun w h=>⟨Vw.nil_any h.1 _,fun x hx=>absurd hx jY⟩⟩
theorem He (pb:Nat) (mo po:Int) (inp:ByteArray) (pj:Option Addr) (kj:Nat) (lj:List JV) (rd wr pv:Int) (pn:Option Addr) (kn:Nat) (ln:List Int) (pp:Option Addr) (kp:Nat) (lp:List PV) (T:OwL) (al:Addr) (cl:Nat) (ls:List Int) (w:World) (hG:Ah T (SV.ok (⟨mo,po,inp,pj,kj,lj,rd,wr,pv,pn,kn,ln,pp,kp,lp⟩:SV))) (h0:Ow jP (inT ((pb,39,cS mo po inp pj lj.length kj rd wr pv pn ln.length kn pp lp.length kp)::T)) w w ((pb,39,cS mo po inp pj lj.length kj rd wr pv pn ln.length kn pp lp.length kp)::T)) (hvl : ∀ w',Only (inT ((pb,39,cS mo po inp pj lj.length kj rd wr pv pn ln.length kn pp lp.length kp)::T)) w w'->Vw fN w' (D (F al) ls.length cl) ls) (hl1:lp.length<=500000) (hl2:ls.length<=1000) (hkp:lp.length<=kp) :
 Calls jP 94 #[pt pb,D (F al) ls.length cl] w fun e w'=>e = .returned (.tuple #[])/\∃ p' c',∃ lp':List PV,∃ Tn,lp'.map PV.d=lp.map PV.d++Br ls/\lp'.length<=c'/\lp'.length<=lp.length+ls.length/\Ow jP (inT ((pb,39,cS mo po inp pj lj.length kj rd wr pv pn ln.length kn pp lp.length kp)::T)) w w' ((pb,39,cS mo po inp pj lj.length kj rd wr pv pn ln.length kn p' lp'.length c')::(T++Tn))/\Ah (T++Tn) (fun w=>PL w (D p' lp'.length c') lp'):=by
 let f:=(D (F al) ls.length cl:Value);refine Ak (args:=[pt pb,f]) (m:=19) (n:=21) Tryz.func94 rfl kR kR fun J V=>?_;generalize inT ((pb,39,cS mo po inp pj lj.length kj rd wr pv pn ln.length kn pp lp.length kp)::T)=M at *;have O:Ow jP M w w ([(pb,39,(cS mo po inp pj lj.length kj rd wr pv pn ln.length kn pp lp.length kp))]++(T++([]))):=h0.tt;refine Sa [(6,f),(7,Z ((ls.length:Nat):Int)),(8,Z 0)] V fun J V=>wp_block ?_;have hTN:Ah (T++[]) (fun w_=>PL w_ (D pp lp.length kp) lp):=(hG.mono fun _ h_=>h_.p).l;refine Ay (fun mm J W=>∃ (i:Nat) (p8:Option Addr) (k8:Nat) (l8:List PV) (TL1:OwL),mm=ls.length - i/\Holds 21 [] J [(0,pt pb),(6,f),(7,Z ((ls.length:Nat):Int)),(8,Z ((i:Nat):Int))]/\Ow jP M w W ([(pb,39,(cS mo po inp pj lj.length kj rd wr pv pn ln.length kn p8 l8.length k8))]++(T++(TL1++([]))))/\Ah (T++TL1) (fun w_=>PL w_ (D p8 l8.length k8) l8)/\i<=ls.length/\l8.map PV.d=lp.map PV.d++Br (ls.take i)/\l8.length<=k8/\l8.length<=lp.length+i/\True) ?_ ?_
 · exact ⟨_,0,pp,kp,lp,[],rfl,V.ss,O.tt,hTN,(Nat.zero_le _),(by rw [List.take_zero]; exact (kC _).symm),hkp,(Nat.le_refl _),trivial⟩
 rintro _ J w1 ⟨i,p8,k8,l8,TL1,rfl,V,O,hTL1,hi_i,hc8,hk8,hl8,-⟩;let b:=[(pb,39,cS mo po inp pj lj.length kj rd wr pv pn ln.length kn p8 l8.length k8)];let h:=[(8,Z (((i:Nat):Int)+1))];refine Sa [(9,I (decide (((i:Nat):Int) < ((ls.length:Nat):Int))))] V fun J V=>wp_seq ?_;rcases dC (((i:Nat):Int) < ((ls.length:Nat):Int)) with ⟨h1,h1p⟩|⟨h1,h1p⟩
 · rw [h1] at V;obtain ⟨v1,hx1⟩ : ∃ x,(ls)[i]? = F x:=⟨_,Av _ 0 oo⟩;let c:=([⟨G,0,⟨8,v1,0,0,[]⟩⟩]:List PV);let g:=([Z 8,Z v1,Z 0,Z 0,D G 0 0]:List Value);refine cT V (wp_skip (Aa (wp_seq (wp_block (Sb [(5,Z v1)] V [Z v1] (cc (oo:(0:Int)<=((i:Nat):Int)/\((i:Nat):Int) < ((ls.length:Nat):Int)) (cc ((ldN ((hvl _ O.only)) hx1):Ld jP w1 (al.add i) 3 (Z v1)) c0)) fun J V=>Sa [(13,I (decide (v1 ≥ 0)))] V fun J V=>?_)))));rcases dC (v1 ≥ 0) with ⟨h2,h2p⟩|⟨h2,h2p⟩
   · rw [h2] at V;refine cT V (rr 6 (Ka 2 [(14,pt pb),(15,Z v1)] V fun J V=>Mv [Z v1] 3 1 16 V O fun J w2 b1 V O=>Mk 17 V O Tryz.func28 (C5 8 v1 ⟨b1,0,G⟩ 1 _ ((O.b 0).vw (off:=0) (xs:=[v1]) kR)) fun J w3 V O=>Mv g 43 1 18 V O fun J w4 b2 V O=>let a:=([(b2,43,[Z 8,Z v1,Z 0,Z 0,D G 0 0]),(b1,3,[Z v1])]:OwL);Ae (mC (d:=(F 19)) V Tryz.func95 ((J9 pb mo po inp pj kj lj rd wr pv pn kn ln p8 k8 l8 ⟨G,0,⟨8,v1,0,0,[]⟩⟩ ⟨b2,0,G⟩ 1 _ (Ow.self (A:=a) (T:=b) (B:=([]++(T++(TL1++([]))))) (O.tt)) (Uz (A:=a) (B:=[]) (T:=T++(TL1++([]))) (Q:=(fun w_=>Vw fP w_ (D p8 l8.length k8) l8)) (((Ah.l (T':=[]) hTL1).mono fun _ h_=>h_.1).tt) (O.tt:Ow jP M w _ ((a++b)++((T++(TL1++([])))++[])))) (fun w_ k_=>((Ra (A:=a) (B:=[]) (T:=T++(TL1++([]))) (O.tt:Ow jP M w _ ((a++b)++((T++(TL1++([])))++[]))) k_).b 0).vw (off:=0) (xs:=c) kR) oo).mono ?_))));rintro en w5 ⟨rfl,p1,k1,T1,hT1,hW⟩;refine ⟨_,rfl,?_⟩;clear V J; intro J V;replace O:=Ow.pass2 (A:=[_,_]) O hW; clear hW;refine Ab (Af (Aa (Rc h V [I true] (cc ((An oo oo):inK .i64 (((i:Nat):Int)+1)) c0) fun J V=>Aa ?_)));have hTN2:Ah (T++(TL1++T1)) (fun w_=>PL w_ (D p1 (l8++c).length k1) (l8++c)):=(M3 (T:=T++(TL1++(T1++([])))) (hT1.holds.l.r.r) (((Ah.l (T':=T1++([])) hTL1).mono fun _ h_=>h_.2).tt) (fun _ _ _ _=>Bf (Bn _ _ _ _) _)).tt
     replace O:Ow jP M w w5 ([(b2,43,g),(b1,3,[Z v1]),(pb,39,(cS mo po inp pj lj.length kj rd wr pv pn ln.length kn p1 ((l8++c).length) k1))]++(T++((TL1++T1)++([])))):=O.tt;exact ⟨_,oo,i+1,p1,k1,l8++([⟨G,0,⟨8,v1,0,0,[]⟩⟩]:List PV),(TL1++T1),rfl,V.ss,(Ow.subP (A:=[_,_,_]) O (.cons _ (.cons _ (.cons_cons _ .slnil)))),hTN2,oo,(Ns hc8 hx1 aM),hT1.le,(by simp only [jR,jS,jT]; omega),trivial⟩
   rw [h2] at V;exact cF V (wp_skip (Af (Aa (Rc h V [I true] (cc ((An oo oo):inK .i64 (((i:Nat):Int)+1)) c0) fun J V=>Aa (⟨_,oo,i+1,p8,k8,l8,TL1,rfl,V.ss,O.tt,hTL1,oo,(O0 hc8 hx1 aM),oo,oo,trivial⟩)))))
 rw [h1] at V;exact cF V (wp_exit (Ai (Ai (Aj (Ew (cv [] V (⟨rfl,p8,k8,l8,TL1,Nu hc8 oo,hk8,oo,(O).tt,hTL1⟩)))))))
def Fc:Go.Shelf.Ren:=⟨fun | 14=>116 | 16=>122 | 17=>123 | 19=>130 | 20=>131 | 21=>132 | 22=>133 | 23=>134 | 24=>135 | 25=>138 | 27=>140 | 26=>139 | 28=>144 | 29=>145 | 30=>146 | 31=>147 | 32=>148 | 33=>149 | 35=>151 | 34=>150 | 36=>152 | 37=>153 | 38=>154 | 39=>155 | 40=>156 | n=>n,fun | 9=>9 | 3=>3 | 22=>153 | 24=>155 | 25=>156 | 4=>4 | 34=>170 | 5=>5 | 36=>172 | 37=>41 | 0=>0 | 39=>173 | 21=>21 | 44=>180 | 47=>185 | 50=>188 | 48=>186 | 2=>2 | 52=>190 | 55=>193 | 59=>197 | 60=>198 | 20=>20 | 61=>199 | 65=>202 | 66=>203 | 67=>166 | n=>n,fun | 0=>1 | 1=>2 | 2=>3 | 3=>4 | 4=>5 | n=>n⟩
theorem S5:LaysPu.n14 jP Fc where
 mixed:=kR
 f14:=Tryz.func116.trans (congrArg F kR)
 f16:=Tryz.func122.trans (congrArg F kR)
 f17:=Tryz.func123.trans (congrArg F kR)
 f19:=Tryz.func130.trans (congrArg F kR)
 f20:=Tryz.func131.trans (congrArg F kR)
 f21:=Tryz.func132.trans (congrArg F kR)
 f22:=Tryz.func133.trans (congrArg F kR)
 f23:=Tryz.func134.trans (congrArg F kR)
 f24:=Tryz.func135.trans (congrArg F kR)
 f25:=Tryz.func138.trans (congrArg F kR)
 f26:=Tryz.func139.trans (congrArg F kR)
 f27:=Tryz.func140.trans (congrArg F kR)
 f28:=Tryz.func144.trans (congrArg F kR)
 f29:=Tryz.func145.trans (congrArg F kR)
 f30:=Tryz.func146.trans (congrArg F kR)
 f31:=Tryz.func147.trans (congrArg F kR)
 f32:=Tryz.func148.trans (congrArg F kR)
 f33:=Tryz.func149.trans (congrArg F kR)
 f34:=Tryz.func150.trans (congrArg F kR)
 f35:=Tryz.func151.trans (congrArg F kR)
 f36:=Tryz.func152.trans (congrArg F kR)
 f37:=Tryz.func153.trans (congrArg F kR)
 f38:=Tryz.func154.trans (congrArg F kR)
 f39:=Tryz.func155.trans (congrArg F kR)
 f40:=Tryz.func156.trans (congrArg F kR)
 t0:=Tryz.underlying0
 a0:=Tryz.isAgg0
 z0:=Tryz.sizeOf0
 v0:=Tryz.zeroValue0
 i0:=kR
 t2:=Tryz.underlying2
 a2:=Tryz.isAgg2
 z2:=Tryz.sizeOf2
 v2:=Tryz.zeroValue2
 i2:=kR
 t3:=Tryz.underlying3
 a3:=Tryz.isAgg3
 z3:=Tryz.sizeOf3
 v3:=Tryz.zeroValue3
 i3:=kR
 t4:=Tryz.underlying4
 a4:=Tryz.isAgg4
 z4:=Tryz.sizeOf4
 v4:=Tryz.zeroValue4
 i4:=kR
 t5:=Tryz.underlying5
 a5:=Tryz.isAgg5
 z5:=Tryz.sizeOf5
 v5:=Tryz.zeroValue5
 i5:=kR
 t9:=Tryz.underlying9
 a9:=Tryz.isAgg9
 z9:=Tryz.sizeOf9
 v9:=Tryz.zeroValue9
 i9:=kR
 t20:=Tryz.underlying20
 a20:=Tryz.isAgg20
 z20:=Tryz.sizeOf20
 v20:=Tryz.zeroValue20
 i20:=kR
 t21:=Tryz.underlying21
 a21:=Tryz.isAgg21
 z21:=Tryz.sizeOf21
 v21:=Tryz.zeroValue21
 i21:=kR
 t22:=Tryz.underlying153
 a22:=Tryz.isAgg153
 z22:=Tryz.sizeOf153
 v22:=Tryz.zeroValue153
 i22:=kR
 t24:=Tryz.underlying155
 a24:=Tryz.isAgg155
 z24:=Tryz.sizeOf155
 v24:=Tryz.zeroValue155
 i24:=kR
 t25:=Tryz.underlying156
 a25:=Tryz.isAgg156
 z25:=Tryz.sizeOf156
 v25:=Tryz.zeroValue156
 i25:=kR
 t34:=Tryz.underlying170
 a34:=Tryz.isAgg170
 z34:=Tryz.sizeOf170
 v34:=Tryz.zeroValue170
 i34:=kR
 c34:=kR
 t36:=Tryz.underlying172
 a36:=Tryz.isAgg172
 z36:=Tryz.sizeOf172
 v36:=Tryz.zeroValue172
 i36:=kR
 t37:=Tryz.underlying41
 a37:=Tryz.isAgg41
 z37:=Tryz.sizeOf41
 v37:=Tryz.zeroValue41
 i37:=kR
 t39:=Tryz.underlying173
 a39:=Tryz.isAgg173
 z39:=Tryz.sizeOf173
 v39:=Tryz.zeroValue173
 i39:=kR
 t44:=Tryz.underlying180
 a44:=Tryz.isAgg180
 z44:=Tryz.sizeOf180
 v44:=Tryz.zeroValue180
 i44:=kR
 t47:=Tryz.underlying185
 a47:=Tryz.isAgg185
 z47:=Tryz.sizeOf185
 v47:=Tryz.zeroValue185
 i47:=kR
 t48:=Tryz.underlying186
 a48:=Tryz.isAgg186
 z48:=Tryz.sizeOf186
 v48:=Tryz.zeroValue186
 i48:=kR
 t50:=Tryz.underlying188
 a50:=Tryz.isAgg188
 z50:=Tryz.sizeOf188
 v50:=Tryz.zeroValue188
 i50:=kR
 t52:=Tryz.underlying190
 a52:=Tryz.isAgg190
 z52:=Tryz.sizeOf190
 v52:=Tryz.zeroValue190
 i52:=kR
 t55:=Tryz.underlying193
 a55:=Tryz.isAgg193
 z55:=Tryz.sizeOf193
 v55:=Tryz.zeroValue193
 i55:=kR
 t59:=Tryz.underlying197
 a59:=Tryz.isAgg197
 z59:=Tryz.sizeOf197
 v59:=Tryz.zeroValue197
 i59:=kR
 t60:=Tryz.underlying198
 a60:=Tryz.isAgg198
 z60:=Tryz.sizeOf198
 v60:=Tryz.zeroValue198
 i60:=kR
 t61:=Tryz.underlying199
 a61:=Tryz.isAgg199
 z61:=Tryz.sizeOf199
 t65:=Tryz.underlying202
 a65:=Tryz.isAgg202
 z65:=Tryz.sizeOf202
 v65:=Tryz.zeroValue202
 i65:=kR
 t66:=Tryz.underlying203
 a66:=Tryz.isAgg203
 z66:=Tryz.sizeOf203
 v66:=Tryz.zeroValue203
 i66:=kR
 t67:=Tryz.underlying166
 a67:=Tryz.isAgg166
 z67:=Tryz.sizeOf166
 v67:=Tryz.zeroValue166
 i67:=kR
 g0:=kR
 m0:=kR
 g1:=kR
 m1:=kR
 g2:=kR
 m2:=kR
 g3:=kR
 m3:=kR
 g4:=kR
 m4:=kR
def fZ (v:Value):Prop:=v = .nilIface\/∃ te pe,v = .iface te pe
structure ErrOk (w:World):Prop where
 s : ∃ v,w.cell? ⟨Fc.g 0,0,G⟩=F v/\fZ v
 r : ∃ v,w.cell? ⟨Fc.g 1,0,G⟩=F v/\fZ v
theorem ErrOk.keep {w w':World} (h:ErrOk w) (k:Only Ag w w'):ErrOk w':=by
 obtain ⟨⟨v,h1,h2⟩,⟨u,h3,h4⟩⟩:=h;exact ⟨⟨v,k.cell h1 (fun h=>h),h2⟩,⟨u,k.cell h3 (fun h=>h),h4⟩⟩
theorem Y2 : ∀ (l:List UInt8) (acc u:Nat),Lib.parseUintM 65535 acc l = .ok u->H7 l=true/\u=l.foldl (fun n c=>10*n+(c.toNat - 48)) acc/\(acc<=65535->u<=65535)
 | [],acc,u,h=>by cases h; exact ⟨rfl,rfl,fun h=>h⟩
 | c::r,acc,u,h=>by
  simp only [Lib.parseUintM] at h;split at h
  · rename_i hc
    split at h
    · cases h
    · split at h
      · cases h
      · obtain ⟨h1,h2,h3⟩:=Y2 r _ u h;refine ⟨?_,?_,fun _=>h3 oo⟩
        · unfold H7 at h1 ⊢;rw [List.all_cons,h1,jN hc]; rfl
        · rw [h2,List.foldl_cons,Nat.mul_comm]
  · cases h
abbrev Sh:Lib.NumEnd Nat:=Lib.parseUintB 16 []
theorem Y1 : ∀ (l:List UInt8) (acc:Nat),Lib.parseUintM 65535 acc l=Sh->H7 l=false
 | [],acc,h=>by simp [Sh,Lib.parseUintB,Lib.parseUintM] at h
 | c::r,acc,h=>by
  simp only [Lib.parseUintM] at h;unfold H7;split at h
  · split at h
    · simp [Sh,Lib.parseUintB] at h
    · split at h
      · simp [Sh,Lib.parseUintB] at h
      · have:=Y1 r _ h;unfold H7 at this;rw [List.all_cons,this,Bool.and_false]
  · rename_i hc
    rw [List.all_cons,jO hc]; rfl
theorem Qx : ∀ (l:List UInt8) (acc m:Nat),acc < 10 ^ m->m+l.length<=3->Lib.parseUintM 65535 acc l≠ .range
 | [],acc,m,_,_,h=>by cases h
 | c::r,acc,m,ha,hm,h=>by
  rw [jS] at hm;have h3 : 10 ^ (m+1)<=10 ^ 3:=Nat.pow_le_pow_right dD oo;have h4 : 10 ^ (m+1)=10 ^ m*10:=Nat.pow_succ 10 m;simp only [Lib.parseUintM] at h;split at h
  · rename_i hc
    split at h
    · omega
    · split at h
      · omega
      · exact Qx r _ (m+1) oo oo h
  · cases h
theorem F7 {ws:List ByteArray} {z:ByteArray} (h:ws[1]? = F z):B0 ws=if H7 z.data.toList=true/\z.size<=3 then ((N2 z.data.toList % 256:Nat):Int) else 1:=by
 match ws,h with
 | a::b::r,h =>
  simp only [List.getElem?_cons_succ,List.getElem?_cons_zero,Option.some.injEq] at h;subst h; rfl
theorem Lx {ws:List ByteArray} (h:ws.length < 2):B0 ws=0:=by
 match ws,h with
 | [],_=>rfl
 | [_],_=>rfl
 | _::_::_,h=>simp only [jS] at h; omega
section
variable {ws:List ByteArray} {z:ByteArray}
theorem Uq (hz : 0 < z.size):Lib.parseUintB 16 z.data.toList=Lib.parseUintM 65535 0 z.data.toList:=by
 unfold Lib.parseUintB;rw [if_neg (fun e=>by rw [← Bt,e] at hz; simp at hz)]
theorem eK {u:Nat} (h:ws[1]? = F z) (hz : 0 < z.size) (hp:Lib.parseUintB 16 z.data.toList = .ok u) (h3:z.size<=3):B0 ws=((u:Nat):Int) % 256:=by
 rw [Uq hz] at hp;obtain ⟨h1,h2,_⟩:=Y2 _ _ _ hp;rw [F7 h,if_pos ⟨h1,h3⟩];unfold N2;rw [← h2]; rfl
theorem Xw (h:ws[1]? = F z) (h3 : ¬ z.size<=3):B0 ws=1:=by rw [F7 h,if_neg (fun q=>h3 q.2)]
theorem aN (h:ws[1]? = F z) (hz : 0 < z.size) (hp:Lib.parseUintB 16 z.data.toList=Sh):B0 ws=1:=by
 rw [Uq hz] at hp;rw [F7 h,if_neg (fun q=>by rw [Y1 _ _ hp] at q; exact absurd q.1 (by simp))]
theorem Tk (h:ws[1]? = F z) (hz : 0 < z.size) (hp:Lib.parseUintB 16 z.data.toList = .range):B0 ws=1:=by
 rw [Uq hz] at hp;rw [F7 h,if_neg (fun q=>Qx _ 0 0 dD (by rw [Bt]; omega) hp)]
theorem iU {u:Nat} (hz : 0 < z.size) (hp:Lib.parseUintB 16 z.data.toList = .ok u):u<=65535:=by
 rw [Uq hz] at hp;exact (Y2 _ _ _ hp).2.2 dD
end
theorem cC (s:ByteArray) (hm:s.size<=1000000) (u:Nat) (h:Lib.parseUintB 16 s.data.toList = .ok u) (w:World):Calls jP 116 #[Y s,Z 10,Z 16] w fun e w'=>e = .returned (.tuple #[.int .u64 ((u:Nat):Int),.nilIface])/\Only Ag w w' :=
 (Any.strconv_ParseUint_10_at16_ok S5 s oo u h w).mono fun e w' hh=>⟨hh.1,by
  rcases hh.2 with rfl | rfl
  · exact Only.refl _ _
  · refine ⟨by (unfold Lib.bytesWorld; simp [World.freeze]) <;> rfl,by (unfold Lib.bytesWorld; simp [World.freeze]) <;> rfl,by (unfold Lib.bytesWorld; simp [World.freeze]) <;> rfl,by rw [Lib.bytesWorld_size]; omega,fun k hk _=>Lib.bytesWorld_at_old w _ s k hk⟩⟩
theorem Y3 (s:ByteArray) (hm:s.size<=1000000) (h:Lib.parseUintB 16 s.data.toList=Sh) (w:World) (hE:ErrOk w):Calls jP 116 #[Y s,Z 10,Z 16] w fun e w'=>∃ N,e = .returned (.tuple #[.int .u64 0,.iface (Fc.t 39) (.pointer (F ⟨N,0,G⟩))])/\Only Ag w w':=by
 obtain ⟨v,h1,h2⟩:=hE.s;exact (Any.strconv_ParseUint_10_at16_syntax S5 s oo h v w h1 h2).mono fun e w' ⟨N,hh,_,_,hb⟩=>⟨N,hh,Only.of_below hb⟩
theorem Ss (s:ByteArray) (hm:s.size<=1000000) (h:Lib.parseUintB 16 s.data.toList = .range) (w:World) (hE:ErrOk w):Calls jP 116 #[Y s,Z 10,Z 16] w fun e w'=>∃ N,e = .returned (.tuple #[.int .u64 65535,.iface (Fc.t 39) (.pointer (F ⟨N,0,G⟩))])/\Only Ag w w':=by
 obtain ⟨v,h1,h2⟩:=hE.r;exact (Any.strconv_ParseUint_10_at16_range S5 s oo h v w h1 h2).mono fun e w' ⟨N,hh,_,_,hb⟩=>⟨N,hh,Only.of_below hb⟩
theorem iZ (p:Option Addr) (c:Nat) (d:CmdL) (w:World) (hv:Vw fT w (D p d.words.length c) d.words) (hs:d.words.length < 2) :
 Calls jP 106 #[E #[D p d.words.length c,Y d.inp,Y d.out,I d.app]] w fun e w'=>e = .returned (Z (B0 d.words))/\Only Ag w w':=by
 let a:=(D p d.words.length c:Value);refine Ak (args:=[E #[a,Y d.inp,Y d.out,I d.app]]) (m:=29) (n:=30) Tryz.func106 rfl kR kR fun J V=>?_;have O:=Ow.nil jP Ag w;have hnl:decide (((d.words.length:Nat):Int) < 2)=true:=jN oo;refine sr 2 (Mn [a,Y d.inp,Y d.out,I d.app] 104 1 V O fun J w1 b1 V O=>Ka 1 [(2,Z 0)] V fun J V=>Ab (Aa (wp_seq (Sb [(8,I (decide (((d.words.length:Nat):Int) < 2)))] V [a] (cc (O.l1 0 0 30 (a)) c0) fun J V=>?_))));rw [(hnl:(decide (((d.words.length:Nat):Int) < 2))=true)] at V;exact cT V (Sa [] V fun J V=>wp_ret (Ac (cv [Z 0] V (⟨congrArg (fun k=>jQ (Z k)) (Lx hs).symm,O.only⟩))))
theorem iY (p:Option Addr) (c:Nat) (d:CmdL) (w:World) (hv:Vw fT w (D p d.words.length c) d.words) (z:ByteArray) (hz:d.words[1]? = F z) (hz0 : 0 < z.size) (hz1:z.size<=1000000) (u:Nat) (hp:Lib.parseUintB 16 z.data.toList = .ok u) :
 Calls jP 106 #[E #[D p d.words.length c,Y d.inp,Y d.out,I d.app]] w fun e w'=>e = .returned (Z (B0 d.words))/\Only Ag w w':=by
 refine Ak (args:=[E #[D p d.words.length c,Y d.inp,Y d.out,I d.app]]) (m:=29) (n:=30) Tryz.func106 rfl kR kR fun J V=>?_;have O:=Ow.nil jP Ag w;have hlen_:=(List.getElem?_eq_some_iff.1 hz).1;obtain ⟨ad1,rfl⟩:=((hv.keep O.only)).pos oo;let a:=(D (F ad1) d.words.length c:Value);have hnl:decide (((d.words.length:Nat):Int) < 2)=false:=jO oo;have hu_:=iU hz0 hp;refine sr 2 (Mn [a,Y d.inp,Y d.out,I d.app] 104 1 V O ?_);clear V O J; intro J w1 b1 V O;refine Ka 1 [(2,Z 0)] V ?_;clear V J; intro J V;refine Ab (Aa (wp_seq (Sb [(8,I (decide (((d.words.length:Nat):Int) < 2)))] V [a] (cc (O.l1 0 0 30 (a)) c0) ?_)));clear V J; intro J V;rw [(hnl:(decide (((d.words.length:Nat):Int) < 2))=false)] at V;refine cF V (wp_skip (Aa (sr 10 (Kb 4 [(13,Y z)] V [a,Y z] (cc (O.l1 0 0 30 (a)) (cc (oo:(0:Int)<=1/\1 < ((d.words.length:Nat):Int)) (cc ((((hv.keep O.only)).ldT hz):Ld jP w1 (ad1.add 1) 9 (Y z)) c0))) ?_))));clear V J; intro J V;refine Mk 14 V O Tryz.func116 (cC z hz1 u hp _) ?_;clear V O J; intro J w2 V O;refine Ka 5 [(3,u64 ((u:Nat):Int)),(4,.nilIface)] V ?_;clear V J; intro J V;refine Ab (Aa (wp_seq (Sb [(26,I (decide (((z.size:Nat):Int) > 3)))] V [a,Y z] (cc (O.l1 0 0 30 (a)) (cc (oo:(0:Int)<=1/\1 < ((d.words.length:Nat):Int)) (cc ((((hv.keep O.only)).ldT hz):Ld jP w2 (ad1.add 1) 9 (Y z)) c0))) ?_)));clear V J; intro J V
 rcases dC (((z.size:Nat):Int) > 3) with ⟨h1,h1p⟩|⟨h1,h1p⟩
 · rw [h1] at V;refine cT V (Sa [(2,Z 1)] V ?_);clear V J; intro J V;exact wp_ret (Ac (cv [Z 1] V (⟨congrArg (fun k=>jQ (Z k)) (Xw hz oo).symm,O.only⟩)))
 rw [h1] at V;refine cF V (wp_skip (Aa (Sb [(2,Z (((u:Nat):Int) % 256))] V [I true,I true] (cc (⟨oo,oo,dU oo oo⟩:(0:Int)<=((u:Nat):Int)/\(0:Int) < 256/\inK .u64 ((u:Nat):Int)) (cc ((An oo oo):inK .i64 (((u:Nat):Int) % 256)) c0)) ?_)));clear V J; intro J V;exact wp_ret (cv [Z (((u:Nat):Int) % 256)] V (⟨congrArg (fun k=>jQ (Z k)) (eK hz hz0 hp oo).symm,O.only⟩))
theorem iX (p:Option Addr) (c:Nat) (d:CmdL) (w:World) (hv:Vw fT w (D p d.words.length c) d.words) (z:ByteArray) (hz:d.words[1]? = F z) (hz0 : 0 < z.size) (hz1:z.size<=1000000) (hp:Lib.parseUintB 16 z.data.toList=Sh) (hE:ErrOk w) :
 Calls jP 106 #[E #[D p d.words.length c,Y d.inp,Y d.out,I d.app]] w fun e w'=>e = .returned (Z (B0 d.words))/\Only Ag w w':=by
 refine Ak (args:=[E #[D p d.words.length c,Y d.inp,Y d.out,I d.app]]) (m:=29) (n:=30) Tryz.func106 rfl kR kR fun J V=>?_;have O:=Ow.nil jP Ag w;have hlen_:=(List.getElem?_eq_some_iff.1 hz).1;obtain ⟨ad1,rfl⟩:=((hv.keep O.only)).pos oo;let a:=(D (F ad1) d.words.length c:Value);have hnl:decide (((d.words.length:Nat):Int) < 2)=false:=jO oo;refine sr 2 (Mn [a,Y d.inp,Y d.out,I d.app] 104 1 V O ?_);clear V O J; intro J w1 b1 V O;refine Ka 1 [(2,Z 0)] V ?_;clear V J; intro J V;refine Ab (Aa (wp_seq (Sb [(8,I (decide (((d.words.length:Nat):Int) < 2)))] V [a] (cc (O.l1 0 0 30 (a)) c0) ?_)));clear V J; intro J V;rw [(hnl:(decide (((d.words.length:Nat):Int) < 2))=false)] at V;refine cF V (wp_skip (Aa (sr 10 (Kb 4 [(13,Y z)] V [a,Y z] (cc (O.l1 0 0 30 (a)) (cc (oo:(0:Int)<=1/\1 < ((d.words.length:Nat):Int)) (cc ((((hv.keep O.only)).ldT hz):Ld jP w1 (ad1.add 1) 9 (Y z)) c0))) ?_))));clear V J; intro J V;refine Ae (mC (d:=(F 14)) V Tryz.func116 ((Y3 z hz1 hp _ (hE.keep O.only)).mono ?_));rintro en w2 ⟨N_,rfl,ho⟩;refine ⟨_,rfl,?_⟩;clear V J; intro J V;replace O:=O.st ho; clear ho;refine Ka 5 [(3,u64 0),(4,.iface 173 (pt N_))] V ?_;clear V J; intro J V;refine Ab (Aa (wp_seq (Sa [(26,I true)] V ?_)));clear V J; intro J V;refine cT V (Sa [(2,Z 1)] V ?_);clear V J; intro J V
 exact wp_ret (Ac (cv [Z 1] V (⟨congrArg (fun k=>jQ (Z k)) (aN hz hz0 hp).symm,O.only⟩)))
theorem iV (p:Option Addr) (c:Nat) (d:CmdL) (w:World) (hv:Vw fT w (D p d.words.length c) d.words) (z:ByteArray) (hz:d.words[1]? = F z) (hz0 : 0 < z.size) (hz1:z.size<=1000000) (hp:Lib.parseUintB 16 z.data.toList = .range) (hE:ErrOk w) :
 Calls jP 106 #[E #[D p d.words.length c,Y d.inp,Y d.out,I d.app]] w fun e w'=>e = .returned (Z (B0 d.words))/\Only Ag w w':=by
 refine Ak (args:=[E #[D p d.words.length c,Y d.inp,Y d.out,I d.app]]) (m:=29) (n:=30) Tryz.func106 rfl kR kR fun J V=>?_;have O:=Ow.nil jP Ag w;have hlen_:=(List.getElem?_eq_some_iff.1 hz).1;obtain ⟨ad1,rfl⟩:=((hv.keep O.only)).pos oo;let a:=(D (F ad1) d.words.length c:Value);have hnl:decide (((d.words.length:Nat):Int) < 2)=false:=jO oo;refine sr 2 (Mn [a,Y d.inp,Y d.out,I d.app] 104 1 V O ?_);clear V O J; intro J w1 b1 V O;refine Ka 1 [(2,Z 0)] V ?_;clear V J; intro J V;refine Ab (Aa (wp_seq (Sb [(8,I (decide (((d.words.length:Nat):Int) < 2)))] V [a] (cc (O.l1 0 0 30 (a)) c0) ?_)));clear V J; intro J V;rw [(hnl:(decide (((d.words.length:Nat):Int) < 2))=false)] at V;refine cF V (wp_skip (Aa (sr 10 (Kb 4 [(13,Y z)] V [a,Y z] (cc (O.l1 0 0 30 (a)) (cc (oo:(0:Int)<=1/\1 < ((d.words.length:Nat):Int)) (cc ((((hv.keep O.only)).ldT hz):Ld jP w1 (ad1.add 1) 9 (Y z)) c0))) ?_))));clear V J; intro J V;refine Ae (mC (d:=(F 14)) V Tryz.func116 ((Ss z hz1 hp _ (hE.keep O.only)).mono ?_));rintro en w2 ⟨N_,rfl,ho⟩;refine ⟨_,rfl,?_⟩;clear V J; intro J V;replace O:=O.st ho; clear ho;refine Ka 5 [(3,u64 65535),(4,.iface 173 (pt N_))] V ?_;clear V J; intro J V;refine Ab (Aa (wp_seq (Sa [(26,I true)] V ?_)));clear V J; intro J V;refine cT V (Sa [(2,Z 1)] V ?_);clear V J; intro J V
 exact wp_ret (Ac (cv [Z 1] V (⟨congrArg (fun k=>jQ (Z k)) (Tk hz hz0 hp).symm,O.only⟩)))
theorem aO (p:Option Addr) (c:Nat) (d:CmdL) (w:World) (hv:Vw fT w (D p d.words.length c) d.words) (hE:ErrOk w) (hw : ∀ z∈d.words,0 < z.size/\z.size<=1000000):Calls jP 106 #[E #[D p d.words.length c,Y d.inp,Y d.out,I d.app]] w fun e w'=>e = .returned (Z (B0 d.words))/\Only Ag w w':=by
 by_cases h:d.words.length < 2
 · exact iZ p c d w hv h
 obtain ⟨z,hz⟩ : ∃ z,d.words[1]? = some z:=⟨_,List.getElem?_eq_getElem oo⟩;obtain ⟨h0,h1⟩:=hw z (List.mem_of_getElem? hz);cases hp:Lib.parseUintB 16 z.data.toList with
 | ok u=>exact iY p c d w hv z hz h0 h1 u hp
 | range=>exact iV p c d w hv z hz h0 h1 hp hE
 | _=>exact iX p c d w hv z hz h0 h1 hp hE
theorem Zr (p:Option Addr) (c:Nat) (d:CmdL) (w:World) :
 Calls jP 108 #[E #[D p d.words.length c,Y d.inp,Y d.out,I d.app]] w fun e w'=>e = .returned (.bool (D1 d))/\Only Ag w w':=by
 let a:=(D p d.words.length c:Value);refine Ak (args:=[E #[a,Y d.inp,Y d.out,I d.app]]) (m:=6) (n:=7) Tryz.func108 rfl kR kR fun J V=>?_;have O:=Ow.nil jP Ag w;refine sr 2 (Mn [a,Y d.inp,Y d.out,I d.app] 104 1 V O fun J w1 b1 V O=>Ka 1 [(2,I false)] V fun J V=>Ab (Aa (Sb [(2,I (decide (((d.words.length:Nat):Int) > 1)))] V [a] (cc (O.l1 0 0 30 (a)) c0) fun J V=>wp_ret (cv [I (decide (((d.words.length:Nat):Int) > 1))] V (⟨rB ?_,O.only⟩)))));unfold D1;exact decide_eq_decide.2 oo
theorem bJ {l:List CV} {i:Nat} {y:CV} (h:(l.take i).any (fun y=>D1 y.d)=false) (hx:l[i]? = F y) (hn:D1 y.d=false):(l.take (i+1)).any (fun y=>D1 y.d)=false:=by
 rw [List.take_add_one,hx,List.any_append,h,Bool.false_or];show [y].any _=false;rw [List.any_cons,hn]; rfl
theorem eU {l:List CV} {i:Nat} {y:CV} (hx:l[i]? = F y) (hn:D1 y.d=true):l.any (fun y=>D1 y.d)=true:=List.any_eq_true.2 ⟨y,List.mem_of_getElem? hx,hn⟩
theorem eV {l:List CV} {i:Nat} (h:(l.take i).any (fun y=>D1 y.d)=false) (hi : ¬ i < l.length):l.any (fun y=>D1 y.d)=false:=by rwa [List.take_of_length_le (by omega)] at h
theorem Zi (l:List CV):Bw (l.map CV.d)=l.any (fun y=>D1 y.d):=by unfold Bw; rw [List.any_map]; rfl
theorem dQ (p:Option Addr) (c:Nat) (l:List CV) (w:World) (hv:Vw fC w (D p l.length c) l) (hl:l.length<=1000000) :
 Calls jP 117 #[D p l.length c,.func (.func 108) #[] #[]] w fun e w'=>∃ r:Int,e = .returned (Z r)/\decide (r ≥ 0)=l.any (fun y=>D1 y.d)/\Only Ag w w':=by
 let b:=(.func (.func 108) #[] #[]:Value);refine Ak (args:=[D p l.length c,b]) (m:=17) (n:=19) Tryz.func117 rfl kR kR fun J V=>?_;have O:=Ow.nil jP Ag w;refine Sa [(4,Z 0)] V ?_;clear V J; intro J V;refine wp_seq (Sa [(7,Z ((l.length:Nat):Int)),(8,Z 0)] V ?_);clear V J; intro J V;refine wp_block (Ay (fun mm J W=>∃ (i:Nat),mm=l.length - i/\Holds 19 [] J [(0,D p l.length c),(1,b),(4,Z 0),(7,Z ((l.length:Nat):Int)),(8,Z ((i:Nat):Int))]/\Ow jP Ag w W []/\i<=l.length/\(l.take i).any (fun y=>D1 y.d)=false/\True) ?_ ?_)
 · exact ⟨_,0,rfl,V.ss,O.to,(Nat.zero_le _),rfl,trivial⟩
 rintro _ J w1 ⟨i,rfl,V,O,hi,ho,-⟩;refine Sa [(9,I (decide (((i:Nat):Int) < ((l.length:Nat):Int))))] V ?_;clear V J; intro J V;refine wp_seq ?_;rcases dC (((i:Nat):Int) < ((l.length:Nat):Int)) with ⟨h1,h1p⟩|⟨h1,h1p⟩
 · rw [h1] at V;obtain ⟨ad1,rfl⟩:=((⟨hv.keep O.only,trivial⟩:_/\True).1).pos oo;obtain ⟨⟨yp1,yc1,yd1⟩,hx1⟩ : ∃ x,(l)[i]? = F x:=⟨_,Av _ CV0 oo⟩;let a:=(E #[D yp1 yd1.words.length yc1,Y yd1.inp,Y yd1.out,I yd1.app]:Value);refine cT V (wp_skip (Aa (wp_seq (wp_block (Sa [(0,D (F ad1) l.length c),(5,Z ((i:Nat):Int))] V ?_)))));clear V J; intro J V;refine sr 6 (Kb 5 [(11,b),(15,a)] V [a] (cc (oo:(0:Int)<=((i:Nat):Int)/\((i:Nat):Int) < ((l.length:Nat):Int)) (cc ((((⟨hv.keep O.only,trivial⟩:_/\True).1).ldn Bm hx1):Ld jP w1 (ad1.add (i*4)) 104 (a)) c0)) ?_);clear V J; intro J V;refine Mk 16 V O Tryz.func108 (Zr yp1 yc1 yd1 _) ?_;clear V O J; intro J w2 V O;refine Ab (Aa ?_);rcases jK (D1 yd1) with h2 | h2
   · rw [h2] at V;refine cT V (Sa [(4,Z ((i:Nat):Int))] V ?_);clear V J; intro J V;exact wp_ret (Ad (Ac (Ac (Ad (Ac (cv [Z ((i:Nat):Int)] V (⟨_,rfl,(jN oo).trans (eU hx1 aM).symm,O.only⟩)))))))
   rw [h2] at V;refine cF V (wp_skip (Af (Aa (Rc [(8,Z (((i:Nat):Int)+1))] V [I true] (cc ((An oo oo):inK .i64 (((i:Nat):Int)+1)) c0) ?_))));clear V J; intro J V;exact Aa (⟨_,oo,i+1,rfl,V.ss,O.to,oo,(bJ ho hx1 aM),trivial⟩)
 rw [h1] at V;refine cF V (wp_exit (Ai (Ai (Aj (Aa (Sa [(4,Z (-1))] V ?_))))));clear V J; intro J V;exact wp_ret (cv [Z (-1)] V (⟨_,rfl,(jO oo).trans (eV ho oo).symm,O.only⟩))
theorem eG (p:Option Addr) (c:Nat) (l:List CV) (w:World) (hv:Vw fC w (D p l.length c) l) (hl:l.length<=1000000) :
 Calls jP 107 #[D p l.length c,.func (.func 108) #[] #[]] w fun e w'=>e = .returned (.bool (Bw (l.map CV.d)))/\Only Ag w w':=by
 refine Ak (args:=[D p l.length c,.func (.func 108) #[] #[]]) (m:=7) (n:=9) Tryz.func107 rfl kR kR fun J V=>?_;have O:=Ow.nil jP Ag w;refine Sa [(4,I false)] V fun J V=>sr 5 (Ka 2 [(5,D p l.length c),(6,.func (.func 108) #[] #[])] V fun J V=>Ae (mC (d:=(F 7)) V Tryz.func117 ((dQ p c l _ (hv.keep O.only) hl).mono ?_)));rintro en w1 ⟨r1,rfl,hr1,ho⟩;refine ⟨_,rfl,?_⟩;clear V J; intro J V;replace O:=O.st ho; clear ho;exact Ka 2 [(4,I (decide (r1 ≥ 0)))] V fun J V=>Ab (Aa (wp_ret (cv [I (decide (r1 ≥ 0))] V (⟨rB (hr1.trans (Zi l).symm),O.only⟩))))
end Go.Proofs.YtdljjajjonfjbaaGreatDoor
