import Derived.Test.YtdljjajjonfjbaaGreatDoorShStore
import Derived.Test.YtdljjajjonfjbaaGreatDoorShs
import Derived.Test.YtdljjajjonfjbaaGreatDoorSn
import Derived.Test.YtdljjajjonfjbaaGreatDoorShRunb
set_option linter.unusedVariables false
set_option linter.unusedSimpArgs false
open Go.Proofs.Tryz renaming prog->sA
open List renaming length_append->sD,length_cons->sE,length_nil->sF,length_map->sG,append_assoc->sH,not_mem_nil->sL,mem_singleton->sM,append_nil->sN,nil_append->sO
open Nat renaming zero_lt_succ->sU
namespace Go.Proofs.Sx
open Go Go.RowKit
theorem dO {α:Type} {f : α->List Value} {x0 : α} {sz:Nat} (h:(f x0).length=sz) (h0 : 0 < sz) : ∀ (m k:Nat),k < m*sz->((List.replicate m x0).flatMap f)[k]? = (f x0)[k % sz]?
 | 0,k,hk=>by omega
 | m+1,k,hk=>by
  rw [List.replicate_succ,List.flatMap_cons]
  by_cases hl:k < sz
  · rw [List.getElem?_append_left (by omega),Nat.mod_eq_of_lt hl]
  · rw [List.getElem?_append_right (by omega),h,dO h h0 m (k - sz) (by rw [Nat.succ_mul] at hk; omega),← Nat.mod_eq_sub_mod (by omega)]
theorem bJ {α:Type} {f : α->List Value} {x0 : α} {z:Value} {sz m:Nat} (E:Enc f sz) (hz:z.cells.toList=f x0) (h0 : 0 < sz):(madeCells z.cells (m*sz)).toList=(List.replicate m x0).flatMap f:=by
 have hs:z.cells.size=sz:=by rw [← Array.length_toList,hz,E.len]
 apply List.ext_getElem?
 intro k
 by_cases hk:k < m*sz
 · rw [dO (E.len x0) h0 m k hk,← hz]
   have:k % sz < z.cells.size:=by rw [hs]; exact Nat.mod_lt _ h0
   simp [madeCells,hk,hs,List.getElem?_eq_getElem,this]
   rw [getElem!_pos z.cells (k % sz) this]
   exact (Array.getElem?_eq_getElem this).symm
 · rw [List.getElem?_eq_none (by rw [Array.length_toList,size_madeCells]; omega),List.getElem?_eq_none (by rw [E.flen,List.length_replicate]; omega)]
section
variable {P:Program} {ops:Array Oper} {Q:Exit->Act->World->Prop} {n:Nat} {ds:List Deferred} {a:Act} {e:Env} {w:World} {K:Act->World->Prop} {i:Nat}
theorem mMG {α:Type} {f : α->List Value} {el sz bytes:Nat} (x0 : α) {z:Value} {L:OwL} {X:Nat->Prop} {w₀:World} {t:TypeId} {m:Nat} {d:Nat} {k k':IntKind} (E:Enc f sz)
 (V:Holds n ds a e) (O:Ow P X w₀ w L) (hb:bytes*m<=281474976710656) (hm:m<=maxLen) (h0 : 0 < sz)
 (hK : ∀ a' w' ad T,Holds n ds a' ((d,.slice (some ad) m m)::e)->Ow P X w₀ w' (L++T)->One f el sz (some ad) m (List.replicate m x0) T->K a' w')
 (he:fG ops e i=some (t,.int k (m:Int),.int k' (m:Int),some d):=by kernel_rfl) (hd:Nat.blt d n=true:=by kernel_rfl) (ht:P.underlying t=some (.slice el):=by kernel_rfl)
 (hi:(P.info? el).map (fun i=>(i.zero,i.size,i.bytes))=some (some z,sz,bytes):=by kernel_rfl) (hz1:z.cells.toList=f x0:=by rfl):wpOp P ops Q i K a w:=by
 obtain ⟨inf,hinf,hq⟩:=Option.map_eq_some_iff.1 hi
 simp only [Prod.mk.injEq] at hq
 obtain ⟨q1,q2,q3⟩:=hq
 have h63:(m:Int)<=9223372036854775807:=by simp only [maxLen] at hm; omega
 have hb':(inf.bytes:Int)*(m:Int)<=281474976710656:=by
  have h:((inf.bytes*m:Nat):Int)<=281474976710656:=by rw [q3]; omega
  rwa [Int.natCast_mul] at h
 have hr:=run_make (P:=P) w t el inf z ht hinf q1 k k' m m (by omega) (Int.le_refl _) hb' h63
 simp only [Int.toNat_natCast,q2] at hr
 unfold fG at he
 repeat' split at he
 all_goals try (cases he; done)
 rename_i o ho _ t' lo co hop _ lv hl _ cv hc
 simp only [Option.some.injEq,Prod.mk.injEq] at he
 obtain ⟨rfl,rfl,rfl,hdst⟩:=he
 refine D2 V ho ?_
 have hrun:(execOp a.eval o).run P w = .ok (.value (.slice (some ⟨w.heap.size,0,none⟩) m m)) (w.alloc (.cells (madeCells z.cells (m*sz)) el)):=by
  unfold execOp
  simp only [hop,V.eval hl,V.eval hc,Sem.run_bind,Sem.run_pure,Result.andThen_ok,run_program,hr]
 unfold Oper.wp
 rw [hrun]
 have hfl:=bJ (m:=m) E hz1 h0
 refine hK _ _ ⟨w.heap.size,0,none⟩ [(w.heap.size,el,(List.replicate m x0).flatMap f++[])] ?_ ?_ (.inr ⟨_,[],rfl,by rw [List.length_replicate]; exact Nat.le_refl _,hm,by rw [sN,E.flen,List.length_replicate],rfl⟩)
 · rw [hdst]; exact V.put _ (by simpa [Nat.blt_eq] using hd)
 · have h2:Ow P X w₀ (w.alloc (.cells (madeCells z.cells (m*sz)) el)) ((w.heap.size,el,(List.replicate m x0).flatMap f++[])::L):=by
    refine O.add (P5 _) (.of0 ?_) (Nat.le_refl _)
    rw [sN,← hfl,Array.toArray_toList]
    exact heap_alloc_new w _
   refine (h2.m.perm ?_).o
   exact (List.perm_append_singleton _ L).symm
end
end Go.Proofs.Sx
set_option maxRecDepth 10000
namespace Go.Proofs.YtdljjajjonfjbaaGreatDoor
open Go Go.Shelf Go.RowKit Go.Proofs Go.Proofs.Sx
section
variable {m l:List PV} {i:Nat} {qp p:Option Addr} {qc c:Nat} {qd:CallL} {TD TB:OwL}
theorem nV {α:Type} {m l:List α} {j:Nat} {v : α} (h2:m.drop j=l.drop j) (hx:l[j]? = some v):m[j]? = some v:=by
 have h:=congrArg (fun q=>q[0]?) h2;simp only [List.getElem?_drop,Nat.add_zero] at h;rw [h]; exact hx
theorem cE {α:Type} {m l:List α} {j:Nat} (h2:m.drop j=l.drop j) (v : α):(m.set j v).drop (j+1)=l.drop (j+1):=by
 rw [List.drop_set_of_lt (by omega)];have:=congrArg (List.drop 1) h2;rwa [List.drop_drop,List.drop_drop] at this
theorem pZ (h:m[i]? = some ⟨qp,qc,qd⟩):Do (m.flatMap fP) (i*5+4) [.slice p qd.data.length c]=(m.set i ⟨p,c,qd⟩).flatMap fP :=
 Jc De m i ⟨qp,qc,qd⟩ h rfl (by show 4+1<=5; decide)
theorem qA (h:m[i]? = some ⟨qp,qc,qd⟩) (hm:m.map PV.d=l.map PV.d):(m.set i (⟨p,c,qd⟩:PV)).map PV.d=l.map PV.d:=by
 rw [List.map_set,← hm];exact Se (by rw [List.getElem?_map,h]; rfl)
theorem Gc {α:Type} {m:List α} {i:Nat} {y x : α} (h:m[i]? = some x):(m.set i y).take (i+1)=m.take i++[y]:=by
 have hi:=(List.getElem?_eq_some_iff.1 h).1;rw [List.take_add_one,List.take_set_of_le (Nat.le_refl i),List.getElem?_set_self hi]; rfl
theorem jP (hD:Ah TD fun w=>∀ x∈m.take i,VP w x) (h:m[i]? = some ⟨qp,qc,qd⟩) (hB:Ah TB fun w=>Vw fB w (.slice p qd.data.length c) qd.data) (hu:U8s qd.data):Ah (TD++TB) fun w=>∀ x∈(m.set i (⟨p,c,qd⟩:PV)).take (i+1),VP w x:=by
 rw [Gc h];exact Em hD.l (Hq (x:=⟨p,c,qd⟩) hB hu).r
theorem lK {m:List JV} {i:Nat} {z:JV} {b:Bool} (h:m[i]? = some z):Do (m.flatMap fJ) (i*2+0) [.slice none 0 0,.bool b]=(m.set i ⟨none,0,[],b⟩).flatMap fJ :=
 Jc Ec m i z h rfl (by show 0+2<=2; decide)
theorem lJ {m:List JV} {i:Nat} {b:Bool} {p p':Option Addr} {c c':Nat} {cs cs':List CV} (hi:i < m.length):Do ((m.set i ⟨p,c,cs,b⟩).flatMap fJ) (i*2+0) [.slice p' cs'.length c']=(m.set i ⟨p',c',cs',b⟩).flatMap fJ:=by
 have:=Jc Ec (k:=0) (vc:=[.slice p' cs'.length c']) (y:=⟨p',c',cs',b⟩) (m.set i ⟨p,c,cs,b⟩) i ⟨p,c,cs,b⟩ (List.getElem?_set_self hi) rfl (by show 0+1<=2; decide);rwa [List.set_set] at this
theorem jS {cs:List CV} {y:CV} {T T':OwL} (h:Ah T fun w=>∀ y∈cs,VC w y) (h':Ah T' fun w=>Vw fT w (.slice y.p y.d.words.length y.c) y.d.words):Ah (T++T') fun w=>∀ z∈cs++[y],VC w z:=fun X w₀ w O z hz=>by
 rcases List.mem_append.1 hz with hz | hz
 · exact h.l X w₀ w O z hz
 · rw [sM.1 hz]; exact h'.r X w₀ w O
theorem jR {m:List JV} {i:Nat} {z:JV} {p:Option Addr} {c:Nat} {cs:List CV} {b:Bool} {T TC TW:OwL} (h:Ah T fun w=>∀ x∈m.take i,VJ w x) (hz:m[i]? = some z) (hC:Ah TC fun w=>Vw fC w (.slice p cs.length c) cs) (hW:Ah TW fun w=>∀ y∈cs,VC w y) :
 Ah (T++(TC++TW)) fun w=>∀ x∈(m.set i ⟨p,c,cs,b⟩).take (i+1),VJ w x:=by
 rw [Gc hz];intro X w₀ w O x hx;rcases List.mem_append.1 hx with hx | hx
 · exact h.l X w₀ w O x hx
 rw [sM.1 hx]; exact ⟨hC.l.r X w₀ w O,hW.r.r X w₀ w O⟩
theorem lN {m lj:List JV} {i k:Nat} {z:JV} {xp p:Option Addr} {xc c:Nat} {xl cs:List CV} {b:Bool} (h:(m.take i).map JV.d=(lj.take i).map JV.d) (hz:m[i]? = some z) (hx:lj[i]? = some ⟨xp,xc,xl,b⟩) (hc:cs.map CV.d=(xl.take k).map CV.d) (hk : ¬ k < xl.length) :
 ((m.set i ⟨p,c,cs,b⟩).take (i+1)).map JV.d=(lj.take (i+1)).map JV.d:=by
 rw [Gc hz,List.map_append,h,List.take_add_one,hx,List.map_append];rw [List.take_of_length_le (by omega)] at hc;congr 1
 show [(⟨cs.map CV.d,b⟩:JobL)]=[⟨xl.map CV.d,b⟩];rw [hc]
end
theorem R7 {l:List JV} {i:Nat} {x:JV} (h:Aq (l.map JV.d)=true) (hx:l[i]? = some x):Aq (([x]:List JV).map JV.d)=true:=by
 unfold Aq at h ⊢;rw [Bool.and_eq_true,List.all_eq_true] at h;have:=h.1 _ (List.mem_map.2 ⟨x,List.mem_of_getElem? hx,rfl⟩);simp only [List.map_cons,List.map_nil,List.all_cons,List.all_nil,this,Bool.and_true,sE,sF,Bool.true_and];rfl
set_option maxHeartbeats 4000000 in
theorem X6 (mo po:Int) (inp:ByteArray) (pj:Option Addr) (kj:Nat) (lj:List JV) (rd wr pv:Int) (pn:Option Addr) (kn:Nat) (ln:List Int) (pp:Option Addr) (kp:Nat) (lp:List PV) (w:World) (hs:SV.ok (⟨mo,po,inp,pj,kj,lj,rd,wr,pv,pn,kn,ln,pp,kp,lp⟩:SV) w) (hm:SV.sm (⟨mo,po,inp,pj,kj,lj,rd,wr,pv,pn,kn,ln,pp,kp,lp⟩:SV)) (hvl:Aq (lj.map JV.d)=true) (hdat : ∀ x∈lp,x.d.data.length<=1000000) :
 Calls sA 29 #[.agg #[Z mo,Z po,Y inp,.slice pj lj.length kj,Z rd,Z wr,Z pv,.slice pn ln.length kn,.slice pp lp.length kp]] w fun e w'=>∃ (v:SV) (T:OwL),v.d=SV.d (⟨mo,po,inp,pj,kj,lj,rd,wr,pv,pn,kn,ln,pp,kp,lp⟩:SV)/\v.sm/\e = .returned (.agg #[Z v.mo,Z v.po,Y v.inp,.slice v.pj v.lj.length v.cj,Z v.rd,Z v.wr,Z v.pv,.slice v.pc v.lc.length v.cc,.slice v.pp v.lp.length v.cp])/\Ow sA Ai w w' T/\Ah T v.ok:=by
 refine Ao (args:=[.agg #[Z mo,Z po,Y inp,.slice pj lj.length kj,Z rd,Z wr,Z pv,.slice pn ln.length kn,.slice pp lp.length kp]]) (m:=81) (n:=82) Tryz.func29 rfl (by kernel_rfl) (by kernel_rfl) fun J V=>?_;have O:=Ow.nil sA Ai w;have hv_j:VL w (.slice pj lj.length kj) lj:=hs.j;have hv_k:Vw fN w (.slice pn ln.length kn) ln:=hs.k;have hv_p:PL w (.slice pp lp.length kp) lp:=hs.p;have hm_ck:ln.length<=kn:=hm.ck;have hm_cj:lj.length<=kj:=hm.cj;have hm_cp:lp.length<=kp:=hm.cp;have hm_i:inp.size<=1000000:=hm.i;have hm_k:ln.length<=1000000:=hm.k;have hm_p:lp.length<=1000000:=hm.p;have hm_j:smL 1000000 (lj.map JV.d):=hm.j;have hm_jl:lj.length<=1000000:=hm_j.len;have hv8_:lj.length<=8:=by have q_:=Gf hvl; rwa [sG] at q_
 refine sr 2 (Mn (cS mo po inp pj lj.length kj rd wr pv pn ln.length kn pp lp.length kp) 39 1 V O ?_);clear V O J; intro J w1 b1 V O;refine Mn (cS 0 0 (⟨#[]⟩:ByteArray) none 0 0 0 0 0 none 0 0 none 0 0) 39 2 V O ?_;clear V O J; intro J w2 b2 V O;refine Ab (Aa (sJ (fun J W=>∃ (pK:Option Addr) (cK:Nat) (TK:OwL) (pP:Option Addr) (cP:Nat) (TQ:OwL),Holds 82 [] J [(1,pt b1),(2,pt b2)]/\Ow sA Ai w W ([(b2,39,(cS 0 0 (⟨#[]⟩:ByteArray) none 0 0 0 0 0 none 0 0 none 0 0)),(b1,39,(cS mo po inp pj lj.length kj rd wr pv pK ln.length cK pP lp.length cP))]++(TK++(TQ++([]))))/\One fN 3 1 pK cK ln TK/\One fP 43 5 pP cP lp TQ/\True) ?_ ?_))
 · rintro J w3 ⟨pK,cK,TK,pP,cP,TQ,V,O,hTK,hTQ,-⟩;refine wp_seq (Sb [(19,Z ((lp.length:Nat):Int)),(20,Z 0)] V [.slice pP lp.length cP] (cc (O.l1 1 8 37 (.slice pP lp.length cP)) c0) ?_);clear V J; intro J V;refine wp_block ?_;have hPD0:Ah ([]:OwL) (fun w_=>∀ x∈(lp.take 0),VP w_ x):=fun _ _ _ _ x hx=>absurd hx (by simp);replace O:Ow sA Ai w w3 ([(b2,39,(cS 0 0 (⟨#[]⟩:ByteArray) none 0 0 0 0 0 none 0 0 none 0 0)),(b1,39,(cS mo po inp pj lj.length kj rd wr pv pK ln.length cK pP lp.length cP))]++(TK++(TQ++(([]:OwL)++([]))))):=O.to (by first | rfl | (simp only [TP,apd]));refine Bc (fun mm J W=>∃ (i:Nat) (m:List PV) (TL1:OwL) (TL2:OwL),mm=lp.length - i/\Holds 82 [] J [(1,pt b1),(2,pt b2),(19,Z ((lp.length:Nat):Int)),(20,Z ((i:Nat):Int))]/\Ow sA Ai w W ([(b2,39,(cS 0 0 (⟨#[]⟩:ByteArray) none 0 0 0 0 0 none 0 0 none 0 0)),(b1,39,(cS mo po inp pj lj.length kj rd wr pv pK ln.length cK pP lp.length cP))]++(TK++(TL1++(TL2++([])))))/\One fP 43 5 pP cP m TL1/\Ah TL2 (fun w_=>∀ x∈(m.take i),VP w_ x)/\i<=lp.length/\m.map PV.d=lp.map PV.d/\m.drop i=lp.drop i/\True) ?_ ?_
   · exact ⟨_,0,lp,TQ,([]:OwL),rfl,V.ss,O,hTQ,hPD0,(Nat.zero_le _),rfl,rfl,trivial⟩
   rintro _ J w4 ⟨i,m,TL1,TL2,rfl,V,O,hTL1,hTL2,hi_,hmd,hmr,-⟩;have hmlen:m.length=lp.length:=by have q_:=congrArg List.length hmd; rwa [sG,sG] at q_
   refine Sa [(21,I (decide (((i:Nat):Int) < ((lp.length:Nat):Int))))] V ?_;clear V J; intro J V;refine wp_seq ?_;rcases rU (decide (((i:Nat):Int) < ((lp.length:Nat):Int))) with h1 | h1
   · rw [h1] at V;have h1p:=rV h1;obtain ⟨⟨qp,qc,qd⟩,hq⟩ : ∃ x,lp[i]? = some x:=⟨_,List.getElem?_eq_getElem (by omega)⟩;have hqm:=nV hmr hq;have hud:U8s qd.data:=(hv_p.2 _ (List.mem_of_getElem? hq)).2;have hdq_:qd.data.length<=1000000:=hdat _ (List.mem_of_getElem? hq);obtain ⟨aP,rfl⟩ : ∃ ad,pP=some ad:=by (obtain ⟨b_,r_,e_,_⟩:=hTL1.open (by omega); exact ⟨_,e_⟩)
     refine cT V (wp_skip (Aa (wp_seq (wp_block (Sa [(3,Z ((i:Nat):Int))] V ?_)))));clear V J; intro J V;have hS:Ow sA Ai w _ [(b2,39,(cS 0 0 (⟨#[]⟩:ByteArray) none 0 0 0 0 0 none 0 0 none 0 0)),(b1,39,(cS mo po inp pj lj.length kj rd wr pv pK ln.length cK (some aP) lp.length cP))]:=O.sub [0,1];refine rP [(0,true),(1,true),(2,true),(3,true),(4,true),(5,true),(6,true),(7,true),(8,false),(9,false),(10,true),(11,true),(12,false)] hS ?_;intro w5 ho; replace O:=O.st ho; clear ho;refine Ke 8 [(24,.slice (some aP) lp.length cP),(25,Z ((i:Nat):Int)),(30,.pointer (some ((aP.add (i*5)).add 4)))] V [.slice (some aP) lp.length cP,.slice (some aP) lp.length cP] (cc (hS.s1 1 8 37 (.slice (some aP) lp.length cP)) (cc (hS.s1 1 8 37 (.slice (some aP) lp.length cP)) (cc (⟨by omega,by omega⟩:(0:Int)<=((i:Nat):Int)/\((i:Nat):Int) < ((lp.length:Nat):Int)) c0))) ?_;clear V J; intro J V;refine Av (Qc [(31,.slice qp qd.data.length qc)] V [.slice qp qd.data.length qc] (cc ((((show Vw fP _ (.slice (some aP) m.length cP) m from One.vw hTL1 (A:=([(b2,39,(cS 0 0 (⟨#[]⟩:ByteArray) none 0 0 0 0 0 none 0 0 none 0 0)),(b1,39,(cS mo po inp pj lj.length kj rd wr pv pK ln.length cK (some aP) lp.length cP))]++(TK++([])))) (B:=TL2++([])) (O.tt:Ow sA Ai w _ (([(b2,39,(cS 0 0 (⟨#[]⟩:ByteArray) none 0 0 0 0 0 none 0 0 none 0 0)),(b1,39,(cS mo po inp pj lj.length kj rd wr pv pK ln.length cK (some aP) lp.length cP))]++(TK++([])))++(TL1++(TL2++([]))))).m)).ld1 De hqm (k:=4) (by rfl)):Ld sA w5 ((aP.add (i*5)).add 4) 41 (.slice qp qd.data.length qc)) c0) ?_)
     clear V J; intro J V;refine ⟨(O.sub [0,1]),?_⟩;refine Av (mC (d:=(some 32)) V Tryz.func31 ((O3 qp qc qd.data _ ((hv_p.keep O.only).2 _ (List.mem_of_getElem? hq)).1 (by omega) ((hv_p.keep O.only).2 _ (List.mem_of_getElem? hq)).2).mono ?_));rintro en w6 ⟨p1,c1,T1,rfl,hT1,hW⟩;refine ⟨_,rfl,?_⟩;clear V J; intro J V;replace O:=Ow.join O hW; clear hW;refine ⟨(O.sub [0,1]),?_⟩;refine Ke 2 [(34,.pointer (some ((aP.add (i*5)).add 4)))] V [] (cc (⟨by omega,by omega⟩:(0:Int)<=((i:Nat):Int)/\((i:Nat):Int) < ((lp.length:Nat):Int)) c0) ?_;clear V J; intro J V;refine Av (mSE (f:=fP) (el:=43) (ad:=aP) (ad':=(aP.add (i*5)).add 4) (c:=cP) (off:=i*5+4) (vc:=[.slice p1 qd.data.length c1]) (l':=(m.set i ⟨p1,c1,qd⟩)) De V (O.tt:Ow sA Ai w _ (([(b2,39,(cS 0 0 (⟨#[]⟩:ByteArray) none 0 0 0 0 0 none 0 0 none 0 0)),(b1,39,(cS mo po inp pj lj.length kj rd wr pv pK ln.length cK (some aP) lp.length cP))]++(TK++([])))++(TL1++(TL2++(T1++([])))))) hTL1 (pZ hqm) (List.length_set ..) (by show i*5+4+1<=_; omega) (Sx.add_add _ _ _) ?_);clear O; intro w7 T2 O hT2;refine ⟨(O.sub [0,1]),?_⟩;refine Ax (Ac (Aa (Rc [(20,Z (((i:Nat):Int)+1))] V [I true] (cc ((Am (by omega) (by omega)):inK .i64 (((i:Nat):Int)+1)) c0) ?_)));clear V J; intro J V;refine Aa ?_;have hPDn:Ah (TL2++T1) (fun w_=>∀ x∈((m.set i ⟨p1,c1,qd⟩).take (i+1)),VP w_ x):=jP hTL2 hqm hT1.holds hud
     replace O:Ow sA Ai w w7 ([(b2,39,(cS 0 0 (⟨#[]⟩:ByteArray) none 0 0 0 0 0 none 0 0 none 0 0)),(b1,39,(cS mo po inp pj lj.length kj rd wr pv pK ln.length cK (some aP) lp.length cP))]++(TK++(T2++((TL2++T1)++([]))))):=O.to (by first | rfl | (simp only [TP,apd]));exact ⟨_,by omega,i+1,(m.set i ⟨p1,c1,qd⟩),T2,(TL2++T1),rfl,V.ss,O,hT2,hPDn,(by omega),(qA hqm hmd),(cE hmr _),trivial⟩
   rw [h1] at V;have h1p:=rX h1;refine cF V (wp_exit (Aj (Aj (An (Aa (sr 5 (Kb 3 [(38,Z ((lj.length:Nat):Int))] V [.slice pj lj.length kj] (cc (O.l1 1 3 36 (.slice pj lj.length kj)) c0) ?_)))))));clear V J; intro J V;replace O:Ow sA Ai w w4 ([(b2,39,(cS 0 0 (⟨#[]⟩:ByteArray) none 0 0 0 0 0 none 0 0 none 0 0)),(b1,39,(cS mo po inp pj lj.length kj rd wr pv pK ln.length cK pP lp.length cP))]++(TK++(TL1++(TL2++([]))))):=O;refine Ag (mMG (f:=fJ) (el:=103) (sz:=2) (bytes:=32) (k:= .i64) (k':= .i64) (t:=36) (m:=lj.length) (d:=39) (z:= .agg #[.slice none 0 0,I false]) JV0 Ec V O (by omega) (by unfold maxLen; omega) (by decide) ?_);clear V O J; intro J w8 aJ T3 V O hT3;replace O:Ow sA Ai w w8 ([(b2,39,(cS 0 0 (⟨#[]⟩:ByteArray) none 0 0 0 0 0 none 0 0 none 0 0)),(b1,39,(cS mo po inp pj lj.length kj rd wr pv pK ln.length cK pP lp.length cP))]++(TK++(TL1++(TL2++(T3++([])))))):=O.to (by first | rfl | (simp only [TP,apd]));refine Ka 1 [(4,.slice (some aJ) lj.length lj.length)] V ?_;clear V J; intro J V;refine Ab (Aa (wp_seq (Sb [(41,.slice pj lj.length kj),(42,Z ((lj.length:Nat):Int)),(43,Z 0)] V [.slice pj lj.length kj] (cc (O.l1 1 3 36 (.slice pj lj.length kj)) c0) ?_)));clear V J; intro J V;refine wp_block ?_;have hJD0:Ah ([]:OwL) (fun w_=>∀ x∈((List.replicate lj.length JV0).take 0),VJ w_ x):=fun _ _ _ _ x hx=>absurd hx (by simp)
   replace O:Ow sA Ai w w8 ([(b2,39,(cS 0 0 (⟨#[]⟩:ByteArray) none 0 0 0 0 0 none 0 0 none 0 0)),(b1,39,(cS mo po inp pj lj.length kj rd wr pv pK ln.length cK pP lp.length cP))]++(TK++(TL1++(TL2++(T3++(([]:OwL)++([]))))))):=O.to (by first | rfl | (simp only [TP,apd]));refine Bc (fun mm J W=>∃ (i2:Nat) (m2:List JV) (TL3:OwL) (TL4:OwL),mm=lj.length - i2/\Holds 82 [] J [(1,pt b1),(2,pt b2),(4,.slice (some aJ) lj.length lj.length),(41,.slice pj lj.length kj),(42,Z ((lj.length:Nat):Int)),(43,Z ((i2:Nat):Int))]/\Ow sA Ai w W ([(b2,39,(cS 0 0 (⟨#[]⟩:ByteArray) none 0 0 0 0 0 none 0 0 none 0 0)),(b1,39,(cS mo po inp pj lj.length kj rd wr pv pK ln.length cK pP lp.length cP))]++(TK++(TL1++(TL2++(TL3++(TL4++([])))))))/\One fJ 103 2 (some aJ) lj.length m2 TL3/\Ah TL4 (fun w_=>∀ x∈(m2.take i2),VJ w_ x)/\i2<=lj.length/\m2.length=lj.length/\(m2.take i2).map JV.d=(lj.take i2).map JV.d/\True) ?_ ?_
   · exact ⟨_,0,List.replicate lj.length JV0,T3,([]:OwL),rfl,V.ss,O,hT3,hJD0,(Nat.zero_le _),(List.length_replicate ..),rfl,trivial⟩
   rintro _ J w9 ⟨i2,m2,TL3,TL4,rfl,V,O,hTL3,hTL4,hi2_,hml2,hmd2,-⟩;refine Sa [(44,I (decide (((i2:Nat):Int) < ((lj.length:Nat):Int))))] V ?_;clear V J; intro J V;refine wp_seq ?_;rcases rU (decide (((i2:Nat):Int) < ((lj.length:Nat):Int))) with h2 | h2
   · rw [h2] at V;have h2p:=rV h2;obtain ⟨ad1,rfl⟩:=((hv_j.keep O.only).1).pos (by first | omega | exact sU _);obtain ⟨⟨xp1,xc1,xl1,xb1⟩,hx1⟩ : ∃ x,(lj)[i2]? = some x:=⟨_,Bg _ JV0 (by first | omega | exact sU _)⟩;obtain ⟨z2,hz2⟩ : ∃ x,m2[i2]? = some x:=⟨_,List.getElem?_eq_getElem (by omega)⟩;have hxl4:xl1.length<=4:=(Pq (r:=[]) (R7 hvl hx1)).1.2;refine cT V (wp_skip (Aa (wp_seq (wp_block (sr 6 (Kb 3 [(41,.slice (some ad1) lj.length kj),(45,Z ((i2:Nat):Int)),(47,.agg #[.slice xp1 xl1.length xc1,I xb1])] V [.agg #[.slice xp1 xl1.length xc1,I xb1]] (cc (⟨by omega,by omega⟩:(0:Int)<=((i2:Nat):Int)/\((i2:Nat):Int) < ((lj.length:Nat):Int)) (cc ((((hv_j.keep O.only).1).ldn Ec hx1):Ld sA w9 (ad1.add (i2*2)) 103 (.agg #[.slice xp1 xl1.length xc1,I xb1])) c0)) ?_))))));clear V J; intro J V;refine Mn [.slice none 0 0,I false] 103 6 V O ?_;clear V O J; intro J w10 b3 V O;refine Ka 1 [(5,Z ((i2:Nat):Int))] V ?_;clear V J; intro J V;refine Ms 0 [.slice xp1 xl1.length xc1,I xb1] 0 V O ?_;clear O; intro w11 O;refine Ab (Aa (sr 7 (Kb 6 [(52,.agg #[.slice none 0 0,I xb1]),(53,.pointer (some (aJ.add (i2*2))))] V [I xb1] (cc (O.l1 0 1 4 (I xb1)) (cc (⟨by omega,by omega⟩:(0:Int)<=((i2:Nat):Int)/\((i2:Nat):Int) < ((lj.length:Nat):Int)) c0)) ?_)));clear V J; intro J V
     replace O:Ow sA Ai w w11 ([(b3,103,[.slice xp1 xl1.length xc1,I xb1]),(b2,39,(cS 0 0 (⟨#[]⟩:ByteArray) none 0 0 0 0 0 none 0 0 none 0 0)),(b1,39,(cS mo po inp (some ad1) lj.length kj rd wr pv pK ln.length cK pP lp.length cP))]++(TK++(TL1++(TL2++(TL3++(TL4++([]))))))):=O;refine Ag (mSE (f:=fJ) (el:=103) (ad:=aJ) (ad':=aJ.add (i2*2)) (c:=lj.length) (off:=i2*2+0) (vc:=[.slice none 0 0,I xb1]) (l':=(m2.set i2 ⟨none,0,[],xb1⟩)) Ec V (O.tt:Ow sA Ai w _ (([(b3,103,[.slice xp1 xl1.length xc1,I xb1]),(b2,39,(cS 0 0 (⟨#[]⟩:ByteArray) none 0 0 0 0 0 none 0 0 none 0 0)),(b1,39,(cS mo po inp (some ad1) lj.length kj rd wr pv pK ln.length cK pP lp.length cP))]++(TK++(TL1++(TL2++([])))))++(TL3++(TL4++([]))))) hTL3 (lK hz2) (List.length_set ..) (by show i2*2+0+2<=_; omega) rfl ?_);clear O; intro w12 T4 O hT4;refine Ab (Aa (Sb [(55,.slice xp1 xl1.length xc1),(56,Z ((xl1.length:Nat):Int)),(57,Z 0)] V [.slice xp1 xl1.length xc1] (cc (O.l1 0 0 101 (.slice xp1 xl1.length xc1)) c0) ?_));clear V J; intro J V;refine wp_block ?_;have hPC0:One fC 104 4 none 0 ([]:List CV) ([]:OwL):=One.nil _ _ _;have hPW0:Ah ([]:OwL) (fun w_=>∀ y∈([]:List CV),VC w_ y):=fun _ _ _ _ x hx=>absurd hx (by simp)
     refine Bc (fun mm J W=>∃ (k:Nat) (cs:List CV) (pL5:Option Addr) (cL5:Nat) (TL5:OwL) (TL6:OwL) (TL7:OwL),mm=xl1.length - k/\Holds 82 [] J [(1,pt b1),(2,pt b2),(4,.slice (some aJ) lj.length lj.length),(5,Z ((i2:Nat):Int)),(41,.slice (some ad1) lj.length kj),(42,Z ((lj.length:Nat):Int)),(43,Z ((i2:Nat):Int)),(55,.slice xp1 xl1.length xc1),(56,Z ((xl1.length:Nat):Int)),(57,Z ((k:Nat):Int))]/\Ow sA Ai w W ([(b3,103,[.slice xp1 xl1.length xc1,I xb1]),(b2,39,(cS 0 0 (⟨#[]⟩:ByteArray) none 0 0 0 0 0 none 0 0 none 0 0)),(b1,39,(cS mo po inp (some ad1) lj.length kj rd wr pv pK ln.length cK pP lp.length cP))]++(TK++(TL1++(TL2++(TL7++(TL4++(TL5++(TL6++([])))))))))/\One fC 104 4 pL5 cL5 cs TL5/\Ah TL6 (fun w_=>∀ y∈cs,VC w_ y)/\One fJ 103 2 (some aJ) lj.length (m2.set i2 ⟨pL5,cL5,cs,xb1⟩) TL7/\k<=xl1.length/\cs.length=k/\cs.map CV.d=(xl1.take k).map CV.d/\True) ?_ ?_
     · exact ⟨_,0,[],none,0,([]:OwL),([]:OwL),T4,rfl,V.ss,O.tt,hPC0,hPW0,hT4,(Nat.zero_le _),rfl,rfl,trivial⟩
     rintro _ J w13 ⟨k,cs,pL5,cL5,TL5,TL6,TL7,rfl,V,O,hTL5,hTL6,hTL7,hk_,hcl3,hcd3,-⟩;refine Sa [(58,I (decide (((k:Nat):Int) < ((xl1.length:Nat):Int))))] V ?_;clear V J; intro J V;refine wp_seq ?_;rcases rU (decide (((k:Nat):Int) < ((xl1.length:Nat):Int))) with h3 | h3
     · rw [h3] at V;have h3p:=rV h3;obtain ⟨ax1,rfl⟩:=(show ∃ ad,xp1=some ad from (((hv_j.keep O.only).2 _ (List.mem_of_getElem? hx1)).1).pos (by show 0 < xl1.length; omega));obtain ⟨⟨yp1,yc1,yd1⟩,hx2⟩ : ∃ x,(xl1)[k]? = some x:=⟨_,Bg _ CV0 (by first | omega | exact sU _)⟩;have hyw4:yd1.words.length<=4:=(Hr ((Pq (r:=[]) (R7 hvl hx1)).2 _ (List.mem_of_getElem? hx2))).1.2;refine cT V (wp_skip (Aa (wp_seq (wp_block (sr 4 (Kb 2 [(55,.slice (some ax1) xl1.length xc1),(60,.agg #[.slice yp1 yd1.words.length yc1,Y yd1.inp,Y yd1.out,I yd1.app])] V [.agg #[.slice yp1 yd1.words.length yc1,Y yd1.inp,Y yd1.out,I yd1.app]] (cc (⟨by omega,by omega⟩:(0:Int)<=((k:Nat):Int)/\((k:Nat):Int) < ((xl1.length:Nat):Int)) (cc (((((hv_j.keep O.only).2 _ (List.mem_of_getElem? hx1)).1).ldn Ey hx2):Ld sA w13 (ax1.add (k*4)) 104 (.agg #[.slice yp1 yd1.words.length yc1,Y yd1.inp,Y yd1.out,I yd1.app])) c0)) ?_))))));clear V J; intro J V;refine Mn [.slice none 0 0,Y (⟨#[]⟩),Y (⟨#[]⟩),I false] 104 8 V O ?_;clear V O J; intro J w14 b4 V O;refine Ms 0 [.slice yp1 yd1.words.length yc1,Y yd1.inp,Y yd1.out,I yd1.app] 0 V O ?_;clear O; intro w15 O;refine Ab (Aa (sr 5 (Kb 2 [(62,.slice yp1 yd1.words.length yc1)] V [.slice yp1 yd1.words.length yc1] (cc (O.l1 0 0 30 (.slice yp1 yd1.words.length yc1)) c0) ?_)));clear V J; intro J V
       replace O:Ow sA Ai w w15 ([(b4,104,[.slice yp1 yd1.words.length yc1,Y yd1.inp,Y yd1.out,I yd1.app]),(b3,103,[.slice (some ax1) xl1.length xc1,I xb1]),(b2,39,(cS 0 0 (⟨#[]⟩:ByteArray) none 0 0 0 0 0 none 0 0 none 0 0)),(b1,39,(cS mo po inp (some ad1) lj.length kj rd wr pv pK ln.length cK pP lp.length cP))]++(TK++(TL1++(TL2++(TL7++(TL4++(TL5++(TL6++([]))))))))):=O;refine Ag (mC (d:=(some 63)) V Tryz.func60 ((Ya yp1 yc1 yd1.words _ (((hv_j.keep O.only).2 _ (List.mem_of_getElem? hx1)).2 _ (List.mem_of_getElem? hx2)) (by omega)).mono ?_));rintro en w16 ⟨p2,c2,T5,rfl,hT5,hW⟩;refine ⟨_,rfl,?_⟩;clear V J; intro J V;replace O:=Ow.join O hW; clear hW;replace O:Ow sA Ai w _ ([(b4,104,[.slice yp1 yd1.words.length yc1,Y yd1.inp,Y yd1.out,I yd1.app]),(b3,103,[.slice (some ax1) xl1.length xc1,I xb1]),(b2,39,(cS 0 0 (⟨#[]⟩:ByteArray) none 0 0 0 0 0 none 0 0 none 0 0)),(b1,39,(cS mo po inp (some ad1) lj.length kj rd wr pv pK ln.length cK pP lp.length cP))]++(TK++(TL1++(TL2++(TL7++(TL4++(TL5++(TL6++(T5++([])))))))))):=O.to (by first | rfl | (simp only [TP,apd]));refine Ka 1 [(64,pt b4)] V ?_;clear V J; intro J V;refine Ms 0 [.slice p2 yd1.words.length c2] 0 V O ?_;clear O; intro w17 O;refine Ab (Aa ?_)
       have hS:Ow sA Ai w _ [(b4,104,[.slice p2 yd1.words.length c2,Y yd1.inp,Y yd1.out,I yd1.app]),(b3,103,[.slice (some ax1) xl1.length xc1,I xb1]),(b2,39,(cS 0 0 (⟨#[]⟩:ByteArray) none 0 0 0 0 0 none 0 0 none 0 0)),(b1,39,(cS mo po inp (some ad1) lj.length kj rd wr pv pK ln.length cK pP lp.length cP))]:=O.sub [0,1,2,3];refine rT (.q 0 (.q 1 (.q 2 (.q 3 (.q 4 (.q 5 (.q 7 (.m 6 (.m 8 (.m 9 (.q 10 (.q 11 (.m 12 .fin .non))) .non) .non) (.m 8 (.m 6 (.m 9 (.q 10 (.q 11 (.m 12 .fin .non))) .non) .non) .non))))))))) hS ?_;intro w18 ho; replace O:=O.st ho; clear ho;refine A2 (t1:= .m 9 (.q 10 (.q 11 (.m 12 .fin .non))) .non) (fun J W=>∃ (s1:Nat),Holds 82 [] J [(1,pt b1),(2,pt b2),(4,.slice (some aJ) lj.length lj.length),(5,Z ((i2:Nat):Int)),(41,.slice (some ad1) lj.length kj),(42,Z ((lj.length:Nat):Int)),(43,Z ((i2:Nat):Int)),(55,.slice (some ax1) xl1.length xc1),(56,Z ((xl1.length:Nat):Int)),(57,Z ((k:Nat):Int)),(65,.slice (some aJ) lj.length lj.length),(66,Z ((i2:Nat):Int)),(71,.slice pL5 cs.length cL5),(73,.slice (some ⟨s1,0,none⟩) 1 1)]/\Ow sA Ai w W ([(s1,104,[.slice p2 yd1.words.length c2,Y yd1.inp,Y yd1.out,I yd1.app]),(b4,104,[.slice p2 yd1.words.length c2,Y yd1.inp,Y yd1.out,I yd1.app]),(b3,103,[.slice (some ax1) xl1.length xc1,I xb1]),(b2,39,(cS 0 0 (⟨#[]⟩:ByteArray) none 0 0 0 0 0 none 0 0 none 0 0)),(b1,39,(cS mo po inp (some ad1) lj.length kj rd wr pv pK ln.length cK pP lp.length cP))]++(TK++(TL1++(TL2++(TL7++(TL4++(TL5++(TL6++(T5++([]))))))))))/\True) ?_ ?_
       · rintro J w19 ⟨s1,V,O,-⟩;refine Af ?_ ?_
         · replace O:Ow sA Ai w w19 ([(s1,104,[.slice p2 yd1.words.length c2,Y yd1.inp,Y yd1.out,I yd1.app]),(b4,104,[.slice p2 yd1.words.length c2,Y yd1.inp,Y yd1.out,I yd1.app]),(b3,103,[.slice (some ax1) xl1.length xc1,I xb1]),(b2,39,(cS 0 0 (⟨#[]⟩:ByteArray) none 0 0 0 0 0 none 0 0 none 0 0)),(b1,39,(cS mo po inp (some ad1) lj.length kj rd wr pv pK ln.length cK pP lp.length cP))]++(TK++(TL1++(TL2++(TL7++(TL4++(TL5++(TL6++(T5++([])))))))))):=O
           refine (mA (f:=fC) (el:=104) (sz:=4) (bytes:=64) (p:=pL5) (c:=cL5) (l:=cs) (l':=([⟨p2,c2,yd1⟩]:List CV)) (T:=TL5) (t:=101) (tx:=101) (ty:=101) (x:= .slice (some ⟨s1,0,none⟩) 1 1) (d:=74) ([(s1,104,[.slice p2 yd1.words.length c2,Y yd1.inp,Y yd1.out,I yd1.app]),(b4,104,[.slice p2 yd1.words.length c2,Y yd1.inp,Y yd1.out,I yd1.app]),(b3,103,[.slice (some ax1) xl1.length xc1,I xb1]),(b2,39,(cS 0 0 (⟨#[]⟩:ByteArray) none 0 0 0 0 0 none 0 0 none 0 0)),(b1,39,(cS mo po inp (some ad1) lj.length kj rd wr pv pK ln.length cK pP lp.length cP))]++(TK++(TL1++(TL2++(TL7++(TL4++([]))))))) (TL6++(T5++([]))) Ey V (O.tt:Ow sA Ai w _ (([(s1,104,[.slice p2 yd1.words.length c2,Y yd1.inp,Y yd1.out,I yd1.app]),(b4,104,[.slice p2 yd1.words.length c2,Y yd1.inp,Y yd1.out,I yd1.app]),(b3,103,[.slice (some ax1) xl1.length xc1,I xb1]),(b2,39,(cS 0 0 (⟨#[]⟩:ByteArray) none 0 0 0 0 0 none 0 0 none 0 0)),(b1,39,(cS mo po inp (some ad1) lj.length kj rd wr pv pK ln.length cK pP lp.length cP))]++(TK++(TL1++(TL2++(TL7++(TL4++([])))))))++(TL5++(TL6++(T5++([])))))) hTL5 (Vw.src (e':=104) Ey ((O.b 0).vw (off:=0) (xs:=([⟨p2,c2,yd1⟩]:List CV)) (by kernel_rfl)) (by kernel_rfl)) (by first | omega | (simp only [sD,sE,sF]; omega)) (by unfold maxLen; first | omega | (simp only [sD,sE,sF]; omega)) ?_);clear V O J; intro J w20 p3 c3 T6 V O hT6
           replace O:Ow sA Ai w w20 ([(s1,104,[.slice p2 yd1.words.length c2,Y yd1.inp,Y yd1.out,I yd1.app]),(b4,104,[.slice p2 yd1.words.length c2,Y yd1.inp,Y yd1.out,I yd1.app]),(b3,103,[.slice (some ax1) xl1.length xc1,I xb1]),(b2,39,(cS 0 0 (⟨#[]⟩:ByteArray) none 0 0 0 0 0 none 0 0 none 0 0)),(b1,39,(cS mo po inp (some ad1) lj.length kj rd wr pv pK ln.length cK pP lp.length cP))]++(TK++(TL1++(TL2++(TL7++(TL4++(T6++(TL6++(T5++([])))))))))):=O.to (by first | rfl | (simp only [TP,apd]));refine ⟨(O.sub [1,2,3,4]),?_⟩;refine Kt [10,11] [(76,.pointer (some (aJ.add (i2*2))))] V [] (cc (⟨by omega,by omega⟩:(0:Int)<=((i2:Nat):Int)/\((i2:Nat):Int) < ((lj.length:Nat):Int)) c0) ?_;clear V J; intro J V;refine Af ?_ ?_
           · replace O:Ow sA Ai w w20 ([(s1,104,[.slice p2 yd1.words.length c2,Y yd1.inp,Y yd1.out,I yd1.app]),(b4,104,[.slice p2 yd1.words.length c2,Y yd1.inp,Y yd1.out,I yd1.app]),(b3,103,[.slice (some ax1) xl1.length xc1,I xb1]),(b2,39,(cS 0 0 (⟨#[]⟩:ByteArray) none 0 0 0 0 0 none 0 0 none 0 0)),(b1,39,(cS mo po inp (some ad1) lj.length kj rd wr pv pK ln.length cK pP lp.length cP))]++(TK++(TL1++(TL2++(TL7++(TL4++(T6++(TL6++(T5++([])))))))))):=O;refine (mSE (f:=fJ) (el:=103) (ad:=aJ) (ad':=aJ.add (i2*2)) (c:=lj.length) (off:=i2*2+0) (vc:=[.slice p3 ((cs++([⟨p2,c2,yd1⟩]:List CV)).length) c3]) (l':=(m2.set i2 ⟨p3,c3,cs++([⟨p2,c2,yd1⟩]:List CV),xb1⟩)) Ec V (O.tt:Ow sA Ai w _ (([(s1,104,[.slice p2 yd1.words.length c2,Y yd1.inp,Y yd1.out,I yd1.app]),(b4,104,[.slice p2 yd1.words.length c2,Y yd1.inp,Y yd1.out,I yd1.app]),(b3,103,[.slice (some ax1) xl1.length xc1,I xb1]),(b2,39,(cS 0 0 (⟨#[]⟩:ByteArray) none 0 0 0 0 0 none 0 0 none 0 0)),(b1,39,(cS mo po inp (some ad1) lj.length kj rd wr pv pK ln.length cK pP lp.length cP))]++(TK++(TL1++(TL2++([])))))++(TL7++(TL4++(T6++(TL6++(T5++([])))))))) hTL7 (lJ (by omega)) (by rw [List.length_set,List.length_set]) (by rw [List.length_set]; show i2*2+0+1<=_; omega) rfl ?_);clear O; intro w21 T7 O hT7
             replace O:Ow sA Ai w w21 ([(s1,104,[.slice p2 yd1.words.length c2,Y yd1.inp,Y yd1.out,I yd1.app]),(b4,104,[.slice p2 yd1.words.length c2,Y yd1.inp,Y yd1.out,I yd1.app]),(b3,103,[.slice (some ax1) xl1.length xc1,I xb1]),(b2,39,(cS 0 0 (⟨#[]⟩:ByteArray) none 0 0 0 0 0 none 0 0 none 0 0)),(b1,39,(cS mo po inp (some ad1) lj.length kj rd wr pv pK ln.length cK pP lp.length cP))]++(TK++(TL1++(TL2++(T7++(TL4++(T6++(TL6++(T5++([])))))))))):=O.to (by first | rfl | (simp only [TP,apd]));refine ⟨(O.sub [1,2,3,4]),?_⟩;refine Ay (Ac (Aa (Rc [(57,Z (((k:Nat):Int)+1))] V [I true] (cc ((Am (by omega) (by omega)):inK .i64 (((k:Nat):Int)+1)) c0) ?_)));clear V J; intro J V;refine Aa ?_;replace O:Ow sA Ai w w21 ([(s1,104,[.slice p2 yd1.words.length c2,Y yd1.inp,Y yd1.out,I yd1.app]),(b4,104,[.slice p2 yd1.words.length c2,Y yd1.inp,Y yd1.out,I yd1.app]),(b3,103,[.slice (some ax1) xl1.length xc1,I xb1]),(b2,39,(cS 0 0 (⟨#[]⟩:ByteArray) none 0 0 0 0 0 none 0 0 none 0 0)),(b1,39,(cS mo po inp (some ad1) lj.length kj rd wr pv pK ln.length cK pP lp.length cP))]++(TK++(TL1++(TL2++(T7++(TL4++(T6++(TL6++(T5++([])))))))))):=O;have hPWn:Ah (TL6++T5) (fun w_=>∀ y∈(cs++([⟨p2,c2,yd1⟩]:List CV)),VC w_ y):=jS (y:=⟨p2,c2,yd1⟩) hTL6 hT5.holds
             replace O:Ow sA Ai w w21 ([(s1,104,[.slice p2 yd1.words.length c2,Y yd1.inp,Y yd1.out,I yd1.app]),(b4,104,[.slice p2 yd1.words.length c2,Y yd1.inp,Y yd1.out,I yd1.app]),(b3,103,[.slice (some ax1) xl1.length xc1,I xb1]),(b2,39,(cS 0 0 (⟨#[]⟩:ByteArray) none 0 0 0 0 0 none 0 0 none 0 0)),(b1,39,(cS mo po inp (some ad1) lj.length kj rd wr pv pK ln.length cK pP lp.length cP))]++(TK++(TL1++(TL2++(T7++(TL4++(T6++((TL6++T5)++([]))))))))):=O.to (by first | rfl | (simp only [TP,apd]));exact ⟨_,by omega,k+1,(cs++([⟨p2,c2,yd1⟩]:List CV)),p3,c3,T6,(TL6++T5),T7,rfl,V.ss,(Ow.subP (A:=[_,_,_,_,_]) O (.cons _ (.cons _ (.cons_cons _ (.cons_cons _ (.cons_cons _ .slnil)))))),hT6,hPWn,hT7,(by omega),(by rw [sD,hcl3]; rfl),(by rw [List.map_append,hcd3,List.take_add_one,hx2,List.map_append]; rfl),trivial⟩
           exact trivial
         exact trivial
       intro ht1;refine Kt [0,1,2,3,4,5,7] [(65,.slice (some aJ) lj.length lj.length),(66,Z ((i2:Nat):Int)),(70,.pointer (some (aJ.add (i2*2)))),(72,.agg #[.slice p2 yd1.words.length c2,Y yd1.inp,Y yd1.out,I yd1.app])] V [.agg #[.slice p2 yd1.words.length c2,Y yd1.inp,Y yd1.out,I yd1.app]] (cc (⟨by omega,by omega⟩:(0:Int)<=((i2:Nat):Int)/\((i2:Nat):Int) < ((lj.length:Nat):Int)) (cc (hS.sn 0 0 104 [.slice p2 yd1.words.length c2,Y yd1.inp,Y yd1.out,I yd1.app]) c0)) ?_;clear V J; intro J V;refine Af ?_ ?_
       · replace O:Ow sA Ai w w18 ([(b4,104,[.slice p2 yd1.words.length c2,Y yd1.inp,Y yd1.out,I yd1.app]),(b3,103,[.slice (some ax1) xl1.length xc1,I xb1]),(b2,39,(cS 0 0 (⟨#[]⟩:ByteArray) none 0 0 0 0 0 none 0 0 none 0 0)),(b1,39,(cS mo po inp (some ad1) lj.length kj rd wr pv pK ln.length cK pP lp.length cP))]++(TK++(TL1++(TL2++(TL7++(TL4++(TL5++(TL6++(T5++([])))))))))):=O;refine (Qc [(71,.slice pL5 cs.length cL5)] V [.slice pL5 cs.length cL5] (cc ((((show Vw fJ _ (.slice (some aJ) (m2.set i2 ⟨pL5,cL5,cs,xb1⟩).length lj.length) (m2.set i2 ⟨pL5,cL5,cs,xb1⟩) from One.vw hTL7 (A:=([(b4,104,[.slice p2 yd1.words.length c2,Y yd1.inp,Y yd1.out,I yd1.app]),(b3,103,[.slice (some ax1) xl1.length xc1,I xb1]),(b2,39,(cS 0 0 (⟨#[]⟩:ByteArray) none 0 0 0 0 0 none 0 0 none 0 0)),(b1,39,(cS mo po inp (some ad1) lj.length kj rd wr pv pK ln.length cK pP lp.length cP))]++(TK++(TL1++(TL2++([])))))) (B:=TL4++(TL5++(TL6++(T5++([]))))) (O.tt:Ow sA Ai w _ (([(b4,104,[.slice p2 yd1.words.length c2,Y yd1.inp,Y yd1.out,I yd1.app]),(b3,103,[.slice (some ax1) xl1.length xc1,I xb1]),(b2,39,(cS 0 0 (⟨#[]⟩:ByteArray) none 0 0 0 0 0 none 0 0 none 0 0)),(b1,39,(cS mo po inp (some ad1) lj.length kj rd wr pv pK ln.length cK pP lp.length cP))]++(TK++(TL1++(TL2++([])))))++(TL7++(TL4++(TL5++(TL6++(T5++([])))))))).m)).ld0 Ec (show (m2.set i2 ⟨pL5,cL5,cs,xb1⟩)[i2]? = some (⟨pL5,cL5,cs,xb1⟩:JV) from List.getElem?_set_self (by omega)) (by rfl)):Ld sA w18 (aJ.add (i2*2)) 101 (.slice pL5 cs.length cL5)) c0) ?_);clear V J; intro J V;refine ⟨(O.sub [0,1,2,3]),?_⟩
         refine Af ?_ ?_
         · refine (mN (l:=[.slice p2 yd1.words.length c2,Y yd1.inp,Y yd1.out,I yd1.app]) (t:=104) (v:=fun b=> .slice (some ⟨b,0,none⟩) 1 1) (d:=73) V O ?_);clear V O J; intro J w22 b5 V O;refine ⟨(O.sub [1,2,3,4]),?_⟩;exact ht1 _ _ ⟨b5,V.sb,O,trivial⟩
         exact trivial
       refine Af ?_ ?_
       · refine (mN (l:=[.slice p2 yd1.words.length c2,Y yd1.inp,Y yd1.out,I yd1.app]) (t:=104) (v:=fun b=> .slice (some ⟨b,0,none⟩) 1 1) (d:=73) V O ?_);clear V O J; intro J w23 b6 V O;refine ⟨(O.sub [1,2,3,4]),?_⟩;refine Af ?_ ?_
         · replace O:Ow sA Ai w w23 ([(b6,104,[.slice p2 yd1.words.length c2,Y yd1.inp,Y yd1.out,I yd1.app]),(b4,104,[.slice p2 yd1.words.length c2,Y yd1.inp,Y yd1.out,I yd1.app]),(b3,103,[.slice (some ax1) xl1.length xc1,I xb1]),(b2,39,(cS 0 0 (⟨#[]⟩:ByteArray) none 0 0 0 0 0 none 0 0 none 0 0)),(b1,39,(cS mo po inp (some ad1) lj.length kj rd wr pv pK ln.length cK pP lp.length cP))]++(TK++(TL1++(TL2++(TL7++(TL4++(TL5++(TL6++(T5++([])))))))))):=O
           refine (Qc [(71,.slice pL5 cs.length cL5)] V [.slice pL5 cs.length cL5] (cc ((((show Vw fJ _ (.slice (some aJ) (m2.set i2 ⟨pL5,cL5,cs,xb1⟩).length lj.length) (m2.set i2 ⟨pL5,cL5,cs,xb1⟩) from One.vw hTL7 (A:=([(b6,104,[.slice p2 yd1.words.length c2,Y yd1.inp,Y yd1.out,I yd1.app]),(b4,104,[.slice p2 yd1.words.length c2,Y yd1.inp,Y yd1.out,I yd1.app]),(b3,103,[.slice (some ax1) xl1.length xc1,I xb1]),(b2,39,(cS 0 0 (⟨#[]⟩:ByteArray) none 0 0 0 0 0 none 0 0 none 0 0)),(b1,39,(cS mo po inp (some ad1) lj.length kj rd wr pv pK ln.length cK pP lp.length cP))]++(TK++(TL1++(TL2++([])))))) (B:=TL4++(TL5++(TL6++(T5++([]))))) (O.tt:Ow sA Ai w _ (([(b6,104,[.slice p2 yd1.words.length c2,Y yd1.inp,Y yd1.out,I yd1.app]),(b4,104,[.slice p2 yd1.words.length c2,Y yd1.inp,Y yd1.out,I yd1.app]),(b3,103,[.slice (some ax1) xl1.length xc1,I xb1]),(b2,39,(cS 0 0 (⟨#[]⟩:ByteArray) none 0 0 0 0 0 none 0 0 none 0 0)),(b1,39,(cS mo po inp (some ad1) lj.length kj rd wr pv pK ln.length cK pP lp.length cP))]++(TK++(TL1++(TL2++([])))))++(TL7++(TL4++(TL5++(TL6++(T5++([])))))))).m)).ld0 Ec (show (m2.set i2 ⟨pL5,cL5,cs,xb1⟩)[i2]? = some (⟨pL5,cL5,cs,xb1⟩:JV) from List.getElem?_set_self (by omega)) (by rfl)):Ld sA w23 (aJ.add (i2*2)) 101 (.slice pL5 cs.length cL5)) c0) ?_);clear V J; intro J V;refine ⟨(O.sub [1,2,3,4]),?_⟩;exact ht1 _ _ ⟨b6,V.sb,O.tt,trivial⟩
         exact trivial
       exact trivial
     rw [h3] at V;have h3p:=rX h3;refine cF V (wp_exit (Aj (Aj (An (Ac (Aa (Rc [(43,Z (((i2:Nat):Int)+1))] V [I true] (cc ((Am (by omega) (by omega)):inK .i64 (((i2:Nat):Int)+1)) c0) ?_)))))));clear V J; intro J V;refine Aa ?_;replace O:Ow sA Ai w w13 ([(b3,103,[.slice xp1 xl1.length xc1,I xb1]),(b2,39,(cS 0 0 (⟨#[]⟩:ByteArray) none 0 0 0 0 0 none 0 0 none 0 0)),(b1,39,(cS mo po inp (some ad1) lj.length kj rd wr pv pK ln.length cK pP lp.length cP))]++(TK++(TL1++(TL2++(TL7++(TL4++(TL5++(TL6++([]))))))))):=O;have hJDn:Ah (TL4++(TL5++TL6)) (fun w_=>∀ x∈((m2.set i2 ⟨pL5,cL5,cs,xb1⟩).take (i2+1)),VJ w_ x):=jR hTL4 hz2 hTL5.holds hTL6;replace O:Ow sA Ai w w13 ([(b3,103,[.slice xp1 xl1.length xc1,I xb1]),(b2,39,(cS 0 0 (⟨#[]⟩:ByteArray) none 0 0 0 0 0 none 0 0 none 0 0)),(b1,39,(cS mo po inp (some ad1) lj.length kj rd wr pv pK ln.length cK pP lp.length cP))]++(TK++(TL1++(TL2++(TL7++((TL4++(TL5++TL6))++([]))))))):=O.to (by first | rfl | (simp only [TP,apd]));exact ⟨_,by omega,i2+1,(m2.set i2 ⟨pL5,cL5,cs,xb1⟩),TL7,(TL4++(TL5++TL6)),rfl,V.ss,(Ow.subP (A:=[_,_,_]) O (.cons _ (.cons_cons _ (.cons_cons _ .slnil)))),hTL7,hJDn,(by omega),(by rw [List.length_set]; exact hml2),(lN hmd2 hz2 hx1 hcd3 (by omega)),trivial⟩
   rw [h2] at V;have h2p:=rX h2;refine cF V (wp_exit (Aj (Aj (An (Aa (sr 3 (Ka 2 [(79,.slice (some aJ) lj.length lj.length),(80,pf b1 3)] V ?_)))))));clear V J; intro J V;refine Ms 3 [.slice (some aJ) lj.length lj.length] 1 V O ?_;clear O; intro w24 O;refine Ab (Aa (sr 2 (Kb 1 [(81,.agg #[Z mo,Z po,Y inp,.slice (some aJ) lj.length lj.length,Z rd,Z wr,Z pv,.slice pK ln.length cK,.slice pP lp.length cP])] V [.agg #[Z mo,Z po,Y inp,.slice (some aJ) lj.length lj.length,Z rd,Z wr,Z pv,.slice pK ln.length cK,.slice pP lp.length cP]] (cc (O.ln 1 0 39 (cS mo po inp (some aJ) lj.length lj.length rd wr pv pK ln.length cK pP lp.length cP)) c0) ?_)));clear V J; intro J V;refine Ms 0 (cS mo po inp (some aJ) lj.length lj.length rd wr pv pK ln.length cK pP lp.length cP) 0 V O ?_;clear O; intro w25 O;refine Ab (Aa (wp_ret (cR (cs:=[some (⟨b2,0,none⟩,39)]) (us:=[.agg #[Z mo,Z po,Y inp,.slice (some aJ) lj.length lj.length,Z rd,Z wr,Z pv,.slice pK ln.length cK,.slice pP lp.length cP]]) V [.agg #[Z mo,Z po,Y inp,.slice (some aJ) lj.length lj.length,Z rd,Z wr,Z pv,.slice pK ln.length cK,.slice pP lp.length cP]] ⟨(O.ln 0 0 39 (cS mo po inp (some aJ) lj.length lj.length rd wr pv pK ln.length cK pP lp.length cP)),trivial⟩ ?_)));have htm:m.take i=m:=List.take_of_length_le (by omega);have htm2:m2.take i2=m2:=List.take_of_length_le (by omega);have hmm2:m2.map JV.d=lj.map JV.d:=by rw [htm2,List.take_of_length_le (show lj.length<=i2 by omega)] at hmd2; exact hmd2
   have hJ0:Ah (TK++(TL1++(TL2++(TL3++(TL4++([])))))) (fun w=>VL w (.slice (some aJ) m2.length lj.length) m2):=(Ah.and (hTL3.holds.l.r.r.r) (hTL4.l.r.r.r.r)).mono fun _ h_=>⟨h_.1,htm2 ▸ h_.2⟩;have hP0:Ah (TK++(TL1++(TL2++(TL3++(TL4++([])))))) (fun w=>PL w (.slice pP m.length cP) m):=(Ah.and (hTL1.holds.l.r) (hTL2.l.r.r)).mono fun _ h_=>⟨h_.1,htm ▸ h_.2⟩;have hok0:Ah (TK++(TL1++(TL2++(TL3++(TL4++([])))))) (SV.ok (⟨mo,po,inp,some aJ,lj.length,m2,rd,wr,pv,pK,cK,ln,pP,cP,m⟩:SV)):=ok3 hJ0 (hTK.holds.l) hP0;have hd0:SV.d (⟨mo,po,inp,some aJ,lj.length,m2,rd,wr,pv,pK,cK,ln,pP,cP,m⟩:SV)=SV.d (⟨mo,po,inp,pj,kj,lj,rd,wr,pv,pn,kn,ln,pp,kp,lp⟩:SV):=by unfold SV.d; simp only [hmm2,hmd]
   have hsm0:SV.sm (⟨mo,po,inp,some aJ,lj.length,m2,rd,wr,pv,pK,cK,ln,pP,cP,m⟩:SV):=⟨hm_i,(by show smL 1000000 (m2.map JV.d); rw [hmm2]; exact hm_j),hm_k,(by show m.length<=_; omega),hTK.le,(by show m2.length<=lj.length; omega),hTL1.le⟩;exact ⟨(⟨mo,po,inp,some aJ,lj.length,m2,rd,wr,pv,pK,cK,ln,pP,cP,m⟩:SV),_,hd0,hsm0,(show _=Ending.returned (.agg #[Z mo,Z po,Y inp,.slice (some aJ) m2.length lj.length,Z rd,Z wr,Z pv,.slice pK ln.length cK,.slice pP m.length cP]) from by rw [hml2,hmlen]; rfl),((Ow.subP (A:=[_,_]) O (.cons _ (.cons _ .slnil)))).to (sO _),hok0⟩
 have hS:=O.pk [0];refine rT (.q 0 (.q 3 (.m 1 (.m 2 (.m 4 (.q 6 (.m 5 (.m 7 (.q 8 (.m 9 .fin .non)) .non) .non)) .non) (.m 4 (.m 2 (.q 6 (.m 5 (.m 7 (.q 8 (.m 9 .fin .non)) .non) .non)) .non) .non)) (.m 4 (.m 1 (.m 2 (.q 6 (.m 5 (.m 7 (.q 8 (.m 9 .fin .non)) .non) .non)) .non) .non) .non)))) hS ?_;intro w26 ho; replace O:=O.st ho; clear ho;refine A2 (t1:= .m 2 (.q 6 (.m 5 (.m 7 (.q 8 (.m 9 .fin .non)) .non) .non)) .non) (fun J W=>Holds 82 [] J [(1,pt b1),(2,pt b2),(10,.slice pn ln.length kn),(13,.slice pp lp.length kp)]/\Ow sA Ai w W [(b2,39,(cS 0 0 (⟨#[]⟩:ByteArray) none 0 0 0 0 0 none 0 0 none 0 0)),(b1,39,(cS mo po inp pj lj.length kj rd wr pv pn ln.length kn pp lp.length kp))]/\True) ?_ ?_
 · rintro J w27 ⟨V,O,-⟩;refine Af ?_ ?_
   · replace O:Ow sA Ai w w27 [(b2,39,(cS 0 0 (⟨#[]⟩:ByteArray) none 0 0 0 0 0 none 0 0 none 0 0)),(b1,39,(cS mo po inp pj lj.length kj rd wr pv pn ln.length kn pp lp.length kp))]:=O;refine (mC (d:=(some 11)) V Tryz.func58 ((Hi pn kn ln _ (hv_k.keep O.only) (by omega)).mono ?_));rintro en w28 ⟨p4,c4,T8,rfl,hT8,hW⟩;refine ⟨_,rfl,?_⟩;clear V J; intro J V;replace O:Ow sA Ai w _ ([(b2,39,(cS 0 0 (⟨#[]⟩:ByteArray) none 0 0 0 0 0 none 0 0 none 0 0)),(b1,39,(cS mo po inp pj lj.length kj rd wr pv pn ln.length kn pp lp.length kp))]++[]):=O.to (sN _).symm;replace O:=Ow.join O hW; clear hW;replace O:Ow sA Ai w _ ([(b2,39,(cS 0 0 (⟨#[]⟩:ByteArray) none 0 0 0 0 0 none 0 0 none 0 0)),(b1,39,(cS mo po inp pj lj.length kj rd wr pv pn ln.length kn pp lp.length kp))]++(T8++([]))):=O.to (by first | rfl | (simp only [TP,apd]));refine ⟨(O.sub [0]),?_⟩;refine Kt [6] [(15,pf b1 7)] V [] c0 ?_;clear V J; intro J V;refine Af ?_ ?_
     · replace O:Ow sA Ai w w28 ([(b2,39,(cS 0 0 (⟨#[]⟩:ByteArray) none 0 0 0 0 0 none 0 0 none 0 0)),(b1,39,(cS mo po inp pj lj.length kj rd wr pv pn ln.length kn pp lp.length kp))]++(T8++([]))):=O;refine (mC (d:=(some 14)) V Tryz.func59 ((F4 pp kp lp _ (hv_p.keep O.only).1 (by omega)).mono ?_));rintro en w29 ⟨p5,c5,T9,rfl,hT9,hW⟩;refine ⟨_,rfl,?_⟩;clear V J; intro J V;replace O:=Ow.join O hW; clear hW;replace O:Ow sA Ai w _ ([(b2,39,(cS 0 0 (⟨#[]⟩:ByteArray) none 0 0 0 0 0 none 0 0 none 0 0)),(b1,39,(cS mo po inp pj lj.length kj rd wr pv pn ln.length kn pp lp.length kp))]++(T8++(T9++([])))):=O.to (by first | rfl | (simp only [TP,apd]));refine ⟨(O.sub [0]),?_⟩;refine Af ?_ ?_
       · refine (mS (off:=7) (vc:=[.slice p4 ln.length c4]) 1 V O ?_);clear O; intro w30 O;refine ⟨(O.sub [0]),?_⟩;refine Kt [8] [(16,pf b1 8)] V [] c0 ?_;clear V J; intro J V;refine Af ?_ ?_
         · refine (mS (off:=8) (vc:=[.slice p5 lp.length c5]) 1 V O ?_);clear O; intro w31 O;refine ⟨(O.sub [0]),?_⟩;refine Ay ?_;replace O:Ow sA Ai w w31 ([(b2,39,(cS 0 0 (⟨#[]⟩:ByteArray) none 0 0 0 0 0 none 0 0 none 0 0)),(b1,39,(cS mo po inp pj lj.length kj rd wr pv p4 ln.length c4 p5 lp.length c5))]++(T8++(T9++([])))):=O;exact Aa (⟨p4,c4,T8,p5,c5,T9,V.sb,O,hT8,hT9,trivial⟩)
         exact trivial
       exact trivial
     exact trivial
   exact trivial
 intro ht2;refine Kt [0,3] [(9,pf b1 7),(12,pf b1 8)] V [] c0 ?_;clear V J; intro J V;refine Af ?_ ?_
 · refine (Qc [(10,.slice pn ln.length kn)] V [.slice pn ln.length kn] (cc (O.l1 1 7 33 (.slice pn ln.length kn)) c0) ?_);clear V J; intro J V;refine ⟨(O.sub [0]),?_⟩;refine Af ?_ ?_
   · replace O:Ow sA Ai w w26 [(b2,39,(cS 0 0 (⟨#[]⟩:ByteArray) none 0 0 0 0 0 none 0 0 none 0 0)),(b1,39,(cS mo po inp pj lj.length kj rd wr pv pn ln.length kn pp lp.length kp))]:=O;refine (mC (d:=(some 11)) V Tryz.func58 ((Hi pn kn ln _ (hv_k.keep O.only) (by omega)).mono ?_));rintro en w32 ⟨p6,c6,T10,rfl,hT10,hW⟩;refine ⟨_,rfl,?_⟩;clear V J; intro J V;replace O:Ow sA Ai w _ ([(b2,39,(cS 0 0 (⟨#[]⟩:ByteArray) none 0 0 0 0 0 none 0 0 none 0 0)),(b1,39,(cS mo po inp pj lj.length kj rd wr pv pn ln.length kn pp lp.length kp))]++[]):=O.to (sN _).symm;replace O:=Ow.join O hW; clear hW;replace O:Ow sA Ai w _ ([(b2,39,(cS 0 0 (⟨#[]⟩:ByteArray) none 0 0 0 0 0 none 0 0 none 0 0)),(b1,39,(cS mo po inp pj lj.length kj rd wr pv pn ln.length kn pp lp.length kp))]++(T10++([]))):=O.to (by first | rfl | (simp only [TP,apd]));refine ⟨(O.sub [0]),?_⟩;refine Af ?_ ?_
     · refine (Qc [(13,.slice pp lp.length kp)] V [.slice pp lp.length kp] (cc (O.l1 1 8 37 (.slice pp lp.length kp)) c0) ?_);clear V J; intro J V;refine ⟨(O.sub [0]),?_⟩;refine Kt [6] [(15,pf b1 7)] V [] c0 ?_;clear V J; intro J V;refine Af ?_ ?_
       · replace O:Ow sA Ai w w32 ([(b2,39,(cS 0 0 (⟨#[]⟩:ByteArray) none 0 0 0 0 0 none 0 0 none 0 0)),(b1,39,(cS mo po inp pj lj.length kj rd wr pv pn ln.length kn pp lp.length kp))]++(T10++([]))):=O;refine (mC (d:=(some 14)) V Tryz.func59 ((F4 pp kp lp _ (hv_p.keep O.only).1 (by omega)).mono ?_));rintro en w33 ⟨p7,c7,T11,rfl,hT11,hW⟩;refine ⟨_,rfl,?_⟩;clear V J; intro J V;replace O:=Ow.join O hW; clear hW;replace O:Ow sA Ai w _ ([(b2,39,(cS 0 0 (⟨#[]⟩:ByteArray) none 0 0 0 0 0 none 0 0 none 0 0)),(b1,39,(cS mo po inp pj lj.length kj rd wr pv pn ln.length kn pp lp.length kp))]++(T10++(T11++([])))):=O.to (by first | rfl | (simp only [TP,apd]));refine ⟨(O.sub [0]),?_⟩;refine Af ?_ ?_
         · refine (mS (off:=7) (vc:=[.slice p6 ln.length c6]) 1 V O ?_);clear O; intro w34 O;refine ⟨(O.sub [0]),?_⟩;refine Kt [8] [(16,pf b1 8)] V [] c0 ?_;clear V J; intro J V;refine Af ?_ ?_
           · refine (mS (off:=8) (vc:=[.slice p7 lp.length c7]) 1 V O ?_);clear O; intro w35 O;refine ⟨(O.sub [0]),?_⟩;refine Ay ?_;replace O:Ow sA Ai w w35 ([(b2,39,(cS 0 0 (⟨#[]⟩:ByteArray) none 0 0 0 0 0 none 0 0 none 0 0)),(b1,39,(cS mo po inp pj lj.length kj rd wr pv p6 ln.length c6 p7 lp.length c7))]++(T10++(T11++([])))):=O;exact Aa (⟨p6,c6,T10,p7,c7,T11,V.sb,O,hT10,hT11,trivial⟩)
           exact trivial
         exact trivial
       exact trivial
     exact trivial
   refine Af ?_ ?_
   · refine (Qc [(13,.slice pp lp.length kp)] V [.slice pp lp.length kp] (cc (O.l1 1 8 37 (.slice pp lp.length kp)) c0) ?_);clear V J; intro J V;refine ⟨(O.sub [0]),?_⟩;exact ht2 _ _ ⟨V.sb,O.to,trivial⟩
   exact trivial
 refine Af ?_ ?_
 · refine (Qc [(13,.slice pp lp.length kp)] V [.slice pp lp.length kp] (cc (O.l1 1 8 37 (.slice pp lp.length kp)) c0) ?_);clear V J; intro J V;refine ⟨(O.sub [0]),?_⟩;refine Af ?_ ?_
   · refine (Qc [(10,.slice pn ln.length kn)] V [.slice pn ln.length kn] (cc (O.l1 1 7 33 (.slice pn ln.length kn)) c0) ?_);clear V J; intro J V;refine ⟨(O.sub [0]),?_⟩;exact ht2 _ _ ⟨V.sb,O.to,trivial⟩
   exact trivial
 exact trivial
theorem dE (pb:Nat) (mo po:Int) (inp:ByteArray) (pj:Option Addr) (kj:Nat) (lj:List JV) (rd wr pv:Int) (pn:Option Addr) (kn:Nat) (ln:List Int) (pp:Option Addr) (kp:Nat) (lp:List PV) (T:OwL) (result:Int) (dp:Option Addr) (cd:Nat) (dl:List Int) (w:World) (hG:Ah T (SV.ok (⟨mo,po,inp,pj,kj,lj,rd,wr,pv,pn,kn,ln,pp,kp,lp⟩:SV))) (h0:Ow sA (inT ((pb,39,cS mo po inp pj lj.length kj rd wr pv pn ln.length kn pp lp.length kp)::T)) w w ((pb,39,cS mo po inp pj lj.length kj rd wr pv pn ln.length kn pp lp.length kp)::T)) (hm:SV.sm (⟨mo,po,inp,pj,kj,lj,rd,wr,pv,pn,kn,ln,pp,kp,lp⟩:SV)) (hv:Br (SV.d (⟨mo,po,inp,pj,kj,lj,rd,wr,pv,pn,kn,ln,pp,kp,lp⟩:SV))=true) (hE : ∀ w',Only (inT ((pb,39,cS mo po inp pj lj.length kj rd wr pv pn ln.length kn pp lp.length kp)::T)) w w'->ErrOk w') (hrn : -9223372036854775808<=result) (hrx:result<=9223372036854775807) (hvd : ∀ w',Only (inT ((pb,39,cS mo po inp pj lj.length kj rd wr pv pn ln.length kn pp lp.length kp)::T)) w w'->Vw fB w' (.slice dp dl.length cd) dl) (hud:U8s dl) (hdl:dl.length<=1000000) (hcd:dl.length<=cd):Calls sA 30 #[pt pb,Z result,.slice dp dl.length cd] w fun e w'=>∃ (v:SV) (x:PV) (Tn:OwL),Bb (SV.d (⟨mo,po,inp,pj,kj,lj,rd,wr,pv,pn,kn,ln,pp,kp,lp⟩:SV)) result dl=(v.d,x.d)/\v.sm/\Aq (v.lj.map JV.d)=true/\e = .returned (.agg #[Z x.d.call,Z x.d.a0,Z x.d.a1,Z x.d.a2,.slice x.p x.d.data.length x.c])/\Ow sA (inT ((pb,39,cS mo po inp pj lj.length kj rd wr pv pn ln.length kn pp lp.length kp)::T)) w w' ((pb,39,v.cells)::(T++Tn))/\Ah (T++Tn) v.ok/\Ah (T++Tn) (fun w=>VP w x):=by
 obtain ⟨hb,hmo,hpl,hps,hjb⟩:=(En _).1 hv;have hvl:Aq (lj.map JV.d)=true:=hb.jobs;have hkn:ln.length<=1000:=by have:ln.length<=16:=hb.kids.len; omega
 have hlen:lp.length<=12:=by have:(lp.map PV.d).length<=12:=hb.len; rwa [sG] at this
 have hpl' : 0 < lp.length↔(mo=2\/mo=6):=by have : 0 < (lp.map PV.d).length↔(mo=2\/mo=6):=hpl; rwa [sG] at this
 have hp0 : ¬ (mo=2\/mo=6)->lp.length=0:=fun q=>by
  rcases Nat.eq_zero_or_pos lp.length with e | e
  · exact e
  · exact absurd (hpl'.1 e) q
 have hmo' : 0<=mo/\mo<=7:=hmo;have hin:inp.size<=300:=hb.inp;rcases (show mo=0\/mo=1\/mo=2\/mo=3\/mo=4\/mo=5\/mo=6\/mo=7 by omega) with h | h | h | h | h | h | h | h
 · exact pT pb mo po inp pj kj lj rd wr pv pn kn ln pp kp lp T result dp cd dl w hG h0 hm hvl hE h hrn hrx
 · exact pS pb mo po inp pj kj lj rd wr pv pn kn ln pp kp lp T result dp cd dl w hG h0 hm hvl hE h hrn hrx (hp0 (by omega)) hin hvd hud hdl hcd
 · have hok:=qG hG h0;cases lp with
   | nil=>exact absurd (hpl'.2 (.inl h)) (by simp)
   | cons x rp =>
    obtain ⟨qp,qc,qd⟩:=x;obtain ⟨ap,rfl⟩:=hok.p.1.pos (sU _);exact kF pb mo po inp pj kj lj rd wr pv pn kn ln ap kp qp qc qd rp T result dp cd dl w hG h0 hm hvl hE h hrn hrx (by rw [sE] at hlen; omega)
 · exact pR pb mo po inp pj kj lj rd wr pv pn kn ln pp kp lp T result dp cd dl w hG h0 hm hvl hE h hrn hrx (hp0 (by omega))
 · exact pQ pb mo po inp pj kj lj rd wr pv pn kn ln pp kp lp T result dp cd dl w hG h0 hm hvl hE h hrn hrx (hp0 (by omega)) ⟨hb.pos.1,hps (.inr h)⟩ hkn
 · exact pN pb mo po inp pj kj lj rd wr pv pn kn ln pp kp lp T result dp cd dl w hG h0 hm hvl hE h hrn hrx hkn
 · exact pM pb mo po inp pj kj lj rd wr pv pn kn ln pp kp lp T result dp cd dl w hG h0 hm hvl hE h hrn hrx (hpl'.2 (.inr h)) hlen
 · exact pL pb mo po inp pj kj lj rd wr pv pn kn ln pp kp lp T result dp cd dl w hG h0 hm hvl hE h hrn hrx
theorem J2 {c:CallL} (h:okC c=true):c.data.length<=128:=by
 rw [Dp] at h;exact (rV h).2.2.2.2
theorem lB {lp:List PV} (h : ∀ c∈lp.map PV.d,okC c=true) : ∀ x∈lp,x.d.data.length<=1000000:=fun x hx=>by
 have:=J2 (h _ (List.mem_map.2 ⟨x,hx,rfl⟩));omega
set_option maxHeartbeats 4000000 in
theorem jH (mo po:Int) (inp:ByteArray) (pj:Option Addr) (kj:Nat) (lj:List JV) (rd wr pv:Int) (pn:Option Addr) (kn:Nat) (ln:List Int) (pp:Option Addr) (kp:Nat) (lp:List PV) (result:Int) (dp:Option Addr) (cd:Nat) (dl:List Int) (w:World) (hs:SV.ok (⟨mo,po,inp,pj,kj,lj,rd,wr,pv,pn,kn,ln,pp,kp,lp⟩:SV) w) (hm:SV.sm (⟨mo,po,inp,pj,kj,lj,rd,wr,pv,pn,kn,ln,pp,kp,lp⟩:SV)) (hvd:Vw fB w (.slice dp dl.length cd) dl) (hud:U8s dl) (hdl:dl.length<=1000000) (hcd:dl.length<=cd) (hE:ErrOk w) (hrn : -9223372036854775808<=result) (hrx:result<=9223372036854775807) :
 Calls sA 16 #[.agg #[Z mo,Z po,Y inp,.slice pj lj.length kj,Z rd,Z wr,Z pv,.slice pn ln.length kn,.slice pp lp.length kp],Z result,.slice dp dl.length cd] w fun e w'=>∃ (v:SV) (x:PV) (T:OwL),Bf (SV.d (⟨mo,po,inp,pj,kj,lj,rd,wr,pv,pn,kn,ln,pp,kp,lp⟩:SV)) result dl=(v.d,x.d)/\v.sm/\e = .returned (.tuple #[.agg #[Z v.mo,Z v.po,Y v.inp,.slice v.pj v.lj.length v.cj,Z v.rd,Z v.wr,Z v.pv,.slice v.pc v.lc.length v.cc,.slice v.pp v.lp.length v.cp],.agg #[Z x.d.call,Z x.d.a0,Z x.d.a1,Z x.d.a2,.slice x.p x.d.data.length x.c]])/\Ow sA Ai w w' T/\Ah T v.ok/\Ah T (fun w=>VP w x):=by
 refine Ao (args:=[.agg #[Z mo,Z po,Y inp,.slice pj lj.length kj,Z rd,Z wr,Z pv,.slice pn ln.length kn,.slice pp lp.length kp],Z result,.slice dp dl.length cd]) (m:=25) (n:=28) Tryz.func16 rfl (by kernel_rfl) (by kernel_rfl) fun J V=>?_;have O:=Ow.nil sA Ai w;refine sr 3 (Mn (cS mo po inp pj lj.length kj rd wr pv pn ln.length kn pp lp.length kp) 39 3 V O fun J w1 pb V O=>Mn (cS 0 0 (⟨#[]⟩:ByteArray) none 0 0 0 0 0 none 0 0 none 0 0) 39 6 V O fun J w2 b1 V O=>Mn [Z 0,Z 0,Z 0,Z 0,.slice none 0 0] 43 7 V O fun J w3 b2 V O=>Ab (Aa (wp_seq (sr 3 (Kb 1 [(9,.agg #[Z mo,Z po,Y inp,.slice pj lj.length kj,Z rd,Z wr,Z pv,.slice pn ln.length kn,.slice pp lp.length kp])] V [.agg #[Z mo,Z po,Y inp,.slice pj lj.length kj,Z rd,Z wr,Z pv,.slice pn ln.length kn,.slice pp lp.length kp]] (cc (O.ln 2 0 39 (cS mo po inp pj lj.length kj rd wr pv pn ln.length kn pp lp.length kp)) c0) fun J V=>Mk 10 V O Tryz.func22 (Np mo po inp pj kj lj rd wr pv pn kn ln pp kp lp _ (hs.keep O.only) hm) fun J w4 V O=>Ka 1 [(11,I (!(Br (SV.d (⟨mo,po,inp,pj,kj,lj,rd,wr,pv,pn,kn,ln,pp,kp,lp⟩:SV)))))] V fun J V=>Ab (Aa ?_))))));rcases rU (Br (SV.d (⟨mo,po,inp,pj,kj,lj,rd,wr,pv,pn,kn,ln,pp,kp,lp⟩:SV))) with h1 | h1
 · rw [h1] at V;have hbv:=((En _).1 h1).1;refine cF V (wp_skip (Aa (sr 3 (Kb 1 [(17,.agg #[Z mo,Z po,Y inp,.slice pj lj.length kj,Z rd,Z wr,Z pv,.slice pn ln.length kn,.slice pp lp.length kp])] V [.agg #[Z mo,Z po,Y inp,.slice pj lj.length kj,Z rd,Z wr,Z pv,.slice pn ln.length kn,.slice pp lp.length kp]] (cc (O.ln 2 0 39 (cS mo po inp pj lj.length kj rd wr pv pn ln.length kn pp lp.length kp)) c0) fun J V=>Ag (mC (d:=(some 18)) V Tryz.func29 ((X6 mo po inp pj kj lj rd wr pv pn kn ln pp kp lp _ (hs.keep O.only) hm hbv.jobs (lB hbv.plan)).mono ?_))))));rintro en w5 ⟨⟨mo2,po2,inp2,pj2,kj2,lj2,rd2,wr2,pv2,pn2,kn2,ln2,pp2,kp2,lp2⟩,T0,hd2,hsm2,rfl,hW,hG0⟩;refine ⟨_,rfl,?_⟩;clear V J; intro J V;replace O:Ow sA Ai w _ ([(b2,43,[Z 0,Z 0,Z 0,Z 0,.slice none 0 0]),(b1,39,(cS 0 0 (⟨#[]⟩:ByteArray) none 0 0 0 0 0 none 0 0 none 0 0)),(pb,39,(cS mo po inp pj lj.length kj rd wr pv pn ln.length kn pp lp.length kp))]++[]):=O.to (sN _).symm;replace O:=Ow.join O hW; clear hW;replace O:Ow sA Ai w _ ([(b2,43,[Z 0,Z 0,Z 0,Z 0,.slice none 0 0]),(b1,39,(cS 0 0 (⟨#[]⟩:ByteArray) none 0 0 0 0 0 none 0 0 none 0 0)),(pb,39,(cS mo po inp pj lj.length kj rd wr pv pn ln.length kn pp lp.length kp))]++(T0++([]))):=O.to (by first | rfl | (simp only [TP,apd]));refine Ms 0 (cS mo2 po2 inp2 pj2 lj2.length kj2 rd2 wr2 pv2 pn2 ln2.length kn2 pp2 lp2.length kp2) 2 V O fun w6 O=>Ab (Aa (sr 5 (Ka 2 [(19,Z result),(20,.slice dp dl.length cd)] V fun J V=>?_)))
   replace O:Ow sA Ai w w6 ([(b2,43,[Z 0,Z 0,Z 0,Z 0,.slice none 0 0]),(b1,39,(cS 0 0 (⟨#[]⟩:ByteArray) none 0 0 0 0 0 none 0 0 none 0 0)),(pb,39,(cS mo2 po2 inp2 pj2 lj2.length kj2 rd2 wr2 pv2 pn2 ln2.length kn2 pp2 lp2.length kp2))]++(T0++([]))):=O;refine Ag (mC (d:=(some 21)) V Tryz.func30 ((dE pb mo2 po2 inp2 pj2 kj2 lj2 rd2 wr2 pv2 pn2 kn2 ln2 pp2 kp2 lp2 T0 result dp cd dl _ hG0 (Cm (A:=[_,_]) (O.tt:Ow sA Ai w _ (([(b2,43,[Z 0,Z 0,Z 0,Z 0,.slice none 0 0]),(b1,39,(cS 0 0 (⟨#[]⟩:ByteArray) none 0 0 0 0 0 none 0 0 none 0 0))]++[(pb,39,cS mo2 po2 inp2 pj2 lj2.length kj2 rd2 wr2 pv2 pn2 ln2.length kn2 pp2 lp2.length kp2)])++(T0++[])))) hsm2 (by rw [hd2]; assumption) (fun w_ k_=>hE.keep (Ow.pan (A:=[_,_]) ((O.tt:Ow sA Ai w _ (([(b2,43,[Z 0,Z 0,Z 0,Z 0,.slice none 0 0]),(b1,39,(cS 0 0 (⟨#[]⟩:ByteArray) none 0 0 0 0 0 none 0 0 none 0 0))]++[(pb,39,cS mo2 po2 inp2 pj2 lj2.length kj2 rd2 wr2 pv2 pn2 ln2.length kn2 pp2 lp2.length kp2)])++(T0++[]))).tt) k_)) hrn hrx (fun w_ k_=>hvd.keep (Ow.pan (A:=[_,_]) ((O.tt:Ow sA Ai w _ (([(b2,43,[Z 0,Z 0,Z 0,Z 0,.slice none 0 0]),(b1,39,(cS 0 0 (⟨#[]⟩:ByteArray) none 0 0 0 0 0 none 0 0 none 0 0))]++[(pb,39,cS mo2 po2 inp2 pj2 lj2.length kj2 rd2 wr2 pv2 pn2 ln2.length kn2 pp2 lp2.length kp2)])++(T0++[]))).tt) k_)) hud hdl hcd).mono ?_));rintro en w7 ⟨⟨mo3,po3,inp3,pj3,kj3,lj3,rd3,wr3,pv3,pn3,kn3,ln3,pp3,kp3,lp3⟩,⟨xp3,xc3,xd3⟩,Tn3,hr3,hsm3,hvl3,rfl,hW,hG3,hx3⟩;refine ⟨_,rfl,?_⟩;clear V J; intro J V
   replace O:=Cx (A:=[(b2,43,[Z 0,Z 0,Z 0,Z 0,.slice none 0 0]),(b1,39,(cS 0 0 (⟨#[]⟩:ByteArray) none 0 0 0 0 0 none 0 0 none 0 0))]) (B:=[]) (T:=T0) (Tn:=Tn3) (x':=(pb,39,cS mo3 po3 inp3 pj3 lj3.length kj3 rd3 wr3 pv3 pn3 ln3.length kn3 pp3 lp3.length kp3)) (O.to (by simp only [sH,List.cons_append,sO]):Ow sA Ai w _ (([(b2,43,[Z 0,Z 0,Z 0,Z 0,.slice none 0 0]),(b1,39,(cS 0 0 (⟨#[]⟩:ByteArray) none 0 0 0 0 0 none 0 0 none 0 0))]++[(pb,39,cS mo2 po2 inp2 pj2 lj2.length kj2 rd2 wr2 pv2 pn2 ln2.length kn2 pp2 lp2.length kp2)])++(T0++[]))) hW; clear hW;replace O:Ow sA Ai w _ ([(b2,43,[Z 0,Z 0,Z 0,Z 0,.slice none 0 0]),(b1,39,(cS 0 0 (⟨#[]⟩:ByteArray) none 0 0 0 0 0 none 0 0 none 0 0)),(pb,39,(cS mo3 po3 inp3 pj3 lj3.length kj3 rd3 wr3 pv3 pn3 ln3.length kn3 pp3 lp3.length kp3))]++((T0++Tn3)++([]))):=O.to (by first | rfl | (simp only [TP,apd]));refine Mn [Z 0,Z 0,Z 0,Z 0,.slice none 0 0] 43 8 V O fun J w8 b3 V O=>Ms 0 [Z xd3.call,Z xd3.a0,Z xd3.a1,Z xd3.a2,.slice xp3 xd3.data.length xc3] 0 V O fun w9 O=>Ab (Aa (sr 5 (Kb 2 [(23,.slice xp3 xd3.data.length xc3)] V [.slice xp3 xd3.data.length xc3] (cc (O.l1 0 4 41 (.slice xp3 xd3.data.length xc3)) c0) fun J V=>?_)));have hgd:=B8 (SV.d (⟨mo,po,inp,pj,kj,lj,rd,wr,pv,pn,kn,ln,pp,kp,lp⟩:SV)) result dl
   rw [show Bf (SV.d (⟨mo,po,inp,pj,kj,lj,rd,wr,pv,pn,kn,ln,pp,kp,lp⟩:SV)) result dl=(SV.d (⟨mo3,po3,inp3,pj3,kj3,lj3,rd3,wr3,pv3,pn3,kn3,ln3,pp3,kp3,lp3⟩:SV),xd3) from (by unfold Bf; rw [if_pos (by assumption),← hd2]; exact hr3)] at hgd;have hdl3:xd3.data.length<=128:=J2 hgd.2;replace O:Ow sA Ai w w9 ([(b3,43,[Z xd3.call,Z xd3.a0,Z xd3.a1,Z xd3.a2,.slice xp3 xd3.data.length xc3]),(b2,43,[Z 0,Z 0,Z 0,Z 0,.slice none 0 0]),(b1,39,(cS 0 0 (⟨#[]⟩:ByteArray) none 0 0 0 0 0 none 0 0 none 0 0)),(pb,39,(cS mo3 po3 inp3 pj3 lj3.length kj3 rd3 wr3 pv3 pn3 ln3.length kn3 pp3 lp3.length kp3))]++((T0++Tn3)++([]))):=O;have hud3:U8s xd3.data:=(Ah.at (A:=[_,_,_,_]) (hx3.tt) (O.tt:Ow sA Ai w _ ([(b3,43,[Z xd3.call,Z xd3.a0,Z xd3.a1,Z xd3.a2,.slice xp3 xd3.data.length xc3]),(b2,43,[Z 0,Z 0,Z 0,Z 0,.slice none 0 0]),(b1,39,(cS 0 0 (⟨#[]⟩:ByteArray) none 0 0 0 0 0 none 0 0 none 0 0)),(pb,39,(cS mo3 po3 inp3 pj3 lj3.length kj3 rd3 wr3 pv3 pn3 ln3.length kn3 pp3 lp3.length kp3))]++((T0++Tn3)++([])++[]))).m).2;replace O:Ow sA Ai w w9 ([(b3,43,[Z xd3.call,Z xd3.a0,Z xd3.a1,Z xd3.a2,.slice xp3 xd3.data.length xc3]),(b2,43,[Z 0,Z 0,Z 0,Z 0,.slice none 0 0]),(b1,39,(cS 0 0 (⟨#[]⟩:ByteArray) none 0 0 0 0 0 none 0 0 none 0 0)),(pb,39,(cS mo3 po3 inp3 pj3 lj3.length kj3 rd3 wr3 pv3 pn3 ln3.length kn3 pp3 lp3.length kp3))]++((T0++Tn3)++([]))):=O
   refine Ag (mC (d:=(some 24)) V Tryz.func31 ((O3 xp3 xc3 xd3.data _ (Ah.at (A:=[_,_,_,_]) (hx3.tt) (O.tt:Ow sA Ai w _ ([(b3,43,[Z xd3.call,Z xd3.a0,Z xd3.a1,Z xd3.a2,.slice xp3 xd3.data.length xc3]),(b2,43,[Z 0,Z 0,Z 0,Z 0,.slice none 0 0]),(b1,39,(cS 0 0 (⟨#[]⟩:ByteArray) none 0 0 0 0 0 none 0 0 none 0 0)),(pb,39,(cS mo3 po3 inp3 pj3 lj3.length kj3 rd3 wr3 pv3 pn3 ln3.length kn3 pp3 lp3.length kp3))]++((T0++Tn3)++([])++[]))).m).1 (by omega) (Ah.at (A:=[_,_,_,_]) (hx3.tt) (O.tt:Ow sA Ai w _ ([(b3,43,[Z xd3.call,Z xd3.a0,Z xd3.a1,Z xd3.a2,.slice xp3 xd3.data.length xc3]),(b2,43,[Z 0,Z 0,Z 0,Z 0,.slice none 0 0]),(b1,39,(cS 0 0 (⟨#[]⟩:ByteArray) none 0 0 0 0 0 none 0 0 none 0 0)),(pb,39,(cS mo3 po3 inp3 pj3 lj3.length kj3 rd3 wr3 pv3 pn3 ln3.length kn3 pp3 lp3.length kp3))]++((T0++Tn3)++([])++[]))).m).2).mono ?_));rintro en w10 ⟨p1,c1,T1,rfl,hT1,hW⟩;refine ⟨_,rfl,?_⟩;clear V J; intro J V;replace O:=Ow.join O hW; clear hW;replace O:Ow sA Ai w _ ([(b3,43,[Z xd3.call,Z xd3.a0,Z xd3.a1,Z xd3.a2,.slice xp3 xd3.data.length xc3]),(b2,43,[Z 0,Z 0,Z 0,Z 0,.slice none 0 0]),(b1,39,(cS 0 0 (⟨#[]⟩:ByteArray) none 0 0 0 0 0 none 0 0 none 0 0)),(pb,39,(cS mo3 po3 inp3 pj3 lj3.length kj3 rd3 wr3 pv3 pn3 ln3.length kn3 pp3 lp3.length kp3))]++((T0++Tn3)++(T1++([])))):=O.to (by first | rfl | (simp only [TP,apd]));refine Ka 1 [(25,pf b3 4)] V fun J V=>Ms 4 [.slice p1 xd3.data.length c1] 0 V O fun w11 O=>Ab (Aa (wp_seq ?_))
   have hS:Ow sA Ai w _ [(b3,43,[Z xd3.call,Z xd3.a0,Z xd3.a1,Z xd3.a2,.slice p1 xd3.data.length c1]),(pb,39,(cS mo3 po3 inp3 pj3 lj3.length kj3 rd3 wr3 pv3 pn3 ln3.length kn3 pp3 lp3.length kp3))]:=O.sub [0,3];refine rP [(0,true),(1,true),(2,false),(3,false)] hS ?_;intro w12 ho; replace O:=O.st ho; clear ho;refine Ke 2 [(26,.agg #[Z mo3,Z po3,Y inp3,.slice pj3 lj3.length kj3,Z rd3,Z wr3,Z pv3,.slice pn3 ln3.length kn3,.slice pp3 lp3.length kp3]),(27,.agg #[Z xd3.call,Z xd3.a0,Z xd3.a1,Z xd3.a2,.slice p1 xd3.data.length c1])] V [.agg #[Z mo3,Z po3,Y inp3,.slice pj3 lj3.length kj3,Z rd3,Z wr3,Z pv3,.slice pn3 ln3.length kn3,.slice pp3 lp3.length kp3],.agg #[Z xd3.call,Z xd3.a0,Z xd3.a1,Z xd3.a2,.slice p1 xd3.data.length c1]] (cc (hS.sn 1 0 39 (cS mo3 po3 inp3 pj3 lj3.length kj3 rd3 wr3 pv3 pn3 ln3.length kn3 pp3 lp3.length kp3)) (cc (hS.sn 0 0 43 [Z xd3.call,Z xd3.a0,Z xd3.a1,Z xd3.a2,.slice p1 xd3.data.length c1]) c0)) fun J V=>Av (mS (off:=0) (vc:=(cS mo3 po3 inp3 pj3 lj3.length kj3 rd3 wr3 pv3 pn3 ln3.length kn3 pp3 lp3.length kp3)) 2 V O fun w13 O=>⟨(O.sub [0,3]),?_⟩);refine Av (mS (off:=0) (vc:=[Z xd3.call,Z xd3.a0,Z xd3.a1,Z xd3.a2,.slice p1 xd3.data.length c1]) 1 V O fun w14 O=>⟨(O.sub [0,3]),?_⟩)
   refine Ax (Aa (wp_ret (cR (cs:=[some (⟨b1,0,none⟩,39),some (⟨b2,0,none⟩,43)]) (us:=[.agg #[Z mo3,Z po3,Y inp3,.slice pj3 lj3.length kj3,Z rd3,Z wr3,Z pv3,.slice pn3 ln3.length kn3,.slice pp3 lp3.length kp3],.agg #[Z xd3.call,Z xd3.a0,Z xd3.a1,Z xd3.a2,.slice p1 xd3.data.length c1]]) V [.agg #[Z mo3,Z po3,Y inp3,.slice pj3 lj3.length kj3,Z rd3,Z wr3,Z pv3,.slice pn3 ln3.length kn3,.slice pp3 lp3.length kp3],.agg #[Z xd3.call,Z xd3.a0,Z xd3.a1,Z xd3.a2,.slice p1 xd3.data.length c1]] ⟨(O.ln 2 0 39 (cS mo3 po3 inp3 pj3 lj3.length kj3 rd3 wr3 pv3 pn3 ln3.length kn3 pp3 lp3.length kp3)),(O.ln 1 0 43 [Z xd3.call,Z xd3.a0,Z xd3.a1,Z xd3.a2,.slice p1 xd3.data.length c1]),trivial⟩ ?_)));replace O:Ow sA Ai w w14 ([(b3,43,[Z xd3.call,Z xd3.a0,Z xd3.a1,Z xd3.a2,.slice p1 xd3.data.length c1]),(b2,43,[Z xd3.call,Z xd3.a0,Z xd3.a1,Z xd3.a2,.slice p1 xd3.data.length c1]),(b1,39,(cS mo3 po3 inp3 pj3 lj3.length kj3 rd3 wr3 pv3 pn3 ln3.length kn3 pp3 lp3.length kp3)),(pb,39,(cS mo3 po3 inp3 pj3 lj3.length kj3 rd3 wr3 pv3 pn3 ln3.length kn3 pp3 lp3.length kp3))]++((T0++Tn3)++(T1++([])))):=O;have hok0:Ah ((T0++Tn3)++(T1++([]))) (SV.ok (⟨mo3,po3,inp3,pj3,kj3,lj3,rd3,wr3,pv3,pn3,kn3,ln3,pp3,kp3,lp3⟩:SV)):=(Ah.l (T':=T1++([])) hG3).tt;have hvx0:Ah ((T0++Tn3)++(T1++([]))) (fun w_=>VP w_ ⟨p1,c1,xd3⟩):=((hT1.holds.l.r).mono fun _ h_=>⟨h_,hud3⟩)
   have hst0:Bf (SV.d (⟨mo,po,inp,pj,kj,lj,rd,wr,pv,pn,kn,ln,pp,kp,lp⟩:SV)) result dl=(SV.d (⟨mo3,po3,inp3,pj3,kj3,lj3,rd3,wr3,pv3,pn3,kn3,ln3,pp3,kp3,lp3⟩:SV),xd3):=by unfold Bf; rw [if_pos (by assumption),← hd2]; exact hr3
   exact ⟨(⟨mo3,po3,inp3,pj3,kj3,lj3,rd3,wr3,pv3,pn3,kn3,ln3,pp3,kp3,lp3⟩:SV),⟨p1,c1,xd3⟩,_,hst0,hsm3,rfl,((Ow.subP (A:=[_,_,_,_]) O (.cons _ (.cons _ (.cons _ (.cons _ .slnil)))))).to (sO _),hok0,hvx0⟩
 rw [h1] at V;refine cT V (sr 2 (Mk 12 V O Tryz.func24 (M9 _) fun J w15 V O=>Ms 0 (cS 0 0 (⟨#[]⟩:ByteArray) none 0 0 (-1) (-1) (-1) none 0 0 none 0 0) 2 V O fun w16 O=>Ab (Aa (sr 2 (Ka 1 [(13,pt pb)] V fun J V=>Ms 0 [Z 7] 2 V O fun w17 O=>Ab (Aa (wp_seq ?_)))))));have hS:=O.pk [2];refine rP [(0,true),(1,false),(2,false),(3,false),(4,false)] hS ?_;intro w18 ho; replace O:=O.st ho; clear ho;refine Ke 1 [(14,.agg #[Z 7,Z 0,Y (⟨#[]⟩),.slice none 0 0,Z (-1),Z (-1),Z (-1),.slice none 0 0,.slice none 0 0])] V [.agg #[Z 7,Z 0,Y (⟨#[]⟩),.slice none 0 0,Z (-1),Z (-1),Z (-1),.slice none 0 0,.slice none 0 0]] (cc (hS.sn 0 0 39 (cS 7 0 (⟨#[]⟩:ByteArray) none 0 0 (-1) (-1) (-1) none 0 0 none 0 0)) c0) fun J V=>Av (mN (l:=[Z 254]) (t:=3) (v:=fun b=> .slice (some ⟨b,0,none⟩) 1 1) (d:=15) V O fun J w19 b4 V O=>⟨(O.sub [3]),?_⟩);refine Av (mK (d:=(some 16)) V O Tryz.func28 (Dj 0 254 ⟨b4,0,none⟩ 1 _ ((O.b 0).vw (off:=0) (xs:=[254]) (by kernel_rfl))) fun J w20 V O=>⟨(O.sub [3]),?_⟩);refine Av (mS (off:=0) (vc:=(cS 7 0 (⟨#[]⟩:ByteArray) none 0 0 (-1) (-1) (-1) none 0 0 none 0 0)) 2 V O fun w21 O=>⟨(O.sub [3]),?_⟩);refine Av (mS (off:=0) (vc:=[Z 0,Z 254,Z 0,Z 0,.slice none 0 0]) 1 V O fun w22 O=>⟨(O.sub [3]),?_⟩)
 exact Ax (Aa (wp_ret (Ad (cR (cs:=[some (⟨b1,0,none⟩,39),some (⟨b2,0,none⟩,43)]) (us:=[.agg #[Z 7,Z 0,Y (⟨#[]⟩),.slice none 0 0,Z (-1),Z (-1),Z (-1),.slice none 0 0,.slice none 0 0],.agg #[Z 0,Z 254,Z 0,Z 0,.slice none 0 0]]) V [.agg #[Z 7,Z 0,Y (⟨#[]⟩),.slice none 0 0,Z (-1),Z (-1),Z (-1),.slice none 0 0,.slice none 0 0],.agg #[Z 0,Z 254,Z 0,Z 0,.slice none 0 0]] ⟨(O.ln 2 0 39 (cS 7 0 (⟨#[]⟩:ByteArray) none 0 0 (-1) (-1) (-1) none 0 0 none 0 0)),(O.ln 1 0 43 [Z 0,Z 254,Z 0,Z 0,.slice none 0 0]),trivial⟩ (⟨(⟨7,0,⟨#[]⟩,none,0,[],-1,-1,-1,none,0,[],none,0,[]⟩:SV),⟨none,0,Ap 0 254 0⟩,[],(by unfold Bf; rw [if_neg (by rw [h1]; decide)]; rfl),⟨by decide,⟨by decide,fun y hy=>absurd hy sL⟩,by decide,by decide,by decide,by decide,by decide⟩,rfl,(O.sub []),(fun _ _ _ _=>⟨⟨.inl ⟨rfl,rfl⟩,fun y hy=>absurd hy sL⟩,.inl ⟨rfl,rfl⟩,⟨.inl ⟨rfl,rfl⟩,fun y hy=>absurd hy sL⟩⟩),(fun _ _ _ _=>⟨.inl ⟨rfl,rfl⟩,fun y hy=>absurd hy sL⟩)⟩)))))
end Go.Proofs.YtdljjajjonfjbaaGreatDoor
namespace Go.Proofs.Sx
open Go Go.RowKit
def F7 {α:Type} (f : α->List Value) (e:TypeId) (sz:Nat) (p:Option Addr) (c:Nat) (l:List α) (T:OwL):Prop :=
 (p=none/\c=0/\l=[]/\T=[])\/∃ b pre r z,p=some ⟨b,pre.length,none⟩/\l.length<=c/\c<=maxLen/\(l.flatMap f++r).length=c*sz/\T=[(b,e,pre++((l.flatMap f++r)++z))]
section
variable {α:Type} {f : α->List Value} {e:TypeId} {sz:Nat} {p:Option Addr} {c:Nat} {l:List α} {T:OwL} {P:Program} {X:Nat->Prop} {w₀ w w':World}
theorem One.off (h:One f e sz p c l T):F7 f e sz p c l T:=by
 rcases h with ⟨rfl,rfl,rfl,rfl⟩ | ⟨b,r,rfl,h1,h2,h3,rfl⟩
 · exact .inl ⟨rfl,rfl,rfl,rfl⟩
 · exact .inr ⟨b,[],r,[],rfl,h1,h2,h3,by simp⟩
theorem F7.le (h:F7 f e sz p c l T):l.length<=c:=by
 rcases h with ⟨_,rfl,rfl,_⟩ | ⟨_,_,_,_,_,h,_⟩
 · exact Nat.le_refl _
 · exact h
theorem F7.vw (h:F7 f e sz p c l T) {A B:OwL} (O:OwM X w₀ w (A++(T++B))):Vw f w (.slice p l.length c) l:=by
 rcases h with ⟨rfl,rfl,rfl,rfl⟩ | ⟨b,pre,r,z,rfl,_,_,_,rfl⟩
 · exact .inl ⟨rfl,rfl⟩
 · refine .inr ⟨_,c,rfl,fun j u hj=>?_⟩
   rw [D4]
   have hB:=O.blk (b,e,pre++((l.flatMap f++r)++z)) (by simp)
   refine hB.cell ?_
   have hl:=(List.getElem?_eq_some_iff.1 hj).1
   rw [List.getElem?_append_right (by omega),Nat.add_sub_cancel_left,sH,List.getElem?_append_left hl]
   exact hj
theorem F7.tl {x : α} {ad:Addr} (E:Enc f sz) (h:F7 f e sz (some ad) c (x::l) T) (hc : 1 < c):F7 f e sz (some (ad.add sz)) (c - 1) l T:=by
 rcases h with ⟨h,_⟩ | ⟨b,pre,r,z,h,h1,h2,h3,rfl⟩
 · cases h
 · cases h
   rw [sE] at h1
   refine .inr ⟨b,pre++f x,r,z,?_,by omega,by omega,?_,?_⟩
   · rw [D4,sD,E.len]
   · rw [List.flatMap_cons,sH,sD,E.len] at h3
     have:(c - 1)*sz=c*sz - sz:=by rw [Nat.mul_comm,Nat.mul_sub_one,Nat.mul_comm]
     omega
   · rw [List.flatMap_cons]; simp
theorem F7.tl1 {x : α} {ad:Addr} (h:F7 f e sz (some ad) c (x::l) T) (hl:l.length=0):F7 f e sz (some ad) 0 l T:=by
 obtain rfl:=List.length_eq_zero_iff.1 hl
 rcases h with ⟨h,_⟩ | ⟨b,pre,r,z,h,h1,h2,h3,rfl⟩
 · cases h
 · cases h
   exact .inr ⟨b,pre,[],f x++(r++z),rfl,Nat.le_refl _,by omega,by simp,by simp⟩
theorem jB {t tx ty:TypeId} {i:TypeInfo} {z:Value} {bytes:Nat} (ht:P.underlying t=some (.slice e)) (hi:P.info? e=some i) (hz:i.zero=some z) (hsize:i.size=sz) (hby:i.bytes=bytes) (E:Enc f sz)
 {A B:OwL} (O:OwM X w₀ w (A++(T++B))) (h1:F7 f e sz p c l T) {x:Value} {l':List α} (hs:Src P sz tx x l'.length (l'.flatMap f) w)
 (h63:l.length+l'.length<=maxLen) (hb:(l.length+l'.length)*bytes<=140737488355328) (hzs:z.cells.size=sz) :
 ∃ p' c' T' w',(Builtin.append_ #[t,tx] ty #[.slice p l.length c,x]).run P w = .ok (.slice p' (l++l').length c') w'/\OwM X w₀ w' (A++(T'++B))/\F7 f e sz p' c' (l++l') T':=by
 rcases h1 with ⟨rfl,rfl,rfl,rfl⟩ | ⟨b,pre,r,q,rfl,hle,hcm,hlen,rfl⟩
 · obtain ⟨p',c',T',w',q1,q2,q3⟩:=Z9 (P:=P) ht hi hz hsize hby E O (.inl ⟨rfl,rfl,rfl,rfl⟩) hs h63 hb hzs (ty:=ty)
   exact ⟨p',c',T',w',q1,q2,q3.off⟩
 have hsm:((l.length+l'.length:Nat):Int)<=9223372036854775807:=by simp only [maxLen] at h63; omega
 rw [sD]
 by_cases h0:l'=[]
 · subst h0
   subst hsize
   refine ⟨some ⟨b,pre.length,none⟩,c,_,w,run_append_nothing w t tx ty e i ht hi _ l.length c hle x hs,O,by rw [sN]; exact .inr ⟨b,pre,r,q,rfl,hle,hcm,hlen,rfl⟩⟩
 have hB:Blk w b e (pre++((l.flatMap f++r)++q)):=O.blk (b,e,pre++((l.flatMap f++r)++q)) (by simp)
 by_cases hroom:l.length+l'.length<=c
 · have hfit0:l.length*sz+(l'.flatMap f).length<=(l.flatMap f++r).length:=by rw [hlen,E.flen,← Nat.add_mul]; exact Nat.mul_le_mul_right _ hroom
   have hfit:(pre.length+l.length*sz)+(l'.flatMap f).length<=(pre++((l.flatMap f++r)++q)).length:=by rw [sD,sD («as»:=l.flatMap f++r)]; omega
   obtain ⟨hst,hB'⟩:=hB.store (P:=P) (vs:=l'.flatMap f) (off:=pre.length+l.length*sz) hfit hs.one
   have hcells:Do (pre++((l.flatMap f++r)++q)) (pre.length+l.length*sz) (l'.flatMap f)=pre++(((l++l').flatMap f++(l.flatMap f++r).drop (l.length*sz+(l'.flatMap f).length))++q):=by
    rw [Sf (by rw [sD]; omega),Kq hfit0]
    unfold Do
    rw [← E.flen l,List.take_left,List.flatMap_append]
   rw [hcells] at hst hB'
   have hrun:(Builtin.append_ #[t,tx] ty #[.slice (some ⟨b,pre.length,none⟩) l.length c,x]).run P w = .ok (.slice (some ⟨b,pre.length,none⟩) (l.length+l'.length) c) (w.setRow b (pre++(((l++l').flatMap f++(l.flatMap f++r).drop (l.length*sz+(l'.flatMap f).length))++q)).toArray):=by
    subst hsize
    rcases hs.kind with ⟨e',hk⟩ | hk <;> simp [Builtin.append_,run_underlying ht,run_underlying hk,sizeOf,typeInfo,hi,hs.len,hroom,hs.cells,D4,hst]
   refine ⟨_,_,[(b,e,pre++(((l++l').flatMap f++(l.flatMap f++r).drop (l.length*sz+(l'.flatMap f).length))++q))],_,hrun,O.pass ⟨?_,fun y hy=>?_,List.pairwise_singleton _ _,fun y hy=>?_⟩,.inr ⟨b,pre,_,q,rfl,by rw [sD]; exact hroom,hcm,?_,rfl⟩⟩
   · exact ⟨rfl,rfl,rfl,by simp,fun k _ hn=>setRow_other w b k _ fun e'=>hn ⟨_,sM.2 rfl,e'.symm⟩⟩
   · rw [sM] at hy; subst hy
     exact hB'
   · rw [sM] at hy; subst hy
     exact .inr ⟨_,sM.2 rfl,rfl⟩
   · rw [sD,List.length_drop,E.flen,sD,hlen,Nat.add_mul,E.flen]
     rw [hlen,E.flen] at hfit0
     omega
 · have hf:(Builtin.firstCells i.size l.length (.slice (some ⟨b,pre.length,none⟩) l.length c)).run P w.drew = .ok (l.flatMap f).toArray w.drew :=
    run_firstCells_some (P:=P) w.drew i.size l.length ⟨b,pre.length,none⟩ l.length c (l.flatMap f) (by rw [hsize]; exact E.flen l) (fun j u hj=>by
     rw [D4]
     have hl:=(List.getElem?_eq_some_iff.1 hj).1
     have:w.cell? ⟨b,pre.length+j,none⟩=some u:=hB.cell (by
      rw [List.getElem?_append_right (by omega),Nat.add_sub_cancel_left,sH,List.getElem?_append_left hl]; exact hj)
     simpa using this)
   subst hsize; subst hby
   have hr:=run_append_grow_src (P:=P) w t tx ty e i z ht hi hz (some ⟨b,pre.length,none⟩) l.length c _ hf x _ _ hs (by omega) hsm (growslice_fits (by omega) hb)
   have hge:=grownCap_ge w (l.length+l'.length) c e
   have hlast:OwM (inT [(b,e,pre++((l.flatMap f++r)++q))]) w (w.drew.alloc (.cells ((l.flatMap f++l'.flatMap f).toArray++Builtin.zeroCells z.cells (grownCap w (l.length+l'.length) c e - (l.length+l'.length))) e))
    [(w.heap.size,e,(l++l').flatMap f++(Builtin.zeroCells z.cells (grownCap w (l.length+l'.length) c e - (l.length+l'.length))).toList)]:=by
    refine ⟨⟨rfl,rfl,rfl,by simp,fun k hk _=>by first | exact heap_alloc_old w.drew _ hk | exact heap_alloc_old w.drew _ k hk⟩,fun y hy=>?_,List.pairwise_singleton _ _,fun y hy=>?_⟩
    · rw [sM] at hy; subst hy
      have:=heap_alloc_new w.drew (.cells ((l.flatMap f++l'.flatMap f).toArray++Builtin.zeroCells z.cells (grownCap w (l.length+l'.length) c e - (l.length+l'.length))) e)
      refine .of0 ?_
      rw [List.flatMap_append]
      refine this.trans ?_
      congr 2
      apply Array.toList_inj.1
      simp
    · rw [sM] at hy; subst hy; exact .inl (Nat.le_refl _)
   refine ⟨_,_,_,_,hr,O.pass hlast,One.off (.inr ⟨w.heap.size,_,rfl,by rw [sD]; exact hge,grownCap_le_maxLen w _ c e h63,?_,rfl⟩)⟩
   have e3:(Builtin.zeroCells z.cells (grownCap w (l.length+l'.length) c e - (l.length+l'.length))).toList.length=(grownCap w (l.length+l'.length) c e - (l.length+l'.length))*i.size:=by rw [Array.length_toList,size_zeroCells,hzs]
   rw [sD,E.flen,e3,sD,← Nat.add_mul]
   congr 1; omega
end
section
variable {P:Program} {ops:Array Oper} {Q:Exit->Act->World->Prop} {n:Nat} {ds:List Deferred} {a:Act} {e:Env} {w w':World} {K:Act->World->Prop} {i:Nat}
theorem mAO {α:Type} {f : α->List Value} {el:TypeId} {sz bytes:Nat} {p:Option Addr} {c:Nat} {l l':List α} {T:OwL} {X:Nat->Prop} {w₀:World} (A B:OwL) {t tx ty:TypeId} {x:Value} {d:Nat}
 (E:Enc f sz) (V:Holds n ds a e) (O:Ow P X w₀ w (A++(T++B))) (h1:F7 f el sz p c l T) (hs:Src P sz tx x l'.length (l'.flatMap f) w) (hb:(l.length+l'.length)*bytes<=140737488355328) (h63:l.length+l'.length<=maxLen)
 (hK : ∀ a' w' p' c' T',Holds n ds a' ((d,.slice p' (l++l').length c')::e)->Ow P X w₀ w' (A++(T'++B))->F7 f el sz p' c' (l++l') T'->K a' w')
 (he:E5 ops e i=some (.append,#[t,tx],ty,[.slice p l.length c,x],some d):=by kernel_rfl) (hd:Nat.blt d n=true:=by kernel_rfl) (ht:P.underlying t=some (.slice el):=by kernel_rfl) (hi:elT P el sz bytes=true:=by kernel_rfl):wpOp P ops Q i K a w:=by
 obtain ⟨inf,z,q1,q2,q3,q4,q5⟩:=U2 hi
 obtain ⟨p',c',T',w',hr,hO',h1'⟩:=jB ht q1 q2 q3 q4 E O.m h1 hs h63 hb q5 (ty:=ty)
 exact Ty V he hd hr fun a' hA'=>hK a' w' p' c' T' hA' hO'.o h1'
end
end Go.Proofs.Sx
namespace Go.Proofs.YtdljjajjonfjbaaGreatDoor
open Go Go.RowKit Go.Proofs.Sx
def fl8 (f:F8):List Value:=[.string f.f0,.string f.f1,.string f.f2,.string f.f3,.string f.f4,.string f.f5,.string f.f6,.string f.f7]
def fR (x:RunL):List Value:= .string x.path::fl8 x.fl
theorem U0:Enc fR 9:=⟨fun _=>rfl,fun x v hv=>by
 simp only [fR,fl8,List.mem_cons,sL,or_false] at hv
 rcases hv with rfl | rfl | rfl | rfl | rfl | rfl | rfl | rfl | rfl <;> rfl⟩
structure WV where
 sv:SV
 x:PV
 fl:F8
 ip:Option Addr
 ic:Nat
 il:List ByteArray
 fp:Option Addr
 fc:Nat
 ff:List Int
 pipes:Int
 tasks:Int
 ap:Option Addr
 ac:Nat
 al:List Int
 rp:Option Addr
 rc:Nat
 rl:List RunL
 wp:Option Addr
 wk:Nat
 wl:List Int
 told:Int
 exit:Int
 leak:Bool
 ok:Bool
def WV.d (a:WV):WL:=⟨a.sv.d,a.x.d,a.fl,a.il,a.ff,a.pipes,a.tasks,a.al,a.rl,a.wl,a.told,a.exit,a.leak,a.ok⟩
def wc (a:WV):List Value:=[.int .i64 a.sv.mo,.int .i64 a.sv.po,.string a.sv.inp,.slice a.sv.pj a.sv.lj.length a.sv.cj,.int .i64 a.sv.rd,.int .i64 a.sv.wr,.int .i64 a.sv.pv,.slice a.sv.pc a.sv.lc.length a.sv.cc,.slice a.sv.pp a.sv.lp.length a.sv.cp,
 .int .i64 a.x.d.call,.int .i64 a.x.d.a0,.int .i64 a.x.d.a1,.int .i64 a.x.d.a2,.slice a.x.p a.x.d.data.length a.x.c,
 .string a.fl.f0,.string a.fl.f1,.string a.fl.f2,.string a.fl.f3,.string a.fl.f4,.string a.fl.f5,.string a.fl.f6,.string a.fl.f7,
 .slice a.ip a.il.length a.ic,.slice a.fp a.ff.length a.fc,.int .i64 a.pipes,.int .i64 a.tasks,.slice a.ap a.al.length a.ac,.slice a.rp a.rl.length a.rc,.slice a.wp a.wl.length a.wk,.int .i64 a.told,.int .i64 a.exit,.bool a.leak,.bool a.ok]
theorem mJ {f:F8} {i:Nat} (hi:i < 8):(fl8 f)[i]? = some (.string (f.at i)):=by
 rcases lt8 hi with rfl | rfl | rfl | rfl | rfl | rfl | rfl | rfl <;> rfl
theorem K5 {f:F8} {i:Nat} {v:ByteArray} (hi:i < 8):Do (fl8 f) i [.string v]=fl8 (f.set i v):=by
 rcases lt8 hi with rfl | rfl | rfl | rfl | rfl | rfl | rfl | rfl <;> rfl
theorem pA {a:WV} {i:Nat} (hi:i < 8):(wc a)[14+i]? = some (.string (a.fl.at i)):=by
 rcases lt8 hi with rfl | rfl | rfl | rfl | rfl | rfl | rfl | rfl <;> rfl
theorem Ni {a:WV} {i:Nat} {v:ByteArray} (hi:i < 8):Do (wc a) (14+i) [.string v]=wc {a with fl:=a.fl.set i v}:=by
 rcases lt8 hi with rfl | rfl | rfl | rfl | rfl | rfl | rfl | rfl <;> rfl
theorem Xx {P:Program} {w:World} {b t u:Nat} {f:F8} {i:Nat} (h:Blk w b t (fl8 f)) (hi:i < 8) (hu:Lr P u=true:=by kernel_rfl):Ld P w ((⟨b,0,none⟩:Addr).add i) u (.string (f.at i)):=by
 rw [B4]
 exact h.ld1 hu (mJ hi)
theorem wc_ld {P:Program} {w:World} {b t u:Nat} {a:WV} {i:Nat} (h:Blk w b t (wc a)) (hi:i < 8) (hu:Lr P u=true:=by kernel_rfl):Ld P w ((⟨b,14,none⟩:Addr).add i) u (.string (a.fl.at i)):=by
 rw [D4]
 exact h.ld1 hu (pA hi)
section
variable {x:CallL} {f:F8}
theorem Fk (h:x.call=8) (hi:inB x.a0=true) (hz : ¬ (f.at x.a0.toNat).size=0):A4 x f=(0,true,f.set x.a0.toNat ⟨#[]⟩,0):=by unfold A4; rw [if_pos h,if_pos ⟨hi,hz⟩]
theorem Cb (h:x.call=8) (hn:inB x.a0=false\/(f.at x.a0.toNat).size=0):A4 x f=(-8,true,f,0):=by
 unfold A4
 rw [if_pos h,if_neg (by rintro ⟨q,q2⟩; rcases hn with e | e; {rw [e] at q; cases q}; {exact q2 e})]
theorem Dt (h:x.call=12) (hi:inB x.a0=true) (hi1:inB x.a1=true) (hz : ¬ (f.at x.a0.toNat).size=0):A4 x f=(0,true,f.set x.a1.toNat (f.at x.a0.toNat),0):=by unfold A4; rw [if_neg (by omega),if_pos h,if_pos ⟨hi,hi1,hz⟩]
theorem A9 (h:x.call=12) (hn:inB x.a0=false\/inB x.a1=false\/(f.at x.a0.toNat).size=0):A4 x f=(-8,true,f,0):=by
 unfold A4
 rw [if_neg (by omega),if_pos h,if_neg (by rintro ⟨q,q1,q2⟩; rcases hn with e | e | e; {rw [e] at q; cases q}; {rw [e] at q1; cases q1}; {exact q2 e})]
theorem Fo (h:x.call=7) (hn:Ak f < 0):A4 x f=(-6,true,f,0):=by unfold A4; rw [if_neg (by omega),if_neg (by omega),if_pos h,if_pos hn]
theorem Fm (h:x.call=7) (hn : ¬ Ak f < 0):A4 x f=(Ak f,true,f.set (Ak f).toNat (Mg x),0):=by unfold A4; rw [if_neg (by omega),if_neg (by omega),if_pos h,if_neg hn]
theorem Fp (h:x.call=10):A4 x f=((x.data.length:Int),true,f,1):=by unfold A4; rw [if_neg (by omega),if_neg (by omega),if_neg (by omega),if_pos h]
theorem Jm (h1 : ¬ x.call=8) (h2 : ¬ x.call=12) (h3 : ¬ x.call=7) (h4 : ¬ x.call=10):A4 x f=(0,false,f,0):=by unfold A4; rw [if_neg h1,if_neg h2,if_neg h3,if_neg h4]
theorem Zs {n:Int} (h:inB n=true) : 0<=n/\n < 8:=rV h
end
theorem R6 {w:World} {p:Option Addr} {c:Nat} {d:CallL} (h:VP w ⟨p,c,d⟩):(p=none/\c=0/\d.data=[])\/∃ ad,p=some ad:=by
 cases p with
 | some ad=>exact .inr ⟨ad,rfl⟩
 | none =>
  rcases h.1 with ⟨h,hd⟩ | ⟨ad,c',h,_⟩
  · have hd:d.data=[]:=hd
    have h:Value.slice none d.data.length c=Value.slice none 0 0:=h
    rw [hd] at h
    cases h
    exact .inl ⟨rfl,rfl,hd⟩
  · cases h
end Go.Proofs.YtdljjajjonfjbaaGreatDoor
