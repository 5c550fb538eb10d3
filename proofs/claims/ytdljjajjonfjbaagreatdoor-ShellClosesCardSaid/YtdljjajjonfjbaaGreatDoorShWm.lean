import Derived.Test.YtdljjajjonfjbaaGreatDoorShStore
import Derived.Test.YtdljjajjonfjbaaGreatDoorShs
import Derived.Test.YtdljjajjonfjbaaGreatDoorSn
import Derived.Test.YtdljjajjonfjbaaGreatDoorShRunb
set_option linter.unusedVariables false
set_option linter.unusedSimpArgs false
namespace Go.Proofs.Sx
open Go Go.RowKit
theorem cU {α:Type} {f : α->List Value} {x0 : α} {sz:Nat} (h:(f x0).length=sz) (h0 : 0 < sz) : ∀ (m k:Nat),k < m*sz->((List.replicate m x0).flatMap f)[k]? = (f x0)[k % sz]?
 | 0,k,hk=>by omega
 | m+1,k,hk=>by
  rw [List.replicate_succ,List.flatMap_cons]
  by_cases hl:k < sz
  · rw [List.getElem?_append_left (by omega),Nat.mod_eq_of_lt hl]
  · rw [List.getElem?_append_right (by omega),h,cU h h0 m (k - sz) (by rw [Nat.succ_mul] at hk; omega),← Nat.mod_eq_sub_mod (by omega)]
theorem aM {α:Type} {f : α->List Value} {x0 : α} {z:Value} {sz m:Nat} (E:Enc f sz) (hz:z.cells.toList=f x0) (h0 : 0 < sz):(madeCells z.cells (m*sz)).toList=(List.replicate m x0).flatMap f:=by
 have hs:z.cells.size=sz:=by rw [← Array.length_toList,hz,E.len]
 apply List.ext_getElem?
 intro k
 by_cases hk:k < m*sz
 · rw [cU (E.len x0) h0 m k hk,← hz]
   have:k % sz < z.cells.size:=by rw [hs]; exact Nat.mod_lt _ h0
   simp [madeCells,hk,hs,List.getElem?_eq_getElem,this]
   rw [getElem!_pos z.cells (k % sz) this]
   exact (Array.getElem?_eq_getElem this).symm
 · rw [List.getElem?_eq_none (by rw [Array.length_toList,size_madeCells]; omega),List.getElem?_eq_none (by rw [E.flen,List.length_replicate]; omega)]
section
variable {P:Program} {ops:Array Oper} {Q:Exit->Act->World->Prop} {n:Nat} {ds:List Deferred} {a:Act} {e:Env} {w:World} {K:Act->World->Prop} {i:Nat}
theorem mMG {α:Type} {f : α->List Value} {el sz bytes:Nat} (x0 : α) {z:Value} {L:OwL} {X:Nat->Prop} {w₀:World} {t:TypeId} {m:Nat} {d:Nat} {k k':IntKind} (E:Enc f sz)
 (hA:Holds n ds a e) (hO:Ow P X w₀ w L) (hb:bytes*m<=281474976710656) (hm:m<=maxLen) (h0 : 0 < sz)
 (hK : ∀ a' w' ad T,Holds n ds a' ((d,.slice (some ad) m m)::e)->Ow P X w₀ w' (L++T)->One f el sz (some ad) m (List.replicate m x0) T->K a' w')
 (he:eE ops e i=some (t,.int k (m:Int),.int k' (m:Int),some d):=by kernel_rfl) (hd:Nat.blt d n=true:=by kernel_rfl) (ht:P.underlying t=some (.slice el):=by kernel_rfl)
 (hi:(P.info? el).map (fun i=>(i.zero,i.size,i.bytes))=some (some z,sz,bytes):=by kernel_rfl) (hz1:z.cells.toList=f x0:=by rfl):wpOp P ops Q i K a w:=by
 obtain ⟨inf,hinf,hq⟩:=Option.map_eq_some_iff.1 hi
 simp only [Prod.mk.injEq] at hq
 obtain ⟨q1,q2,q3⟩:=hq
 have h63:(m:Int)<=9223372036854775807:=by simp only [maxLen] at hm; omega
 have hb':(inf.bytes:Int)*(m:Int)<=281474976710656:=by
  have h:((inf.bytes*m:Nat):Int)<=281474976710656:=by rw [q3]; omega
  rwa [Int.natCast_mul] at h
 have hr:=run_make (P:=P) w t el inf z ht hinf q1 k k' m m (by omega) (Int.le_refl _) hb' h63
 simp only [Int.toNat_natCast,q2] at hr
 unfold eE at he
 repeat' split at he
 all_goals try (cases he; done)
 rename_i o ho _ t' lo co hop _ lv hl _ cv hc
 simp only [Option.some.injEq,Prod.mk.injEq] at he
 obtain ⟨rfl,rfl,rfl,hdst⟩:=he
 refine Du hA ho ?_
 have hrun:(execOp a.eval o).run P w = .ok (.value (.slice (some ⟨w.heap.size,0,none⟩) m m)) (w.alloc (.cells (madeCells z.cells (m*sz)) el)):=by
  unfold execOp
  simp only [hop,hA.eval hl,hA.eval hc,Sem.run_bind,Sem.run_pure,Result.andThen_ok,run_program,hr]
 unfold Oper.wp
 rw [hrun]
 have hfl:=aM (m:=m) E hz1 h0
 refine hK _ _ ⟨w.heap.size,0,none⟩ [(w.heap.size,el,(List.replicate m x0).flatMap f++[])] ?_ ?_ (.inr ⟨_,[],rfl,by rw [List.length_replicate]; exact Nat.le_refl _,hm,by rw [List.append_nil,E.flen,List.length_replicate],rfl⟩)
 · rw [hdst]; exact hA.put _ (by simpa [Nat.blt_eq] using hd)
 · have h2:Ow P X w₀ (w.alloc (.cells (madeCells z.cells (m*sz)) el)) ((w.heap.size,el,(List.replicate m x0).flatMap f++[])::L):=by
    refine hO.add (Pv _) (.of0 ?_) (Nat.le_refl _)
    rw [List.append_nil,← hfl,Array.toArray_toList]
    exact heap_alloc_new w _
   refine (h2.m.perm ?_).o
   exact (List.perm_append_singleton _ L).symm
end
end Go.Proofs.Sx
set_option maxRecDepth 10000
namespace Go.Proofs.YtdljjajjonfjbaaGreatDoor
open Go Go.Shelf Go.RowKit Go.Proofs Go.Proofs.Sx
section
variable {m l:List PV} {i:Nat} {qp p:Option Addr} {qc c:Nat} {qd:CallL} {TD TB:OwL}
theorem mO {α:Type} {m l:List α} {j:Nat} {v : α} (h2:m.drop j=l.drop j) (hx:l[j]? = some v):m[j]? = some v:=by
 have h:=congrArg (fun q=>q[0]?) h2;simp only [List.getElem?_drop,Nat.add_zero] at h;rw [h]; exact hx
theorem bH {α:Type} {m l:List α} {j:Nat} (h2:m.drop j=l.drop j) (v : α):(m.set j v).drop (j+1)=l.drop (j+1):=by
 rw [List.drop_set_of_lt (by omega)];have:=congrArg (List.drop 1) h2;rwa [List.drop_drop,List.drop_drop] at this
theorem oY (h:m[i]? = some ⟨qp,qc,qd⟩):Df (m.flatMap fP) (i*5+4) [.slice p qd.data.length c]=(m.set i ⟨p,c,qd⟩).flatMap fP :=
 H5 C8 m i ⟨qp,qc,qd⟩ h rfl (by show 4+1<=5; decide)
theorem oZ (h:m[i]? = some ⟨qp,qc,qd⟩) (hm:m.map PV.d=l.map PV.d):(m.set i (⟨p,c,qd⟩:PV)).map PV.d=l.map PV.d:=by
 rw [List.map_set,← hm];exact Ry (by rw [List.getElem?_map,h]; rfl)
theorem F6 {α:Type} {m:List α} {i:Nat} {y x : α} (h:m[i]? = some x):(m.set i y).take (i+1)=m.take i++[y]:=by
 have hi:=(List.getElem?_eq_some_iff.1 h).1;rw [List.take_add_one,List.take_set_of_le (Nat.le_refl i),List.getElem?_set_self hi]; rfl
theorem iU (hD:Ah TD fun w=>∀ x∈m.take i,VP w x) (h:m[i]? = some ⟨qp,qc,qd⟩) (hB:Ah TB fun w=>Vw fB w (.slice p qd.data.length c) qd.data) (hu:U8s qd.data):Ah (TD++TB) fun w=>∀ x∈(m.set i (⟨p,c,qd⟩:PV)).take (i+1),VP w x:=by
 rw [F6 h];exact Ed hD.l (Hi (x:=⟨p,c,qd⟩) hB hu).r
theorem kP {m:List JV} {i:Nat} {z:JV} {b:Bool} (h:m[i]? = some z):Df (m.flatMap fJ) (i*2+0) [.slice none 0 0,.bool b]=(m.set i ⟨none,0,[],b⟩).flatMap fJ :=
 H5 Eb m i z h rfl (by show 0+2<=2; decide)
theorem kO {m:List JV} {i:Nat} {b:Bool} {p p':Option Addr} {c c':Nat} {cs cs':List CV} (hi:i < m.length):Df ((m.set i ⟨p,c,cs,b⟩).flatMap fJ) (i*2+0) [.slice p' cs'.length c']=(m.set i ⟨p',c',cs',b⟩).flatMap fJ:=by
 have:=H5 Eb (k:=0) (vc:=[.slice p' cs'.length c']) (y:=⟨p',c',cs',b⟩) (m.set i ⟨p,c,cs,b⟩) i ⟨p,c,cs,b⟩ (List.getElem?_set_self hi) rfl (by show 0+1<=2; decide);rwa [List.set_set] at this
theorem iY {cs:List CV} {y:CV} {T T':OwL} (h:Ah T fun w=>∀ y∈cs,VC w y) (h':Ah T' fun w=>Vw fT w (.slice y.p y.d.words.length y.c) y.d.words):Ah (T++T') fun w=>∀ z∈cs++[y],VC w z:=fun X w₀ w hO z hz=>by
 rcases List.mem_append.1 hz with hz | hz
 · exact h.l X w₀ w hO z hz
 · rw [List.mem_singleton.1 hz]; exact h'.r X w₀ w hO
theorem iX {m:List JV} {i:Nat} {z:JV} {p:Option Addr} {c:Nat} {cs:List CV} {b:Bool} {T TC TW:OwL} (h:Ah T fun w=>∀ x∈m.take i,VJ w x) (hz:m[i]? = some z) (hC:Ah TC fun w=>Vw fC w (.slice p cs.length c) cs) (hW:Ah TW fun w=>∀ y∈cs,VC w y) :
 Ah (T++(TC++TW)) fun w=>∀ x∈(m.set i ⟨p,c,cs,b⟩).take (i+1),VJ w x:=by
 rw [F6 hz];intro X w₀ w hO x hx;rcases List.mem_append.1 hx with hx | hx
 · exact h.l X w₀ w hO x hx
 rw [List.mem_singleton.1 hx]; exact ⟨hC.l.r X w₀ w hO,hW.r.r X w₀ w hO⟩
theorem kS {m lj:List JV} {i k:Nat} {z:JV} {xp p:Option Addr} {xc c:Nat} {xl cs:List CV} {b:Bool} (h:(m.take i).map JV.d=(lj.take i).map JV.d) (hz:m[i]? = some z) (hx:lj[i]? = some ⟨xp,xc,xl,b⟩) (hc:cs.map CV.d=(xl.take k).map CV.d) (hk : ¬ k < xl.length) :
 ((m.set i ⟨p,c,cs,b⟩).take (i+1)).map JV.d=(lj.take (i+1)).map JV.d:=by
 rw [F6 hz,List.map_append,h,List.take_add_one,hx,List.map_append];rw [List.take_of_length_le (by omega)] at hc;congr 1
 show [(⟨cs.map CV.d,b⟩:JobL)]=[⟨xl.map CV.d,b⟩];rw [hc]
end
theorem Rt {l:List JV} {i:Nat} {x:JV} (h:Aq (l.map JV.d)=true) (hx:l[i]? = some x):Aq (([x]:List JV).map JV.d)=true:=by
 unfold Aq at h ⊢;rw [Bool.and_eq_true,List.all_eq_true] at h;have:=h.1 _ (List.mem_map.2 ⟨x,List.mem_of_getElem? hx,rfl⟩);simp only [List.map_cons,List.map_nil,List.all_cons,List.all_nil,this,Bool.and_true,List.length_cons,List.length_nil,Bool.true_and];rfl
set_option maxHeartbeats 4000000 in
theorem Xm (mo po:Int) (inp:ByteArray) (pj:Option Addr) (kj:Nat) (lj:List JV) (rd wr pv:Int) (pn:Option Addr) (kn:Nat) (ln:List Int) (pp:Option Addr) (kp:Nat) (lp:List PV) (w:World) (hs:SV.ok (⟨mo,po,inp,pj,kj,lj,rd,wr,pv,pn,kn,ln,pp,kp,lp⟩:SV) w) (hm:SV.sm (⟨mo,po,inp,pj,kj,lj,rd,wr,pv,pn,kn,ln,pp,kp,lp⟩:SV)) (hvl:Aq (lj.map JV.d)=true) (hdat : ∀ x∈lp,x.d.data.length<=1000000) :
 Calls Tryz.prog 29 #[.agg #[i64 mo,i64 po,str inp,.slice pj lj.length kj,i64 rd,i64 wr,i64 pv,.slice pn ln.length kn,.slice pp lp.length kp]] w fun e w'=>∃ (v:SV) (T:OwL),v.d=SV.d (⟨mo,po,inp,pj,kj,lj,rd,wr,pv,pn,kn,ln,pp,kp,lp⟩:SV)/\v.sm/\e = .returned (.agg #[i64 v.mo,i64 v.po,str v.inp,.slice v.pj v.lj.length v.cj,i64 v.rd,i64 v.wr,i64 v.pv,.slice v.pc v.lc.length v.cc,.slice v.pp v.lp.length v.cp])/\Ow Tryz.prog Ai w w' T/\Ah T v.ok:=by
 refine An (args:=[.agg #[i64 mo,i64 po,str inp,.slice pj lj.length kj,i64 rd,i64 wr,i64 pv,.slice pn ln.length kn,.slice pp lp.length kp]]) (m:=81) (n:=82) Tryz.func29 rfl (by kernel_rfl) (by kernel_rfl) fun fr hA=>?_;have hO:=Ow.nil Tryz.prog Ai w;have hv_j:VL w (.slice pj lj.length kj) lj:=hs.j;have hv_k:Vw fN w (.slice pn ln.length kn) ln:=hs.k;have hv_p:PL w (.slice pp lp.length kp) lp:=hs.p;have hm_ck:ln.length<=kn:=hm.ck;have hm_cj:lj.length<=kj:=hm.cj;have hm_cp:lp.length<=kp:=hm.cp;have hm_i:inp.size<=1000000:=hm.i;have hm_k:ln.length<=1000000:=hm.k;have hm_p:lp.length<=1000000:=hm.p;have hm_j:smL 1000000 (lj.map JV.d):=hm.j;have hm_jl:lj.length<=1000000:=hm_j.len;have hv8_:lj.length<=8:=by have q_:=F9 hvl; rwa [List.length_map] at q_
 refine sr 2 (Mn (cS mo po inp pj lj.length kj rd wr pv pn ln.length kn pp lp.length kp) 39 1 hA hO fun fr w1 b1 hA hO=>Mn (cS 0 0 (⟨#[]⟩:ByteArray) none 0 0 0 0 0 none 0 0 none 0 0) 39 2 hA hO fun fr w2 b2 hA hO=>Ab (Aa (sJ (fun fr W=>∃ (pK:Option Addr) (cK:Nat) (TK:OwL) (pP:Option Addr) (cP:Nat) (TQ:OwL),Holds 82 [] fr [(1,pt b1),(2,pt b2)]/\Ow Tryz.prog Ai w W ([(b2,39,(cS 0 0 (⟨#[]⟩:ByteArray) none 0 0 0 0 0 none 0 0 none 0 0)),(b1,39,(cS mo po inp pj lj.length kj rd wr pv pK ln.length cK pP lp.length cP))]++(TK++(TQ++([]))))/\One fN 3 1 pK cK ln TK/\One fP 43 5 pP cP lp TQ/\True) ?_ ?_)))
 · rintro fr w3 ⟨pK,cK,TK,pP,cP,TQ,hA,hO,hTK,hTQ,-⟩;refine wp_seq (Sb [(19,i64 ((lp.length:Nat):Int)),(20,i64 0)] hA [.slice pP lp.length cP] (cc (hO.l1 1 8 37 (.slice pP lp.length cP)) c0) fun fr hA=>wp_block ?_);have hPD0:Ah ([]:OwL) (fun w_=>∀ x∈(lp.take 0),VP w_ x):=fun _ _ _ _ x hx=>absurd hx (by simp);replace hO:Ow Tryz.prog Ai w w3 ([(b2,39,(cS 0 0 (⟨#[]⟩:ByteArray) none 0 0 0 0 0 none 0 0 none 0 0)),(b1,39,(cS mo po inp pj lj.length kj rd wr pv pK ln.length cK pP lp.length cP))]++(TK++(TQ++(([]:OwL)++([]))))):=hO.to (by first | rfl | (simp only [TP,apd]));refine Bg (fun mm fr W=>∃ (i:Nat) (m:List PV) (TL1:OwL) (TL2:OwL),mm=lp.length - i/\Holds 82 [] fr [(1,pt b1),(2,pt b2),(19,i64 ((lp.length:Nat):Int)),(20,i64 ((i:Nat):Int))]/\Ow Tryz.prog Ai w W ([(b2,39,(cS 0 0 (⟨#[]⟩:ByteArray) none 0 0 0 0 0 none 0 0 none 0 0)),(b1,39,(cS mo po inp pj lj.length kj rd wr pv pK ln.length cK pP lp.length cP))]++(TK++(TL1++(TL2++([])))))/\One fP 43 5 pP cP m TL1/\Ah TL2 (fun w_=>∀ x∈(m.take i),VP w_ x)/\i<=lp.length/\m.map PV.d=lp.map PV.d/\m.drop i=lp.drop i/\True) ?_ ?_
   · exact ⟨_,0,lp,TQ,([]:OwL),rfl,hA.ss,hO,hTQ,hPD0,(Nat.zero_le _),rfl,rfl,trivial⟩
   rintro _ fr w4 ⟨i,m,TL1,TL2,rfl,hA,hO,hTL1,hTL2,hi_,hmd,hmr,-⟩;have hmlen:m.length=lp.length:=by have q_:=congrArg List.length hmd; rwa [List.length_map,List.length_map] at q_
   refine Sa [(21,bl (decide (((i:Nat):Int) < ((lp.length:Nat):Int))))] hA fun fr hA=>wp_seq ?_;rcases qV (decide (((i:Nat):Int) < ((lp.length:Nat):Int))) with h1 | h1
   · rw [h1] at hA;have h1p:=qX h1;obtain ⟨⟨qp,qc,qd⟩,hq⟩ : ∃ x,lp[i]? = some x:=⟨_,List.getElem?_eq_getElem (by omega)⟩;have hqm:=mO hmr hq;have hud:U8s qd.data:=(hv_p.2 _ (List.mem_of_getElem? hq)).2;have hdq_:qd.data.length<=1000000:=hdat _ (List.mem_of_getElem? hq);obtain ⟨aP,rfl⟩ : ∃ ad,pP=some ad:=by (obtain ⟨b_,r_,e_,_⟩:=hTL1.open (by omega); exact ⟨_,e_⟩)
     refine cT hA (wp_skip (Aa (wp_seq (wp_block (Sa [(3,i64 ((i:Nat):Int))] hA fun fr hA=>?_)))));have hS:Ow Tryz.prog Ai w _ [(b2,39,(cS 0 0 (⟨#[]⟩:ByteArray) none 0 0 0 0 0 none 0 0 none 0 0)),(b1,39,(cS mo po inp pj lj.length kj rd wr pv pK ln.length cK (some aP) lp.length cP))]:=hO.sub [0,1];refine rP [(0,true),(1,true),(2,true),(3,true),(4,true),(5,true),(6,true),(7,true),(8,false),(9,false),(10,true),(11,true),(12,false)] hS ?_;intro w5 ho; replace hO:=hO.st ho; clear ho;refine Ke 8 [(24,.slice (some aP) lp.length cP),(25,i64 ((i:Nat):Int)),(30,.pointer (some ((aP.add (i*5)).add 4)))] hA [.slice (some aP) lp.length cP,.slice (some aP) lp.length cP] (cc (hS.s1 1 8 37 (.slice (some aP) lp.length cP)) (cc (hS.s1 1 8 37 (.slice (some aP) lp.length cP)) (cc (⟨by omega,by omega⟩:(0:Int)<=((i:Nat):Int)/\((i:Nat):Int) < ((lp.length:Nat):Int)) c0))) fun fr hA=>Au (Qc [(31,.slice qp qd.data.length qc)] hA [.slice qp qd.data.length qc] (cc ((((show Vw fP _ (.slice (some aP) m.length cP) m from One.vw hTL1 (A:=([(b2,39,(cS 0 0 (⟨#[]⟩:ByteArray) none 0 0 0 0 0 none 0 0 none 0 0)),(b1,39,(cS mo po inp pj lj.length kj rd wr pv pK ln.length cK (some aP) lp.length cP))]++(TK++([])))) (B:=TL2++([])) (hO.tt:Ow Tryz.prog Ai w _ (([(b2,39,(cS 0 0 (⟨#[]⟩:ByteArray) none 0 0 0 0 0 none 0 0 none 0 0)),(b1,39,(cS mo po inp pj lj.length kj rd wr pv pK ln.length cK (some aP) lp.length cP))]++(TK++([])))++(TL1++(TL2++([]))))).m)).ld1 C8 hqm (k:=4) (by rfl)):Ld Tryz.prog w5 ((aP.add (i*5)).add 4) 41 (.slice qp qd.data.length qc)) c0) fun fr hA=>⟨(hO.sub [0,1]),?_⟩)
     refine Au (mC (d:=(some 32)) hA Tryz.func31 ((Ot qp qc qd.data _ ((hv_p.keep hO.only).2 _ (List.mem_of_getElem? hq)).1 (by omega) ((hv_p.keep hO.only).2 _ (List.mem_of_getElem? hq)).2).mono ?_));rintro en w6 ⟨p1,c1,T1,rfl,hT1,hW⟩;refine ⟨_,rfl,?_⟩;clear hA fr; intro fr hA;replace hO:=Ow.join hO hW; clear hW;refine ⟨(hO.sub [0,1]),?_⟩;refine Ke 2 [(34,.pointer (some ((aP.add (i*5)).add 4)))] hA [] (cc (⟨by omega,by omega⟩:(0:Int)<=((i:Nat):Int)/\((i:Nat):Int) < ((lp.length:Nat):Int)) c0) fun fr hA=>Au (mSE (f:=fP) (el:=43) (ad:=aP) (ad':=(aP.add (i*5)).add 4) (c:=cP) (off:=i*5+4) (vc:=[.slice p1 qd.data.length c1]) (l':=(m.set i ⟨p1,c1,qd⟩)) C8 hA (hO.tt:Ow Tryz.prog Ai w _ (([(b2,39,(cS 0 0 (⟨#[]⟩:ByteArray) none 0 0 0 0 0 none 0 0 none 0 0)),(b1,39,(cS mo po inp pj lj.length kj rd wr pv pK ln.length cK (some aP) lp.length cP))]++(TK++([])))++(TL1++(TL2++(T1++([])))))) hTL1 (oY hqm) (List.length_set ..) (by show i*5+4+1<=_; omega) (Sx.add_add _ _ _) fun w7 T2 hO hT2=>⟨(hO.sub [0,1]),?_⟩);refine Az (Ad (Aa (Rc [(20,i64 (((i:Nat):Int)+1))] hA [bl true] (cc ((Am (by omega) (by omega)):inK .i64 (((i:Nat):Int)+1)) c0) fun fr hA=>Aa ?_)));have hPDn:Ah (TL2++T1) (fun w_=>∀ x∈((m.set i ⟨p1,c1,qd⟩).take (i+1)),VP w_ x):=iU hTL2 hqm hT1.holds hud;replace hO:Ow Tryz.prog Ai w w7 ([(b2,39,(cS 0 0 (⟨#[]⟩:ByteArray) none 0 0 0 0 0 none 0 0 none 0 0)),(b1,39,(cS mo po inp pj lj.length kj rd wr pv pK ln.length cK (some aP) lp.length cP))]++(TK++(T2++((TL2++T1)++([]))))):=hO.to (by first | rfl | (simp only [TP,apd]))
     exact ⟨_,by omega,i+1,(m.set i ⟨p1,c1,qd⟩),T2,(TL2++T1),rfl,hA.ss,hO,hT2,hPDn,(by omega),(oZ hqm hmd),(bH hmr _),trivial⟩
   rw [h1] at hA;have h1p:=qY h1;refine cF hA (wp_exit (Aj (Aj (Ap (Aa (sr 5 (Kb 3 [(38,i64 ((lj.length:Nat):Int))] hA [.slice pj lj.length kj] (cc (hO.l1 1 3 36 (.slice pj lj.length kj)) c0) fun fr hA=>?_)))))));replace hO:Ow Tryz.prog Ai w w4 ([(b2,39,(cS 0 0 (⟨#[]⟩:ByteArray) none 0 0 0 0 0 none 0 0 none 0 0)),(b1,39,(cS mo po inp pj lj.length kj rd wr pv pK ln.length cK pP lp.length cP))]++(TK++(TL1++(TL2++([]))))):=hO;refine Ag (mMG (f:=fJ) (el:=103) (sz:=2) (bytes:=32) (k:= .i64) (k':= .i64) (t:=36) (m:=lj.length) (d:=39) (z:= .agg #[.slice none 0 0,bl false]) JV0 Eb hA hO (by omega) (by unfold maxLen; omega) (by decide) fun fr w8 aJ T3 hA hO hT3=>?_);replace hO:Ow Tryz.prog Ai w w8 ([(b2,39,(cS 0 0 (⟨#[]⟩:ByteArray) none 0 0 0 0 0 none 0 0 none 0 0)),(b1,39,(cS mo po inp pj lj.length kj rd wr pv pK ln.length cK pP lp.length cP))]++(TK++(TL1++(TL2++(T3++([])))))):=hO.to (by first | rfl | (simp only [TP,apd]));refine Ka 1 [(4,.slice (some aJ) lj.length lj.length)] hA fun fr hA=>Ab (Aa (wp_seq (Sb [(41,.slice pj lj.length kj),(42,i64 ((lj.length:Nat):Int)),(43,i64 0)] hA [.slice pj lj.length kj] (cc (hO.l1 1 3 36 (.slice pj lj.length kj)) c0) fun fr hA=>wp_block ?_)));have hJD0:Ah ([]:OwL) (fun w_=>∀ x∈((List.replicate lj.length JV0).take 0),VJ w_ x):=fun _ _ _ _ x hx=>absurd hx (by simp)
   replace hO:Ow Tryz.prog Ai w w8 ([(b2,39,(cS 0 0 (⟨#[]⟩:ByteArray) none 0 0 0 0 0 none 0 0 none 0 0)),(b1,39,(cS mo po inp pj lj.length kj rd wr pv pK ln.length cK pP lp.length cP))]++(TK++(TL1++(TL2++(T3++(([]:OwL)++([]))))))):=hO.to (by first | rfl | (simp only [TP,apd]));refine Bg (fun mm fr W=>∃ (i2:Nat) (m2:List JV) (TL3:OwL) (TL4:OwL),mm=lj.length - i2/\Holds 82 [] fr [(1,pt b1),(2,pt b2),(4,.slice (some aJ) lj.length lj.length),(41,.slice pj lj.length kj),(42,i64 ((lj.length:Nat):Int)),(43,i64 ((i2:Nat):Int))]/\Ow Tryz.prog Ai w W ([(b2,39,(cS 0 0 (⟨#[]⟩:ByteArray) none 0 0 0 0 0 none 0 0 none 0 0)),(b1,39,(cS mo po inp pj lj.length kj rd wr pv pK ln.length cK pP lp.length cP))]++(TK++(TL1++(TL2++(TL3++(TL4++([])))))))/\One fJ 103 2 (some aJ) lj.length m2 TL3/\Ah TL4 (fun w_=>∀ x∈(m2.take i2),VJ w_ x)/\i2<=lj.length/\m2.length=lj.length/\(m2.take i2).map JV.d=(lj.take i2).map JV.d/\True) ?_ ?_
   · exact ⟨_,0,List.replicate lj.length JV0,T3,([]:OwL),rfl,hA.ss,hO,hT3,hJD0,(Nat.zero_le _),(List.length_replicate ..),rfl,trivial⟩
   rintro _ fr w9 ⟨i2,m2,TL3,TL4,rfl,hA,hO,hTL3,hTL4,hi2_,hml2,hmd2,-⟩;refine Sa [(44,bl (decide (((i2:Nat):Int) < ((lj.length:Nat):Int))))] hA fun fr hA=>wp_seq ?_;rcases qV (decide (((i2:Nat):Int) < ((lj.length:Nat):Int))) with h2 | h2
   · rw [h2] at hA;have h2p:=qX h2;obtain ⟨ad1,rfl⟩:=((hv_j.keep hO.only).1).pos (by first | omega | exact Nat.zero_lt_succ _);obtain ⟨⟨xp1,xc1,xl1,xb1⟩,hx1⟩ : ∃ x,(lj)[i2]? = some x:=⟨_,Bi _ JV0 (by first | omega | exact Nat.zero_lt_succ _)⟩;obtain ⟨z2,hz2⟩ : ∃ x,m2[i2]? = some x:=⟨_,List.getElem?_eq_getElem (by omega)⟩;have hxl4:xl1.length<=4:=(Ph (r:=[]) (Rt hvl hx1)).1.2;refine cT hA (wp_skip (Aa (wp_seq (wp_block (sr 6 (Kb 3 [(41,.slice (some ad1) lj.length kj),(45,i64 ((i2:Nat):Int)),(47,.agg #[.slice xp1 xl1.length xc1,bl xb1])] hA [.agg #[.slice xp1 xl1.length xc1,bl xb1]] (cc (⟨by omega,by omega⟩:(0:Int)<=((i2:Nat):Int)/\((i2:Nat):Int) < ((lj.length:Nat):Int)) (cc ((((hv_j.keep hO.only).1).ldn Eb hx1):Ld Tryz.prog w9 (ad1.add (i2*2)) 103 (.agg #[.slice xp1 xl1.length xc1,bl xb1])) c0)) fun fr hA=>Mn [.slice none 0 0,bl false] 103 6 hA hO fun fr w10 b3 hA hO=>Ka 1 [(5,i64 ((i2:Nat):Int))] hA fun fr hA=>Ms 0 [.slice xp1 xl1.length xc1,bl xb1] 0 hA hO fun w11 hO=>Ab (Aa (sr 7 (Kb 6 [(52,.agg #[.slice none 0 0,bl xb1]),(53,.pointer (some (aJ.add (i2*2))))] hA [bl xb1] (cc (hO.l1 0 1 4 (bl xb1)) (cc (⟨by omega,by omega⟩:(0:Int)<=((i2:Nat):Int)/\((i2:Nat):Int) < ((lj.length:Nat):Int)) c0)) fun fr hA=>?_)))))))));replace hO:Ow Tryz.prog Ai w w11 ([(b3,103,[.slice xp1 xl1.length xc1,bl xb1]),(b2,39,(cS 0 0 (⟨#[]⟩:ByteArray) none 0 0 0 0 0 none 0 0 none 0 0)),(b1,39,(cS mo po inp (some ad1) lj.length kj rd wr pv pK ln.length cK pP lp.length cP))]++(TK++(TL1++(TL2++(TL3++(TL4++([]))))))):=hO
     refine Ag (mSE (f:=fJ) (el:=103) (ad:=aJ) (ad':=aJ.add (i2*2)) (c:=lj.length) (off:=i2*2+0) (vc:=[.slice none 0 0,bl xb1]) (l':=(m2.set i2 ⟨none,0,[],xb1⟩)) Eb hA (hO.tt:Ow Tryz.prog Ai w _ (([(b3,103,[.slice xp1 xl1.length xc1,bl xb1]),(b2,39,(cS 0 0 (⟨#[]⟩:ByteArray) none 0 0 0 0 0 none 0 0 none 0 0)),(b1,39,(cS mo po inp (some ad1) lj.length kj rd wr pv pK ln.length cK pP lp.length cP))]++(TK++(TL1++(TL2++([])))))++(TL3++(TL4++([]))))) hTL3 (kP hz2) (List.length_set ..) (by show i2*2+0+2<=_; omega) rfl fun w12 T4 hO hT4=>Ab (Aa (Sb [(55,.slice xp1 xl1.length xc1),(56,i64 ((xl1.length:Nat):Int)),(57,i64 0)] hA [.slice xp1 xl1.length xc1] (cc (hO.l1 0 0 101 (.slice xp1 xl1.length xc1)) c0) fun fr hA=>wp_block ?_)));have hPC0:One fC 104 4 none 0 ([]:List CV) ([]:OwL):=One.nil _ _ _;have hPW0:Ah ([]:OwL) (fun w_=>∀ y∈([]:List CV),VC w_ y):=fun _ _ _ _ x hx=>absurd hx (by simp)
     refine Bg (fun mm fr W=>∃ (k:Nat) (cs:List CV) (pL5:Option Addr) (cL5:Nat) (TL5:OwL) (TL6:OwL) (TL7:OwL),mm=xl1.length - k/\Holds 82 [] fr [(1,pt b1),(2,pt b2),(4,.slice (some aJ) lj.length lj.length),(5,i64 ((i2:Nat):Int)),(41,.slice (some ad1) lj.length kj),(42,i64 ((lj.length:Nat):Int)),(43,i64 ((i2:Nat):Int)),(55,.slice xp1 xl1.length xc1),(56,i64 ((xl1.length:Nat):Int)),(57,i64 ((k:Nat):Int))]/\Ow Tryz.prog Ai w W ([(b3,103,[.slice xp1 xl1.length xc1,bl xb1]),(b2,39,(cS 0 0 (⟨#[]⟩:ByteArray) none 0 0 0 0 0 none 0 0 none 0 0)),(b1,39,(cS mo po inp (some ad1) lj.length kj rd wr pv pK ln.length cK pP lp.length cP))]++(TK++(TL1++(TL2++(TL7++(TL4++(TL5++(TL6++([])))))))))/\One fC 104 4 pL5 cL5 cs TL5/\Ah TL6 (fun w_=>∀ y∈cs,VC w_ y)/\One fJ 103 2 (some aJ) lj.length (m2.set i2 ⟨pL5,cL5,cs,xb1⟩) TL7/\k<=xl1.length/\cs.length=k/\cs.map CV.d=(xl1.take k).map CV.d/\True) ?_ ?_
     · exact ⟨_,0,[],none,0,([]:OwL),([]:OwL),T4,rfl,hA.ss,hO.tt,hPC0,hPW0,hT4,(Nat.zero_le _),rfl,rfl,trivial⟩
     rintro _ fr w13 ⟨k,cs,pL5,cL5,TL5,TL6,TL7,rfl,hA,hO,hTL5,hTL6,hTL7,hk_,hcl3,hcd3,-⟩;refine Sa [(58,bl (decide (((k:Nat):Int) < ((xl1.length:Nat):Int))))] hA fun fr hA=>wp_seq ?_;rcases qV (decide (((k:Nat):Int) < ((xl1.length:Nat):Int))) with h3 | h3
     · rw [h3] at hA;have h3p:=qX h3;obtain ⟨ax1,rfl⟩:=(show ∃ ad,xp1=some ad from (((hv_j.keep hO.only).2 _ (List.mem_of_getElem? hx1)).1).pos (by show 0 < xl1.length; omega));obtain ⟨⟨yp1,yc1,yd1⟩,hx2⟩ : ∃ x,(xl1)[k]? = some x:=⟨_,Bi _ CV0 (by first | omega | exact Nat.zero_lt_succ _)⟩;have hyw4:yd1.words.length<=4:=(Hj ((Ph (r:=[]) (Rt hvl hx1)).2 _ (List.mem_of_getElem? hx2))).1.2;refine cT hA (wp_skip (Aa (wp_seq (wp_block (sr 4 (Kb 2 [(55,.slice (some ax1) xl1.length xc1),(60,.agg #[.slice yp1 yd1.words.length yc1,str yd1.inp,str yd1.out,bl yd1.app])] hA [.agg #[.slice yp1 yd1.words.length yc1,str yd1.inp,str yd1.out,bl yd1.app]] (cc (⟨by omega,by omega⟩:(0:Int)<=((k:Nat):Int)/\((k:Nat):Int) < ((xl1.length:Nat):Int)) (cc (((((hv_j.keep hO.only).2 _ (List.mem_of_getElem? hx1)).1).ldn Fj hx2):Ld Tryz.prog w13 (ax1.add (k*4)) 104 (.agg #[.slice yp1 yd1.words.length yc1,str yd1.inp,str yd1.out,bl yd1.app])) c0)) fun fr hA=>Mn [.slice none 0 0,str (⟨#[]⟩),str (⟨#[]⟩),bl false] 104 8 hA hO fun fr w14 b4 hA hO=>Ms 0 [.slice yp1 yd1.words.length yc1,str yd1.inp,str yd1.out,bl yd1.app] 0 hA hO fun w15 hO=>Ab (Aa (sr 5 (Kb 2 [(62,.slice yp1 yd1.words.length yc1)] hA [.slice yp1 yd1.words.length yc1] (cc (hO.l1 0 0 30 (.slice yp1 yd1.words.length yc1)) c0) fun fr hA=>?_)))))))))
       replace hO:Ow Tryz.prog Ai w w15 ([(b4,104,[.slice yp1 yd1.words.length yc1,str yd1.inp,str yd1.out,bl yd1.app]),(b3,103,[.slice (some ax1) xl1.length xc1,bl xb1]),(b2,39,(cS 0 0 (⟨#[]⟩:ByteArray) none 0 0 0 0 0 none 0 0 none 0 0)),(b1,39,(cS mo po inp (some ad1) lj.length kj rd wr pv pK ln.length cK pP lp.length cP))]++(TK++(TL1++(TL2++(TL7++(TL4++(TL5++(TL6++([]))))))))):=hO;refine Ag (mC (d:=(some 63)) hA Tryz.func60 ((Xs yp1 yc1 yd1.words _ (((hv_j.keep hO.only).2 _ (List.mem_of_getElem? hx1)).2 _ (List.mem_of_getElem? hx2)) (by omega)).mono ?_));rintro en w16 ⟨p2,c2,T5,rfl,hT5,hW⟩;refine ⟨_,rfl,?_⟩;clear hA fr; intro fr hA;replace hO:=Ow.join hO hW; clear hW;replace hO:Ow Tryz.prog Ai w _ ([(b4,104,[.slice yp1 yd1.words.length yc1,str yd1.inp,str yd1.out,bl yd1.app]),(b3,103,[.slice (some ax1) xl1.length xc1,bl xb1]),(b2,39,(cS 0 0 (⟨#[]⟩:ByteArray) none 0 0 0 0 0 none 0 0 none 0 0)),(b1,39,(cS mo po inp (some ad1) lj.length kj rd wr pv pK ln.length cK pP lp.length cP))]++(TK++(TL1++(TL2++(TL7++(TL4++(TL5++(TL6++(T5++([])))))))))):=hO.to (by first | rfl | (simp only [TP,apd]));refine Ka 1 [(64,pt b4)] hA fun fr hA=>Ms 0 [.slice p2 yd1.words.length c2] 0 hA hO fun w17 hO=>Ab (Aa ?_);have hS:Ow Tryz.prog Ai w _ [(b4,104,[.slice p2 yd1.words.length c2,str yd1.inp,str yd1.out,bl yd1.app]),(b3,103,[.slice (some ax1) xl1.length xc1,bl xb1]),(b2,39,(cS 0 0 (⟨#[]⟩:ByteArray) none 0 0 0 0 0 none 0 0 none 0 0)),(b1,39,(cS mo po inp (some ad1) lj.length kj rd wr pv pK ln.length cK pP lp.length cP))]:=hO.sub [0,1,2,3]
       refine rT (.q 0 (.q 1 (.q 2 (.q 3 (.q 4 (.q 5 (.q 7 (.m 6 (.m 8 (.m 9 (.q 10 (.q 11 (.m 12 .fin .non))) .non) .non) (.m 8 (.m 6 (.m 9 (.q 10 (.q 11 (.m 12 .fin .non))) .non) .non) .non))))))))) hS ?_;intro w18 ho; replace hO:=hO.st ho; clear ho;refine Ay (t1:= .m 9 (.q 10 (.q 11 (.m 12 .fin .non))) .non) (fun fr W=>∃ (s1:Nat),Holds 82 [] fr [(1,pt b1),(2,pt b2),(4,.slice (some aJ) lj.length lj.length),(5,i64 ((i2:Nat):Int)),(41,.slice (some ad1) lj.length kj),(42,i64 ((lj.length:Nat):Int)),(43,i64 ((i2:Nat):Int)),(55,.slice (some ax1) xl1.length xc1),(56,i64 ((xl1.length:Nat):Int)),(57,i64 ((k:Nat):Int)),(65,.slice (some aJ) lj.length lj.length),(66,i64 ((i2:Nat):Int)),(71,.slice pL5 cs.length cL5),(73,.slice (some ⟨s1,0,none⟩) 1 1)]/\Ow Tryz.prog Ai w W ([(s1,104,[.slice p2 yd1.words.length c2,str yd1.inp,str yd1.out,bl yd1.app]),(b4,104,[.slice p2 yd1.words.length c2,str yd1.inp,str yd1.out,bl yd1.app]),(b3,103,[.slice (some ax1) xl1.length xc1,bl xb1]),(b2,39,(cS 0 0 (⟨#[]⟩:ByteArray) none 0 0 0 0 0 none 0 0 none 0 0)),(b1,39,(cS mo po inp (some ad1) lj.length kj rd wr pv pK ln.length cK pP lp.length cP))]++(TK++(TL1++(TL2++(TL7++(TL4++(TL5++(TL6++(T5++([]))))))))))/\True) ?_ ?_
       · rintro fr w19 ⟨s1,hA,hO,-⟩;refine Af ?_ ?_
         · replace hO:Ow Tryz.prog Ai w w19 ([(s1,104,[.slice p2 yd1.words.length c2,str yd1.inp,str yd1.out,bl yd1.app]),(b4,104,[.slice p2 yd1.words.length c2,str yd1.inp,str yd1.out,bl yd1.app]),(b3,103,[.slice (some ax1) xl1.length xc1,bl xb1]),(b2,39,(cS 0 0 (⟨#[]⟩:ByteArray) none 0 0 0 0 0 none 0 0 none 0 0)),(b1,39,(cS mo po inp (some ad1) lj.length kj rd wr pv pK ln.length cK pP lp.length cP))]++(TK++(TL1++(TL2++(TL7++(TL4++(TL5++(TL6++(T5++([])))))))))):=hO
           refine (mA (f:=fC) (el:=104) (sz:=4) (bytes:=64) (p:=pL5) (c:=cL5) (l:=cs) (l':=([⟨p2,c2,yd1⟩]:List CV)) (T:=TL5) (t:=101) (tx:=101) (ty:=101) (x:= .slice (some ⟨s1,0,none⟩) 1 1) (d:=74) ([(s1,104,[.slice p2 yd1.words.length c2,str yd1.inp,str yd1.out,bl yd1.app]),(b4,104,[.slice p2 yd1.words.length c2,str yd1.inp,str yd1.out,bl yd1.app]),(b3,103,[.slice (some ax1) xl1.length xc1,bl xb1]),(b2,39,(cS 0 0 (⟨#[]⟩:ByteArray) none 0 0 0 0 0 none 0 0 none 0 0)),(b1,39,(cS mo po inp (some ad1) lj.length kj rd wr pv pK ln.length cK pP lp.length cP))]++(TK++(TL1++(TL2++(TL7++(TL4++([]))))))) (TL6++(T5++([]))) Fj hA (hO.tt:Ow Tryz.prog Ai w _ (([(s1,104,[.slice p2 yd1.words.length c2,str yd1.inp,str yd1.out,bl yd1.app]),(b4,104,[.slice p2 yd1.words.length c2,str yd1.inp,str yd1.out,bl yd1.app]),(b3,103,[.slice (some ax1) xl1.length xc1,bl xb1]),(b2,39,(cS 0 0 (⟨#[]⟩:ByteArray) none 0 0 0 0 0 none 0 0 none 0 0)),(b1,39,(cS mo po inp (some ad1) lj.length kj rd wr pv pK ln.length cK pP lp.length cP))]++(TK++(TL1++(TL2++(TL7++(TL4++([])))))))++(TL5++(TL6++(T5++([])))))) hTL5 (Vw.src (e':=104) Fj ((hO.b 0).vw (off:=0) (xs:=([⟨p2,c2,yd1⟩]:List CV)) (by kernel_rfl)) (by kernel_rfl)) (by first | omega | (simp only [List.length_append,List.length_cons,List.length_nil]; omega)) (by unfold maxLen; first | omega | (simp only [List.length_append,List.length_cons,List.length_nil]; omega)) fun fr w20 p3 c3 T6 hA hO hT6=>?_)
           replace hO:Ow Tryz.prog Ai w w20 ([(s1,104,[.slice p2 yd1.words.length c2,str yd1.inp,str yd1.out,bl yd1.app]),(b4,104,[.slice p2 yd1.words.length c2,str yd1.inp,str yd1.out,bl yd1.app]),(b3,103,[.slice (some ax1) xl1.length xc1,bl xb1]),(b2,39,(cS 0 0 (⟨#[]⟩:ByteArray) none 0 0 0 0 0 none 0 0 none 0 0)),(b1,39,(cS mo po inp (some ad1) lj.length kj rd wr pv pK ln.length cK pP lp.length cP))]++(TK++(TL1++(TL2++(TL7++(TL4++(T6++(TL6++(T5++([])))))))))):=hO.to (by first | rfl | (simp only [TP,apd]));refine ⟨(hO.sub [1,2,3,4]),?_⟩;refine Kt [10,11] [(76,.pointer (some (aJ.add (i2*2))))] hA [] (cc (⟨by omega,by omega⟩:(0:Int)<=((i2:Nat):Int)/\((i2:Nat):Int) < ((lj.length:Nat):Int)) c0) fun fr hA=>Af ?_ ?_
           · replace hO:Ow Tryz.prog Ai w w20 ([(s1,104,[.slice p2 yd1.words.length c2,str yd1.inp,str yd1.out,bl yd1.app]),(b4,104,[.slice p2 yd1.words.length c2,str yd1.inp,str yd1.out,bl yd1.app]),(b3,103,[.slice (some ax1) xl1.length xc1,bl xb1]),(b2,39,(cS 0 0 (⟨#[]⟩:ByteArray) none 0 0 0 0 0 none 0 0 none 0 0)),(b1,39,(cS mo po inp (some ad1) lj.length kj rd wr pv pK ln.length cK pP lp.length cP))]++(TK++(TL1++(TL2++(TL7++(TL4++(T6++(TL6++(T5++([])))))))))):=hO;refine (mSE (f:=fJ) (el:=103) (ad:=aJ) (ad':=aJ.add (i2*2)) (c:=lj.length) (off:=i2*2+0) (vc:=[.slice p3 ((cs++([⟨p2,c2,yd1⟩]:List CV)).length) c3]) (l':=(m2.set i2 ⟨p3,c3,cs++([⟨p2,c2,yd1⟩]:List CV),xb1⟩)) Eb hA (hO.tt:Ow Tryz.prog Ai w _ (([(s1,104,[.slice p2 yd1.words.length c2,str yd1.inp,str yd1.out,bl yd1.app]),(b4,104,[.slice p2 yd1.words.length c2,str yd1.inp,str yd1.out,bl yd1.app]),(b3,103,[.slice (some ax1) xl1.length xc1,bl xb1]),(b2,39,(cS 0 0 (⟨#[]⟩:ByteArray) none 0 0 0 0 0 none 0 0 none 0 0)),(b1,39,(cS mo po inp (some ad1) lj.length kj rd wr pv pK ln.length cK pP lp.length cP))]++(TK++(TL1++(TL2++([])))))++(TL7++(TL4++(T6++(TL6++(T5++([])))))))) hTL7 (kO (by omega)) (by rw [List.length_set,List.length_set]) (by rw [List.length_set]; show i2*2+0+1<=_; omega) rfl fun w21 T7 hO hT7=>?_)
             replace hO:Ow Tryz.prog Ai w w21 ([(s1,104,[.slice p2 yd1.words.length c2,str yd1.inp,str yd1.out,bl yd1.app]),(b4,104,[.slice p2 yd1.words.length c2,str yd1.inp,str yd1.out,bl yd1.app]),(b3,103,[.slice (some ax1) xl1.length xc1,bl xb1]),(b2,39,(cS 0 0 (⟨#[]⟩:ByteArray) none 0 0 0 0 0 none 0 0 none 0 0)),(b1,39,(cS mo po inp (some ad1) lj.length kj rd wr pv pK ln.length cK pP lp.length cP))]++(TK++(TL1++(TL2++(T7++(TL4++(T6++(TL6++(T5++([])))))))))):=hO.to (by first | rfl | (simp only [TP,apd]));refine ⟨(hO.sub [1,2,3,4]),?_⟩;refine Ax (Ad (Aa (Rc [(57,i64 (((k:Nat):Int)+1))] hA [bl true] (cc ((Am (by omega) (by omega)):inK .i64 (((k:Nat):Int)+1)) c0) fun fr hA=>Aa ?_)));replace hO:Ow Tryz.prog Ai w w21 ([(s1,104,[.slice p2 yd1.words.length c2,str yd1.inp,str yd1.out,bl yd1.app]),(b4,104,[.slice p2 yd1.words.length c2,str yd1.inp,str yd1.out,bl yd1.app]),(b3,103,[.slice (some ax1) xl1.length xc1,bl xb1]),(b2,39,(cS 0 0 (⟨#[]⟩:ByteArray) none 0 0 0 0 0 none 0 0 none 0 0)),(b1,39,(cS mo po inp (some ad1) lj.length kj rd wr pv pK ln.length cK pP lp.length cP))]++(TK++(TL1++(TL2++(T7++(TL4++(T6++(TL6++(T5++([])))))))))):=hO;have hPWn:Ah (TL6++T5) (fun w_=>∀ y∈(cs++([⟨p2,c2,yd1⟩]:List CV)),VC w_ y):=iY (y:=⟨p2,c2,yd1⟩) hTL6 hT5.holds
             replace hO:Ow Tryz.prog Ai w w21 ([(s1,104,[.slice p2 yd1.words.length c2,str yd1.inp,str yd1.out,bl yd1.app]),(b4,104,[.slice p2 yd1.words.length c2,str yd1.inp,str yd1.out,bl yd1.app]),(b3,103,[.slice (some ax1) xl1.length xc1,bl xb1]),(b2,39,(cS 0 0 (⟨#[]⟩:ByteArray) none 0 0 0 0 0 none 0 0 none 0 0)),(b1,39,(cS mo po inp (some ad1) lj.length kj rd wr pv pK ln.length cK pP lp.length cP))]++(TK++(TL1++(TL2++(T7++(TL4++(T6++((TL6++T5)++([]))))))))):=hO.to (by first | rfl | (simp only [TP,apd]));exact ⟨_,by omega,k+1,(cs++([⟨p2,c2,yd1⟩]:List CV)),p3,c3,T6,(TL6++T5),T7,rfl,hA.ss,(Ow.subP (A:=[_,_,_,_,_]) hO (.cons _ (.cons _ (.cons_cons _ (.cons_cons _ (.cons_cons _ .slnil)))))),hT6,hPWn,hT7,(by omega),(by rw [List.length_append,hcl3]; rfl),(by rw [List.map_append,hcd3,List.take_add_one,hx2,List.map_append]; rfl),trivial⟩
           exact trivial
         exact trivial
       intro ht1;refine Kt [0,1,2,3,4,5,7] [(65,.slice (some aJ) lj.length lj.length),(66,i64 ((i2:Nat):Int)),(70,.pointer (some (aJ.add (i2*2)))),(72,.agg #[.slice p2 yd1.words.length c2,str yd1.inp,str yd1.out,bl yd1.app])] hA [.agg #[.slice p2 yd1.words.length c2,str yd1.inp,str yd1.out,bl yd1.app]] (cc (⟨by omega,by omega⟩:(0:Int)<=((i2:Nat):Int)/\((i2:Nat):Int) < ((lj.length:Nat):Int)) (cc (hS.sn 0 0 104 [.slice p2 yd1.words.length c2,str yd1.inp,str yd1.out,bl yd1.app]) c0)) fun fr hA=>Af ?_ ?_
       · replace hO:Ow Tryz.prog Ai w w18 ([(b4,104,[.slice p2 yd1.words.length c2,str yd1.inp,str yd1.out,bl yd1.app]),(b3,103,[.slice (some ax1) xl1.length xc1,bl xb1]),(b2,39,(cS 0 0 (⟨#[]⟩:ByteArray) none 0 0 0 0 0 none 0 0 none 0 0)),(b1,39,(cS mo po inp (some ad1) lj.length kj rd wr pv pK ln.length cK pP lp.length cP))]++(TK++(TL1++(TL2++(TL7++(TL4++(TL5++(TL6++(T5++([])))))))))):=hO;refine (Qc [(71,.slice pL5 cs.length cL5)] hA [.slice pL5 cs.length cL5] (cc ((((show Vw fJ _ (.slice (some aJ) (m2.set i2 ⟨pL5,cL5,cs,xb1⟩).length lj.length) (m2.set i2 ⟨pL5,cL5,cs,xb1⟩) from One.vw hTL7 (A:=([(b4,104,[.slice p2 yd1.words.length c2,str yd1.inp,str yd1.out,bl yd1.app]),(b3,103,[.slice (some ax1) xl1.length xc1,bl xb1]),(b2,39,(cS 0 0 (⟨#[]⟩:ByteArray) none 0 0 0 0 0 none 0 0 none 0 0)),(b1,39,(cS mo po inp (some ad1) lj.length kj rd wr pv pK ln.length cK pP lp.length cP))]++(TK++(TL1++(TL2++([])))))) (B:=TL4++(TL5++(TL6++(T5++([]))))) (hO.tt:Ow Tryz.prog Ai w _ (([(b4,104,[.slice p2 yd1.words.length c2,str yd1.inp,str yd1.out,bl yd1.app]),(b3,103,[.slice (some ax1) xl1.length xc1,bl xb1]),(b2,39,(cS 0 0 (⟨#[]⟩:ByteArray) none 0 0 0 0 0 none 0 0 none 0 0)),(b1,39,(cS mo po inp (some ad1) lj.length kj rd wr pv pK ln.length cK pP lp.length cP))]++(TK++(TL1++(TL2++([])))))++(TL7++(TL4++(TL5++(TL6++(T5++([])))))))).m)).ld0 Eb (show (m2.set i2 ⟨pL5,cL5,cs,xb1⟩)[i2]? = some (⟨pL5,cL5,cs,xb1⟩:JV) from List.getElem?_set_self (by omega)) (by rfl)):Ld Tryz.prog w18 (aJ.add (i2*2)) 101 (.slice pL5 cs.length cL5)) c0) fun fr hA=>?_);refine ⟨(hO.sub [0,1,2,3]),?_⟩;refine Af ?_ ?_
         · refine (mN (l:=[.slice p2 yd1.words.length c2,str yd1.inp,str yd1.out,bl yd1.app]) (t:=104) (v:=fun b=> .slice (some ⟨b,0,none⟩) 1 1) (d:=73) hA hO fun fr w22 b5 hA hO=>⟨(hO.sub [1,2,3,4]),?_⟩);exact ht1 _ _ ⟨b5,hA.sb,hO,trivial⟩
         exact trivial
       refine Af ?_ ?_
       · refine (mN (l:=[.slice p2 yd1.words.length c2,str yd1.inp,str yd1.out,bl yd1.app]) (t:=104) (v:=fun b=> .slice (some ⟨b,0,none⟩) 1 1) (d:=73) hA hO fun fr w23 b6 hA hO=>⟨(hO.sub [1,2,3,4]),?_⟩);refine Af ?_ ?_
         · replace hO:Ow Tryz.prog Ai w w23 ([(b6,104,[.slice p2 yd1.words.length c2,str yd1.inp,str yd1.out,bl yd1.app]),(b4,104,[.slice p2 yd1.words.length c2,str yd1.inp,str yd1.out,bl yd1.app]),(b3,103,[.slice (some ax1) xl1.length xc1,bl xb1]),(b2,39,(cS 0 0 (⟨#[]⟩:ByteArray) none 0 0 0 0 0 none 0 0 none 0 0)),(b1,39,(cS mo po inp (some ad1) lj.length kj rd wr pv pK ln.length cK pP lp.length cP))]++(TK++(TL1++(TL2++(TL7++(TL4++(TL5++(TL6++(T5++([])))))))))):=hO
           refine (Qc [(71,.slice pL5 cs.length cL5)] hA [.slice pL5 cs.length cL5] (cc ((((show Vw fJ _ (.slice (some aJ) (m2.set i2 ⟨pL5,cL5,cs,xb1⟩).length lj.length) (m2.set i2 ⟨pL5,cL5,cs,xb1⟩) from One.vw hTL7 (A:=([(b6,104,[.slice p2 yd1.words.length c2,str yd1.inp,str yd1.out,bl yd1.app]),(b4,104,[.slice p2 yd1.words.length c2,str yd1.inp,str yd1.out,bl yd1.app]),(b3,103,[.slice (some ax1) xl1.length xc1,bl xb1]),(b2,39,(cS 0 0 (⟨#[]⟩:ByteArray) none 0 0 0 0 0 none 0 0 none 0 0)),(b1,39,(cS mo po inp (some ad1) lj.length kj rd wr pv pK ln.length cK pP lp.length cP))]++(TK++(TL1++(TL2++([])))))) (B:=TL4++(TL5++(TL6++(T5++([]))))) (hO.tt:Ow Tryz.prog Ai w _ (([(b6,104,[.slice p2 yd1.words.length c2,str yd1.inp,str yd1.out,bl yd1.app]),(b4,104,[.slice p2 yd1.words.length c2,str yd1.inp,str yd1.out,bl yd1.app]),(b3,103,[.slice (some ax1) xl1.length xc1,bl xb1]),(b2,39,(cS 0 0 (⟨#[]⟩:ByteArray) none 0 0 0 0 0 none 0 0 none 0 0)),(b1,39,(cS mo po inp (some ad1) lj.length kj rd wr pv pK ln.length cK pP lp.length cP))]++(TK++(TL1++(TL2++([])))))++(TL7++(TL4++(TL5++(TL6++(T5++([])))))))).m)).ld0 Eb (show (m2.set i2 ⟨pL5,cL5,cs,xb1⟩)[i2]? = some (⟨pL5,cL5,cs,xb1⟩:JV) from List.getElem?_set_self (by omega)) (by rfl)):Ld Tryz.prog w23 (aJ.add (i2*2)) 101 (.slice pL5 cs.length cL5)) c0) fun fr hA=>?_);refine ⟨(hO.sub [1,2,3,4]),?_⟩;exact ht1 _ _ ⟨b6,hA.sb,hO.tt,trivial⟩
         exact trivial
       exact trivial
     rw [h3] at hA;have h3p:=qY h3;refine cF hA (wp_exit (Aj (Aj (Ap (Ad (Aa (Rc [(43,i64 (((i2:Nat):Int)+1))] hA [bl true] (cc ((Am (by omega) (by omega)):inK .i64 (((i2:Nat):Int)+1)) c0) fun fr hA=>Aa ?_)))))));replace hO:Ow Tryz.prog Ai w w13 ([(b3,103,[.slice xp1 xl1.length xc1,bl xb1]),(b2,39,(cS 0 0 (⟨#[]⟩:ByteArray) none 0 0 0 0 0 none 0 0 none 0 0)),(b1,39,(cS mo po inp (some ad1) lj.length kj rd wr pv pK ln.length cK pP lp.length cP))]++(TK++(TL1++(TL2++(TL7++(TL4++(TL5++(TL6++([]))))))))):=hO;have hJDn:Ah (TL4++(TL5++TL6)) (fun w_=>∀ x∈((m2.set i2 ⟨pL5,cL5,cs,xb1⟩).take (i2+1)),VJ w_ x):=iX hTL4 hz2 hTL5.holds hTL6;replace hO:Ow Tryz.prog Ai w w13 ([(b3,103,[.slice xp1 xl1.length xc1,bl xb1]),(b2,39,(cS 0 0 (⟨#[]⟩:ByteArray) none 0 0 0 0 0 none 0 0 none 0 0)),(b1,39,(cS mo po inp (some ad1) lj.length kj rd wr pv pK ln.length cK pP lp.length cP))]++(TK++(TL1++(TL2++(TL7++((TL4++(TL5++TL6))++([]))))))):=hO.to (by first | rfl | (simp only [TP,apd]));exact ⟨_,by omega,i2+1,(m2.set i2 ⟨pL5,cL5,cs,xb1⟩),TL7,(TL4++(TL5++TL6)),rfl,hA.ss,(Ow.subP (A:=[_,_,_]) hO (.cons _ (.cons_cons _ (.cons_cons _ .slnil)))),hTL7,hJDn,(by omega),(by rw [List.length_set]; exact hml2),(kS hmd2 hz2 hx1 hcd3 (by omega)),trivial⟩
   rw [h2] at hA;have h2p:=qY h2;refine cF hA (wp_exit (Aj (Aj (Ap (Aa (sr 3 (Ka 2 [(79,.slice (some aJ) lj.length lj.length),(80,pf b1 3)] hA fun fr hA=>Ms 3 [.slice (some aJ) lj.length lj.length] 1 hA hO fun w24 hO=>Ab (Aa (sr 2 (Kb 1 [(81,.agg #[i64 mo,i64 po,str inp,.slice (some aJ) lj.length lj.length,i64 rd,i64 wr,i64 pv,.slice pK ln.length cK,.slice pP lp.length cP])] hA [.agg #[i64 mo,i64 po,str inp,.slice (some aJ) lj.length lj.length,i64 rd,i64 wr,i64 pv,.slice pK ln.length cK,.slice pP lp.length cP]] (cc (hO.ln 1 0 39 (cS mo po inp (some aJ) lj.length lj.length rd wr pv pK ln.length cK pP lp.length cP)) c0) fun fr hA=>Ms 0 (cS mo po inp (some aJ) lj.length lj.length rd wr pv pK ln.length cK pP lp.length cP) 0 hA hO fun w25 hO=>Ab (Aa (wp_ret (cR (cs:=[some (⟨b2,0,none⟩,39)]) (us:=[.agg #[i64 mo,i64 po,str inp,.slice (some aJ) lj.length lj.length,i64 rd,i64 wr,i64 pv,.slice pK ln.length cK,.slice pP lp.length cP]]) hA [.agg #[i64 mo,i64 po,str inp,.slice (some aJ) lj.length lj.length,i64 rd,i64 wr,i64 pv,.slice pK ln.length cK,.slice pP lp.length cP]] ⟨(hO.ln 0 0 39 (cS mo po inp (some aJ) lj.length lj.length rd wr pv pK ln.length cK pP lp.length cP)),trivial⟩ ?_)))))))))))));have htm:m.take i=m:=List.take_of_length_le (by omega);have htm2:m2.take i2=m2:=List.take_of_length_le (by omega);have hmm2:m2.map JV.d=lj.map JV.d:=by rw [htm2,List.take_of_length_le (show lj.length<=i2 by omega)] at hmd2; exact hmd2
   have hJ0:Ah (TK++(TL1++(TL2++(TL3++(TL4++([])))))) (fun w=>VL w (.slice (some aJ) m2.length lj.length) m2):=(Ah.and (hTL3.holds.l.r.r.r) (hTL4.l.r.r.r.r)).mono fun _ h_=>⟨h_.1,htm2 ▸ h_.2⟩;have hP0:Ah (TK++(TL1++(TL2++(TL3++(TL4++([])))))) (fun w=>PL w (.slice pP m.length cP) m):=(Ah.and (hTL1.holds.l.r) (hTL2.l.r.r)).mono fun _ h_=>⟨h_.1,htm ▸ h_.2⟩;have hok0:Ah (TK++(TL1++(TL2++(TL3++(TL4++([])))))) (SV.ok (⟨mo,po,inp,some aJ,lj.length,m2,rd,wr,pv,pK,cK,ln,pP,cP,m⟩:SV)):=ok3 hJ0 (hTK.holds.l) hP0;have hd0:SV.d (⟨mo,po,inp,some aJ,lj.length,m2,rd,wr,pv,pK,cK,ln,pP,cP,m⟩:SV)=SV.d (⟨mo,po,inp,pj,kj,lj,rd,wr,pv,pn,kn,ln,pp,kp,lp⟩:SV):=by unfold SV.d; simp only [hmm2,hmd]
   have hsm0:SV.sm (⟨mo,po,inp,some aJ,lj.length,m2,rd,wr,pv,pK,cK,ln,pP,cP,m⟩:SV):=⟨hm_i,(by show smL 1000000 (m2.map JV.d); rw [hmm2]; exact hm_j),hm_k,(by show m.length<=_; omega),hTK.le,(by show m2.length<=lj.length; omega),hTL1.le⟩;exact ⟨(⟨mo,po,inp,some aJ,lj.length,m2,rd,wr,pv,pK,cK,ln,pP,cP,m⟩:SV),_,hd0,hsm0,(show _=Ending.returned (.agg #[i64 mo,i64 po,str inp,.slice (some aJ) m2.length lj.length,i64 rd,i64 wr,i64 pv,.slice pK ln.length cK,.slice pP m.length cP]) from by rw [hml2,hmlen]; rfl),((Ow.subP (A:=[_,_]) hO (.cons _ (.cons _ .slnil)))).to (List.nil_append _),hok0⟩
 have hS:=hO.pk [0];refine rT (.q 0 (.q 3 (.m 1 (.m 2 (.m 4 (.q 6 (.m 5 (.m 7 (.q 8 (.m 9 .fin .non)) .non) .non)) .non) (.m 4 (.m 2 (.q 6 (.m 5 (.m 7 (.q 8 (.m 9 .fin .non)) .non) .non)) .non) .non)) (.m 4 (.m 1 (.m 2 (.q 6 (.m 5 (.m 7 (.q 8 (.m 9 .fin .non)) .non) .non)) .non) .non) .non)))) hS ?_;intro w26 ho; replace hO:=hO.st ho; clear ho;refine Ay (t1:= .m 2 (.q 6 (.m 5 (.m 7 (.q 8 (.m 9 .fin .non)) .non) .non)) .non) (fun fr W=>Holds 82 [] fr [(1,pt b1),(2,pt b2),(10,.slice pn ln.length kn),(13,.slice pp lp.length kp)]/\Ow Tryz.prog Ai w W [(b2,39,(cS 0 0 (⟨#[]⟩:ByteArray) none 0 0 0 0 0 none 0 0 none 0 0)),(b1,39,(cS mo po inp pj lj.length kj rd wr pv pn ln.length kn pp lp.length kp))]/\True) ?_ ?_
 · rintro fr w27 ⟨hA,hO,-⟩;refine Af ?_ ?_
   · replace hO:Ow Tryz.prog Ai w w27 [(b2,39,(cS 0 0 (⟨#[]⟩:ByteArray) none 0 0 0 0 0 none 0 0 none 0 0)),(b1,39,(cS mo po inp pj lj.length kj rd wr pv pn ln.length kn pp lp.length kp))]:=hO;refine (mC (d:=(some 11)) hA Tryz.func58 ((Hc pn kn ln _ (hv_k.keep hO.only) (by omega)).mono ?_));rintro en w28 ⟨p4,c4,T8,rfl,hT8,hW⟩;refine ⟨_,rfl,?_⟩;clear hA fr; intro fr hA;replace hO:Ow Tryz.prog Ai w _ ([(b2,39,(cS 0 0 (⟨#[]⟩:ByteArray) none 0 0 0 0 0 none 0 0 none 0 0)),(b1,39,(cS mo po inp pj lj.length kj rd wr pv pn ln.length kn pp lp.length kp))]++[]):=hO.to (List.append_nil _).symm;replace hO:=Ow.join hO hW; clear hW;replace hO:Ow Tryz.prog Ai w _ ([(b2,39,(cS 0 0 (⟨#[]⟩:ByteArray) none 0 0 0 0 0 none 0 0 none 0 0)),(b1,39,(cS mo po inp pj lj.length kj rd wr pv pn ln.length kn pp lp.length kp))]++(T8++([]))):=hO.to (by first | rfl | (simp only [TP,apd]));refine ⟨(hO.sub [0]),?_⟩;refine Kt [6] [(15,pf b1 7)] hA [] c0 fun fr hA=>Af ?_ ?_
     · replace hO:Ow Tryz.prog Ai w w28 ([(b2,39,(cS 0 0 (⟨#[]⟩:ByteArray) none 0 0 0 0 0 none 0 0 none 0 0)),(b1,39,(cS mo po inp pj lj.length kj rd wr pv pn ln.length kn pp lp.length kp))]++(T8++([]))):=hO;refine (mC (d:=(some 14)) hA Tryz.func59 ((Fy pp kp lp _ (hv_p.keep hO.only).1 (by omega)).mono ?_));rintro en w29 ⟨p5,c5,T9,rfl,hT9,hW⟩;refine ⟨_,rfl,?_⟩;clear hA fr; intro fr hA;replace hO:=Ow.join hO hW; clear hW;replace hO:Ow Tryz.prog Ai w _ ([(b2,39,(cS 0 0 (⟨#[]⟩:ByteArray) none 0 0 0 0 0 none 0 0 none 0 0)),(b1,39,(cS mo po inp pj lj.length kj rd wr pv pn ln.length kn pp lp.length kp))]++(T8++(T9++([])))):=hO.to (by first | rfl | (simp only [TP,apd]));refine ⟨(hO.sub [0]),?_⟩;refine Af ?_ ?_
       · refine (mS (off:=7) (vc:=[.slice p4 ln.length c4]) 1 hA hO fun w30 hO=>⟨(hO.sub [0]),?_⟩);refine Kt [8] [(16,pf b1 8)] hA [] c0 fun fr hA=>Af ?_ ?_
         · refine (mS (off:=8) (vc:=[.slice p5 lp.length c5]) 1 hA hO fun w31 hO=>⟨(hO.sub [0]),?_⟩);refine Ax ?_;replace hO:Ow Tryz.prog Ai w w31 ([(b2,39,(cS 0 0 (⟨#[]⟩:ByteArray) none 0 0 0 0 0 none 0 0 none 0 0)),(b1,39,(cS mo po inp pj lj.length kj rd wr pv p4 ln.length c4 p5 lp.length c5))]++(T8++(T9++([])))):=hO;exact Aa (⟨p4,c4,T8,p5,c5,T9,hA.sb,hO,hT8,hT9,trivial⟩)
         exact trivial
       exact trivial
     exact trivial
   exact trivial
 intro ht2;refine Kt [0,3] [(9,pf b1 7),(12,pf b1 8)] hA [] c0 fun fr hA=>Af ?_ ?_
 · refine (Qc [(10,.slice pn ln.length kn)] hA [.slice pn ln.length kn] (cc (hO.l1 1 7 33 (.slice pn ln.length kn)) c0) fun fr hA=>⟨(hO.sub [0]),?_⟩);refine Af ?_ ?_
   · replace hO:Ow Tryz.prog Ai w w26 [(b2,39,(cS 0 0 (⟨#[]⟩:ByteArray) none 0 0 0 0 0 none 0 0 none 0 0)),(b1,39,(cS mo po inp pj lj.length kj rd wr pv pn ln.length kn pp lp.length kp))]:=hO;refine (mC (d:=(some 11)) hA Tryz.func58 ((Hc pn kn ln _ (hv_k.keep hO.only) (by omega)).mono ?_));rintro en w32 ⟨p6,c6,T10,rfl,hT10,hW⟩;refine ⟨_,rfl,?_⟩;clear hA fr; intro fr hA;replace hO:Ow Tryz.prog Ai w _ ([(b2,39,(cS 0 0 (⟨#[]⟩:ByteArray) none 0 0 0 0 0 none 0 0 none 0 0)),(b1,39,(cS mo po inp pj lj.length kj rd wr pv pn ln.length kn pp lp.length kp))]++[]):=hO.to (List.append_nil _).symm;replace hO:=Ow.join hO hW; clear hW;replace hO:Ow Tryz.prog Ai w _ ([(b2,39,(cS 0 0 (⟨#[]⟩:ByteArray) none 0 0 0 0 0 none 0 0 none 0 0)),(b1,39,(cS mo po inp pj lj.length kj rd wr pv pn ln.length kn pp lp.length kp))]++(T10++([]))):=hO.to (by first | rfl | (simp only [TP,apd]));refine ⟨(hO.sub [0]),?_⟩;refine Af ?_ ?_
     · refine (Qc [(13,.slice pp lp.length kp)] hA [.slice pp lp.length kp] (cc (hO.l1 1 8 37 (.slice pp lp.length kp)) c0) fun fr hA=>⟨(hO.sub [0]),?_⟩);refine Kt [6] [(15,pf b1 7)] hA [] c0 fun fr hA=>Af ?_ ?_
       · replace hO:Ow Tryz.prog Ai w w32 ([(b2,39,(cS 0 0 (⟨#[]⟩:ByteArray) none 0 0 0 0 0 none 0 0 none 0 0)),(b1,39,(cS mo po inp pj lj.length kj rd wr pv pn ln.length kn pp lp.length kp))]++(T10++([]))):=hO;refine (mC (d:=(some 14)) hA Tryz.func59 ((Fy pp kp lp _ (hv_p.keep hO.only).1 (by omega)).mono ?_));rintro en w33 ⟨p7,c7,T11,rfl,hT11,hW⟩;refine ⟨_,rfl,?_⟩;clear hA fr; intro fr hA;replace hO:=Ow.join hO hW; clear hW;replace hO:Ow Tryz.prog Ai w _ ([(b2,39,(cS 0 0 (⟨#[]⟩:ByteArray) none 0 0 0 0 0 none 0 0 none 0 0)),(b1,39,(cS mo po inp pj lj.length kj rd wr pv pn ln.length kn pp lp.length kp))]++(T10++(T11++([])))):=hO.to (by first | rfl | (simp only [TP,apd]));refine ⟨(hO.sub [0]),?_⟩;refine Af ?_ ?_
         · refine (mS (off:=7) (vc:=[.slice p6 ln.length c6]) 1 hA hO fun w34 hO=>⟨(hO.sub [0]),?_⟩);refine Kt [8] [(16,pf b1 8)] hA [] c0 fun fr hA=>Af ?_ ?_
           · refine (mS (off:=8) (vc:=[.slice p7 lp.length c7]) 1 hA hO fun w35 hO=>⟨(hO.sub [0]),?_⟩);refine Ax ?_;replace hO:Ow Tryz.prog Ai w w35 ([(b2,39,(cS 0 0 (⟨#[]⟩:ByteArray) none 0 0 0 0 0 none 0 0 none 0 0)),(b1,39,(cS mo po inp pj lj.length kj rd wr pv p6 ln.length c6 p7 lp.length c7))]++(T10++(T11++([])))):=hO;exact Aa (⟨p6,c6,T10,p7,c7,T11,hA.sb,hO,hT10,hT11,trivial⟩)
           exact trivial
         exact trivial
       exact trivial
     exact trivial
   refine Af ?_ ?_
   · refine (Qc [(13,.slice pp lp.length kp)] hA [.slice pp lp.length kp] (cc (hO.l1 1 8 37 (.slice pp lp.length kp)) c0) fun fr hA=>⟨(hO.sub [0]),?_⟩);exact ht2 _ _ ⟨hA.sb,hO.to,trivial⟩
   exact trivial
 refine Af ?_ ?_
 · refine (Qc [(13,.slice pp lp.length kp)] hA [.slice pp lp.length kp] (cc (hO.l1 1 8 37 (.slice pp lp.length kp)) c0) fun fr hA=>⟨(hO.sub [0]),?_⟩);refine Af ?_ ?_
   · refine (Qc [(10,.slice pn ln.length kn)] hA [.slice pn ln.length kn] (cc (hO.l1 1 7 33 (.slice pn ln.length kn)) c0) fun fr hA=>⟨(hO.sub [0]),?_⟩);exact ht2 _ _ ⟨hA.sb,hO.to,trivial⟩
   exact trivial
 exact trivial
theorem cG (pb:Nat) (mo po:Int) (inp:ByteArray) (pj:Option Addr) (kj:Nat) (lj:List JV) (rd wr pv:Int) (pn:Option Addr) (kn:Nat) (ln:List Int) (pp:Option Addr) (kp:Nat) (lp:List PV) (T:OwL) (result:Int) (dp:Option Addr) (cd:Nat) (dl:List Int) (w:World) (hG:Ah T (SV.ok (⟨mo,po,inp,pj,kj,lj,rd,wr,pv,pn,kn,ln,pp,kp,lp⟩:SV))) (h0:Ow Tryz.prog (inT ((pb,39,cS mo po inp pj lj.length kj rd wr pv pn ln.length kn pp lp.length kp)::T)) w w ((pb,39,cS mo po inp pj lj.length kj rd wr pv pn ln.length kn pp lp.length kp)::T)) (hm:SV.sm (⟨mo,po,inp,pj,kj,lj,rd,wr,pv,pn,kn,ln,pp,kp,lp⟩:SV)) (hv:Bn (SV.d (⟨mo,po,inp,pj,kj,lj,rd,wr,pv,pn,kn,ln,pp,kp,lp⟩:SV))=true) (hE : ∀ w',Only (inT ((pb,39,cS mo po inp pj lj.length kj rd wr pv pn ln.length kn pp lp.length kp)::T)) w w'->ErrOk w') (hrn : -9223372036854775808<=result) (hrx:result<=9223372036854775807) (hvd : ∀ w',Only (inT ((pb,39,cS mo po inp pj lj.length kj rd wr pv pn ln.length kn pp lp.length kp)::T)) w w'->Vw fB w' (.slice dp dl.length cd) dl) (hud:U8s dl) (hdl:dl.length<=1000000) (hcd:dl.length<=cd):Calls Tryz.prog 30 #[pt pb,i64 result,.slice dp dl.length cd] w fun e w'=>∃ (v:SV) (x:PV) (Tn:OwL),A9 (SV.d (⟨mo,po,inp,pj,kj,lj,rd,wr,pv,pn,kn,ln,pp,kp,lp⟩:SV)) result dl=(v.d,x.d)/\v.sm/\Aq (v.lj.map JV.d)=true/\e = .returned (.agg #[i64 x.d.call,i64 x.d.a0,i64 x.d.a1,i64 x.d.a2,.slice x.p x.d.data.length x.c])/\Ow Tryz.prog (inT ((pb,39,cS mo po inp pj lj.length kj rd wr pv pn ln.length kn pp lp.length kp)::T)) w w' ((pb,39,v.cells)::(T++Tn))/\Ah (T++Tn) v.ok/\Ah (T++Tn) (fun w=>VP w x):=by
 obtain ⟨hb,hmo,hpl,hps,hjb⟩:=(Ee _).1 hv;have hvl:Aq (lj.map JV.d)=true:=hb.jobs;have hkn:ln.length<=1000:=by have:ln.length<=16:=hb.kids.len; omega
 have hlen:lp.length<=12:=by have:(lp.map PV.d).length<=12:=hb.len; rwa [List.length_map] at this
 have hpl' : 0 < lp.length↔(mo=2\/mo=6):=by have : 0 < (lp.map PV.d).length↔(mo=2\/mo=6):=hpl; rwa [List.length_map] at this
 have hp0 : ¬ (mo=2\/mo=6)->lp.length=0:=fun q=>by
  rcases Nat.eq_zero_or_pos lp.length with e | e
  · exact e
  · exact absurd (hpl'.1 e) q
 have hmo' : 0<=mo/\mo<=7:=hmo;have hin:inp.size<=300:=hb.inp;rcases (show mo=0\/mo=1\/mo=2\/mo=3\/mo=4\/mo=5\/mo=6\/mo=7 by omega) with h | h | h | h | h | h | h | h
 · exact oQ pb mo po inp pj kj lj rd wr pv pn kn ln pp kp lp T result dp cd dl w hG h0 hm hvl hE h hrn hrx
 · exact oP pb mo po inp pj kj lj rd wr pv pn kn ln pp kp lp T result dp cd dl w hG h0 hm hvl hE h hrn hrx (hp0 (by omega)) hin hvd hud hdl hcd
 · have hok:=pJ hG h0;cases lp with
   | nil=>exact absurd (hpl'.2 (.inl h)) (by simp)
   | cons x rp =>
    obtain ⟨qp,qc,qd⟩:=x;obtain ⟨ap,rfl⟩:=hok.p.1.pos (Nat.zero_lt_succ _);exact jJ pb mo po inp pj kj lj rd wr pv pn kn ln ap kp qp qc qd rp T result dp cd dl w hG h0 hm hvl hE h hrn hrx (by rw [List.length_cons] at hlen; omega)
 · exact oO pb mo po inp pj kj lj rd wr pv pn kn ln pp kp lp T result dp cd dl w hG h0 hm hvl hE h hrn hrx (hp0 (by omega))
 · exact oN pb mo po inp pj kj lj rd wr pv pn kn ln pp kp lp T result dp cd dl w hG h0 hm hvl hE h hrn hrx (hp0 (by omega)) ⟨hb.pos.1,hps (.inr h)⟩ hkn
 · exact oM pb mo po inp pj kj lj rd wr pv pn kn ln pp kp lp T result dp cd dl w hG h0 hm hvl hE h hrn hrx hkn
 · exact oL pb mo po inp pj kj lj rd wr pv pn kn ln pp kp lp T result dp cd dl w hG h0 hm hvl hE h hrn hrx (hpl'.2 (.inr h)) hlen
 · exact oK pb mo po inp pj kj lj rd wr pv pn kn ln pp kp lp T result dp cd dl w hG h0 hm hvl hE h hrn hrx
theorem Jw {c:CallL} (h:okC c=true):c.data.length<=128:=by
 rw [Dg] at h;exact (qX h).2.2.2.2
theorem kG {lp:List PV} (h : ∀ c∈lp.map PV.d,okC c=true) : ∀ x∈lp,x.d.data.length<=1000000:=fun x hx=>by
 have:=Jw (h _ (List.mem_map.2 ⟨x,hx,rfl⟩));omega
set_option maxHeartbeats 4000000 in
theorem iN (mo po:Int) (inp:ByteArray) (pj:Option Addr) (kj:Nat) (lj:List JV) (rd wr pv:Int) (pn:Option Addr) (kn:Nat) (ln:List Int) (pp:Option Addr) (kp:Nat) (lp:List PV) (result:Int) (dp:Option Addr) (cd:Nat) (dl:List Int) (w:World) (hs:SV.ok (⟨mo,po,inp,pj,kj,lj,rd,wr,pv,pn,kn,ln,pp,kp,lp⟩:SV) w) (hm:SV.sm (⟨mo,po,inp,pj,kj,lj,rd,wr,pv,pn,kn,ln,pp,kp,lp⟩:SV)) (hvd:Vw fB w (.slice dp dl.length cd) dl) (hud:U8s dl) (hdl:dl.length<=1000000) (hcd:dl.length<=cd) (hE:ErrOk w) (hrn : -9223372036854775808<=result) (hrx:result<=9223372036854775807) :
 Calls Tryz.prog 16 #[.agg #[i64 mo,i64 po,str inp,.slice pj lj.length kj,i64 rd,i64 wr,i64 pv,.slice pn ln.length kn,.slice pp lp.length kp],i64 result,.slice dp dl.length cd] w fun e w'=>∃ (v:SV) (x:PV) (T:OwL),Bb (SV.d (⟨mo,po,inp,pj,kj,lj,rd,wr,pv,pn,kn,ln,pp,kp,lp⟩:SV)) result dl=(v.d,x.d)/\v.sm/\e = .returned (.tuple #[.agg #[i64 v.mo,i64 v.po,str v.inp,.slice v.pj v.lj.length v.cj,i64 v.rd,i64 v.wr,i64 v.pv,.slice v.pc v.lc.length v.cc,.slice v.pp v.lp.length v.cp],.agg #[i64 x.d.call,i64 x.d.a0,i64 x.d.a1,i64 x.d.a2,.slice x.p x.d.data.length x.c]])/\Ow Tryz.prog Ai w w' T/\Ah T v.ok/\Ah T (fun w=>VP w x):=by
 refine An (args:=[.agg #[i64 mo,i64 po,str inp,.slice pj lj.length kj,i64 rd,i64 wr,i64 pv,.slice pn ln.length kn,.slice pp lp.length kp],i64 result,.slice dp dl.length cd]) (m:=25) (n:=28) Tryz.func16 rfl (by kernel_rfl) (by kernel_rfl) fun fr hA=>?_;have hO:=Ow.nil Tryz.prog Ai w;refine sr 3 (Mn (cS mo po inp pj lj.length kj rd wr pv pn ln.length kn pp lp.length kp) 39 3 hA hO fun fr w1 pb hA hO=>Mn (cS 0 0 (⟨#[]⟩:ByteArray) none 0 0 0 0 0 none 0 0 none 0 0) 39 6 hA hO fun fr w2 b1 hA hO=>Mn [i64 0,i64 0,i64 0,i64 0,.slice none 0 0] 43 7 hA hO fun fr w3 b2 hA hO=>Ab (Aa (wp_seq (sr 3 (Kb 1 [(9,.agg #[i64 mo,i64 po,str inp,.slice pj lj.length kj,i64 rd,i64 wr,i64 pv,.slice pn ln.length kn,.slice pp lp.length kp])] hA [.agg #[i64 mo,i64 po,str inp,.slice pj lj.length kj,i64 rd,i64 wr,i64 pv,.slice pn ln.length kn,.slice pp lp.length kp]] (cc (hO.ln 2 0 39 (cS mo po inp pj lj.length kj rd wr pv pn ln.length kn pp lp.length kp)) c0) fun fr hA=>Mk 10 hA hO Tryz.func22 (Nf mo po inp pj kj lj rd wr pv pn kn ln pp kp lp _ (hs.keep hO.only) hm) fun fr w4 hA hO=>Ka 1 [(11,bl (!(Bn (SV.d (⟨mo,po,inp,pj,kj,lj,rd,wr,pv,pn,kn,ln,pp,kp,lp⟩:SV)))))] hA fun fr hA=>Ab (Aa ?_))))));rcases qV (Bn (SV.d (⟨mo,po,inp,pj,kj,lj,rd,wr,pv,pn,kn,ln,pp,kp,lp⟩:SV))) with h1 | h1
 · rw [h1] at hA;have hbv:=((Ee _).1 h1).1;refine cF hA (wp_skip (Aa (sr 3 (Kb 1 [(17,.agg #[i64 mo,i64 po,str inp,.slice pj lj.length kj,i64 rd,i64 wr,i64 pv,.slice pn ln.length kn,.slice pp lp.length kp])] hA [.agg #[i64 mo,i64 po,str inp,.slice pj lj.length kj,i64 rd,i64 wr,i64 pv,.slice pn ln.length kn,.slice pp lp.length kp]] (cc (hO.ln 2 0 39 (cS mo po inp pj lj.length kj rd wr pv pn ln.length kn pp lp.length kp)) c0) fun fr hA=>Ag (mC (d:=(some 18)) hA Tryz.func29 ((Xm mo po inp pj kj lj rd wr pv pn kn ln pp kp lp _ (hs.keep hO.only) hm hbv.jobs (kG hbv.plan)).mono ?_))))));rintro en w5 ⟨⟨mo2,po2,inp2,pj2,kj2,lj2,rd2,wr2,pv2,pn2,kn2,ln2,pp2,kp2,lp2⟩,T0,hd2,hsm2,rfl,hW,hG0⟩;refine ⟨_,rfl,?_⟩;clear hA fr; intro fr hA;replace hO:Ow Tryz.prog Ai w _ ([(b2,43,[i64 0,i64 0,i64 0,i64 0,.slice none 0 0]),(b1,39,(cS 0 0 (⟨#[]⟩:ByteArray) none 0 0 0 0 0 none 0 0 none 0 0)),(pb,39,(cS mo po inp pj lj.length kj rd wr pv pn ln.length kn pp lp.length kp))]++[]):=hO.to (List.append_nil _).symm;replace hO:=Ow.join hO hW; clear hW;replace hO:Ow Tryz.prog Ai w _ ([(b2,43,[i64 0,i64 0,i64 0,i64 0,.slice none 0 0]),(b1,39,(cS 0 0 (⟨#[]⟩:ByteArray) none 0 0 0 0 0 none 0 0 none 0 0)),(pb,39,(cS mo po inp pj lj.length kj rd wr pv pn ln.length kn pp lp.length kp))]++(T0++([]))):=hO.to (by first | rfl | (simp only [TP,apd]));refine Ms 0 (cS mo2 po2 inp2 pj2 lj2.length kj2 rd2 wr2 pv2 pn2 ln2.length kn2 pp2 lp2.length kp2) 2 hA hO fun w6 hO=>Ab (Aa (sr 5 (Ka 2 [(19,i64 result),(20,.slice dp dl.length cd)] hA fun fr hA=>?_)))
   replace hO:Ow Tryz.prog Ai w w6 ([(b2,43,[i64 0,i64 0,i64 0,i64 0,.slice none 0 0]),(b1,39,(cS 0 0 (⟨#[]⟩:ByteArray) none 0 0 0 0 0 none 0 0 none 0 0)),(pb,39,(cS mo2 po2 inp2 pj2 lj2.length kj2 rd2 wr2 pv2 pn2 ln2.length kn2 pp2 lp2.length kp2))]++(T0++([]))):=hO;refine Ag (mC (d:=(some 21)) hA Tryz.func30 ((cG pb mo2 po2 inp2 pj2 kj2 lj2 rd2 wr2 pv2 pn2 kn2 ln2 pp2 kp2 lp2 T0 result dp cd dl _ hG0 (Cg (A:=[_,_]) (hO.tt:Ow Tryz.prog Ai w _ (([(b2,43,[i64 0,i64 0,i64 0,i64 0,.slice none 0 0]),(b1,39,(cS 0 0 (⟨#[]⟩:ByteArray) none 0 0 0 0 0 none 0 0 none 0 0))]++[(pb,39,cS mo2 po2 inp2 pj2 lj2.length kj2 rd2 wr2 pv2 pn2 ln2.length kn2 pp2 lp2.length kp2)])++(T0++[])))) hsm2 (by rw [hd2]; assumption) (fun w_ k_=>hE.keep (Ow.pan (A:=[_,_]) ((hO.tt:Ow Tryz.prog Ai w _ (([(b2,43,[i64 0,i64 0,i64 0,i64 0,.slice none 0 0]),(b1,39,(cS 0 0 (⟨#[]⟩:ByteArray) none 0 0 0 0 0 none 0 0 none 0 0))]++[(pb,39,cS mo2 po2 inp2 pj2 lj2.length kj2 rd2 wr2 pv2 pn2 ln2.length kn2 pp2 lp2.length kp2)])++(T0++[]))).tt) k_)) hrn hrx (fun w_ k_=>hvd.keep (Ow.pan (A:=[_,_]) ((hO.tt:Ow Tryz.prog Ai w _ (([(b2,43,[i64 0,i64 0,i64 0,i64 0,.slice none 0 0]),(b1,39,(cS 0 0 (⟨#[]⟩:ByteArray) none 0 0 0 0 0 none 0 0 none 0 0))]++[(pb,39,cS mo2 po2 inp2 pj2 lj2.length kj2 rd2 wr2 pv2 pn2 ln2.length kn2 pp2 lp2.length kp2)])++(T0++[]))).tt) k_)) hud hdl hcd).mono ?_));rintro en w7 ⟨⟨mo3,po3,inp3,pj3,kj3,lj3,rd3,wr3,pv3,pn3,kn3,ln3,pp3,kp3,lp3⟩,⟨xp3,xc3,xd3⟩,Tn3,hr3,hsm3,hvl3,rfl,hW,hG3,hx3⟩;refine ⟨_,rfl,?_⟩;clear hA fr; intro fr hA
   replace hO:=Cu (A:=[(b2,43,[i64 0,i64 0,i64 0,i64 0,.slice none 0 0]),(b1,39,(cS 0 0 (⟨#[]⟩:ByteArray) none 0 0 0 0 0 none 0 0 none 0 0))]) (B:=[]) (T:=T0) (Tn:=Tn3) (x':=(pb,39,cS mo3 po3 inp3 pj3 lj3.length kj3 rd3 wr3 pv3 pn3 ln3.length kn3 pp3 lp3.length kp3)) (hO.to (by simp only [List.append_assoc,List.cons_append,List.nil_append]):Ow Tryz.prog Ai w _ (([(b2,43,[i64 0,i64 0,i64 0,i64 0,.slice none 0 0]),(b1,39,(cS 0 0 (⟨#[]⟩:ByteArray) none 0 0 0 0 0 none 0 0 none 0 0))]++[(pb,39,cS mo2 po2 inp2 pj2 lj2.length kj2 rd2 wr2 pv2 pn2 ln2.length kn2 pp2 lp2.length kp2)])++(T0++[]))) hW; clear hW;replace hO:Ow Tryz.prog Ai w _ ([(b2,43,[i64 0,i64 0,i64 0,i64 0,.slice none 0 0]),(b1,39,(cS 0 0 (⟨#[]⟩:ByteArray) none 0 0 0 0 0 none 0 0 none 0 0)),(pb,39,(cS mo3 po3 inp3 pj3 lj3.length kj3 rd3 wr3 pv3 pn3 ln3.length kn3 pp3 lp3.length kp3))]++((T0++Tn3)++([]))):=hO.to (by first | rfl | (simp only [TP,apd]));refine Mn [i64 0,i64 0,i64 0,i64 0,.slice none 0 0] 43 8 hA hO fun fr w8 b3 hA hO=>Ms 0 [i64 xd3.call,i64 xd3.a0,i64 xd3.a1,i64 xd3.a2,.slice xp3 xd3.data.length xc3] 0 hA hO fun w9 hO=>Ab (Aa (sr 5 (Kb 2 [(23,.slice xp3 xd3.data.length xc3)] hA [.slice xp3 xd3.data.length xc3] (cc (hO.l1 0 4 41 (.slice xp3 xd3.data.length xc3)) c0) fun fr hA=>?_)));have hgd:=B2 (SV.d (⟨mo,po,inp,pj,kj,lj,rd,wr,pv,pn,kn,ln,pp,kp,lp⟩:SV)) result dl
   rw [show Bb (SV.d (⟨mo,po,inp,pj,kj,lj,rd,wr,pv,pn,kn,ln,pp,kp,lp⟩:SV)) result dl=(SV.d (⟨mo3,po3,inp3,pj3,kj3,lj3,rd3,wr3,pv3,pn3,kn3,ln3,pp3,kp3,lp3⟩:SV),xd3) from (by unfold Bb; rw [if_pos (by assumption),← hd2]; exact hr3)] at hgd;have hdl3:xd3.data.length<=128:=Jw hgd.2;replace hO:Ow Tryz.prog Ai w w9 ([(b3,43,[i64 xd3.call,i64 xd3.a0,i64 xd3.a1,i64 xd3.a2,.slice xp3 xd3.data.length xc3]),(b2,43,[i64 0,i64 0,i64 0,i64 0,.slice none 0 0]),(b1,39,(cS 0 0 (⟨#[]⟩:ByteArray) none 0 0 0 0 0 none 0 0 none 0 0)),(pb,39,(cS mo3 po3 inp3 pj3 lj3.length kj3 rd3 wr3 pv3 pn3 ln3.length kn3 pp3 lp3.length kp3))]++((T0++Tn3)++([]))):=hO;have hud3:U8s xd3.data:=(Ah.at (A:=[_,_,_,_]) (hx3.tt) (hO.tt:Ow Tryz.prog Ai w _ ([(b3,43,[i64 xd3.call,i64 xd3.a0,i64 xd3.a1,i64 xd3.a2,.slice xp3 xd3.data.length xc3]),(b2,43,[i64 0,i64 0,i64 0,i64 0,.slice none 0 0]),(b1,39,(cS 0 0 (⟨#[]⟩:ByteArray) none 0 0 0 0 0 none 0 0 none 0 0)),(pb,39,(cS mo3 po3 inp3 pj3 lj3.length kj3 rd3 wr3 pv3 pn3 ln3.length kn3 pp3 lp3.length kp3))]++((T0++Tn3)++([])++[]))).m).2;replace hO:Ow Tryz.prog Ai w w9 ([(b3,43,[i64 xd3.call,i64 xd3.a0,i64 xd3.a1,i64 xd3.a2,.slice xp3 xd3.data.length xc3]),(b2,43,[i64 0,i64 0,i64 0,i64 0,.slice none 0 0]),(b1,39,(cS 0 0 (⟨#[]⟩:ByteArray) none 0 0 0 0 0 none 0 0 none 0 0)),(pb,39,(cS mo3 po3 inp3 pj3 lj3.length kj3 rd3 wr3 pv3 pn3 ln3.length kn3 pp3 lp3.length kp3))]++((T0++Tn3)++([]))):=hO
   refine Ag (mC (d:=(some 24)) hA Tryz.func31 ((Ot xp3 xc3 xd3.data _ (Ah.at (A:=[_,_,_,_]) (hx3.tt) (hO.tt:Ow Tryz.prog Ai w _ ([(b3,43,[i64 xd3.call,i64 xd3.a0,i64 xd3.a1,i64 xd3.a2,.slice xp3 xd3.data.length xc3]),(b2,43,[i64 0,i64 0,i64 0,i64 0,.slice none 0 0]),(b1,39,(cS 0 0 (⟨#[]⟩:ByteArray) none 0 0 0 0 0 none 0 0 none 0 0)),(pb,39,(cS mo3 po3 inp3 pj3 lj3.length kj3 rd3 wr3 pv3 pn3 ln3.length kn3 pp3 lp3.length kp3))]++((T0++Tn3)++([])++[]))).m).1 (by omega) (Ah.at (A:=[_,_,_,_]) (hx3.tt) (hO.tt:Ow Tryz.prog Ai w _ ([(b3,43,[i64 xd3.call,i64 xd3.a0,i64 xd3.a1,i64 xd3.a2,.slice xp3 xd3.data.length xc3]),(b2,43,[i64 0,i64 0,i64 0,i64 0,.slice none 0 0]),(b1,39,(cS 0 0 (⟨#[]⟩:ByteArray) none 0 0 0 0 0 none 0 0 none 0 0)),(pb,39,(cS mo3 po3 inp3 pj3 lj3.length kj3 rd3 wr3 pv3 pn3 ln3.length kn3 pp3 lp3.length kp3))]++((T0++Tn3)++([])++[]))).m).2).mono ?_));rintro en w10 ⟨p1,c1,T1,rfl,hT1,hW⟩;refine ⟨_,rfl,?_⟩;clear hA fr; intro fr hA;replace hO:=Ow.join hO hW; clear hW;replace hO:Ow Tryz.prog Ai w _ ([(b3,43,[i64 xd3.call,i64 xd3.a0,i64 xd3.a1,i64 xd3.a2,.slice xp3 xd3.data.length xc3]),(b2,43,[i64 0,i64 0,i64 0,i64 0,.slice none 0 0]),(b1,39,(cS 0 0 (⟨#[]⟩:ByteArray) none 0 0 0 0 0 none 0 0 none 0 0)),(pb,39,(cS mo3 po3 inp3 pj3 lj3.length kj3 rd3 wr3 pv3 pn3 ln3.length kn3 pp3 lp3.length kp3))]++((T0++Tn3)++(T1++([])))):=hO.to (by first | rfl | (simp only [TP,apd]));refine Ka 1 [(25,pf b3 4)] hA fun fr hA=>Ms 4 [.slice p1 xd3.data.length c1] 0 hA hO fun w11 hO=>Ab (Aa (wp_seq ?_))
   have hS:Ow Tryz.prog Ai w _ [(b3,43,[i64 xd3.call,i64 xd3.a0,i64 xd3.a1,i64 xd3.a2,.slice p1 xd3.data.length c1]),(pb,39,(cS mo3 po3 inp3 pj3 lj3.length kj3 rd3 wr3 pv3 pn3 ln3.length kn3 pp3 lp3.length kp3))]:=hO.sub [0,3];refine rP [(0,true),(1,true),(2,false),(3,false)] hS ?_;intro w12 ho; replace hO:=hO.st ho; clear ho;refine Ke 2 [(26,.agg #[i64 mo3,i64 po3,str inp3,.slice pj3 lj3.length kj3,i64 rd3,i64 wr3,i64 pv3,.slice pn3 ln3.length kn3,.slice pp3 lp3.length kp3]),(27,.agg #[i64 xd3.call,i64 xd3.a0,i64 xd3.a1,i64 xd3.a2,.slice p1 xd3.data.length c1])] hA [.agg #[i64 mo3,i64 po3,str inp3,.slice pj3 lj3.length kj3,i64 rd3,i64 wr3,i64 pv3,.slice pn3 ln3.length kn3,.slice pp3 lp3.length kp3],.agg #[i64 xd3.call,i64 xd3.a0,i64 xd3.a1,i64 xd3.a2,.slice p1 xd3.data.length c1]] (cc (hS.sn 1 0 39 (cS mo3 po3 inp3 pj3 lj3.length kj3 rd3 wr3 pv3 pn3 ln3.length kn3 pp3 lp3.length kp3)) (cc (hS.sn 0 0 43 [i64 xd3.call,i64 xd3.a0,i64 xd3.a1,i64 xd3.a2,.slice p1 xd3.data.length c1]) c0)) fun fr hA=>Au (mS (off:=0) (vc:=(cS mo3 po3 inp3 pj3 lj3.length kj3 rd3 wr3 pv3 pn3 ln3.length kn3 pp3 lp3.length kp3)) 2 hA hO fun w13 hO=>⟨(hO.sub [0,3]),?_⟩);refine Au (mS (off:=0) (vc:=[i64 xd3.call,i64 xd3.a0,i64 xd3.a1,i64 xd3.a2,.slice p1 xd3.data.length c1]) 1 hA hO fun w14 hO=>⟨(hO.sub [0,3]),?_⟩)
   refine Az (Aa (wp_ret (cR (cs:=[some (⟨b1,0,none⟩,39),some (⟨b2,0,none⟩,43)]) (us:=[.agg #[i64 mo3,i64 po3,str inp3,.slice pj3 lj3.length kj3,i64 rd3,i64 wr3,i64 pv3,.slice pn3 ln3.length kn3,.slice pp3 lp3.length kp3],.agg #[i64 xd3.call,i64 xd3.a0,i64 xd3.a1,i64 xd3.a2,.slice p1 xd3.data.length c1]]) hA [.agg #[i64 mo3,i64 po3,str inp3,.slice pj3 lj3.length kj3,i64 rd3,i64 wr3,i64 pv3,.slice pn3 ln3.length kn3,.slice pp3 lp3.length kp3],.agg #[i64 xd3.call,i64 xd3.a0,i64 xd3.a1,i64 xd3.a2,.slice p1 xd3.data.length c1]] ⟨(hO.ln 2 0 39 (cS mo3 po3 inp3 pj3 lj3.length kj3 rd3 wr3 pv3 pn3 ln3.length kn3 pp3 lp3.length kp3)),(hO.ln 1 0 43 [i64 xd3.call,i64 xd3.a0,i64 xd3.a1,i64 xd3.a2,.slice p1 xd3.data.length c1]),trivial⟩ ?_)));replace hO:Ow Tryz.prog Ai w w14 ([(b3,43,[i64 xd3.call,i64 xd3.a0,i64 xd3.a1,i64 xd3.a2,.slice p1 xd3.data.length c1]),(b2,43,[i64 xd3.call,i64 xd3.a0,i64 xd3.a1,i64 xd3.a2,.slice p1 xd3.data.length c1]),(b1,39,(cS mo3 po3 inp3 pj3 lj3.length kj3 rd3 wr3 pv3 pn3 ln3.length kn3 pp3 lp3.length kp3)),(pb,39,(cS mo3 po3 inp3 pj3 lj3.length kj3 rd3 wr3 pv3 pn3 ln3.length kn3 pp3 lp3.length kp3))]++((T0++Tn3)++(T1++([])))):=hO;have hok0:Ah ((T0++Tn3)++(T1++([]))) (SV.ok (⟨mo3,po3,inp3,pj3,kj3,lj3,rd3,wr3,pv3,pn3,kn3,ln3,pp3,kp3,lp3⟩:SV)):=(Ah.l (T':=T1++([])) hG3).tt;have hvx0:Ah ((T0++Tn3)++(T1++([]))) (fun w_=>VP w_ ⟨p1,c1,xd3⟩):=((hT1.holds.l.r).mono fun _ h_=>⟨h_,hud3⟩)
   have hst0:Bb (SV.d (⟨mo,po,inp,pj,kj,lj,rd,wr,pv,pn,kn,ln,pp,kp,lp⟩:SV)) result dl=(SV.d (⟨mo3,po3,inp3,pj3,kj3,lj3,rd3,wr3,pv3,pn3,kn3,ln3,pp3,kp3,lp3⟩:SV),xd3):=by unfold Bb; rw [if_pos (by assumption),← hd2]; exact hr3
   exact ⟨(⟨mo3,po3,inp3,pj3,kj3,lj3,rd3,wr3,pv3,pn3,kn3,ln3,pp3,kp3,lp3⟩:SV),⟨p1,c1,xd3⟩,_,hst0,hsm3,rfl,((Ow.subP (A:=[_,_,_,_]) hO (.cons _ (.cons _ (.cons _ (.cons _ .slnil)))))).to (List.nil_append _),hok0,hvx0⟩
 rw [h1] at hA;refine cT hA (sr 2 (Mk 12 hA hO Tryz.func24 (M0 _) fun fr w15 hA hO=>Ms 0 (cS 0 0 (⟨#[]⟩:ByteArray) none 0 0 (-1) (-1) (-1) none 0 0 none 0 0) 2 hA hO fun w16 hO=>Ab (Aa (sr 2 (Ka 1 [(13,pt pb)] hA fun fr hA=>Ms 0 [i64 7] 2 hA hO fun w17 hO=>Ab (Aa (wp_seq ?_)))))));have hS:=hO.pk [2];refine rP [(0,true),(1,false),(2,false),(3,false),(4,false)] hS ?_;intro w18 ho; replace hO:=hO.st ho; clear ho;refine Ke 1 [(14,.agg #[i64 7,i64 0,str (⟨#[]⟩),.slice none 0 0,i64 (-1),i64 (-1),i64 (-1),.slice none 0 0,.slice none 0 0])] hA [.agg #[i64 7,i64 0,str (⟨#[]⟩),.slice none 0 0,i64 (-1),i64 (-1),i64 (-1),.slice none 0 0,.slice none 0 0]] (cc (hS.sn 0 0 39 (cS 7 0 (⟨#[]⟩:ByteArray) none 0 0 (-1) (-1) (-1) none 0 0 none 0 0)) c0) fun fr hA=>Au (mN (l:=[i64 254]) (t:=3) (v:=fun b=> .slice (some ⟨b,0,none⟩) 1 1) (d:=15) hA hO fun fr w19 b4 hA hO=>⟨(hO.sub [3]),?_⟩);refine Au (mK (d:=(some 16)) hA hO Tryz.func28 (Dd 0 254 ⟨b4,0,none⟩ 1 _ ((hO.b 0).vw (off:=0) (xs:=[254]) (by kernel_rfl))) fun fr w20 hA hO=>⟨(hO.sub [3]),?_⟩);refine Au (mS (off:=0) (vc:=(cS 7 0 (⟨#[]⟩:ByteArray) none 0 0 (-1) (-1) (-1) none 0 0 none 0 0)) 2 hA hO fun w21 hO=>⟨(hO.sub [3]),?_⟩);refine Au (mS (off:=0) (vc:=[i64 0,i64 254,i64 0,i64 0,.slice none 0 0]) 1 hA hO fun w22 hO=>⟨(hO.sub [3]),?_⟩)
 exact Az (Aa (wp_ret (Ac (cR (cs:=[some (⟨b1,0,none⟩,39),some (⟨b2,0,none⟩,43)]) (us:=[.agg #[i64 7,i64 0,str (⟨#[]⟩),.slice none 0 0,i64 (-1),i64 (-1),i64 (-1),.slice none 0 0,.slice none 0 0],.agg #[i64 0,i64 254,i64 0,i64 0,.slice none 0 0]]) hA [.agg #[i64 7,i64 0,str (⟨#[]⟩),.slice none 0 0,i64 (-1),i64 (-1),i64 (-1),.slice none 0 0,.slice none 0 0],.agg #[i64 0,i64 254,i64 0,i64 0,.slice none 0 0]] ⟨(hO.ln 2 0 39 (cS 7 0 (⟨#[]⟩:ByteArray) none 0 0 (-1) (-1) (-1) none 0 0 none 0 0)),(hO.ln 1 0 43 [i64 0,i64 254,i64 0,i64 0,.slice none 0 0]),trivial⟩ (⟨(⟨7,0,⟨#[]⟩,none,0,[],-1,-1,-1,none,0,[],none,0,[]⟩:SV),⟨none,0,Ao 0 254 0⟩,[],(by unfold Bb; rw [if_neg (by rw [h1]; decide)]; rfl),⟨by decide,⟨by decide,fun y hy=>absurd hy List.not_mem_nil⟩,by decide,by decide,by decide,by decide,by decide⟩,rfl,(hO.sub []),(fun _ _ _ _=>⟨⟨.inl ⟨rfl,rfl⟩,fun y hy=>absurd hy List.not_mem_nil⟩,.inl ⟨rfl,rfl⟩,⟨.inl ⟨rfl,rfl⟩,fun y hy=>absurd hy List.not_mem_nil⟩⟩),(fun _ _ _ _=>⟨.inl ⟨rfl,rfl⟩,fun y hy=>absurd hy List.not_mem_nil⟩)⟩)))))
end Go.Proofs.YtdljjajjonfjbaaGreatDoor
namespace Go.Proofs.Sx
open Go Go.RowKit
def F1 {α:Type} (f : α->List Value) (e:TypeId) (sz:Nat) (p:Option Addr) (c:Nat) (l:List α) (T:OwL):Prop :=
 (p=none/\c=0/\l=[]/\T=[])\/∃ b pre r z,p=some ⟨b,pre.length,none⟩/\l.length<=c/\c<=maxLen/\(l.flatMap f++r).length=c*sz/\T=[(b,e,pre++((l.flatMap f++r)++z))]
section
variable {α:Type} {f : α->List Value} {e:TypeId} {sz:Nat} {p:Option Addr} {c:Nat} {l:List α} {T:OwL} {P:Program} {X:Nat->Prop} {w₀ w w':World}
theorem One.off (h:One f e sz p c l T):F1 f e sz p c l T:=by
 rcases h with ⟨rfl,rfl,rfl,rfl⟩ | ⟨b,r,rfl,h1,h2,h3,rfl⟩
 · exact .inl ⟨rfl,rfl,rfl,rfl⟩
 · exact .inr ⟨b,[],r,[],rfl,h1,h2,h3,by simp⟩
theorem F1.le (h:F1 f e sz p c l T):l.length<=c:=by
 rcases h with ⟨_,rfl,rfl,_⟩ | ⟨_,_,_,_,_,h,_⟩
 · exact Nat.le_refl _
 · exact h
theorem F1.vw (h:F1 f e sz p c l T) {A B:OwL} (hO:OwM X w₀ w (A++(T++B))):Vw f w (.slice p l.length c) l:=by
 rcases h with ⟨rfl,rfl,rfl,rfl⟩ | ⟨b,pre,r,z,rfl,_,_,_,rfl⟩
 · exact .inl ⟨rfl,rfl⟩
 · refine .inr ⟨_,c,rfl,fun j u hj=>?_⟩
   rw [Dw]
   have hB:=hO.blk (b,e,pre++((l.flatMap f++r)++z)) (by simp)
   refine hB.cell ?_
   have hl:=(List.getElem?_eq_some_iff.1 hj).1
   rw [List.getElem?_append_right (by omega),Nat.add_sub_cancel_left,List.append_assoc,List.getElem?_append_left hl]
   exact hj
theorem F1.tl {x : α} {ad:Addr} (E:Enc f sz) (h:F1 f e sz (some ad) c (x::l) T) (hc : 1 < c):F1 f e sz (some (ad.add sz)) (c - 1) l T:=by
 rcases h with ⟨h,_⟩ | ⟨b,pre,r,z,h,h1,h2,h3,rfl⟩
 · cases h
 · cases h
   rw [List.length_cons] at h1
   refine .inr ⟨b,pre++f x,r,z,?_,by omega,by omega,?_,?_⟩
   · rw [Dw,List.length_append,E.len]
   · rw [List.flatMap_cons,List.append_assoc,List.length_append,E.len] at h3
     have:(c - 1)*sz=c*sz - sz:=by rw [Nat.mul_comm,Nat.mul_sub_one,Nat.mul_comm]
     omega
   · rw [List.flatMap_cons]; simp
theorem F1.tl1 {x : α} {ad:Addr} (h:F1 f e sz (some ad) c (x::l) T) (hl:l.length=0):F1 f e sz (some ad) 0 l T:=by
 obtain rfl:=List.length_eq_zero_iff.1 hl
 rcases h with ⟨h,_⟩ | ⟨b,pre,r,z,h,h1,h2,h3,rfl⟩
 · cases h
 · cases h
   exact .inr ⟨b,pre,[],f x++(r++z),rfl,Nat.le_refl _,by omega,by simp,by simp⟩
theorem iG {t tx ty:TypeId} {i:TypeInfo} {z:Value} {bytes:Nat} (ht:P.underlying t=some (.slice e)) (hi:P.info? e=some i) (hz:i.zero=some z) (hsize:i.size=sz) (hby:i.bytes=bytes) (E:Enc f sz)
 {A B:OwL} (hO:OwM X w₀ w (A++(T++B))) (h1:F1 f e sz p c l T) {x:Value} {l':List α} (hs:Src P sz tx x l'.length (l'.flatMap f) w)
 (h63:l.length+l'.length<=maxLen) (hb:(l.length+l'.length)*bytes<=140737488355328) (hzs:z.cells.size=sz) :
 ∃ p' c' T' w',(Builtin.append_ #[t,tx] ty #[.slice p l.length c,x]).run P w = .ok (.slice p' (l++l').length c') w'/\OwM X w₀ w' (A++(T'++B))/\F1 f e sz p' c' (l++l') T':=by
 rcases h1 with ⟨rfl,rfl,rfl,rfl⟩ | ⟨b,pre,r,q,rfl,hle,hcm,hlen,rfl⟩
 · obtain ⟨p',c',T',w',q1,q2,q3⟩:=Zu (P:=P) ht hi hz hsize hby E hO (.inl ⟨rfl,rfl,rfl,rfl⟩) hs h63 hb hzs (ty:=ty)
   exact ⟨p',c',T',w',q1,q2,q3.off⟩
 have hsm:((l.length+l'.length:Nat):Int)<=9223372036854775807:=by simp only [maxLen] at h63; omega
 rw [List.length_append]
 by_cases h0:l'=[]
 · subst h0
   subst hsize
   refine ⟨some ⟨b,pre.length,none⟩,c,_,w,run_append_nothing w t tx ty e i ht hi _ l.length c hle x hs,hO,by rw [List.append_nil]; exact .inr ⟨b,pre,r,q,rfl,hle,hcm,hlen,rfl⟩⟩
 have hB:Blk w b e (pre++((l.flatMap f++r)++q)):=hO.blk (b,e,pre++((l.flatMap f++r)++q)) (by simp)
 by_cases hroom:l.length+l'.length<=c
 · have hfit0:l.length*sz+(l'.flatMap f).length<=(l.flatMap f++r).length:=by rw [hlen,E.flen,← Nat.add_mul]; exact Nat.mul_le_mul_right _ hroom
   have hfit:(pre.length+l.length*sz)+(l'.flatMap f).length<=(pre++((l.flatMap f++r)++q)).length:=by rw [List.length_append,List.length_append («as»:=l.flatMap f++r)]; omega
   obtain ⟨hst,hB'⟩:=hB.store (P:=P) (vs:=l'.flatMap f) (off:=pre.length+l.length*sz) hfit hs.one
   have hcells:Df (pre++((l.flatMap f++r)++q)) (pre.length+l.length*sz) (l'.flatMap f)=pre++(((l++l').flatMap f++(l.flatMap f++r).drop (l.length*sz+(l'.flatMap f).length))++q):=by
    rw [Rz (by rw [List.length_append]; omega),Kj hfit0]
    unfold Df
    rw [← E.flen l,List.take_left,List.flatMap_append]
   rw [hcells] at hst hB'
   have hrun:(Builtin.append_ #[t,tx] ty #[.slice (some ⟨b,pre.length,none⟩) l.length c,x]).run P w = .ok (.slice (some ⟨b,pre.length,none⟩) (l.length+l'.length) c) (w.setRow b (pre++(((l++l').flatMap f++(l.flatMap f++r).drop (l.length*sz+(l'.flatMap f).length))++q)).toArray):=by
    subst hsize
    rcases hs.kind with ⟨e',hk⟩ | hk <;> simp [Builtin.append_,run_underlying ht,run_underlying hk,sizeOf,typeInfo,hi,hs.len,hroom,hs.cells,Dw,hst]
   refine ⟨_,_,[(b,e,pre++(((l++l').flatMap f++(l.flatMap f++r).drop (l.length*sz+(l'.flatMap f).length))++q))],_,hrun,hO.pass ⟨?_,fun y hy=>?_,List.pairwise_singleton _ _,fun y hy=>?_⟩,.inr ⟨b,pre,_,q,rfl,by rw [List.length_append]; exact hroom,hcm,?_,rfl⟩⟩
   · exact ⟨rfl,rfl,rfl,by simp,fun k _ hn=>setRow_other w b k _ fun e'=>hn ⟨_,List.mem_singleton.2 rfl,e'.symm⟩⟩
   · rw [List.mem_singleton] at hy; subst hy
     exact hB'
   · rw [List.mem_singleton] at hy; subst hy
     exact .inr ⟨_,List.mem_singleton.2 rfl,rfl⟩
   · rw [List.length_append,List.length_drop,E.flen,List.length_append,hlen,Nat.add_mul,E.flen]
     rw [hlen,E.flen] at hfit0
     omega
 · have hf:(Builtin.firstCells i.size l.length (.slice (some ⟨b,pre.length,none⟩) l.length c)).run P w.drew = .ok (l.flatMap f).toArray w.drew :=
    run_firstCells_some (P:=P) w.drew i.size l.length ⟨b,pre.length,none⟩ l.length c (l.flatMap f) (by rw [hsize]; exact E.flen l) (fun j u hj=>by
     rw [Dw]
     have hl:=(List.getElem?_eq_some_iff.1 hj).1
     have:w.cell? ⟨b,pre.length+j,none⟩=some u:=hB.cell (by
      rw [List.getElem?_append_right (by omega),Nat.add_sub_cancel_left,List.append_assoc,List.getElem?_append_left hl]; exact hj)
     simpa using this)
   subst hsize; subst hby
   have hr:=run_append_grow_src (P:=P) w t tx ty e i z ht hi hz (some ⟨b,pre.length,none⟩) l.length c _ hf x _ _ hs (by omega) hsm (growslice_fits (by omega) hb)
   have hge:=grownCap_ge w (l.length+l'.length) c e
   have hlast:OwM (inT [(b,e,pre++((l.flatMap f++r)++q))]) w (w.drew.alloc (.cells ((l.flatMap f++l'.flatMap f).toArray++Builtin.zeroCells z.cells (grownCap w (l.length+l'.length) c e - (l.length+l'.length))) e))
    [(w.heap.size,e,(l++l').flatMap f++(Builtin.zeroCells z.cells (grownCap w (l.length+l'.length) c e - (l.length+l'.length))).toList)]:=by
    refine ⟨⟨rfl,rfl,rfl,by simp,fun k hk _=>by first | exact heap_alloc_old w.drew _ hk | exact heap_alloc_old w.drew _ k hk⟩,fun y hy=>?_,List.pairwise_singleton _ _,fun y hy=>?_⟩
    · rw [List.mem_singleton] at hy; subst hy
      have:=heap_alloc_new w.drew (.cells ((l.flatMap f++l'.flatMap f).toArray++Builtin.zeroCells z.cells (grownCap w (l.length+l'.length) c e - (l.length+l'.length))) e)
      refine .of0 ?_
      rw [List.flatMap_append]
      refine this.trans ?_
      congr 2
      apply Array.toList_inj.1
      simp
    · rw [List.mem_singleton] at hy; subst hy; exact .inl (Nat.le_refl _)
   refine ⟨_,_,_,_,hr,hO.pass hlast,One.off (.inr ⟨w.heap.size,_,rfl,by rw [List.length_append]; exact hge,grownCap_le_maxLen w _ c e h63,?_,rfl⟩)⟩
   have e3:(Builtin.zeroCells z.cells (grownCap w (l.length+l'.length) c e - (l.length+l'.length))).toList.length=(grownCap w (l.length+l'.length) c e - (l.length+l'.length))*i.size:=by rw [Array.length_toList,size_zeroCells,hzs]
   rw [List.length_append,E.flen,e3,List.length_append,← Nat.add_mul]
   congr 1; omega
end
section
variable {P:Program} {ops:Array Oper} {Q:Exit->Act->World->Prop} {n:Nat} {ds:List Deferred} {a:Act} {e:Env} {w w':World} {K:Act->World->Prop} {i:Nat}
theorem mAO {α:Type} {f : α->List Value} {el:TypeId} {sz bytes:Nat} {p:Option Addr} {c:Nat} {l l':List α} {T:OwL} {X:Nat->Prop} {w₀:World} (A B:OwL) {t tx ty:TypeId} {x:Value} {d:Nat}
 (E:Enc f sz) (hA:Holds n ds a e) (hO:Ow P X w₀ w (A++(T++B))) (h1:F1 f el sz p c l T) (hs:Src P sz tx x l'.length (l'.flatMap f) w) (hb:(l.length+l'.length)*bytes<=140737488355328) (h63:l.length+l'.length<=maxLen)
 (hK : ∀ a' w' p' c' T',Holds n ds a' ((d,.slice p' (l++l').length c')::e)->Ow P X w₀ w' (A++(T'++B))->F1 f el sz p' c' (l++l') T'->K a' w')
 (he:Ey ops e i=some (.append,#[t,tx],ty,[.slice p l.length c,x],some d):=by kernel_rfl) (hd:Nat.blt d n=true:=by kernel_rfl) (ht:P.underlying t=some (.slice el):=by kernel_rfl) (hi:elT P el sz bytes=true:=by kernel_rfl):wpOp P ops Q i K a w:=by
 obtain ⟨inf,z,q1,q2,q3,q4,q5⟩:=Uj hi
 obtain ⟨p',c',T',w',hr,hO',h1'⟩:=iG ht q1 q2 q3 q4 E hO.m h1 hs h63 hb q5 (ty:=ty)
 exact S8 hA he hd hr fun a' hA'=>hK a' w' p' c' T' hA' hO'.o h1'
end
end Go.Proofs.Sx
namespace Go.Proofs.YtdljjajjonfjbaaGreatDoor
open Go Go.RowKit Go.Proofs.Sx
def fl8 (f:F8):List Value:=[.string f.f0,.string f.f1,.string f.f2,.string f.f3,.string f.f4,.string f.f5,.string f.f6,.string f.f7]
def fR (x:RunL):List Value:= .string x.path::fl8 x.fl
theorem gJ:Enc fR 9:=⟨fun _=>rfl,fun x v hv=>by
 simp only [fR,fl8,List.mem_cons,List.not_mem_nil,or_false] at hv
 rcases hv with rfl | rfl | rfl | rfl | rfl | rfl | rfl | rfl | rfl <;> rfl⟩
structure WV where
 sv:SV
 x:PV
 fl:F8
 ip:Option Addr
 ic:Nat
 il:List ByteArray
 fp:Option Addr
 fc:Nat
 ff:List Int
 pipes:Int
 tasks:Int
 ap:Option Addr
 ac:Nat
 al:List Int
 rp:Option Addr
 rc:Nat
 rl:List RunL
 wp:Option Addr
 wk:Nat
 wl:List Int
 told:Int
 exit:Int
 leak:Bool
 ok:Bool
def WV.d (a:WV):WL:=⟨a.sv.d,a.x.d,a.fl,a.il,a.ff,a.pipes,a.tasks,a.al,a.rl,a.wl,a.told,a.exit,a.leak,a.ok⟩
def wc (a:WV):List Value:=[.int .i64 a.sv.mo,.int .i64 a.sv.po,.string a.sv.inp,.slice a.sv.pj a.sv.lj.length a.sv.cj,.int .i64 a.sv.rd,.int .i64 a.sv.wr,.int .i64 a.sv.pv,.slice a.sv.pc a.sv.lc.length a.sv.cc,.slice a.sv.pp a.sv.lp.length a.sv.cp,
 .int .i64 a.x.d.call,.int .i64 a.x.d.a0,.int .i64 a.x.d.a1,.int .i64 a.x.d.a2,.slice a.x.p a.x.d.data.length a.x.c,
 .string a.fl.f0,.string a.fl.f1,.string a.fl.f2,.string a.fl.f3,.string a.fl.f4,.string a.fl.f5,.string a.fl.f6,.string a.fl.f7,
 .slice a.ip a.il.length a.ic,.slice a.fp a.ff.length a.fc,.int .i64 a.pipes,.int .i64 a.tasks,.slice a.ap a.al.length a.ac,.slice a.rp a.rl.length a.rc,.slice a.wp a.wl.length a.wk,.int .i64 a.told,.int .i64 a.exit,.bool a.leak,.bool a.ok]
theorem lG {f:F8} {i:Nat} (hi:i < 8):(fl8 f)[i]? = some (.string (f.at i)):=by
 rcases lt8 hi with rfl | rfl | rfl | rfl | rfl | rfl | rfl | rfl <;> rfl
theorem Ky {f:F8} {i:Nat} {v:ByteArray} (hi:i < 8):Df (fl8 f) i [.string v]=fl8 (f.set i v):=by
 rcases lt8 hi with rfl | rfl | rfl | rfl | rfl | rfl | rfl | rfl <;> rfl
theorem nZ {a:WV} {i:Nat} (hi:i < 8):(wc a)[14+i]? = some (.string (a.fl.at i)):=by
 rcases lt8 hi with rfl | rfl | rfl | rfl | rfl | rfl | rfl | rfl <;> rfl
theorem M8 {a:WV} {i:Nat} {v:ByteArray} (hi:i < 8):Df (wc a) (14+i) [.string v]=wc {a with fl:=a.fl.set i v}:=by
 rcases lt8 hi with rfl | rfl | rfl | rfl | rfl | rfl | rfl | rfl <;> rfl
theorem Xf {P:Program} {w:World} {b t u:Nat} {f:F8} {i:Nat} (h:Blk w b t (fl8 f)) (hi:i < 8) (hu:Lj P u=true:=by kernel_rfl):Ld P w ((⟨b,0,none⟩:Addr).add i) u (.string (f.at i)):=by
 rw [By]
 exact h.ld1 hu (lG hi)
theorem wc_ld {P:Program} {w:World} {b t u:Nat} {a:WV} {i:Nat} (h:Blk w b t (wc a)) (hi:i < 8) (hu:Lj P u=true:=by kernel_rfl):Ld P w ((⟨b,14,none⟩:Addr).add i) u (.string (a.fl.at i)):=by
 rw [Dw]
 exact h.ld1 hu (nZ hi)
section
variable {x:CallL} {f:F8}
theorem Fa (h:x.call=8) (hi:inB x.a0=true) (hz : ¬ (f.at x.a0.toNat).size=0):A2 x f=(0,true,f.set x.a0.toNat ⟨#[]⟩,0):=by unfold A2; rw [if_pos h,if_pos ⟨hi,hz⟩]
theorem B5 (h:x.call=8) (hn:inB x.a0=false\/(f.at x.a0.toNat).size=0):A2 x f=(-8,true,f,0):=by
 unfold A2
 rw [if_pos h,if_neg (by rintro ⟨q,q2⟩; rcases hn with e | e; {rw [e] at q; cases q}; {exact q2 e})]
theorem Dk (h:x.call=12) (hi:inB x.a0=true) (hi1:inB x.a1=true) (hz : ¬ (f.at x.a0.toNat).size=0):A2 x f=(0,true,f.set x.a1.toNat (f.at x.a0.toNat),0):=by unfold A2; rw [if_neg (by omega),if_pos h,if_pos ⟨hi,hi1,hz⟩]
theorem A7 (h:x.call=12) (hn:inB x.a0=false\/inB x.a1=false\/(f.at x.a0.toNat).size=0):A2 x f=(-8,true,f,0):=by
 unfold A2
 rw [if_neg (by omega),if_pos h,if_neg (by rintro ⟨q,q1,q2⟩; rcases hn with e | e | e; {rw [e] at q; cases q}; {rw [e] at q1; cases q1}; {exact q2 e})]
theorem Fc (h:x.call=7) (hn:Ak f < 0):A2 x f=(-6,true,f,0):=by unfold A2; rw [if_neg (by omega),if_neg (by omega),if_pos h,if_pos hn]
theorem Fb (h:x.call=7) (hn : ¬ Ak f < 0):A2 x f=(Ak f,true,f.set (Ak f).toNat (L8 x),0):=by unfold A2; rw [if_neg (by omega),if_neg (by omega),if_pos h,if_neg hn]
theorem Fe (h:x.call=10):A2 x f=((x.data.length:Int),true,f,1):=by unfold A2; rw [if_neg (by omega),if_neg (by omega),if_neg (by omega),if_pos h]
theorem Jg (h1 : ¬ x.call=8) (h2 : ¬ x.call=12) (h3 : ¬ x.call=7) (h4 : ¬ x.call=10):A2 x f=(0,false,f,0):=by unfold A2; rw [if_neg h1,if_neg h2,if_neg h3,if_neg h4]
theorem Zc {n:Int} (h:inB n=true) : 0<=n/\n < 8:=qX h
end
theorem Rs {w:World} {p:Option Addr} {c:Nat} {d:CallL} (h:VP w ⟨p,c,d⟩):(p=none/\c=0/\d.data=[])\/∃ ad,p=some ad:=by
 cases p with
 | some ad=>exact .inr ⟨ad,rfl⟩
 | none =>
  rcases h.1 with ⟨h,hd⟩ | ⟨ad,c',h,_⟩
  · have hd:d.data=[]:=hd
    have h:Value.slice none d.data.length c=Value.slice none 0 0:=h
    rw [hd] at h
    cases h
    exact .inl ⟨rfl,rfl,hd⟩
  · cases h
end Go.Proofs.YtdljjajjonfjbaaGreatDoor
