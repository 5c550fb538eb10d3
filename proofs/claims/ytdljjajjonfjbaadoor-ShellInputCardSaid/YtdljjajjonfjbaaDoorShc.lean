import Derived.Test.YtdljjajjonfjbaaDoorShb
import Derived.Test.YtdljjajjonfjbaaDoorSn
set_option linter.unusedVariables false
set_option linter.unusedSimpArgs false
set_option maxRecDepth 10000
namespace Go.Proofs.YtdljjajjonfjbaaDoor
open Go Go.Shelf Go.RowKit Go.Proofs Go.Proofs.Sx
section
variable {l:List Int} {i:Nat} {v:Int}
theorem kids_step (h:kidsB l i=true) (hx:l[i]? = some v) (hu:userB v=true) (hc:(l.take i).contains v=false):kidsB l (i+1)=true:=by
 have hg:l.getD i 0=v:=gD_of hx
 simp only [kidsB]; rw [hg,h,hu,hc]; rfl
theorem kids_up (h:kidsB l i=false) : ∀ m,i<=m->kidsB l m=false
  | 0, hm => by have : i = 0 := by omega
                rw [← this]; exact h
  | m+1,hm=>by
    by_cases e:i=m+1
    · rw [← e]; exact h
    · simp only [kidsB]; rw [kids_up h m (by omega),Bool.false_and]
theorem kids_no (hx:l[i]? = some v) (h:userB v=false\/(l.take i).contains v=true):kidsB l l.length=false:=by
 have hg:l.getD i 0=v:=gD_of hx
 have hi:=(List.getElem?_eq_some_iff.1 hx).1
 refine kids_up (i:=i+1) ?_ _ (by omega)
 simp only [kidsB]; rw [hg]
 rcases h with h | h <;> rw [h] <;> simp
end
theorem listsB_eq (l:List Int) (p:List PV):listsB l (p.map PV.d)=(kidsB l l.length && ((p.all fun x=>okC x.d) && decide (p.length<=12))):=by
 unfold listsB
 rw [List.all_map,List.length_map]; rfl
theorem lists_kids {l:List Int} {p:List PV} (h:kidsB l l.length=false):listsB l (p.map PV.d)=false:=by rw [listsB_eq,h,Bool.false_and]
theorem lists_call {l:List Int} {p:List PV} {i:Nat} {x:PV} (hx:p[i]? = some x) (h:okC x.d=false):listsB l (p.map PV.d)=false:=by rw [listsB_eq,all_no (p:=fun x=>okC x.d) hx h]; simp
theorem lists_end {l:List Int} {p:List PV} {i j:Nat} (h:kidsB l i=true) (hi : ¬ i < l.length) (hi':i<=l.length) (g:(p.take j).all (fun x=>okC x.d)=true) (hj : ¬ j < p.length):listsB l (p.map PV.d)=decide (p.length<=12):=by
 rw [listsB_eq,show l.length=i by omega,h,all_end g hj]; rfl
theorem lists_any (mo po:Int) (inp:ByteArray) (pj:Option Addr) (kj:Nat) (lj:List JV) (rd wr pv:Int) (pn:Option Addr) (kn:Nat) (ln:List Int) (pp:Option Addr) (kp:Nat) (lp:List PV) (w:World) (hs:SV.ok (⟨mo,po,inp,pj,kj,lj,rd,wr,pv,pn,kn,ln,pp,kp,lp⟩:SV) w) (hm:SV.sm (⟨mo,po,inp,pj,kj,lj,rd,wr,pv,pn,kn,ln,pp,kp,lp⟩:SV)) :
    Calls Tryd.prog 17 #[.agg #[i64 mo,i64 po,str inp,.slice pj lj.length kj,i64 rd,i64 wr,i64 pv,.slice pn ln.length kn,.slice pp lp.length kp]] w fun e w'=>e = .returned (.bool (listsB ln (lp.map PV.d)))/\Only none' w w':=by
 refine c_enter (args:=[.agg #[i64 mo,i64 po,str inp,.slice pj lj.length kj,i64 rd,i64 wr,i64 pv,.slice pn ln.length kn,.slice pp lp.length kp]]) (m:=41) (n:=42) Tryd.func17 rfl (by kernel_rfl) (by kernel_rfl) fun fr hA=>?_
 have hO:=Ow.nil Tryd.prog none' w
 have hv_j:VL w (.slice pj lj.length kj) lj:=hs.j
 have hv_k:Vw fN w (.slice pn ln.length kn) ln:=hs.k
 have hv_p:PL w (.slice pp lp.length kp) lp:=hs.p
 have hm_ck:ln.length<=kn:=hm.ck
 have hm_cj:lj.length<=kj:=hm.cj
 have hm_cp:lp.length<=kp:=hm.cp
 have hm_i:inp.size<=1000000:=hm.i
 have hm_k:ln.length<=1000000:=hm.k
 have hm_p:lp.length<=1000000:=hm.p
 have hm_j:smL 1000000 (lj.map JV.d):=hm.j
 have hm_jl:lj.length<=1000000:=hm_j.len
 refine sr 2 ?_
 refine Mn [i64 mo,i64 po,str inp,.slice pj lj.length kj,i64 rd,i64 wr,i64 pv,.slice pn ln.length kn,.slice pp lp.length kp] 31 1 hA hO fun fr w1 b1 hA hO=>?_
 refine Ka 1 [(2,bl false)] hA fun fr hA=>?_
 refine end_ops ?_
 refine then_normal ?_
 refine wp_seq ?_
 refine Sb [(8,.slice pn ln.length kn),(9,i64 ((ln.length:Nat):Int)),(10,i64 0)] hA [.slice pn ln.length kn] (cc (hO.l1 0 7 28 (.slice pn ln.length kn)) c0) fun fr hA=>?_
 refine wp_block ?_
 refine c_loop (fun mm fr W=>∃ (i:Nat),mm=ln.length - i/\Holds 42 [] fr [(1,pt b1),(2,bl false),(8,.slice pn ln.length kn),(9,i64 ((ln.length:Nat):Int)),(10,i64 ((i:Nat):Int))]/\Ow Tryd.prog none' w W [(b1,31,[i64 mo,i64 po,str inp,.slice pj lj.length kj,i64 rd,i64 wr,i64 pv,.slice pn ln.length kn,.slice pp lp.length kp])]/\i<=ln.length/\kidsB ln i=true/\True) ?_ ?_
 · exact ⟨_,0,rfl,hA.ss,hO.to,(Nat.zero_le _),rfl,trivial⟩
 rintro _ fr w2 ⟨i,rfl,hA,hO,hi_i,ho,-⟩
 refine Sa [(11,bl (decide (((i:Nat):Int) < ((ln.length:Nat):Int))))] hA fun fr hA=>?_
 refine wp_seq ?_
 rcases Bool.eq_false_or_eq_true (decide (((i:Nat):Int) < ((ln.length:Nat):Int))) with h1 | h1
 · rw [h1] at hA
   have h1p:=of_decide_eq_true h1
   obtain ⟨ad1,rfl⟩:=((hv_k.keep hO.only)).pos (by first | omega | exact Nat.zero_lt_succ _)
   obtain ⟨v1,hx1⟩ : ∃ x,(ln)[i]? = some x:=⟨_,getD_at _ 0 (by first | omega | exact Nat.zero_lt_succ _)⟩
   refine cT hA ?_
   refine wp_skip ?_
   refine then_normal ?_
   refine wp_seq ?_
   refine wp_block ?_
   refine Sb [(3,i64 ((i:Nat):Int)),(4,i64 v1),(8,.slice (some ad1) ln.length kn)] hA [i64 v1] (cc (⟨by omega,by omega⟩:(0:Int)<=((i:Nat):Int)/\((i:Nat):Int) < ((ln.length:Nat):Int)) (cc ((ldN ((hv_k.keep hO.only)) hx1):Ld Tryd.prog w2 (ad1.add i) 3 (i64 v1)) c0)) fun fr hA=>?_
   refine sr 11 ?_
   refine Ka 1 [(15,i64 v1)] hA fun fr hA=>?_
   refine Mk 16 hA hO Tryd.func35 (user_any v1 _) fun fr w3 hA hO=>?_
   refine Ka 2 [(17,bl (!(userB v1))),(18,bl (!(userB v1)))] hA fun fr hA=>?_
   rcases Bool.eq_false_or_eq_true (userB v1) with h2 | h2
   · rw [h2] at hA
     refine Kb 5 [(18,bl false),(22,.slice (some ad1) i kn),(23,i64 v1)] hA [.slice (some ad1) ln.length kn,bl false] (cc (hO.l1 0 7 28 (.slice (some ad1) ln.length kn)) (cc (⟨by omega,by omega,by omega,by omega,by omega⟩:(0:Int)<=0/\(0:Int)<=((i:Nat):Int)/\(((i:Nat):Int):Int)<=((kn:Nat):Int)/\(((kn:Nat):Int):Int)<=((kn:Nat):Int)/\(0=((kn:Nat):Int)\/0=(0:Int))) c0)) fun fr hA=>?_
     refine Mk 24 hA hO Tryd.func36 (contains_any (some ad1) i kn (ln.take i) v1 _ ((hv_k.keep hO.only).take rfl (by omega) (hv_k.keep hO.only).nilcap) (by rw [List.length_take]; omega)) fun fr w4 hA hO=>?_
     refine Ka 1 [(25,bl ((ln.take i).contains v1))] hA fun fr hA=>?_
     refine end_ops ?_
     refine then_normal ?_
     rcases Bool.eq_false_or_eq_true ((ln.take i).contains v1) with h3 | h3
     · rw [h3] at hA
       refine cT hA ?_
       refine Sa [] hA fun fr hA=>?_
       refine wp_ret ?_
       refine inBlock_ret ?_
       refine then_ret ?_
       refine then_ret ?_
       refine inBlock_ret ?_
       refine then_ret ?_
       refine cv [bl false] hA ?_
       have hF:=hO.only; clear hA hO
       exact ⟨congrArg (fun b=>Ending.returned (.bool b)) (lists_kids (kids_no hx1 (by first | exact .inl (by assumption) | exact .inr (by assumption)))).symm,hF⟩
     rw [h3] at hA
     refine cF hA ?_
     refine wp_skip ?_
     refine inBlock_normal ?_
     refine then_normal ?_
     refine Rc [(10,i64 (((i:Nat):Int)+1))] hA [bl true] (cc ((inK_i64 (by omega) (by omega)):inK .i64 (((i:Nat):Int)+1)) c0) fun fr hA=>?_
     refine then_normal ?_
     exact ⟨_,by omega,i+1,rfl,hA.ss,hO.to,(by omega),(kids_step ho hx1 (by assumption) (by assumption)),trivial⟩
   rw [h2] at hA
   refine Ka 7 [(25,bl true)] hA fun fr hA=>?_
   refine end_ops ?_
   refine then_normal ?_
   refine cT hA ?_
   refine Sa [] hA fun fr hA=>?_
   refine wp_ret ?_
   refine inBlock_ret ?_
   refine then_ret ?_
   refine then_ret ?_
   refine inBlock_ret ?_
   refine then_ret ?_
   refine cv [bl false] hA ?_
   have hF:=hO.only; clear hA hO
   exact ⟨congrArg (fun b=>Ending.returned (.bool b)) (lists_kids (kids_no hx1 (by first | exact .inl (by assumption) | exact .inr (by assumption)))).symm,hF⟩
 rw [h1] at hA
 have h1p:=of_decide_eq_false h1
 refine cF hA ?_
 refine wp_exit ?_
 refine then_exit ?_
 refine then_exit ?_
 refine inBlock_exit ?_
 refine then_normal ?_
 refine wp_seq ?_
 refine Sb [(28,.slice pp lp.length kp),(29,i64 ((lp.length:Nat):Int)),(30,i64 0)] hA [.slice pp lp.length kp] (cc (hO.l1 0 8 29 (.slice pp lp.length kp)) c0) fun fr hA=>?_
 refine wp_block ?_
 refine c_loop (fun mm fr W=>∃ (j:Nat),mm=lp.length - j/\Holds 42 [] fr [(1,pt b1),(2,bl false),(28,.slice pp lp.length kp),(29,i64 ((lp.length:Nat):Int)),(30,i64 ((j:Nat):Int))]/\Ow Tryd.prog none' w W [(b1,31,[i64 mo,i64 po,str inp,.slice pj lj.length kj,i64 rd,i64 wr,i64 pv,.slice pn ln.length kn,.slice pp lp.length kp])]/\j<=lp.length/\(lp.take j).all (fun x=>okC x.d)=true/\True) ?_ ?_
 · exact ⟨_,0,rfl,hA.ss,hO.to,(Nat.zero_le _),rfl,trivial⟩
 rintro _ fr w5 ⟨j,rfl,hA,hO,hi_j,hp,-⟩
 refine Sa [(31,bl (decide (((j:Nat):Int) < ((lp.length:Nat):Int))))] hA fun fr hA=>?_
 refine wp_seq ?_
 rcases Bool.eq_false_or_eq_true (decide (((j:Nat):Int) < ((lp.length:Nat):Int))) with h4 | h4
 · rw [h4] at hA
   have h4p:=of_decide_eq_true h4
   obtain ⟨ad2,rfl⟩:=((hv_p.keep hO.only).1).pos (by first | omega | exact Nat.zero_lt_succ _)
   obtain ⟨⟨qp1,qc1,qd1⟩,hx2⟩ : ∃ x,(lp)[j]? = some x:=⟨_,getD_at _ PV0 (by first | omega | exact Nat.zero_lt_succ _)⟩
   refine cT hA ?_
   refine wp_skip ?_
   refine then_normal ?_
   refine wp_seq ?_
   refine wp_block ?_
   refine sr 4 ?_
   refine Kb 2 [(28,.slice (some ad2) lp.length kp),(33,.agg #[i64 qd1.call,i64 qd1.a0,i64 qd1.a1,i64 qd1.a2,.slice qp1 qd1.data.length qc1])] hA [.agg #[i64 qd1.call,i64 qd1.a0,i64 qd1.a1,i64 qd1.a2,.slice qp1 qd1.data.length qc1]] (cc (⟨by omega,by omega⟩:(0:Int)<=((j:Nat):Int)/\((j:Nat):Int) < ((lp.length:Nat):Int)) (cc ((((hv_p.keep hO.only).1).ldn encP hx2):Ld Tryd.prog w5 (ad2.add (j*5)) 35 (.agg #[i64 qd1.call,i64 qd1.a0,i64 qd1.a1,i64 qd1.a2,.slice qp1 qd1.data.length qc1])) c0)) fun fr hA=>?_
   refine Mn [i64 0,i64 0,i64 0,i64 0,.slice none 0 0] 35 6 hA hO fun fr w6 b2 hA hO=>?_
   refine Ms 0 [i64 qd1.call,i64 qd1.a0,i64 qd1.a1,i64 qd1.a2,.slice qp1 qd1.data.length qc1] 0 hA hO fun w7 hO=>?_
   refine end_ops ?_
   refine then_normal ?_
   refine sr 3 ?_
   refine Kb 1 [(34,.agg #[i64 qd1.call,i64 qd1.a0,i64 qd1.a1,i64 qd1.a2,.slice qp1 qd1.data.length qc1])] hA [.agg #[i64 qd1.call,i64 qd1.a0,i64 qd1.a1,i64 qd1.a2,.slice qp1 qd1.data.length qc1]] (cc (hO.ln 0 0 35 [i64 qd1.call,i64 qd1.a0,i64 qd1.a1,i64 qd1.a2,.slice qp1 qd1.data.length qc1]) c0) fun fr hA=>?_
   refine Mk 35 hA hO Tryd.func37 (cvalid_any ⟨qp1,qc1,qd1⟩ _) fun fr w8 hA hO=>?_
   refine Ka 1 [(36,bl (!(okC qd1)))] hA fun fr hA=>?_
   refine end_ops ?_
   refine then_normal ?_
   rcases Bool.eq_false_or_eq_true (okC qd1) with h5 | h5
   · rw [h5] at hA
     refine cF hA ?_
     refine wp_skip ?_
     refine inBlock_normal ?_
     refine then_normal ?_
     refine Rc [(30,i64 (((j:Nat):Int)+1))] hA [bl true] (cc ((inK_i64 (by omega) (by omega)):inK .i64 (((j:Nat):Int)+1)) c0) fun fr hA=>?_
     refine then_normal ?_
     exact ⟨_,by omega,j+1,rfl,hA.ss,(hO.sub [1]),(by omega),(all_step hp hx2 (by assumption)),trivial⟩
   rw [h5] at hA
   refine cT hA ?_
   refine Sa [] hA fun fr hA=>?_
   refine wp_ret ?_
   refine inBlock_ret ?_
   refine then_ret ?_
   refine then_ret ?_
   refine inBlock_ret ?_
   refine then_ret ?_
   refine cv [bl false] hA ?_
   have hF:=hO.only; clear hA hO
   exact ⟨congrArg (fun b=>Ending.returned (.bool b)) (lists_call hx2 (by assumption)).symm,hF⟩
 rw [h4] at hA
 have h4p:=of_decide_eq_false h4
 refine cF hA ?_
 refine wp_exit ?_
 refine then_exit ?_
 refine then_exit ?_
 refine inBlock_exit ?_
 refine then_normal ?_
 refine Sb [(2,bl (decide (((lp.length:Nat):Int)<=12)))] hA [.slice pp lp.length kp] (cc (hO.l1 0 8 29 (.slice pp lp.length kp)) c0) fun fr hA=>?_
 refine wp_ret ?_
 refine cv [bl (decide (((lp.length:Nat):Int)<=12))] hA ?_
 have hF:=hO.only; clear hA hO
 exact ⟨congrArg (fun b=>Ending.returned (.bool b)) ((lists_end ho (by omega) hi_i hp (by omega)).trans (decide_eq_decide.2 (by omega))).symm,hF⟩
theorem bq_yes {n:Nat} {m:Int} (h:(decide (((n:Nat):Int) > 0) == (m == 6))=true) : 0 < n↔m=6:=by
 rw [beq_iff_eq,Bool.eq_iff_iff,decide_eq_true_eq,beq_iff_eq] at h; omega
theorem bq_no {n:Nat} {m:Int} (h:(decide (((n:Nat):Int) > 0) == (m == 6))=false) : ¬ (0 < n↔m=6):=by
 rw [beq_eq_false_iff_ne,ne_eq,Bool.eq_iff_iff,decide_eq_true_eq,beq_iff_eq] at h; omega
theorem bt_yes {n:Nat} (h:(decide (((n:Nat):Int) > 0) == true)=true) : 0 < n:=by
 rw [beq_iff_eq,decide_eq_true_eq] at h; omega
theorem bt_no {n:Nat} (h:(decide (((n:Nat):Int) > 0) == true)=false) : ¬ 0 < n:=by
 rw [beq_eq_false_iff_ne,ne_eq,decide_eq_true_eq] at h; omega
section
variable {s:StL}
theorem valid_dec (s:StL):validS s=decide (((-1<=s.rd/\s.rd < 8)/\(-1<=s.wr/\s.wr < 8)/\(-1<=s.pv/\s.pv < 8))/\((0<=s.mode/\s.mode<=7)/\s.inp.size<=300/\validL s.jobs=true/\listsB s.kids s.plan=true/\(0<=s.pos/\s.pos<=(nCmd s.jobs:Int)))/\((0 < s.plan.length↔(s.mode=2\/s.mode=6))/\(s.mode=3\/s.mode=4->s.pos < (nCmd s.jobs:Int))/\(s.mode=5->0 < s.jobs.length))):=by
 unfold validS regsB fitB modeB regB
 rw [Bool.eq_iff_iff]
 simp only [Bool.and_eq_true,decide_eq_true_eq,beq_iff_eq,decide_eq_decide]
 refine and_congr_right fun _=>and_congr_right fun _=>and_congr_right fun _=>?_
 by_cases h:s.mode=3\/s.mode=4
 · rw [if_pos h,decide_eq_true_eq]
   exact ⟨fun q=>⟨fun _=>q,fun q=>by omega⟩,fun q=>q.1 h⟩
 rw [if_neg h]
 by_cases h5:s.mode=5
 · rw [if_pos h5,decide_eq_true_eq]
   exact ⟨fun q=>⟨fun q=>absurd q h,fun _=>q⟩,fun q=>q.2 h5⟩
 rw [if_neg h5]
 exact ⟨fun _=>⟨fun q=>absurd q h,fun q=>absurd q h5⟩,fun _=>rfl⟩
end
theorem svalid_any (mo po:Int) (inp:ByteArray) (pj:Option Addr) (kj:Nat) (lj:List JV) (rd wr pv:Int) (pn:Option Addr) (kn:Nat) (ln:List Int) (pp:Option Addr) (kp:Nat) (lp:List PV) (w:World) (hs:SV.ok (⟨mo,po,inp,pj,kj,lj,rd,wr,pv,pn,kn,ln,pp,kp,lp⟩:SV) w) (hm:SV.sm (⟨mo,po,inp,pj,kj,lj,rd,wr,pv,pn,kn,ln,pp,kp,lp⟩:SV)) :
    Calls Tryd.prog 10 #[.agg #[i64 mo,i64 po,str inp,.slice pj lj.length kj,i64 rd,i64 wr,i64 pv,.slice pn ln.length kn,.slice pp lp.length kp]] w fun e w'=>e = .returned (.bool (validS (SV.d (⟨mo,po,inp,pj,kj,lj,rd,wr,pv,pn,kn,ln,pp,kp,lp⟩:SV))))/\Only none' w w':=by
 refine c_enter (args:=[.agg #[i64 mo,i64 po,str inp,.slice pj lj.length kj,i64 rd,i64 wr,i64 pv,.slice pn ln.length kn,.slice pp lp.length kp]]) (m:=87) (n:=88) Tryd.func10 rfl (by kernel_rfl) (by kernel_rfl) fun fr hA=>?_
 have hO:=Ow.nil Tryd.prog none' w
 have hv_j:VL w (.slice pj lj.length kj) lj:=hs.j
 have hv_k:Vw fN w (.slice pn ln.length kn) ln:=hs.k
 have hv_p:PL w (.slice pp lp.length kp) lp:=hs.p
 have hm_ck:ln.length<=kn:=hm.ck
 have hm_cj:lj.length<=kj:=hm.cj
 have hm_cp:lp.length<=kp:=hm.cp
 have hm_i:inp.size<=1000000:=hm.i
 have hm_k:ln.length<=1000000:=hm.k
 have hm_p:lp.length<=1000000:=hm.p
 have hm_j:smL 1000000 (lj.map JV.d):=hm.j
 have hm_jl:lj.length<=1000000:=hm_j.len
 refine sr 2 ?_
 refine Mn [i64 mo,i64 po,str inp,.slice pj lj.length kj,i64 rd,i64 wr,i64 pv,.slice pn ln.length kn,.slice pp lp.length kp] 31 1 hA hO fun fr w1 b1 hA hO=>?_
 refine Ka 1 [(2,bl false)] hA fun fr hA=>?_
 refine end_ops ?_
 refine then_normal ?_
 refine wp_seq ?_
 refine Sb [(11,.agg #[i64 rd,i64 wr,i64 pv]),(12,i64 0)] hA [i64 rd,i64 wr,i64 pv] (cc (hO.l1 0 4 3 (i64 rd)) (cc (hO.l1 0 5 3 (i64 wr)) (cc (hO.l1 0 6 3 (i64 pv)) c0))) fun fr hA=>?_
 refine wp_block ?_
 refine c_loop (fun mm fr W=>(mm=3/\Holds 88 [] fr [(1,pt b1),(2,bl false),(11,.agg #[i64 rd,i64 wr,i64 pv]),(12,i64 0)]/\Ow Tryd.prog none' w W [(b1,31,[i64 mo,i64 po,str inp,.slice pj lj.length kj,i64 rd,i64 wr,i64 pv,.slice pn ln.length kn,.slice pp lp.length kp])])\/(mm=2/\Holds 88 [] fr [(1,pt b1),(2,bl false),(11,.agg #[i64 rd,i64 wr,i64 pv]),(12,i64 1)]/\Ow Tryd.prog none' w W [(b1,31,[i64 mo,i64 po,str inp,.slice pj lj.length kj,i64 rd,i64 wr,i64 pv,.slice pn ln.length kn,.slice pp lp.length kp])]/\(-1<=rd/\rd < 8))\/(mm=1/\Holds 88 [] fr [(1,pt b1),(2,bl false),(11,.agg #[i64 rd,i64 wr,i64 pv]),(12,i64 2)]/\Ow Tryd.prog none' w W [(b1,31,[i64 mo,i64 po,str inp,.slice pj lj.length kj,i64 rd,i64 wr,i64 pv,.slice pn ln.length kn,.slice pp lp.length kp])]/\(-1<=rd/\rd < 8)/\(-1<=wr/\wr < 8))\/(mm=0/\Holds 88 [] fr [(1,pt b1),(2,bl false),(11,.agg #[i64 rd,i64 wr,i64 pv]),(12,i64 3)]/\Ow Tryd.prog none' w W [(b1,31,[i64 mo,i64 po,str inp,.slice pj lj.length kj,i64 rd,i64 wr,i64 pv,.slice pn ln.length kn,.slice pp lp.length kp])]/\(-1<=rd/\rd < 8)/\(-1<=wr/\wr < 8)/\(-1<=pv/\pv < 8))) ?_ ?_
 · exact ⟨_,(.inl ⟨rfl,hA.sb,hO.to⟩)⟩
 rintro _ fr w2 (⟨rfl,hA,hO⟩ | ⟨rfl,hA,hO,hu⟩ | ⟨rfl,hA,hO,hu⟩ | ⟨rfl,hA,hO,hu⟩)
 · refine Sa [(13,bl true)] hA fun fr hA=>?_
   refine wp_seq ?_
   refine cT hA ?_
   refine wp_skip ?_
   refine then_normal ?_
   refine wp_seq ?_
   refine wp_block ?_
   refine Sb [(4,i64 rd)] hA [i64 rd] (cc (⟨by omega,by omega,by kernel_rfl⟩:(0:Int)<=0/\0 < ((3:Nat):Int)/\(#[i64 rd,i64 wr,i64 pv])[(0:Int).toNat*1]? = some (i64 rd)) c0) fun fr hA=>?_
   refine sr 6 ?_
   refine Ka 3 [(16,bl (decide (rd < (-1)))),(17,bl (decide (rd < (-1))))] hA fun fr hA=>?_
   rcases Bool.eq_false_or_eq_true (decide (rd < (-1))) with h1 | h1
   · rw [h1] at hA
     have h1p:=of_decide_eq_true h1
     refine Ka 3 [(20,bl true)] hA fun fr hA=>?_
     refine end_ops ?_
     refine then_normal ?_
     refine cT hA ?_
     refine Sa [] hA fun fr hA=>?_
     refine wp_ret ?_
     refine inBlock_ret ?_
     refine then_ret ?_
     refine then_ret ?_
     refine inBlock_ret ?_
     refine then_ret ?_
     refine cv [bl false] hA ?_
     have hF:=hO.only; clear hA hO
     refine ⟨congrArg (fun b=>Ending.returned (.bool b)) ?_,hF⟩
     rw [valid_dec]
     simp only [SV.d,List.length_map] at *
     first | exact (decide_eq_false (by omega)).symm | exact (decide_eq_false (by rintro ⟨q1,⟨q2,q3,q4,q5,q6⟩,q7,q8,q9⟩; first | omega | (simp_all; done) | (simp_all; omega))).symm | exact (decide_eq_true ⟨by omega,⟨by omega,by omega,by assumption,by assumption,by omega⟩,by omega,by omega,by omega⟩).symm | exact decide_eq_decide.2 ⟨fun q=>⟨by omega,⟨by omega,by omega,by assumption,by assumption,by omega⟩,by omega,by omega,by omega⟩,fun q=>by omega⟩
   rw [h1] at hA
   have h1p:=of_decide_eq_false h1
   refine Ka 3 [(20,bl (decide (rd ≥ 8)))] hA fun fr hA=>?_
   refine end_ops ?_
   refine then_normal ?_
   rcases Bool.eq_false_or_eq_true (decide (rd ≥ 8)) with h2 | h2
   · rw [h2] at hA
     have h2p:=of_decide_eq_true h2
     refine cT hA ?_
     refine Sa [] hA fun fr hA=>?_
     refine wp_ret ?_
     refine inBlock_ret ?_
     refine then_ret ?_
     refine then_ret ?_
     refine inBlock_ret ?_
     refine then_ret ?_
     refine cv [bl false] hA ?_
     have hF:=hO.only; clear hA hO
     refine ⟨congrArg (fun b=>Ending.returned (.bool b)) ?_,hF⟩
     rw [valid_dec]
     simp only [SV.d,List.length_map] at *
     first | exact (decide_eq_false (by omega)).symm | exact (decide_eq_false (by rintro ⟨q1,⟨q2,q3,q4,q5,q6⟩,q7,q8,q9⟩; first | omega | (simp_all; done) | (simp_all; omega))).symm | exact (decide_eq_true ⟨by omega,⟨by omega,by omega,by assumption,by assumption,by omega⟩,by omega,by omega,by omega⟩).symm | exact decide_eq_decide.2 ⟨fun q=>⟨by omega,⟨by omega,by omega,by assumption,by assumption,by omega⟩,by omega,by omega,by omega⟩,fun q=>by omega⟩
   rw [h2] at hA
   have h2p:=of_decide_eq_false h2
   refine cF hA ?_
   refine wp_skip ?_
   refine inBlock_normal ?_
   refine then_normal ?_
   refine Rc [(12,i64 1)] hA [bl false] c0 fun fr hA=>?_
   refine then_normal ?_
   exact ⟨2,by decide,(.inr (.inl ⟨rfl,hA.sb,hO.to,(by omega)⟩))⟩
 · refine Sa [(12,i64 1),(13,bl true)] hA fun fr hA=>?_
   refine wp_seq ?_
   refine cT hA ?_
   refine wp_skip ?_
   refine then_normal ?_
   refine wp_seq ?_
   refine wp_block ?_
   refine Sb [(4,i64 wr)] hA [i64 wr] (cc (⟨by omega,by omega,by kernel_rfl⟩:(0:Int)<=1/\1 < ((3:Nat):Int)/\(#[i64 rd,i64 wr,i64 pv])[(1:Int).toNat*1]? = some (i64 wr)) c0) fun fr hA=>?_
   refine sr 6 ?_
   refine Ka 3 [(16,bl (decide (wr < (-1)))),(17,bl (decide (wr < (-1))))] hA fun fr hA=>?_
   rcases Bool.eq_false_or_eq_true (decide (wr < (-1))) with h3 | h3
   · rw [h3] at hA
     have h3p:=of_decide_eq_true h3
     refine Ka 3 [(20,bl true)] hA fun fr hA=>?_
     refine end_ops ?_
     refine then_normal ?_
     refine cT hA ?_
     refine Sa [] hA fun fr hA=>?_
     refine wp_ret ?_
     refine inBlock_ret ?_
     refine then_ret ?_
     refine then_ret ?_
     refine inBlock_ret ?_
     refine then_ret ?_
     refine cv [bl false] hA ?_
     have hF:=hO.only; clear hA hO
     refine ⟨congrArg (fun b=>Ending.returned (.bool b)) ?_,hF⟩
     rw [valid_dec]
     simp only [SV.d,List.length_map] at *
     first | exact (decide_eq_false (by omega)).symm | exact (decide_eq_false (by rintro ⟨q1,⟨q2,q3,q4,q5,q6⟩,q7,q8,q9⟩; first | omega | (simp_all; done) | (simp_all; omega))).symm | exact (decide_eq_true ⟨by omega,⟨by omega,by omega,by assumption,by assumption,by omega⟩,by omega,by omega,by omega⟩).symm | exact decide_eq_decide.2 ⟨fun q=>⟨by omega,⟨by omega,by omega,by assumption,by assumption,by omega⟩,by omega,by omega,by omega⟩,fun q=>by omega⟩
   rw [h3] at hA
   have h3p:=of_decide_eq_false h3
   refine Ka 3 [(20,bl (decide (wr ≥ 8)))] hA fun fr hA=>?_
   refine end_ops ?_
   refine then_normal ?_
   rcases Bool.eq_false_or_eq_true (decide (wr ≥ 8)) with h4 | h4
   · rw [h4] at hA
     have h4p:=of_decide_eq_true h4
     refine cT hA ?_
     refine Sa [] hA fun fr hA=>?_
     refine wp_ret ?_
     refine inBlock_ret ?_
     refine then_ret ?_
     refine then_ret ?_
     refine inBlock_ret ?_
     refine then_ret ?_
     refine cv [bl false] hA ?_
     have hF:=hO.only; clear hA hO
     refine ⟨congrArg (fun b=>Ending.returned (.bool b)) ?_,hF⟩
     rw [valid_dec]
     simp only [SV.d,List.length_map] at *
     first | exact (decide_eq_false (by omega)).symm | exact (decide_eq_false (by rintro ⟨q1,⟨q2,q3,q4,q5,q6⟩,q7,q8,q9⟩; first | omega | (simp_all; done) | (simp_all; omega))).symm | exact (decide_eq_true ⟨by omega,⟨by omega,by omega,by assumption,by assumption,by omega⟩,by omega,by omega,by omega⟩).symm | exact decide_eq_decide.2 ⟨fun q=>⟨by omega,⟨by omega,by omega,by assumption,by assumption,by omega⟩,by omega,by omega,by omega⟩,fun q=>by omega⟩
   rw [h4] at hA
   have h4p:=of_decide_eq_false h4
   refine cF hA ?_
   refine wp_skip ?_
   refine inBlock_normal ?_
   refine then_normal ?_
   refine Rc [(12,i64 2)] hA [bl false] c0 fun fr hA=>?_
   refine then_normal ?_
   exact ⟨1,by decide,(.inr (.inr (.inl ⟨rfl,hA.sb,hO.to,(by omega)⟩)))⟩
 · refine Sa [(12,i64 2),(13,bl true)] hA fun fr hA=>?_
   refine wp_seq ?_
   refine cT hA ?_
   refine wp_skip ?_
   refine then_normal ?_
   refine wp_seq ?_
   refine wp_block ?_
   refine Sb [(4,i64 pv)] hA [i64 pv] (cc (⟨by omega,by omega,by kernel_rfl⟩:(0:Int)<=2/\2 < ((3:Nat):Int)/\(#[i64 rd,i64 wr,i64 pv])[(2:Int).toNat*1]? = some (i64 pv)) c0) fun fr hA=>?_
   refine sr 6 ?_
   refine Ka 3 [(16,bl (decide (pv < (-1)))),(17,bl (decide (pv < (-1))))] hA fun fr hA=>?_
   rcases Bool.eq_false_or_eq_true (decide (pv < (-1))) with h5 | h5
   · rw [h5] at hA
     have h5p:=of_decide_eq_true h5
     refine Ka 3 [(20,bl true)] hA fun fr hA=>?_
     refine end_ops ?_
     refine then_normal ?_
     refine cT hA ?_
     refine Sa [] hA fun fr hA=>?_
     refine wp_ret ?_
     refine inBlock_ret ?_
     refine then_ret ?_
     refine then_ret ?_
     refine inBlock_ret ?_
     refine then_ret ?_
     refine cv [bl false] hA ?_
     have hF:=hO.only; clear hA hO
     refine ⟨congrArg (fun b=>Ending.returned (.bool b)) ?_,hF⟩
     rw [valid_dec]
     simp only [SV.d,List.length_map] at *
     first | exact (decide_eq_false (by omega)).symm | exact (decide_eq_false (by rintro ⟨q1,⟨q2,q3,q4,q5,q6⟩,q7,q8,q9⟩; first | omega | (simp_all; done) | (simp_all; omega))).symm | exact (decide_eq_true ⟨by omega,⟨by omega,by omega,by assumption,by assumption,by omega⟩,by omega,by omega,by omega⟩).symm | exact decide_eq_decide.2 ⟨fun q=>⟨by omega,⟨by omega,by omega,by assumption,by assumption,by omega⟩,by omega,by omega,by omega⟩,fun q=>by omega⟩
   rw [h5] at hA
   have h5p:=of_decide_eq_false h5
   refine Ka 3 [(20,bl (decide (pv ≥ 8)))] hA fun fr hA=>?_
   refine end_ops ?_
   refine then_normal ?_
   rcases Bool.eq_false_or_eq_true (decide (pv ≥ 8)) with h6 | h6
   · rw [h6] at hA
     have h6p:=of_decide_eq_true h6
     refine cT hA ?_
     refine Sa [] hA fun fr hA=>?_
     refine wp_ret ?_
     refine inBlock_ret ?_
     refine then_ret ?_
     refine then_ret ?_
     refine inBlock_ret ?_
     refine then_ret ?_
     refine cv [bl false] hA ?_
     have hF:=hO.only; clear hA hO
     refine ⟨congrArg (fun b=>Ending.returned (.bool b)) ?_,hF⟩
     rw [valid_dec]
     simp only [SV.d,List.length_map] at *
     first | exact (decide_eq_false (by omega)).symm | exact (decide_eq_false (by rintro ⟨q1,⟨q2,q3,q4,q5,q6⟩,q7,q8,q9⟩; first | omega | (simp_all; done) | (simp_all; omega))).symm | exact (decide_eq_true ⟨by omega,⟨by omega,by omega,by assumption,by assumption,by omega⟩,by omega,by omega,by omega⟩).symm | exact decide_eq_decide.2 ⟨fun q=>⟨by omega,⟨by omega,by omega,by assumption,by assumption,by omega⟩,by omega,by omega,by omega⟩,fun q=>by omega⟩
   rw [h6] at hA
   have h6p:=of_decide_eq_false h6
   refine cF hA ?_
   refine wp_skip ?_
   refine inBlock_normal ?_
   refine then_normal ?_
   refine Rc [(12,i64 3)] hA [bl false] c0 fun fr hA=>?_
   refine then_normal ?_
   exact ⟨0,by decide,(.inr (.inr (.inr ⟨rfl,hA.sb,hO.to,(by omega)⟩)))⟩
 refine Sa [(12,i64 3),(13,bl false)] hA fun fr hA=>?_
 refine wp_seq ?_
 refine cF hA ?_
 refine wp_exit ?_
 refine then_exit ?_
 refine then_exit ?_
 refine inBlock_exit ?_
 refine then_normal ?_
 refine wp_seq ?_
 refine wp_seq ?_
 have hS:=hO
 refine rP [(0,true),(1,true),(2,true),(3,true),(4,true),(5,true),(6,true),(7,true),(8,true),(9,true),(10,true),(11,true),(12,true),(13,true),(14,true),(15,true),(16,true),(17,false),(18,true),(19,true),(20,true),(21,true),(22,false),(23,true),(24,true),(25,true),(26,true),(27,true),(28,true),(29,true),(30,true),(31,true),(32,true),(33,true),(34,false),(35,true),(36,true)] hS ?_
 intro w3 ho; replace hO:=hO.st ho; clear ho
 refine Ke 4 [(24,bl (decide (mo < 0))),(25,bl (decide (mo < 0)))] hA [i64 mo] (cc (hS.s1 0 0 3 (i64 mo)) c0) fun fr hA=>?_
 rcases Bool.eq_false_or_eq_true (decide (mo < 0)) with h7 | h7
 · rw [h7] at hA
   have h7p:=of_decide_eq_true h7
   refine Kd 13 [(36,bl true),(38,.tuple #[])] hA fun fr hA=>?_
   refine plan_mem (m_skip (d:=(some 39)) hA (by kernel_rfl) (by kernel_rfl) fun fr hA=>?_)
   refine ⟨hO.tt,?_⟩
   refine Kd 4 [(42,bl true),(43,.tuple #[])] hA fun fr hA=>?_
   refine plan_mem (m_skip (d:=(some 44)) hA (by kernel_rfl) (by kernel_rfl) fun fr hA=>?_)
   refine ⟨hO.tt,?_⟩
   refine Kd 11 [(52,bl true),(54,.tuple #[]),(55,.tuple #[])] hA fun fr hA=>?_
   refine plan_mem (m_skip (d:=(some 56)) hA (by kernel_rfl) (by kernel_rfl) fun fr hA=>?_)
   refine ⟨hO.tt,?_⟩
   refine Kd 2 [(58,bl true)] hA fun fr hA=>?_
   refine end_plan ?_
   refine then_normal ?_
   refine cT hA ?_
   refine Sa [] hA fun fr hA=>?_
   refine wp_ret ?_
   refine then_ret ?_
   refine cv [bl false] hA ?_
   have hF:=hO.only; clear hA hO
   refine ⟨congrArg (fun b=>Ending.returned (.bool b)) ?_,hF⟩
   rw [valid_dec]
   simp only [SV.d,List.length_map] at *
   first | exact (decide_eq_false (by omega)).symm | exact (decide_eq_false (by rintro ⟨q1,⟨q2,q3,q4,q5,q6⟩,q7,q8,q9⟩; first | omega | (simp_all; done) | (simp_all; omega))).symm | exact (decide_eq_true ⟨by omega,⟨by omega,by omega,by assumption,by assumption,by omega⟩,by omega,by omega,by omega⟩).symm | exact decide_eq_decide.2 ⟨fun q=>⟨by omega,⟨by omega,by omega,by assumption,by assumption,by omega⟩,by omega,by omega,by omega⟩,fun q=>by omega⟩
 rw [h7] at hA
 have h7p:=of_decide_eq_false h7
 refine Ke 5 [(28,bl (decide (mo > 7))),(29,bl (decide (mo > 7))),(30,bl (decide (mo > 7)))] hA [i64 mo] (cc (hS.s1 0 0 3 (i64 mo)) c0) fun fr hA=>?_
 rcases Bool.eq_false_or_eq_true (decide (mo > 7)) with h8 | h8
 · rw [h8] at hA
   have h8p:=of_decide_eq_true h8
   refine Kd 8 [(36,bl true),(38,.tuple #[])] hA fun fr hA=>?_
   refine plan_mem (m_skip (d:=(some 39)) hA (by kernel_rfl) (by kernel_rfl) fun fr hA=>?_)
   refine ⟨hO.tt,?_⟩
   refine Kd 4 [(42,bl true),(43,.tuple #[])] hA fun fr hA=>?_
   refine plan_mem (m_skip (d:=(some 44)) hA (by kernel_rfl) (by kernel_rfl) fun fr hA=>?_)
   refine ⟨hO.tt,?_⟩
   refine Kd 11 [(52,bl true),(54,.tuple #[]),(55,.tuple #[])] hA fun fr hA=>?_
   refine plan_mem (m_skip (d:=(some 56)) hA (by kernel_rfl) (by kernel_rfl) fun fr hA=>?_)
   refine ⟨hO.tt,?_⟩
   refine Kd 2 [(58,bl true)] hA fun fr hA=>?_
   refine end_plan ?_
   refine then_normal ?_
   refine cT hA ?_
   refine Sa [] hA fun fr hA=>?_
   refine wp_ret ?_
   refine then_ret ?_
   refine cv [bl false] hA ?_
   have hF:=hO.only; clear hA hO
   refine ⟨congrArg (fun b=>Ending.returned (.bool b)) ?_,hF⟩
   rw [valid_dec]
   simp only [SV.d,List.length_map] at *
   first | exact (decide_eq_false (by omega)).symm | exact (decide_eq_false (by rintro ⟨q1,⟨q2,q3,q4,q5,q6⟩,q7,q8,q9⟩; first | omega | (simp_all; done) | (simp_all; omega))).symm | exact (decide_eq_true ⟨by omega,⟨by omega,by omega,by assumption,by assumption,by omega⟩,by omega,by omega,by omega⟩).symm | exact decide_eq_decide.2 ⟨fun q=>⟨by omega,⟨by omega,by omega,by assumption,by assumption,by omega⟩,by omega,by omega,by omega⟩,fun q=>by omega⟩
 rw [h8] at hA
 have h8p:=of_decide_eq_false h8
 refine Ke 6 [(34,bl (decide (((inp.size:Nat):Int) > 300))),(35,bl (decide (((inp.size:Nat):Int) > 300))),(36,bl (decide (((inp.size:Nat):Int) > 300)))] hA [str inp] (cc (hS.s1 0 2 9 (str inp)) c0) fun fr hA=>?_
 rcases Bool.eq_false_or_eq_true (decide (((inp.size:Nat):Int) > 300)) with h9 | h9
 · rw [h9] at hA
   have h9p:=of_decide_eq_true h9
   refine Kd 2 [(36,bl true),(38,.tuple #[])] hA fun fr hA=>?_
   refine plan_mem (m_skip (d:=(some 39)) hA (by kernel_rfl) (by kernel_rfl) fun fr hA=>?_)
   refine ⟨hO.tt,?_⟩
   refine Kd 4 [(42,bl true),(43,.tuple #[])] hA fun fr hA=>?_
   refine plan_mem (m_skip (d:=(some 44)) hA (by kernel_rfl) (by kernel_rfl) fun fr hA=>?_)
   refine ⟨hO.tt,?_⟩
   refine Kd 11 [(52,bl true),(54,.tuple #[]),(55,.tuple #[])] hA fun fr hA=>?_
   refine plan_mem (m_skip (d:=(some 56)) hA (by kernel_rfl) (by kernel_rfl) fun fr hA=>?_)
   refine ⟨hO.tt,?_⟩
   refine Kd 2 [(58,bl true)] hA fun fr hA=>?_
   refine end_plan ?_
   refine then_normal ?_
   refine cT hA ?_
   refine Sa [] hA fun fr hA=>?_
   refine wp_ret ?_
   refine then_ret ?_
   refine cv [bl false] hA ?_
   have hF:=hO.only; clear hA hO
   refine ⟨congrArg (fun b=>Ending.returned (.bool b)) ?_,hF⟩
   rw [valid_dec]
   simp only [SV.d,List.length_map] at *
   first | exact (decide_eq_false (by omega)).symm | exact (decide_eq_false (by rintro ⟨q1,⟨q2,q3,q4,q5,q6⟩,q7,q8,q9⟩; first | omega | (simp_all; done) | (simp_all; omega))).symm | exact (decide_eq_true ⟨by omega,⟨by omega,by omega,by assumption,by assumption,by omega⟩,by omega,by omega,by omega⟩).symm | exact decide_eq_decide.2 ⟨fun q=>⟨by omega,⟨by omega,by omega,by assumption,by assumption,by omega⟩,by omega,by omega,by omega⟩,fun q=>by omega⟩
 rw [h9] at hA
 have h9p:=of_decide_eq_false h9
 refine Ke 2 [(36,bl false),(38,.slice pj lj.length kj)] hA [.slice pj lj.length kj] (cc (hS.s1 0 3 27 (.slice pj lj.length kj)) c0) fun fr hA=>?_
 refine plan_mem (mK (d:=(some 39)) hA hO Tryd.func16 (Valid_any pj kj lj _ (hv_j.keep hO.only) hm_j) fun fr w4 hA hO=>?_)
 refine ⟨hO.tt,?_⟩
 refine Kd 3 [(40,bl (!(validL (lj.map JV.d)))),(41,bl (!(validL (lj.map JV.d)))),(42,bl (!(validL (lj.map JV.d))))] hA fun fr hA=>?_
 rcases Bool.eq_false_or_eq_true (validL (lj.map JV.d)) with h10 | h10
 · rw [h10] at hA
   refine Ke 1 [(42,bl false),(43,.agg #[i64 mo,i64 po,str inp,.slice pj lj.length kj,i64 rd,i64 wr,i64 pv,.slice pn ln.length kn,.slice pp lp.length kp])] hA [.agg #[i64 mo,i64 po,str inp,.slice pj lj.length kj,i64 rd,i64 wr,i64 pv,.slice pn ln.length kn,.slice pp lp.length kp]] (cc (hS.sn 0 0 31 [i64 mo,i64 po,str inp,.slice pj lj.length kj,i64 rd,i64 wr,i64 pv,.slice pn ln.length kn,.slice pp lp.length kp]) c0) fun fr hA=>?_
   refine plan_mem (mK (d:=(some 44)) hA hO Tryd.func17 (lists_any mo po inp pj kj lj rd wr pv pn kn ln pp kp lp _ (hs.keep hO.only) hm) fun fr w5 hA hO=>?_)
   refine ⟨hO.tt,?_⟩
   refine Kd 3 [(45,bl (!(listsB ln (lp.map PV.d)))),(46,bl (!(listsB ln (lp.map PV.d)))),(47,bl (!(listsB ln (lp.map PV.d))))] hA fun fr hA=>?_
   rcases Bool.eq_false_or_eq_true (listsB ln (lp.map PV.d)) with h11 | h11
   · rw [h11] at hA
     refine Ke 5 [(50,bl (decide (po < 0))),(51,bl (decide (po < 0))),(52,bl (decide (po < 0)))] hA [i64 po] (cc (hS.s1 0 1 3 (i64 po)) c0) fun fr hA=>?_
     rcases Bool.eq_false_or_eq_true (decide (po < 0)) with h12 | h12
     · rw [h12] at hA
       have h12p:=of_decide_eq_true h12
       refine Kd 3 [(52,bl true),(54,.tuple #[]),(55,.tuple #[])] hA fun fr hA=>?_
       refine plan_mem (m_skip (d:=(some 56)) hA (by kernel_rfl) (by kernel_rfl) fun fr hA=>?_)
       refine ⟨hO.tt,?_⟩
       refine Kd 2 [(58,bl true)] hA fun fr hA=>?_
       refine end_plan ?_
       refine then_normal ?_
       refine cT hA ?_
       refine Sa [] hA fun fr hA=>?_
       refine wp_ret ?_
       refine then_ret ?_
       refine cv [bl false] hA ?_
       have hF:=hO.only; clear hA hO
       refine ⟨congrArg (fun b=>Ending.returned (.bool b)) ?_,hF⟩
       rw [valid_dec]
       simp only [SV.d,List.length_map] at *
       first | exact (decide_eq_false (by omega)).symm | exact (decide_eq_false (by rintro ⟨q1,⟨q2,q3,q4,q5,q6⟩,q7,q8,q9⟩; first | omega | (simp_all; done) | (simp_all; omega))).symm | exact (decide_eq_true ⟨by omega,⟨by omega,by omega,by assumption,by assumption,by omega⟩,by omega,by omega,by omega⟩).symm | exact decide_eq_decide.2 ⟨fun q=>⟨by omega,⟨by omega,by omega,by assumption,by assumption,by omega⟩,by omega,by omega,by omega⟩,fun q=>by omega⟩
     rw [h12] at hA
     have h12p:=of_decide_eq_false h12
     refine Ke 3 [(52,bl false),(54,i64 po),(55,.agg #[i64 mo,i64 po,str inp,.slice pj lj.length kj,i64 rd,i64 wr,i64 pv,.slice pn ln.length kn,.slice pp lp.length kp])] hA [i64 po,.agg #[i64 mo,i64 po,str inp,.slice pj lj.length kj,i64 rd,i64 wr,i64 pv,.slice pn ln.length kn,.slice pp lp.length kp]] (cc (hS.s1 0 1 3 (i64 po)) (cc (hS.sn 0 0 31 [i64 mo,i64 po,str inp,.slice pj lj.length kj,i64 rd,i64 wr,i64 pv,.slice pn ln.length kn,.slice pp lp.length kp]) c0)) fun fr hA=>?_
     refine plan_mem (mK (d:=(some 56)) hA hO Tryd.func18 (commands_any mo po inp pj kj lj rd wr pv pn kn ln pp kp lp _ (hs.keep hO.only)) fun fr w6 hA hO=>?_)
     refine ⟨hO.tt,?_⟩
     refine Kd 2 [(58,bl (decide (po > ((nCmd (lj.map JV.d):Nat):Int))))] hA fun fr hA=>?_
     refine end_plan ?_
     refine then_normal ?_
     rcases Bool.eq_false_or_eq_true (decide (po > ((nCmd (lj.map JV.d):Nat):Int))) with h13 | h13
     · rw [h13] at hA
       have h13p:=of_decide_eq_true h13
       refine cT hA ?_
       refine Sa [] hA fun fr hA=>?_
       refine wp_ret ?_
       refine then_ret ?_
       refine cv [bl false] hA ?_
       have hF:=hO.only; clear hA hO
       refine ⟨congrArg (fun b=>Ending.returned (.bool b)) ?_,hF⟩
       rw [valid_dec]
       simp only [SV.d,List.length_map] at *
       first | exact (decide_eq_false (by omega)).symm | exact (decide_eq_false (by rintro ⟨q1,⟨q2,q3,q4,q5,q6⟩,q7,q8,q9⟩; first | omega | (simp_all; done) | (simp_all; omega))).symm | exact (decide_eq_true ⟨by omega,⟨by omega,by omega,by assumption,by assumption,by omega⟩,by omega,by omega,by omega⟩).symm | exact decide_eq_decide.2 ⟨fun q=>⟨by omega,⟨by omega,by omega,by assumption,by assumption,by omega⟩,by omega,by omega,by omega⟩,fun q=>by omega⟩
     rw [h13] at hA
     have h13p:=of_decide_eq_false h13
     refine cF hA ?_
     refine wp_skip ?_
     refine then_normal ?_
     refine wp_seq ?_
     refine sr 13 ?_
     refine Kb 8 [(62,bl (decide (((lp.length:Nat):Int) > 0))),(65,bl (mo == 2)),(66,bl (mo == 2))] hA [.slice pp lp.length kp,i64 mo] (cc (hO.l1 0 8 29 (.slice pp lp.length kp)) (cc (hO.l1 0 0 3 (i64 mo)) c0)) fun fr hA=>?_
     rcases Bool.eq_false_or_eq_true (mo == 2) with h14 | h14
     · rw [h14] at hA
       have h14p:=eq_of_beq h14
       refine Ka 5 [(71,bl (!((decide (((lp.length:Nat):Int) > 0)) == true)))] hA fun fr hA=>?_
       refine end_ops ?_
       refine then_normal ?_
       rcases Bool.eq_false_or_eq_true ((decide (((lp.length:Nat):Int) > 0)) == true) with h15 | h15
       · rw [h15] at hA
         have h15p:=eq_of_beq h15
         have hbp:=bt_yes h15
         refine cF hA ?_
         refine wp_skip ?_
         refine then_normal ?_
         refine wp_seq ?_
         refine Sb [(73,i64 mo)] hA [i64 mo] (cc (hO.l1 0 0 3 (i64 mo)) c0) fun fr hA=>?_
         refine wp_block ?_
         refine wp_seq ?_
         refine Sa [(74,bl (mo == 3))] hA fun fr hA=>?_
         rcases Bool.eq_false_or_eq_true (mo == 3) with h16 | h16
         · rw [h16] at hA
           have h16p:=eq_of_beq h16
           refine cT hA ?_
           refine wp_skip ?_
           refine then_normal ?_
           refine cT hA ?_
           refine wp_seq ?_
           have hS:=hO
           refine rP [(0,true),(1,true),(2,true),(3,false),(4,true),(5,true)] hS ?_
           intro w7 ho; replace hO:=hO.st ho; clear ho
           refine Ke 3 [(78,i64 po),(79,.agg #[i64 mo,i64 po,str inp,.slice pj lj.length kj,i64 rd,i64 wr,i64 pv,.slice pn ln.length kn,.slice pp lp.length kp])] hA [i64 po,.agg #[i64 mo,i64 po,str inp,.slice pj lj.length kj,i64 rd,i64 wr,i64 pv,.slice pn ln.length kn,.slice pp lp.length kp]] (cc (hS.s1 0 1 3 (i64 po)) (cc (hS.sn 0 0 31 [i64 mo,i64 po,str inp,.slice pj lj.length kj,i64 rd,i64 wr,i64 pv,.slice pn ln.length kn,.slice pp lp.length kp]) c0)) fun fr hA=>?_
           refine plan_mem (mK (d:=(some 80)) hA hO Tryd.func18 (commands_any mo po inp pj kj lj rd wr pv pn kn ln pp kp lp _ (hs.keep hO.only)) fun fr w8 hA hO=>?_)
           refine ⟨hO.tt,?_⟩
           refine Kd 2 [(2,bl (decide (po < ((nCmd (lj.map JV.d):Nat):Int))))] hA fun fr hA=>?_
           refine end_plan ?_
           refine then_normal ?_
           refine wp_ret ?_
           refine inBlock_ret ?_
           refine then_ret ?_
           refine cv [bl (decide (po < ((nCmd (lj.map JV.d):Nat):Int)))] hA ?_
           have hF:=hO.only; clear hA hO
           refine ⟨congrArg (fun b=>Ending.returned (.bool b)) ?_,hF⟩
           rw [valid_dec]
           simp only [SV.d,List.length_map] at *
           first | exact (decide_eq_false (by omega)).symm | exact (decide_eq_false (by rintro ⟨q1,⟨q2,q3,q4,q5,q6⟩,q7,q8,q9⟩; first | omega | (simp_all; done) | (simp_all; omega))).symm | exact (decide_eq_true ⟨by omega,⟨by omega,by omega,by assumption,by assumption,by omega⟩,by omega,by omega,by omega⟩).symm | exact decide_eq_decide.2 ⟨fun q=>⟨by omega,⟨by omega,by omega,by assumption,by assumption,by omega⟩,by omega,by omega,by omega⟩,fun q=>by omega⟩
         rw [h16] at hA
         have h16p:=ne_of_beq_false h16
         refine cF hA ?_
         refine Rc [(74,bl (mo == 4))] hA [] c0 fun fr hA=>?_
         refine then_normal ?_
         rcases Bool.eq_false_or_eq_true (mo == 4) with h17 | h17
         · rw [h17] at hA
           have h17p:=eq_of_beq h17
           refine cT hA ?_
           refine wp_seq ?_
           have hS:=hO
           refine rP [(0,true),(1,true),(2,true),(3,false),(4,true),(5,true)] hS ?_
           intro w9 ho; replace hO:=hO.st ho; clear ho
           refine Ke 3 [(78,i64 po),(79,.agg #[i64 mo,i64 po,str inp,.slice pj lj.length kj,i64 rd,i64 wr,i64 pv,.slice pn ln.length kn,.slice pp lp.length kp])] hA [i64 po,.agg #[i64 mo,i64 po,str inp,.slice pj lj.length kj,i64 rd,i64 wr,i64 pv,.slice pn ln.length kn,.slice pp lp.length kp]] (cc (hS.s1 0 1 3 (i64 po)) (cc (hS.sn 0 0 31 [i64 mo,i64 po,str inp,.slice pj lj.length kj,i64 rd,i64 wr,i64 pv,.slice pn ln.length kn,.slice pp lp.length kp]) c0)) fun fr hA=>?_
           refine plan_mem (mK (d:=(some 80)) hA hO Tryd.func18 (commands_any mo po inp pj kj lj rd wr pv pn kn ln pp kp lp _ (hs.keep hO.only)) fun fr w10 hA hO=>?_)
           refine ⟨hO.tt,?_⟩
           refine Kd 2 [(2,bl (decide (po < ((nCmd (lj.map JV.d):Nat):Int))))] hA fun fr hA=>?_
           refine end_plan ?_
           refine then_normal ?_
           refine wp_ret ?_
           refine inBlock_ret ?_
           refine then_ret ?_
           refine cv [bl (decide (po < ((nCmd (lj.map JV.d):Nat):Int)))] hA ?_
           have hF:=hO.only; clear hA hO
           refine ⟨congrArg (fun b=>Ending.returned (.bool b)) ?_,hF⟩
           rw [valid_dec]
           simp only [SV.d,List.length_map] at *
           first | exact (decide_eq_false (by omega)).symm | exact (decide_eq_false (by rintro ⟨q1,⟨q2,q3,q4,q5,q6⟩,q7,q8,q9⟩; first | omega | (simp_all; done) | (simp_all; omega))).symm | exact (decide_eq_true ⟨by omega,⟨by omega,by omega,by assumption,by assumption,by omega⟩,by omega,by omega,by omega⟩).symm | exact decide_eq_decide.2 ⟨fun q=>⟨by omega,⟨by omega,by omega,by assumption,by assumption,by omega⟩,by omega,by omega,by omega⟩,fun q=>by omega⟩
         rw [h17] at hA
         have h17p:=ne_of_beq_false h17
         refine cF hA ?_
         refine Sa [(82,bl (mo == 5))] hA fun fr hA=>?_
         rcases Bool.eq_false_or_eq_true (mo == 5) with h18 | h18
         · rw [h18] at hA
           have h18p:=eq_of_beq h18
           refine cT hA ?_
           refine Sb [(2,bl (decide (((lj.length:Nat):Int) > 0)))] hA [.slice pj lj.length kj] (cc (hO.l1 0 3 27 (.slice pj lj.length kj)) c0) fun fr hA=>?_
           refine wp_ret ?_
           refine inBlock_ret ?_
           refine then_ret ?_
           refine cv [bl (decide (((lj.length:Nat):Int) > 0))] hA ?_
           have hF:=hO.only; clear hA hO
           refine ⟨congrArg (fun b=>Ending.returned (.bool b)) ?_,hF⟩
           rw [valid_dec]
           simp only [SV.d,List.length_map] at *
           first | exact (decide_eq_false (by omega)).symm | exact (decide_eq_false (by rintro ⟨q1,⟨q2,q3,q4,q5,q6⟩,q7,q8,q9⟩; first | omega | (simp_all; done) | (simp_all; omega))).symm | exact (decide_eq_true ⟨by omega,⟨by omega,by omega,by assumption,by assumption,by omega⟩,by omega,by omega,by omega⟩).symm | exact decide_eq_decide.2 ⟨fun q=>⟨by omega,⟨by omega,by omega,by assumption,by assumption,by omega⟩,by omega,by omega,by omega⟩,fun q=>by omega⟩
         rw [h18] at hA
         have h18p:=ne_of_beq_false h18
         refine cF hA ?_
         refine wp_skip ?_
         refine inBlock_normal ?_
         refine then_normal ?_
         refine Sa [(2,bl true)] hA fun fr hA=>?_
         refine wp_ret ?_
         refine cv [bl true] hA ?_
         have hF:=hO.only; clear hA hO
         refine ⟨congrArg (fun b=>Ending.returned (.bool b)) ?_,hF⟩
         rw [valid_dec]
         simp only [SV.d,List.length_map] at *
         first | exact (decide_eq_false (by omega)).symm | exact (decide_eq_false (by rintro ⟨q1,⟨q2,q3,q4,q5,q6⟩,q7,q8,q9⟩; first | omega | (simp_all; done) | (simp_all; omega))).symm | exact (decide_eq_true ⟨by omega,⟨by omega,by omega,by assumption,by assumption,by omega⟩,by omega,by omega,by omega⟩).symm | exact decide_eq_decide.2 ⟨fun q=>⟨by omega,⟨by omega,by omega,by assumption,by assumption,by omega⟩,by omega,by omega,by omega⟩,fun q=>by omega⟩
       rw [h15] at hA
       have h15p:=ne_of_beq_false h15
       have hbp:=bt_no h15
       refine cT hA ?_
       refine Sa [] hA fun fr hA=>?_
       refine wp_ret ?_
       refine then_ret ?_
       refine cv [bl false] hA ?_
       have hF:=hO.only; clear hA hO
       refine ⟨congrArg (fun b=>Ending.returned (.bool b)) ?_,hF⟩
       rw [valid_dec]
       simp only [SV.d,List.length_map] at *
       first | exact (decide_eq_false (by omega)).symm | exact (decide_eq_false (by rintro ⟨q1,⟨q2,q3,q4,q5,q6⟩,q7,q8,q9⟩; first | omega | (simp_all; done) | (simp_all; omega))).symm | exact (decide_eq_true ⟨by omega,⟨by omega,by omega,by assumption,by assumption,by omega⟩,by omega,by omega,by omega⟩).symm | exact decide_eq_decide.2 ⟨fun q=>⟨by omega,⟨by omega,by omega,by assumption,by assumption,by omega⟩,by omega,by omega,by omega⟩,fun q=>by omega⟩
     rw [h14] at hA
     have h14p:=ne_of_beq_false h14
     refine Kb 5 [(71,bl (!((decide (((lp.length:Nat):Int) > 0)) == (mo == 6))))] hA [i64 mo] (cc (hO.l1 0 0 3 (i64 mo)) c0) fun fr hA=>?_
     refine end_ops ?_
     refine then_normal ?_
     rcases Bool.eq_false_or_eq_true ((decide (((lp.length:Nat):Int) > 0)) == (mo == 6)) with h19 | h19
     · rw [h19] at hA
       have h19p:=eq_of_beq h19
       have hbp:=bq_yes h19
       refine cF hA ?_
       refine wp_skip ?_
       refine then_normal ?_
       refine wp_seq ?_
       refine Sb [(73,i64 mo)] hA [i64 mo] (cc (hO.l1 0 0 3 (i64 mo)) c0) fun fr hA=>?_
       refine wp_block ?_
       refine wp_seq ?_
       refine Sa [(74,bl (mo == 3))] hA fun fr hA=>?_
       rcases Bool.eq_false_or_eq_true (mo == 3) with h20 | h20
       · rw [h20] at hA
         have h20p:=eq_of_beq h20
         refine cT hA ?_
         refine wp_skip ?_
         refine then_normal ?_
         refine cT hA ?_
         refine wp_seq ?_
         have hS:=hO
         refine rP [(0,true),(1,true),(2,true),(3,false),(4,true),(5,true)] hS ?_
         intro w11 ho; replace hO:=hO.st ho; clear ho
         refine Ke 3 [(78,i64 po),(79,.agg #[i64 mo,i64 po,str inp,.slice pj lj.length kj,i64 rd,i64 wr,i64 pv,.slice pn ln.length kn,.slice pp lp.length kp])] hA [i64 po,.agg #[i64 mo,i64 po,str inp,.slice pj lj.length kj,i64 rd,i64 wr,i64 pv,.slice pn ln.length kn,.slice pp lp.length kp]] (cc (hS.s1 0 1 3 (i64 po)) (cc (hS.sn 0 0 31 [i64 mo,i64 po,str inp,.slice pj lj.length kj,i64 rd,i64 wr,i64 pv,.slice pn ln.length kn,.slice pp lp.length kp]) c0)) fun fr hA=>?_
         refine plan_mem (mK (d:=(some 80)) hA hO Tryd.func18 (commands_any mo po inp pj kj lj rd wr pv pn kn ln pp kp lp _ (hs.keep hO.only)) fun fr w12 hA hO=>?_)
         refine ⟨hO.tt,?_⟩
         refine Kd 2 [(2,bl (decide (po < ((nCmd (lj.map JV.d):Nat):Int))))] hA fun fr hA=>?_
         refine end_plan ?_
         refine then_normal ?_
         refine wp_ret ?_
         refine inBlock_ret ?_
         refine then_ret ?_
         refine cv [bl (decide (po < ((nCmd (lj.map JV.d):Nat):Int)))] hA ?_
         have hF:=hO.only; clear hA hO
         refine ⟨congrArg (fun b=>Ending.returned (.bool b)) ?_,hF⟩
         rw [valid_dec]
         simp only [SV.d,List.length_map] at *
         first | exact (decide_eq_false (by omega)).symm | exact (decide_eq_false (by rintro ⟨q1,⟨q2,q3,q4,q5,q6⟩,q7,q8,q9⟩; first | omega | (simp_all; done) | (simp_all; omega))).symm | exact (decide_eq_true ⟨by omega,⟨by omega,by omega,by assumption,by assumption,by omega⟩,by omega,by omega,by omega⟩).symm | exact decide_eq_decide.2 ⟨fun q=>⟨by omega,⟨by omega,by omega,by assumption,by assumption,by omega⟩,by omega,by omega,by omega⟩,fun q=>by omega⟩
       rw [h20] at hA
       have h20p:=ne_of_beq_false h20
       refine cF hA ?_
       refine Rc [(74,bl (mo == 4))] hA [] c0 fun fr hA=>?_
       refine then_normal ?_
       rcases Bool.eq_false_or_eq_true (mo == 4) with h21 | h21
       · rw [h21] at hA
         have h21p:=eq_of_beq h21
         refine cT hA ?_
         refine wp_seq ?_
         have hS:=hO
         refine rP [(0,true),(1,true),(2,true),(3,false),(4,true),(5,true)] hS ?_
         intro w13 ho; replace hO:=hO.st ho; clear ho
         refine Ke 3 [(78,i64 po),(79,.agg #[i64 mo,i64 po,str inp,.slice pj lj.length kj,i64 rd,i64 wr,i64 pv,.slice pn ln.length kn,.slice pp lp.length kp])] hA [i64 po,.agg #[i64 mo,i64 po,str inp,.slice pj lj.length kj,i64 rd,i64 wr,i64 pv,.slice pn ln.length kn,.slice pp lp.length kp]] (cc (hS.s1 0 1 3 (i64 po)) (cc (hS.sn 0 0 31 [i64 mo,i64 po,str inp,.slice pj lj.length kj,i64 rd,i64 wr,i64 pv,.slice pn ln.length kn,.slice pp lp.length kp]) c0)) fun fr hA=>?_
         refine plan_mem (mK (d:=(some 80)) hA hO Tryd.func18 (commands_any mo po inp pj kj lj rd wr pv pn kn ln pp kp lp _ (hs.keep hO.only)) fun fr w14 hA hO=>?_)
         refine ⟨hO.tt,?_⟩
         refine Kd 2 [(2,bl (decide (po < ((nCmd (lj.map JV.d):Nat):Int))))] hA fun fr hA=>?_
         refine end_plan ?_
         refine then_normal ?_
         refine wp_ret ?_
         refine inBlock_ret ?_
         refine then_ret ?_
         refine cv [bl (decide (po < ((nCmd (lj.map JV.d):Nat):Int)))] hA ?_
         have hF:=hO.only; clear hA hO
         refine ⟨congrArg (fun b=>Ending.returned (.bool b)) ?_,hF⟩
         rw [valid_dec]
         simp only [SV.d,List.length_map] at *
         first | exact (decide_eq_false (by omega)).symm | exact (decide_eq_false (by rintro ⟨q1,⟨q2,q3,q4,q5,q6⟩,q7,q8,q9⟩; first | omega | (simp_all; done) | (simp_all; omega))).symm | exact (decide_eq_true ⟨by omega,⟨by omega,by omega,by assumption,by assumption,by omega⟩,by omega,by omega,by omega⟩).symm | exact decide_eq_decide.2 ⟨fun q=>⟨by omega,⟨by omega,by omega,by assumption,by assumption,by omega⟩,by omega,by omega,by omega⟩,fun q=>by omega⟩
       rw [h21] at hA
       have h21p:=ne_of_beq_false h21
       refine cF hA ?_
       refine Sa [(82,bl (mo == 5))] hA fun fr hA=>?_
       rcases Bool.eq_false_or_eq_true (mo == 5) with h22 | h22
       · rw [h22] at hA
         have h22p:=eq_of_beq h22
         refine cT hA ?_
         refine Sb [(2,bl (decide (((lj.length:Nat):Int) > 0)))] hA [.slice pj lj.length kj] (cc (hO.l1 0 3 27 (.slice pj lj.length kj)) c0) fun fr hA=>?_
         refine wp_ret ?_
         refine inBlock_ret ?_
         refine then_ret ?_
         refine cv [bl (decide (((lj.length:Nat):Int) > 0))] hA ?_
         have hF:=hO.only; clear hA hO
         refine ⟨congrArg (fun b=>Ending.returned (.bool b)) ?_,hF⟩
         rw [valid_dec]
         simp only [SV.d,List.length_map] at *
         first | exact (decide_eq_false (by omega)).symm | exact (decide_eq_false (by rintro ⟨q1,⟨q2,q3,q4,q5,q6⟩,q7,q8,q9⟩; first | omega | (simp_all; done) | (simp_all; omega))).symm | exact (decide_eq_true ⟨by omega,⟨by omega,by omega,by assumption,by assumption,by omega⟩,by omega,by omega,by omega⟩).symm | exact decide_eq_decide.2 ⟨fun q=>⟨by omega,⟨by omega,by omega,by assumption,by assumption,by omega⟩,by omega,by omega,by omega⟩,fun q=>by omega⟩
       rw [h22] at hA
       have h22p:=ne_of_beq_false h22
       refine cF hA ?_
       refine wp_skip ?_
       refine inBlock_normal ?_
       refine then_normal ?_
       refine Sa [(2,bl true)] hA fun fr hA=>?_
       refine wp_ret ?_
       refine cv [bl true] hA ?_
       have hF:=hO.only; clear hA hO
       refine ⟨congrArg (fun b=>Ending.returned (.bool b)) ?_,hF⟩
       rw [valid_dec]
       simp only [SV.d,List.length_map] at *
       first | exact (decide_eq_false (by omega)).symm | exact (decide_eq_false (by rintro ⟨q1,⟨q2,q3,q4,q5,q6⟩,q7,q8,q9⟩; first | omega | (simp_all; done) | (simp_all; omega))).symm | exact (decide_eq_true ⟨by omega,⟨by omega,by omega,by assumption,by assumption,by omega⟩,by omega,by omega,by omega⟩).symm | exact decide_eq_decide.2 ⟨fun q=>⟨by omega,⟨by omega,by omega,by assumption,by assumption,by omega⟩,by omega,by omega,by omega⟩,fun q=>by omega⟩
     rw [h19] at hA
     have h19p:=ne_of_beq_false h19
     have hbp:=bq_no h19
     refine cT hA ?_
     refine Sa [] hA fun fr hA=>?_
     refine wp_ret ?_
     refine then_ret ?_
     refine cv [bl false] hA ?_
     have hF:=hO.only; clear hA hO
     refine ⟨congrArg (fun b=>Ending.returned (.bool b)) ?_,hF⟩
     rw [valid_dec]
     simp only [SV.d,List.length_map] at *
     first | exact (decide_eq_false (by omega)).symm | exact (decide_eq_false (by rintro ⟨q1,⟨q2,q3,q4,q5,q6⟩,q7,q8,q9⟩; first | omega | (simp_all; done) | (simp_all; omega))).symm | exact (decide_eq_true ⟨by omega,⟨by omega,by omega,by assumption,by assumption,by omega⟩,by omega,by omega,by omega⟩).symm | exact decide_eq_decide.2 ⟨fun q=>⟨by omega,⟨by omega,by omega,by assumption,by assumption,by omega⟩,by omega,by omega,by omega⟩,fun q=>by omega⟩
   rw [h11] at hA
   refine Kd 8 [(52,bl true),(54,.tuple #[]),(55,.tuple #[])] hA fun fr hA=>?_
   refine plan_mem (m_skip (d:=(some 56)) hA (by kernel_rfl) (by kernel_rfl) fun fr hA=>?_)
   refine ⟨hO.tt,?_⟩
   refine Kd 2 [(58,bl true)] hA fun fr hA=>?_
   refine end_plan ?_
   refine then_normal ?_
   refine cT hA ?_
   refine Sa [] hA fun fr hA=>?_
   refine wp_ret ?_
   refine then_ret ?_
   refine cv [bl false] hA ?_
   have hF:=hO.only; clear hA hO
   refine ⟨congrArg (fun b=>Ending.returned (.bool b)) ?_,hF⟩
   rw [valid_dec]
   simp only [SV.d,List.length_map] at *
   first | exact (decide_eq_false (by omega)).symm | exact (decide_eq_false (by rintro ⟨q1,⟨q2,q3,q4,q5,q6⟩,q7,q8,q9⟩; first | omega | (simp_all; done) | (simp_all; omega))).symm | exact (decide_eq_true ⟨by omega,⟨by omega,by omega,by assumption,by assumption,by omega⟩,by omega,by omega,by omega⟩).symm | exact decide_eq_decide.2 ⟨fun q=>⟨by omega,⟨by omega,by omega,by assumption,by assumption,by omega⟩,by omega,by omega,by omega⟩,fun q=>by omega⟩
 rw [h10] at hA
 refine Kd 1 [(42,bl true),(43,.tuple #[])] hA fun fr hA=>?_
 refine plan_mem (m_skip (d:=(some 44)) hA (by kernel_rfl) (by kernel_rfl) fun fr hA=>?_)
 refine ⟨hO.tt,?_⟩
 refine Kd 11 [(52,bl true),(54,.tuple #[]),(55,.tuple #[])] hA fun fr hA=>?_
 refine plan_mem (m_skip (d:=(some 56)) hA (by kernel_rfl) (by kernel_rfl) fun fr hA=>?_)
 refine ⟨hO.tt,?_⟩
 refine Kd 2 [(58,bl true)] hA fun fr hA=>?_
 refine end_plan ?_
 refine then_normal ?_
 refine cT hA ?_
 refine Sa [] hA fun fr hA=>?_
 refine wp_ret ?_
 refine then_ret ?_
 refine cv [bl false] hA ?_
 have hF:=hO.only; clear hA hO
 refine ⟨congrArg (fun b=>Ending.returned (.bool b)) ?_,hF⟩
 rw [valid_dec]
 simp only [SV.d,List.length_map] at *
 first | exact (decide_eq_false (by omega)).symm | exact (decide_eq_false (by rintro ⟨q1,⟨q2,q3,q4,q5,q6⟩,q7,q8,q9⟩; first | omega | (simp_all; done) | (simp_all; omega))).symm | exact (decide_eq_true ⟨by omega,⟨by omega,by omega,by assumption,by assumption,by omega⟩,by omega,by omega,by omega⟩).symm | exact decide_eq_decide.2 ⟨fun q=>⟨by omega,⟨by omega,by omega,by assumption,by assumption,by omega⟩,by omega,by omega,by omega⟩,fun q=>by omega⟩
end Go.Proofs.YtdljjajjonfjbaaDoor
