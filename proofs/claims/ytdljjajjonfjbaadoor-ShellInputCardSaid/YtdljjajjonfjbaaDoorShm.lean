import Derived.Test.YtdljjajjonfjbaaDoorShl
import Derived.Test.YtdljjajjonfjbaaDoorSn
set_option linter.unusedVariables false
set_option linter.unusedSimpArgs false
set_option maxRecDepth 10000
namespace Go.Proofs.YtdljjajjonfjbaaDoor
open Go Go.Shelf Go.RowKit Go.Proofs Go.Proofs.Sx
theorem vw_str {P:Program} {w:World} {ad:Addr} {n c:Nat} {L:List Int} {u:TypeId} (h:Vw fB w (.slice (some ad) n c) L) (hu:U8s L) (ht:oneT P u=true) : ∀ i,i < n->Ld P w (ad.add i) u (.int .u8 (sb (bsI L) i)):=fun i hi=>by
  have hn:=h.len
  refine ld_cell ht ?_
  rw [sb_bsI hu (by omega)]
  have:=h.cell encB (k:=0) (i:=i) (x:=L.getD i 0) (v:= .int .u8 (L.getD i 0)) (getD_at L 0 (by omega)) rfl
  rwa [Nat.mul_one,Nat.add_zero] at this
theorem min_nn {a b:Nat}:min ((a:Nat):Int) ((b:Nat):Int)=((min a b:Nat):Int):=by
 rw [Int.min_def,Nat.min_def]
 split <;> split <;> omega
theorem min_lit {a:Nat}:min ((a:Nat):Int) 299=((min a 299:Nat):Int):=min_nn (b:=299)
theorem min_z {r:Int} (h : 0 < r):min r 0=0:=by
 rw [Int.min_def]
 split <;> omega
theorem min_0 {r:Int} (h : 0<=r):min 0 r=0:=by
 rw [Int.min_def]
 split <;> omega
theorem vw_pre {P:Program} {w:World} {ad:Addr} {m n c:Nat} {l L:List Int} {u:TypeId} (h:Vw fB w (.slice (some ad) m c) l) (hp:L <+: l) (hn:n=L.length) (hu:U8s l) (ht:oneT P u=true) : ∀ i,i < n->Ld P w (ad.add i) u (.int .u8 (sb (bsI L) i)):=fun i hi=>by
  obtain ⟨r,rfl⟩:=hp
  have hn':=h.len
  have hul:U8s L:=fun x hx=>hu x (List.mem_append_left _ hx)
  refine ld_cell ht ?_
  rw [sb_bsI hul (by omega)]
  have:=h.cell encB (k:=0) (i:=i) (x:=L.getD i 0) (v:= .int .u8 (L.getD i 0)) (by rw [List.getElem?_append_left (by omega)]; exact getD_at L 0 (by omega)) rfl
  rwa [Nat.mul_one,Nat.add_zero] at this
section
variable {s:StL} {r:Int} {d:List Int}
theorem rd_0 (h : ¬ 0 < r) (hi:s.inp.size=0) (h0:r=0):readS s r d=({s with mode:=7},callL 0 0 0):=by unfold readS exitS; rw [if_neg h,if_pos hi,if_pos h0]
theorem rd_1 (h : ¬ 0 < r) (hi:s.inp.size=0) (h0 : ¬ r=0):readS s r d=({s with mode:=7},callL 0 1 0):=by unfold readS exitS; rw [if_neg h,if_pos hi,if_neg h0]
theorem rd_nl (h : ¬ 0 < r) (hi : ¬ s.inp.size=0):readS s r d=procS {s with inp:=s.inp.extract 0 (min s.inp.size 299)++⟨#[10]⟩}:=by unfold readS; rw [if_neg h,if_neg hi]
theorem rd_more (h : 0 < r):readS s r d=procS {s with inp:=s.inp++bsI ((d.take (min r.toNat d.length)).take (300 - s.inp.size))}:=by unfold readS; rw [if_pos h]
theorem rd_more0 (h : 0 < r):readS s r []=procS {s with inp:=s.inp++bsI []}:=by rw [rd_more h]; simp only [List.take_nil]
end
set_option maxHeartbeats 2000000 in
theorem read_some (pb:Nat) (mo po:Int) (inp:ByteArray) (pj:Option Addr) (kj:Nat) (lj:List JV) (rd wr pv:Int) (pn:Option Addr) (kn:Nat) (ln:List Int) (pp:Option Addr) (kp:Nat) (lp:List PV) (T:OwL) (result:Int) (ad:Addr) (cd:Nat) (dl:List Int) (w:World) (hG:Holds' T (SV.ok (⟨mo,po,inp,pj,kj,lj,rd,wr,pv,pn,kn,ln,pp,kp,lp⟩:SV))) (h0:Ow Tryd.prog (inT ((pb,31,cS mo po inp pj lj.length kj rd wr pv pn ln.length kn pp lp.length kp)::T)) w w ((pb,31,cS mo po inp pj lj.length kj rd wr pv pn ln.length kn pp lp.length kp)::T)) (hm:SV.sm (⟨mo,po,inp,pj,kj,lj,rd,wr,pv,pn,kn,ln,pp,kp,lp⟩:SV)) (hvl:validL (lj.map JV.d)=true) (hE : ∀ w',Only (inT ((pb,31,cS mo po inp pj lj.length kj rd wr pv pn ln.length kn pp lp.length kp)::T)) w w'->ErrOk w') (hp0:lp.length=0) (hin:inp.size<=300) (hvd : ∀ w',Only (inT ((pb,31,cS mo po inp pj lj.length kj rd wr pv pn ln.length kn pp lp.length kp)::T)) w w'->Vw fB w' (.slice (some ad) dl.length cd) dl) (hud:U8s dl) (hdl:dl.length<=1000000) (hcd:dl.length<=cd) :
    Calls Tryd.prog 28 #[pt pb,i64 result,.slice (some ad) dl.length cd] w fun e w'=>∃ (v:SV) (x:PV) (Tn:OwL),readS (SV.d (⟨mo,po,inp,pj,kj,lj,rd,wr,pv,pn,kn,ln,pp,kp,lp⟩:SV)) result dl=(v.d,x.d)/\v.sm/\validL (v.lj.map JV.d)=true/\e = .returned (.agg #[i64 x.d.call,i64 x.d.a0,i64 x.d.a1,i64 x.d.a2,.slice x.p x.d.data.length x.c])/\Ow Tryd.prog (inT ((pb,31,cS mo po inp pj lj.length kj rd wr pv pn ln.length kn pp lp.length kp)::T)) w w' ((pb,31,v.cells)::(T++Tn))/\Holds' (T++Tn) v.ok/\Holds' (T++Tn) (fun w=>VP w x):=by
 refine c_enter (args:=[pt pb,i64 result,.slice (some ad) dl.length cd]) (m:=69) (n:=72) Tryd.func28 rfl (by kernel_rfl) (by kernel_rfl) fun fr hA=>?_
 generalize inT ((pb,31,cS mo po inp pj lj.length kj rd wr pv pn ln.length kn pp lp.length kp)::T)=M at *
 have hO:Ow Tryd.prog M w w ([(pb,31,(cS mo po inp pj lj.length kj rd wr pv pn ln.length kn pp lp.length kp))]++(T++([]))):=h0.to (by first | rfl | first | rfl | (simp only [TP,apd]))
 refine sr 1 ?_
 refine Mn [i64 0,i64 0,i64 0,i64 0,.slice none 0 0] 35 6 hA hO fun fr w1 b1 hA hO=>?_
 refine end_ops ?_
 refine then_normal ?_
 refine wp_seq ?_
 refine wp_block ?_
 refine Sa [(22,bl (decide (result > 0)))] hA fun fr hA=>?_
 rcases Bool.eq_false_or_eq_true (decide (result > 0)) with h1 | h1
 · rw [h1] at hA
   have h1p:=of_decide_eq_true h1
   obtain ⟨rn,rfl⟩ : ∃ rn:Nat,result=((rn:Nat):Int):=⟨result.toNat,by omega⟩
   have hmn1:min ((rn:Nat):Int) ((dl.length:Nat):Int)=((min rn dl.length:Nat):Int):=min_nn
   have hmn2:min ((min rn dl.length:Nat):Int) (300 - ((inp.size:Nat):Int))=((min (min rn dl.length) (300 - inp.size):Nat):Int):=by rw [show 300 - ((inp.size:Nat):Int)=((300 - inp.size:Nat):Int) by omega]; exact min_nn
   refine cT hA ?_
   refine Sb [(2,.slice (some ad) ((min ((rn:Nat):Int) ((dl.length:Nat):Int)).toNat) cd)] hA [bl false] (cc (⟨by omega,by omega,by omega,by omega,by omega⟩:(0:Int)<=0/\(0:Int)<=min ((rn:Nat):Int) ((dl.length:Nat):Int)/\(min ((rn:Nat):Int) ((dl.length:Nat):Int):Int)<=((cd:Nat):Int)/\(((cd:Nat):Int):Int)<=((cd:Nat):Int)/\(0=((cd:Nat):Int)\/0=(0:Int))) c0) fun fr hA=>?_
   rw [show ((min ((rn:Nat):Int) ((dl.length:Nat):Int)).toNat)=min rn dl.length from by omega] at hA
   have hS:=hO.pk [0]
   refine rT (.q 0 (.q 1 (.q 2 (.q 4 (.q 5 (.q 6 (.q 7 (.q 8 (.q 9 (.m 3 (.m 10 (.q 11 (.q 12 (.q 13 (.q 14 (.q 15 (.q 16 (.q 17 (.q 18 (.m 19 .fin .non))))))))) .non) (.m 10 (.q 11 (.q 12 (.q 13 (.q 14 (.q 15 (.m 3 (.q 16 (.q 17 (.q 18 (.m 19 .fin .non)))) .non)))))) .non))))))))))) hS ?_
   intro w2 ho; replace hO:=hO.st ho; clear ho
   refine Kt [0,1,2,4,5,6,7,8,9] [(31,pt pb),(33,pf pb 2),(35,.slice (some ad) (min rn dl.length) cd),(37,i64 ((min rn dl.length:Nat):Int)),(40,pf pb 2)] hA [] c0 fun fr hA=>?_
   refine tree_mem ?_ ?_
   · refine (Qc [(34,str inp)] hA [str inp] (cc (hO.l1 1 2 9 (str inp)) c0) fun fr hA=>?_)
     refine ⟨(hO.sub [0]),?_⟩
     refine tree_mem ?_ ?_
     · refine (Qc [(41,str inp)] hA [str inp] (cc (hO.l1 1 2 9 (str inp)) c0) fun fr hA=>?_)
       refine ⟨(hO.sub [0]),?_⟩
       refine Kt [11,12,13,14,15,16,17,18] [(47,str (inp++(bsI ((dl.take (min rn dl.length)).take (300 - inp.size))))),(49,pf pb 2)] hA [bl true,bl false,str (bsI ((dl.take (min rn dl.length)).take (300 - inp.size)))] (cc ((inK_i64 (by omega) (by omega)):inK .i64 (300 - ((inp.size:Nat):Int))) (cc (⟨by omega,by omega,by omega,by omega,by omega⟩:(0:Int)<=0/\(0:Int)<=min ((min rn dl.length:Nat):Int) (300 - ((inp.size:Nat):Int))/\(min ((min rn dl.length:Nat):Int) (300 - ((inp.size:Nat):Int)):Int)<=((cd:Nat):Int)/\(((cd:Nat):Int):Int)<=((cd:Nat):Int)/\(0=((cd:Nat):Int)\/0=(0:Int))) (cc (⟨(by rw [bsI_size,List.length_take,List.length_take]; omega),(fun i_ hi_=>hS.sx _ _ _ fun _ hO=>((vw_pre (L:=((dl.take (min rn dl.length)).take (300 - inp.size))) (hvd _ hO.only) ((List.take_prefix _ _).trans (List.take_prefix _ _)) (by rw [List.length_take,List.length_take]; omega) hud (by kernel_rfl)) i_ hi_))⟩:(bsI ((dl.take (min rn dl.length)).take (300 - inp.size))).size=(min ((min rn dl.length:Nat):Int) (300 - ((inp.size:Nat):Int))).toNat/\∀ i,i < (min ((min rn dl.length:Nat):Int) (300 - ((inp.size:Nat):Int))).toNat->LdS Tryd.prog (fun w_=>Ow Tryd.prog M w w_ [(b1,35,[i64 0,i64 0,i64 0,i64 0,.slice none 0 0])]) (ad.add i) 5 (.int .u8 (sb (bsI ((dl.take (min rn dl.length)).take (300 - inp.size))) i))) (cc ((by have hz_:(⟨#[10]⟩:ByteArray).size=1:=rfl; simp only [bsI_size,ByteArray.size_append,ByteArray.size_extract,List.length_take,List.length_nil]; omega):inp.size+(bsI ((dl.take (min rn dl.length)).take (300 - inp.size))).size<=9223372036854775807) c0)))) fun fr hA=>?_
       refine tree_mem ?_ ?_
       · refine (mS (off:=2) (vc:=[str (inp++(bsI ((dl.take (min rn dl.length)).take (300 - inp.size))))]) 1 hA hO fun w3 hO=>?_)
         refine ⟨(hO.sub [0]),?_⟩
         refine tree_fin ?_
         refine inBlock_normal ?_
         refine then_normal ?_
         refine sr 3 ?_
         refine Ka 1 [(70,pt pb)] hA fun fr hA=>?_
         have hGm1:Holds' T (SV.ok (⟨mo,po,inp++(bsI ((dl.take (min rn dl.length)).take (300 - inp.size))),pj,kj,lj,rd,wr,pv,pn,kn,ln,pp,kp,lp⟩:SV)):=(ok3 (T:=T++([])) (x:=(⟨mo,po,inp++(bsI ((dl.take (min rn dl.length)).take (300 - inp.size))),pj,kj,lj,rd,wr,pv,pn,kn,ln,pp,kp,lp⟩:SV)) ((hG.mono fun _ h_=>h_.j).l) ((hG.mono fun _ h_=>h_.k).l) ((hG.mono fun _ h_=>h_.p).l)).tt
         refine wpOps_cons' (mC (d:=(some 71)) hA Tryd.func27 ((proceed_any pb mo po (inp++(bsI ((dl.take (min rn dl.length)).take (300 - inp.size)))) pj kj lj rd wr pv pn kn ln pp kp lp T _ hGm1 (mself (A:=[_]) (hO.tt:Ow Tryd.prog M w _ (([(b1,35,[i64 0,i64 0,i64 0,i64 0,.slice none 0 0])]++[(pb,31,cS mo po (inp++(bsI ((dl.take (min rn dl.length)).take (300 - inp.size)))) pj lj.length kj rd wr pv pn ln.length kn pp lp.length kp)])++(T++[])))) ⟨(by show ByteArray.size (inp++(bsI ((dl.take (min rn dl.length)).take (300 - inp.size))))<=_; have hz_:(⟨#[10]⟩:ByteArray).size=1:=rfl; simp only [bsI_size,ByteArray.size_append,ByteArray.size_extract,List.length_take,List.length_nil]; omega),hm.j,hm.k,hm.p,hm.ck,hm.cj,hm.cp⟩ hvl (fun w_ k_=>hE w_ (Ow.pan (A:=[_]) ((hO.tt:Ow Tryd.prog M w _ (([(b1,35,[i64 0,i64 0,i64 0,i64 0,.slice none 0 0])]++[(pb,31,cS mo po (inp++(bsI ((dl.take (min rn dl.length)).take (300 - inp.size)))) pj lj.length kj rd wr pv pn ln.length kn pp lp.length kp)])++(T++[]))).tt) k_))).mono ?_))
         rintro en w4 ⟨⟨mo3,po3,inp3,pj3,kj3,lj3,rd3,wr3,pv3,pn3,kn3,ln3,pp3,kp3,lp3⟩,⟨xp_3,xc_3,xd_3⟩,T1,hr1,hsm3,hvl3,rfl,hW,hG1,hvx1⟩
         refine ⟨_,rfl,?_⟩
         clear hA fr; intro fr hA
         replace hO:=mcall (A:=[(b1,35,[i64 0,i64 0,i64 0,i64 0,.slice none 0 0])]) (B:=[]) (T:=T) (Tn:=T1) (x':=(pb,31,cS mo3 po3 inp3 pj3 lj3.length kj3 rd3 wr3 pv3 pn3 ln3.length kn3 pp3 lp3.length kp3)) hO.tt hW; clear hW
         refine Ms 0 [i64 xd_3.call,i64 xd_3.a0,i64 xd_3.a1,i64 xd_3.a2,.slice xp_3 xd_3.data.length xc_3] 0 hA hO fun w5 hO=>?_
         refine end_ops ?_
         refine then_normal ?_
         refine wp_ret ?_
         refine cR (cs:=[some (⟨b1,0,none⟩,35)]) (us:=[.agg #[i64 xd_3.call,i64 xd_3.a0,i64 xd_3.a1,i64 xd_3.a2,.slice xp_3 xd_3.data.length xc_3]]) hA [.agg #[i64 xd_3.call,i64 xd_3.a0,i64 xd_3.a1,i64 xd_3.a2,.slice xp_3 xd_3.data.length xc_3]] ⟨(hO.ln 0 0 35 [i64 xd_3.call,i64 xd_3.a0,i64 xd_3.a1,i64 xd_3.a2,.slice xp_3 xd_3.data.length xc_3]),trivial⟩ ?_
         exact ⟨(⟨mo3,po3,inp3,pj3,kj3,lj3,rd3,wr3,pv3,pn3,kn3,ln3,pp3,kp3,lp3⟩:SV),⟨xp_3,xc_3,xd_3⟩,(T1++([])),((rd_more (s:=SV.d (⟨mo,po,inp,pj,kj,lj,rd,wr,pv,pn,kn,ln,pp,kp,lp⟩:SV)) (d:=dl) (by omega)).trans hr1),hsm3,hvl3,rfl,(((Ow.subP (A:=[_,_]) hO (.cons _ (.cons_cons _ .slnil)))).tt),((ok3 (T:=(T++T1)++([])) (x:=(⟨mo3,po3,inp3,pj3,kj3,lj3,rd3,wr3,pv3,pn3,kn3,ln3,pp3,kp3,lp3⟩:SV)) ((hG1.mono fun _ h_=>h_.j).l) ((hG1.mono fun _ h_=>h_.k).l) ((hG1.mono fun _ h_=>h_.p).l)).tt),(hvx1).tt⟩
       exact trivial
     exact trivial
   refine tree_mem ?_ ?_
   · refine (Qc [(41,str inp)] hA [str inp] (cc (hO.l1 1 2 9 (str inp)) c0) fun fr hA=>?_)
     refine ⟨(hO.sub [0]),?_⟩
     refine Kt [11,12,13,14,15] [(46,str (bsI ((dl.take (min rn dl.length)).take (300 - inp.size))))] hA [bl true,bl false,str (bsI ((dl.take (min rn dl.length)).take (300 - inp.size)))] (cc ((inK_i64 (by omega) (by omega)):inK .i64 (300 - ((inp.size:Nat):Int))) (cc (⟨by omega,by omega,by omega,by omega,by omega⟩:(0:Int)<=0/\(0:Int)<=min ((min rn dl.length:Nat):Int) (300 - ((inp.size:Nat):Int))/\(min ((min rn dl.length:Nat):Int) (300 - ((inp.size:Nat):Int)):Int)<=((cd:Nat):Int)/\(((cd:Nat):Int):Int)<=((cd:Nat):Int)/\(0=((cd:Nat):Int)\/0=(0:Int))) (cc (⟨(by rw [bsI_size,List.length_take,List.length_take]; omega),(fun i_ hi_=>hS.sx _ _ _ fun _ hO=>((vw_pre (L:=((dl.take (min rn dl.length)).take (300 - inp.size))) (hvd _ hO.only) ((List.take_prefix _ _).trans (List.take_prefix _ _)) (by rw [List.length_take,List.length_take]; omega) hud (by kernel_rfl)) i_ hi_))⟩:(bsI ((dl.take (min rn dl.length)).take (300 - inp.size))).size=(min ((min rn dl.length:Nat):Int) (300 - ((inp.size:Nat):Int))).toNat/\∀ i,i < (min ((min rn dl.length:Nat):Int) (300 - ((inp.size:Nat):Int))).toNat->LdS Tryd.prog (fun w_=>Ow Tryd.prog M w w_ [(b1,35,[i64 0,i64 0,i64 0,i64 0,.slice none 0 0])]) (ad.add i) 5 (.int .u8 (sb (bsI ((dl.take (min rn dl.length)).take (300 - inp.size))) i))) c0))) fun fr hA=>?_
     refine tree_mem ?_ ?_
     · refine (Qc [(34,str inp)] hA [str inp] (cc (hO.l1 1 2 9 (str inp)) c0) fun fr hA=>?_)
       refine ⟨(hO.sub [0]),?_⟩
       refine Kt [16,17,18] [(47,str (inp++(bsI ((dl.take (min rn dl.length)).take (300 - inp.size))))),(49,pf pb 2)] hA [] (cc ((by have hz_:(⟨#[10]⟩:ByteArray).size=1:=rfl; simp only [bsI_size,ByteArray.size_append,ByteArray.size_extract,List.length_take,List.length_nil]; omega):inp.size+(bsI ((dl.take (min rn dl.length)).take (300 - inp.size))).size<=9223372036854775807) c0) fun fr hA=>?_
       refine tree_mem ?_ ?_
       · refine (mS (off:=2) (vc:=[str (inp++(bsI ((dl.take (min rn dl.length)).take (300 - inp.size))))]) 1 hA hO fun w6 hO=>?_)
         refine ⟨(hO.sub [0]),?_⟩
         refine tree_fin ?_
         refine inBlock_normal ?_
         refine then_normal ?_
         refine sr 3 ?_
         refine Ka 1 [(70,pt pb)] hA fun fr hA=>?_
         have hGm2:Holds' T (SV.ok (⟨mo,po,inp++(bsI ((dl.take (min rn dl.length)).take (300 - inp.size))),pj,kj,lj,rd,wr,pv,pn,kn,ln,pp,kp,lp⟩:SV)):=(ok3 (T:=T++([])) (x:=(⟨mo,po,inp++(bsI ((dl.take (min rn dl.length)).take (300 - inp.size))),pj,kj,lj,rd,wr,pv,pn,kn,ln,pp,kp,lp⟩:SV)) ((hG.mono fun _ h_=>h_.j).l) ((hG.mono fun _ h_=>h_.k).l) ((hG.mono fun _ h_=>h_.p).l)).tt
         refine wpOps_cons' (mC (d:=(some 71)) hA Tryd.func27 ((proceed_any pb mo po (inp++(bsI ((dl.take (min rn dl.length)).take (300 - inp.size)))) pj kj lj rd wr pv pn kn ln pp kp lp T _ hGm2 (mself (A:=[_]) (hO.tt:Ow Tryd.prog M w _ (([(b1,35,[i64 0,i64 0,i64 0,i64 0,.slice none 0 0])]++[(pb,31,cS mo po (inp++(bsI ((dl.take (min rn dl.length)).take (300 - inp.size)))) pj lj.length kj rd wr pv pn ln.length kn pp lp.length kp)])++(T++[])))) ⟨(by show ByteArray.size (inp++(bsI ((dl.take (min rn dl.length)).take (300 - inp.size))))<=_; have hz_:(⟨#[10]⟩:ByteArray).size=1:=rfl; simp only [bsI_size,ByteArray.size_append,ByteArray.size_extract,List.length_take,List.length_nil]; omega),hm.j,hm.k,hm.p,hm.ck,hm.cj,hm.cp⟩ hvl (fun w_ k_=>hE w_ (Ow.pan (A:=[_]) ((hO.tt:Ow Tryd.prog M w _ (([(b1,35,[i64 0,i64 0,i64 0,i64 0,.slice none 0 0])]++[(pb,31,cS mo po (inp++(bsI ((dl.take (min rn dl.length)).take (300 - inp.size)))) pj lj.length kj rd wr pv pn ln.length kn pp lp.length kp)])++(T++[]))).tt) k_))).mono ?_))
         rintro en w7 ⟨⟨mo4,po4,inp4,pj4,kj4,lj4,rd4,wr4,pv4,pn4,kn4,ln4,pp4,kp4,lp4⟩,⟨xp_4,xc_4,xd_4⟩,T2,hr2,hsm4,hvl4,rfl,hW,hG2,hvx2⟩
         refine ⟨_,rfl,?_⟩
         clear hA fr; intro fr hA
         replace hO:=mcall (A:=[(b1,35,[i64 0,i64 0,i64 0,i64 0,.slice none 0 0])]) (B:=[]) (T:=T) (Tn:=T2) (x':=(pb,31,cS mo4 po4 inp4 pj4 lj4.length kj4 rd4 wr4 pv4 pn4 ln4.length kn4 pp4 lp4.length kp4)) hO.tt hW; clear hW
         refine Ms 0 [i64 xd_4.call,i64 xd_4.a0,i64 xd_4.a1,i64 xd_4.a2,.slice xp_4 xd_4.data.length xc_4] 0 hA hO fun w8 hO=>?_
         refine end_ops ?_
         refine then_normal ?_
         refine wp_ret ?_
         refine cR (cs:=[some (⟨b1,0,none⟩,35)]) (us:=[.agg #[i64 xd_4.call,i64 xd_4.a0,i64 xd_4.a1,i64 xd_4.a2,.slice xp_4 xd_4.data.length xc_4]]) hA [.agg #[i64 xd_4.call,i64 xd_4.a0,i64 xd_4.a1,i64 xd_4.a2,.slice xp_4 xd_4.data.length xc_4]] ⟨(hO.ln 0 0 35 [i64 xd_4.call,i64 xd_4.a0,i64 xd_4.a1,i64 xd_4.a2,.slice xp_4 xd_4.data.length xc_4]),trivial⟩ ?_
         exact ⟨(⟨mo4,po4,inp4,pj4,kj4,lj4,rd4,wr4,pv4,pn4,kn4,ln4,pp4,kp4,lp4⟩:SV),⟨xp_4,xc_4,xd_4⟩,(T2++([])),((rd_more (s:=SV.d (⟨mo,po,inp,pj,kj,lj,rd,wr,pv,pn,kn,ln,pp,kp,lp⟩:SV)) (d:=dl) (by omega)).trans hr2),hsm4,hvl4,rfl,(((Ow.subP (A:=[_,_]) hO (.cons _ (.cons_cons _ .slnil)))).tt),((ok3 (T:=(T++T2)++([])) (x:=(⟨mo4,po4,inp4,pj4,kj4,lj4,rd4,wr4,pv4,pn4,kn4,ln4,pp4,kp4,lp4⟩:SV)) ((hG2.mono fun _ h_=>h_.j).l) ((hG2.mono fun _ h_=>h_.k).l) ((hG2.mono fun _ h_=>h_.p).l)).tt),(hvx2).tt⟩
       exact trivial
     exact trivial
   exact trivial
 rw [h1] at hA
 have h1p:=of_decide_eq_false h1
 refine cF hA ?_
 refine sr 10 ?_
 refine Kb 6 [(55,bl (inp.toList == (⟨#[]⟩:ByteArray).toList)),(56,bl (inp.toList == (⟨#[]⟩:ByteArray).toList))] hA [str inp] (cc (hO.l1 1 2 9 (str inp)) c0) fun fr hA=>?_
 rw [(str_empty inp:(inp.toList == (⟨#[]⟩:ByteArray).toList)=(decide (inp.size=0)))] at hA
 rcases Bool.eq_false_or_eq_true (decide (inp.size=0)) with h2 | h2
 · rw [h2] at hA
   have h2p:=of_decide_eq_true h2
   have hmn3:min ((inp.size:Nat):Int) 299=((min inp.size 299:Nat):Int):=min_lit
   refine Ka 4 [(50,bl (result == 0))] hA fun fr hA=>?_
   refine end_ops ?_
   refine then_normal ?_
   rcases Bool.eq_false_or_eq_true (result == 0) with h3 | h3
   · rw [h3] at hA
     have h3p:=eq_of_beq h3
     refine cT hA ?_
     refine sr 3 ?_
     refine Ka 1 [(60,pt pb)] hA fun fr hA=>?_
     refine wpOps_cons' (mC (d:=(some 61)) hA Tryd.func42 ((exit_any pb mo po inp pj kj lj rd wr pv pn kn ln pp kp lp 0 _ (Ow.self (A:=[_]) (hO.tt))).mono ?_))
     rintro en w9 ⟨rfl,hW⟩
     refine ⟨_,rfl,?_⟩
     clear hA fr; intro fr hA
     replace hO:=Ow.pass (A:=[_]) hO hW; clear hW
     refine Ms 0 [i64 0,i64 0,i64 0,i64 0,.slice none 0 0] 0 hA hO fun w10 hO=>?_
     refine end_ops ?_
     refine then_normal ?_
     refine wp_ret ?_
     refine inBlock_ret ?_
     refine then_ret ?_
     refine cR (cs:=[some (⟨b1,0,none⟩,35)]) (us:=[.agg #[i64 0,i64 0,i64 0,i64 0,.slice none 0 0]]) hA [.agg #[i64 0,i64 0,i64 0,i64 0,.slice none 0 0]] ⟨(hO.ln 0 0 35 [i64 0,i64 0,i64 0,i64 0,.slice none 0 0]),trivial⟩ ?_
     exact ⟨(⟨7,po,inp,pj,kj,lj,rd,wr,pv,pn,kn,ln,pp,kp,lp⟩:SV),⟨none,0,callL 0 0 0⟩,([]),(rd_0 (s:=SV.d (⟨mo,po,inp,pj,kj,lj,rd,wr,pv,pn,kn,ln,pp,kp,lp⟩:SV)) (by omega) (by assumption) (by omega)),⟨hm.i,hm.j,hm.k,hm.p,hm.ck,hm.cj,hm.cp⟩,hvl,rfl,(((Ow.subP (A:=[_,_]) hO (.cons _ (.cons_cons _ .slnil)))).tt),((ok3 (T:=T++([])) (x:=(⟨7,po,inp,pj,kj,lj,rd,wr,pv,pn,kn,ln,pp,kp,lp⟩:SV)) ((hG.mono fun _ h_=>h_.j).l) ((hG.mono fun _ h_=>h_.k).l) ((hG.mono fun _ h_=>h_.p).l)).tt),(fun _ _ _ _=>bare_vp (bare_one _ _ _ _) _ _ (List.mem_singleton.2 rfl))⟩
   rw [h3] at hA
   have h3p:=ne_of_beq_false h3
   refine cF hA ?_
   refine Sb [(62,bl (inp.toList == (⟨#[]⟩:ByteArray).toList))] hA [str inp] (cc (hO.l1 1 2 9 (str inp)) c0) fun fr hA=>?_
   rw [(str_empty inp:(inp.toList == (⟨#[]⟩:ByteArray).toList)=(decide (inp.size=0)))] at hA
   rw [(h2:(decide (inp.size=0))=true)] at hA
   refine cT hA ?_
   refine sr 3 ?_
   refine Ka 1 [(68,pt pb)] hA fun fr hA=>?_
   refine wpOps_cons' (mC (d:=(some 69)) hA Tryd.func42 ((exit_any pb mo po inp pj kj lj rd wr pv pn kn ln pp kp lp 1 _ (Ow.self (A:=[_]) (hO.tt))).mono ?_))
   rintro en w11 ⟨rfl,hW⟩
   refine ⟨_,rfl,?_⟩
   clear hA fr; intro fr hA
   replace hO:=Ow.pass (A:=[_]) hO hW; clear hW
   refine Ms 0 [i64 0,i64 1,i64 0,i64 0,.slice none 0 0] 0 hA hO fun w12 hO=>?_
   refine end_ops ?_
   refine then_normal ?_
   refine wp_ret ?_
   refine inBlock_ret ?_
   refine then_ret ?_
   refine cR (cs:=[some (⟨b1,0,none⟩,35)]) (us:=[.agg #[i64 0,i64 1,i64 0,i64 0,.slice none 0 0]]) hA [.agg #[i64 0,i64 1,i64 0,i64 0,.slice none 0 0]] ⟨(hO.ln 0 0 35 [i64 0,i64 1,i64 0,i64 0,.slice none 0 0]),trivial⟩ ?_
   exact ⟨(⟨7,po,inp,pj,kj,lj,rd,wr,pv,pn,kn,ln,pp,kp,lp⟩:SV),⟨none,0,callL 0 1 0⟩,([]),(rd_1 (s:=SV.d (⟨mo,po,inp,pj,kj,lj,rd,wr,pv,pn,kn,ln,pp,kp,lp⟩:SV)) (by omega) (by assumption) (by omega)),⟨hm.i,hm.j,hm.k,hm.p,hm.ck,hm.cj,hm.cp⟩,hvl,rfl,(((Ow.subP (A:=[_,_]) hO (.cons _ (.cons_cons _ .slnil)))).tt),((ok3 (T:=T++([])) (x:=(⟨7,po,inp,pj,kj,lj,rd,wr,pv,pn,kn,ln,pp,kp,lp⟩:SV)) ((hG.mono fun _ h_=>h_.j).l) ((hG.mono fun _ h_=>h_.k).l) ((hG.mono fun _ h_=>h_.p).l)).tt),(fun _ _ _ _=>bare_vp (bare_one _ _ _ _) _ _ (List.mem_singleton.2 rfl))⟩
 rw [h2] at hA
 have h2p:=of_decide_eq_false h2
 have hmn3:min ((inp.size:Nat):Int) 299=((min inp.size 299:Nat):Int):=min_lit
 refine Ka 4 [(50,bl false)] hA fun fr hA=>?_
 refine end_ops ?_
 refine then_normal ?_
 refine cF hA ?_
 refine Sb [(62,bl (inp.toList == (⟨#[]⟩:ByteArray).toList))] hA [str inp] (cc (hO.l1 1 2 9 (str inp)) c0) fun fr hA=>?_
 rw [(str_empty inp:(inp.toList == (⟨#[]⟩:ByteArray).toList)=(decide (inp.size=0)))] at hA
 rw [(h2:(decide (inp.size=0))=false)] at hA
 refine cF hA ?_
 have hS:=hO.pk [0]
 refine rT (.q 0 (.q 1 (.q 2 (.q 3 (.q 5 (.q 6 (.q 7 (.m 4 (.m 8 (.q 9 (.q 10 (.q 11 (.q 12 (.q 13 (.q 14 (.m 15 .fin .non))))))) .non) (.m 8 (.q 9 (.q 10 (.m 4 (.q 11 (.q 12 (.q 13 (.q 14 (.m 15 .fin .non))))) .non))) .non))))))))) hS ?_
 intro w13 ho; replace hO:=hO.st ho; clear ho
 refine Kt [0,1,2,3,5,6,7] [(7,pt pb),(10,pf pb 2),(14,pf pb 2)] hA [] c0 fun fr hA=>?_
 refine tree_mem ?_ ?_
 · refine (Qc [(11,str inp)] hA [str inp] (cc (hO.l1 1 2 9 (str inp)) c0) fun fr hA=>?_)
   refine ⟨(hO.sub [0]),?_⟩
   refine tree_mem ?_ ?_
   · refine (Qc [(15,str inp)] hA [str inp] (cc (hO.l1 1 2 9 (str inp)) c0) fun fr hA=>?_)
     refine ⟨(hO.sub [0]),?_⟩
     refine Kt [9,10,11,12,13,14] [(19,str ((inp.extract 0 ((min ((inp.size:Nat):Int) 299).toNat))++(⟨#[10]⟩:ByteArray))),(21,pf pb 2)] hA [] (cc (⟨by omega,by omega,by omega⟩:(0:Int)<=0/\(0:Int)<=min ((inp.size:Nat):Int) 299/\(min ((inp.size:Nat):Int) 299:Int)<=((inp.size:Nat):Int)) (cc ((by have hz_:(⟨#[10]⟩:ByteArray).size=1:=rfl; simp only [bsI_size,ByteArray.size_append,ByteArray.size_extract,List.length_take,List.length_nil]; omega):(inp.extract 0 ((min ((inp.size:Nat):Int) 299).toNat)).size+(⟨#[10]⟩:ByteArray).size<=9223372036854775807) c0)) fun fr hA=>?_
     rw [show ((inp.extract 0 ((min ((inp.size:Nat):Int) 299).toNat))++(⟨#[10]⟩:ByteArray))=((inp.extract 0 (min inp.size 299))++(⟨#[10]⟩:ByteArray)) from by rw [show (min ((inp.size:Nat):Int) 299).toNat=min inp.size 299 by rw [hmn3]; rfl]] at hA
     refine tree_mem ?_ ?_
     · refine (mS (off:=2) (vc:=[str ((inp.extract 0 (min inp.size 299))++(⟨#[10]⟩:ByteArray))]) 1 hA hO fun w14 hO=>?_)
       refine ⟨(hO.sub [0]),?_⟩
       refine tree_fin ?_
       refine inBlock_normal ?_
       refine then_normal ?_
       refine sr 3 ?_
       refine Ka 1 [(70,pt pb)] hA fun fr hA=>?_
       have hGm3:Holds' T (SV.ok (⟨mo,po,(inp.extract 0 (min inp.size 299))++(⟨#[10]⟩:ByteArray),pj,kj,lj,rd,wr,pv,pn,kn,ln,pp,kp,lp⟩:SV)):=(ok3 (T:=T++([])) (x:=(⟨mo,po,(inp.extract 0 (min inp.size 299))++(⟨#[10]⟩:ByteArray),pj,kj,lj,rd,wr,pv,pn,kn,ln,pp,kp,lp⟩:SV)) ((hG.mono fun _ h_=>h_.j).l) ((hG.mono fun _ h_=>h_.k).l) ((hG.mono fun _ h_=>h_.p).l)).tt
       refine wpOps_cons' (mC (d:=(some 71)) hA Tryd.func27 ((proceed_any pb mo po ((inp.extract 0 (min inp.size 299))++(⟨#[10]⟩:ByteArray)) pj kj lj rd wr pv pn kn ln pp kp lp T _ hGm3 (mself (A:=[_]) (hO.tt:Ow Tryd.prog M w _ (([(b1,35,[i64 0,i64 0,i64 0,i64 0,.slice none 0 0])]++[(pb,31,cS mo po ((inp.extract 0 (min inp.size 299))++(⟨#[10]⟩:ByteArray)) pj lj.length kj rd wr pv pn ln.length kn pp lp.length kp)])++(T++[])))) ⟨(by show ByteArray.size ((inp.extract 0 (min inp.size 299))++(⟨#[10]⟩:ByteArray))<=_; have hz_:(⟨#[10]⟩:ByteArray).size=1:=rfl; simp only [bsI_size,ByteArray.size_append,ByteArray.size_extract,List.length_take,List.length_nil]; omega),hm.j,hm.k,hm.p,hm.ck,hm.cj,hm.cp⟩ hvl (fun w_ k_=>hE w_ (Ow.pan (A:=[_]) ((hO.tt:Ow Tryd.prog M w _ (([(b1,35,[i64 0,i64 0,i64 0,i64 0,.slice none 0 0])]++[(pb,31,cS mo po ((inp.extract 0 (min inp.size 299))++(⟨#[10]⟩:ByteArray)) pj lj.length kj rd wr pv pn ln.length kn pp lp.length kp)])++(T++[]))).tt) k_))).mono ?_))
       rintro en w15 ⟨⟨mo5,po5,inp5,pj5,kj5,lj5,rd5,wr5,pv5,pn5,kn5,ln5,pp5,kp5,lp5⟩,⟨xp_5,xc_5,xd_5⟩,T3,hr3,hsm5,hvl5,rfl,hW,hG3,hvx3⟩
       refine ⟨_,rfl,?_⟩
       clear hA fr; intro fr hA
       replace hO:=mcall (A:=[(b1,35,[i64 0,i64 0,i64 0,i64 0,.slice none 0 0])]) (B:=[]) (T:=T) (Tn:=T3) (x':=(pb,31,cS mo5 po5 inp5 pj5 lj5.length kj5 rd5 wr5 pv5 pn5 ln5.length kn5 pp5 lp5.length kp5)) hO.tt hW; clear hW
       refine Ms 0 [i64 xd_5.call,i64 xd_5.a0,i64 xd_5.a1,i64 xd_5.a2,.slice xp_5 xd_5.data.length xc_5] 0 hA hO fun w16 hO=>?_
       refine end_ops ?_
       refine then_normal ?_
       refine wp_ret ?_
       refine cR (cs:=[some (⟨b1,0,none⟩,35)]) (us:=[.agg #[i64 xd_5.call,i64 xd_5.a0,i64 xd_5.a1,i64 xd_5.a2,.slice xp_5 xd_5.data.length xc_5]]) hA [.agg #[i64 xd_5.call,i64 xd_5.a0,i64 xd_5.a1,i64 xd_5.a2,.slice xp_5 xd_5.data.length xc_5]] ⟨(hO.ln 0 0 35 [i64 xd_5.call,i64 xd_5.a0,i64 xd_5.a1,i64 xd_5.a2,.slice xp_5 xd_5.data.length xc_5]),trivial⟩ ?_
       exact ⟨(⟨mo5,po5,inp5,pj5,kj5,lj5,rd5,wr5,pv5,pn5,kn5,ln5,pp5,kp5,lp5⟩:SV),⟨xp_5,xc_5,xd_5⟩,(T3++([])),((rd_nl (s:=SV.d (⟨mo,po,inp,pj,kj,lj,rd,wr,pv,pn,kn,ln,pp,kp,lp⟩:SV)) (d:=dl) (by omega) (by assumption)).trans hr3),hsm5,hvl5,rfl,(((Ow.subP (A:=[_,_]) hO (.cons _ (.cons_cons _ .slnil)))).tt),((ok3 (T:=(T++T3)++([])) (x:=(⟨mo5,po5,inp5,pj5,kj5,lj5,rd5,wr5,pv5,pn5,kn5,ln5,pp5,kp5,lp5⟩:SV)) ((hG3.mono fun _ h_=>h_.j).l) ((hG3.mono fun _ h_=>h_.k).l) ((hG3.mono fun _ h_=>h_.p).l)).tt),(hvx3).tt⟩
     exact trivial
   exact trivial
 refine tree_mem ?_ ?_
 · refine (Qc [(15,str inp)] hA [str inp] (cc (hO.l1 1 2 9 (str inp)) c0) fun fr hA=>?_)
   refine ⟨(hO.sub [0]),?_⟩
   refine Kt [9,10] [(17,i64 (min ((inp.size:Nat):Int) 299))] hA [] c0 fun fr hA=>?_
   rw [(min_lit:min ((inp.size:Nat):Int) 299=((min inp.size 299:Nat):Int))] at hA
   refine tree_mem ?_ ?_
   · refine (Qc [(11,str inp),(17,i64 ((min inp.size 299:Nat):Int))] hA [str inp] (cc (hO.l1 1 2 9 (str inp)) c0) fun fr hA=>?_)
     refine ⟨(hO.sub [0]),?_⟩
     refine Kt [11,12,13,14] [(19,str ((inp.extract 0 (min inp.size 299))++(⟨#[10]⟩:ByteArray))),(21,pf pb 2)] hA [] (cc (⟨by omega,by omega,by omega⟩:(0:Int)<=0/\(0:Int)<=((min inp.size 299:Nat):Int)/\(((min inp.size 299:Nat):Int):Int)<=((inp.size:Nat):Int)) (cc ((by have hz_:(⟨#[10]⟩:ByteArray).size=1:=rfl; simp only [bsI_size,ByteArray.size_append,ByteArray.size_extract,List.length_take,List.length_nil]; omega):(inp.extract 0 (min inp.size 299)).size+(⟨#[10]⟩:ByteArray).size<=9223372036854775807) c0)) fun fr hA=>?_
     refine tree_mem ?_ ?_
     · refine (mS (off:=2) (vc:=[str ((inp.extract 0 (min inp.size 299))++(⟨#[10]⟩:ByteArray))]) 1 hA hO fun w17 hO=>?_)
       refine ⟨(hO.sub [0]),?_⟩
       refine tree_fin ?_
       refine inBlock_normal ?_
       refine then_normal ?_
       refine sr 3 ?_
       refine Ka 1 [(70,pt pb)] hA fun fr hA=>?_
       have hGm4:Holds' T (SV.ok (⟨mo,po,(inp.extract 0 (min inp.size 299))++(⟨#[10]⟩:ByteArray),pj,kj,lj,rd,wr,pv,pn,kn,ln,pp,kp,lp⟩:SV)):=(ok3 (T:=T++([])) (x:=(⟨mo,po,(inp.extract 0 (min inp.size 299))++(⟨#[10]⟩:ByteArray),pj,kj,lj,rd,wr,pv,pn,kn,ln,pp,kp,lp⟩:SV)) ((hG.mono fun _ h_=>h_.j).l) ((hG.mono fun _ h_=>h_.k).l) ((hG.mono fun _ h_=>h_.p).l)).tt
       refine wpOps_cons' (mC (d:=(some 71)) hA Tryd.func27 ((proceed_any pb mo po ((inp.extract 0 (min inp.size 299))++(⟨#[10]⟩:ByteArray)) pj kj lj rd wr pv pn kn ln pp kp lp T _ hGm4 (mself (A:=[_]) (hO.tt:Ow Tryd.prog M w _ (([(b1,35,[i64 0,i64 0,i64 0,i64 0,.slice none 0 0])]++[(pb,31,cS mo po ((inp.extract 0 (min inp.size 299))++(⟨#[10]⟩:ByteArray)) pj lj.length kj rd wr pv pn ln.length kn pp lp.length kp)])++(T++[])))) ⟨(by show ByteArray.size ((inp.extract 0 (min inp.size 299))++(⟨#[10]⟩:ByteArray))<=_; have hz_:(⟨#[10]⟩:ByteArray).size=1:=rfl; simp only [bsI_size,ByteArray.size_append,ByteArray.size_extract,List.length_take,List.length_nil]; omega),hm.j,hm.k,hm.p,hm.ck,hm.cj,hm.cp⟩ hvl (fun w_ k_=>hE w_ (Ow.pan (A:=[_]) ((hO.tt:Ow Tryd.prog M w _ (([(b1,35,[i64 0,i64 0,i64 0,i64 0,.slice none 0 0])]++[(pb,31,cS mo po ((inp.extract 0 (min inp.size 299))++(⟨#[10]⟩:ByteArray)) pj lj.length kj rd wr pv pn ln.length kn pp lp.length kp)])++(T++[]))).tt) k_))).mono ?_))
       rintro en w18 ⟨⟨mo6,po6,inp6,pj6,kj6,lj6,rd6,wr6,pv6,pn6,kn6,ln6,pp6,kp6,lp6⟩,⟨xp_6,xc_6,xd_6⟩,T4,hr4,hsm6,hvl6,rfl,hW,hG4,hvx4⟩
       refine ⟨_,rfl,?_⟩
       clear hA fr; intro fr hA
       replace hO:=mcall (A:=[(b1,35,[i64 0,i64 0,i64 0,i64 0,.slice none 0 0])]) (B:=[]) (T:=T) (Tn:=T4) (x':=(pb,31,cS mo6 po6 inp6 pj6 lj6.length kj6 rd6 wr6 pv6 pn6 ln6.length kn6 pp6 lp6.length kp6)) hO.tt hW; clear hW
       refine Ms 0 [i64 xd_6.call,i64 xd_6.a0,i64 xd_6.a1,i64 xd_6.a2,.slice xp_6 xd_6.data.length xc_6] 0 hA hO fun w19 hO=>?_
       refine end_ops ?_
       refine then_normal ?_
       refine wp_ret ?_
       refine cR (cs:=[some (⟨b1,0,none⟩,35)]) (us:=[.agg #[i64 xd_6.call,i64 xd_6.a0,i64 xd_6.a1,i64 xd_6.a2,.slice xp_6 xd_6.data.length xc_6]]) hA [.agg #[i64 xd_6.call,i64 xd_6.a0,i64 xd_6.a1,i64 xd_6.a2,.slice xp_6 xd_6.data.length xc_6]] ⟨(hO.ln 0 0 35 [i64 xd_6.call,i64 xd_6.a0,i64 xd_6.a1,i64 xd_6.a2,.slice xp_6 xd_6.data.length xc_6]),trivial⟩ ?_
       exact ⟨(⟨mo6,po6,inp6,pj6,kj6,lj6,rd6,wr6,pv6,pn6,kn6,ln6,pp6,kp6,lp6⟩:SV),⟨xp_6,xc_6,xd_6⟩,(T4++([])),((rd_nl (s:=SV.d (⟨mo,po,inp,pj,kj,lj,rd,wr,pv,pn,kn,ln,pp,kp,lp⟩:SV)) (d:=dl) (by omega) (by assumption)).trans hr4),hsm6,hvl6,rfl,(((Ow.subP (A:=[_,_]) hO (.cons _ (.cons_cons _ .slnil)))).tt),((ok3 (T:=(T++T4)++([])) (x:=(⟨mo6,po6,inp6,pj6,kj6,lj6,rd6,wr6,pv6,pn6,kn6,ln6,pp6,kp6,lp6⟩:SV)) ((hG4.mono fun _ h_=>h_.j).l) ((hG4.mono fun _ h_=>h_.k).l) ((hG4.mono fun _ h_=>h_.p).l)).tt),(hvx4).tt⟩
     exact trivial
   exact trivial
 exact trivial
set_option maxHeartbeats 2000000 in
theorem read_none (pb:Nat) (mo po:Int) (inp:ByteArray) (pj:Option Addr) (kj:Nat) (lj:List JV) (rd wr pv:Int) (pn:Option Addr) (kn:Nat) (ln:List Int) (pp:Option Addr) (kp:Nat) (lp:List PV) (T:OwL) (result:Int) (w:World) (hG:Holds' T (SV.ok (⟨mo,po,inp,pj,kj,lj,rd,wr,pv,pn,kn,ln,pp,kp,lp⟩:SV))) (h0:Ow Tryd.prog (inT ((pb,31,cS mo po inp pj lj.length kj rd wr pv pn ln.length kn pp lp.length kp)::T)) w w ((pb,31,cS mo po inp pj lj.length kj rd wr pv pn ln.length kn pp lp.length kp)::T)) (hm:SV.sm (⟨mo,po,inp,pj,kj,lj,rd,wr,pv,pn,kn,ln,pp,kp,lp⟩:SV)) (hvl:validL (lj.map JV.d)=true) (hE : ∀ w',Only (inT ((pb,31,cS mo po inp pj lj.length kj rd wr pv pn ln.length kn pp lp.length kp)::T)) w w'->ErrOk w') (hp0:lp.length=0) (hin:inp.size<=300)  :
    Calls Tryd.prog 28 #[pt pb,i64 result,.slice none 0 0] w fun e w'=>∃ (v:SV) (x:PV) (Tn:OwL),readS (SV.d (⟨mo,po,inp,pj,kj,lj,rd,wr,pv,pn,kn,ln,pp,kp,lp⟩:SV)) result []=(v.d,x.d)/\v.sm/\validL (v.lj.map JV.d)=true/\e = .returned (.agg #[i64 x.d.call,i64 x.d.a0,i64 x.d.a1,i64 x.d.a2,.slice x.p x.d.data.length x.c])/\Ow Tryd.prog (inT ((pb,31,cS mo po inp pj lj.length kj rd wr pv pn ln.length kn pp lp.length kp)::T)) w w' ((pb,31,v.cells)::(T++Tn))/\Holds' (T++Tn) v.ok/\Holds' (T++Tn) (fun w=>VP w x):=by
 refine c_enter (args:=[pt pb,i64 result,.slice none 0 0]) (m:=69) (n:=72) Tryd.func28 rfl (by kernel_rfl) (by kernel_rfl) fun fr hA=>?_
 generalize inT ((pb,31,cS mo po inp pj lj.length kj rd wr pv pn ln.length kn pp lp.length kp)::T)=M at *
 have hO:Ow Tryd.prog M w w ([(pb,31,(cS mo po inp pj lj.length kj rd wr pv pn ln.length kn pp lp.length kp))]++(T++([]))):=h0.to (by first | rfl | first | rfl | (simp only [TP,apd]))
 refine sr 1 ?_
 refine Mn [i64 0,i64 0,i64 0,i64 0,.slice none 0 0] 35 6 hA hO fun fr w1 b1 hA hO=>?_
 refine end_ops ?_
 refine then_normal ?_
 refine wp_seq ?_
 refine wp_block ?_
 refine Sa [(22,bl (decide (result > 0)))] hA fun fr hA=>?_
 rcases Bool.eq_false_or_eq_true (decide (result > 0)) with h1 | h1
 · rw [h1] at hA
   have h1p:=of_decide_eq_true h1
   obtain ⟨rn,rfl⟩ : ∃ rn:Nat,result=((rn:Nat):Int):=⟨result.toNat,by omega⟩
   have hmn1:min ((rn:Nat):Int) 0=0:=min_z (by omega)
   have hmn2:min 0 (300 - ((inp.size:Nat):Int))=0:=min_0 (by omega)
   refine cT hA ?_
   refine Sb [(2,.slice none ((min ((rn:Nat):Int) 0).toNat) 0)] hA [bl false] (cc (⟨by omega,by omega,by omega,by omega,by omega⟩:(0:Int)<=0/\(0:Int)<=min ((rn:Nat):Int) 0/\(min ((rn:Nat):Int) 0:Int)<=((0:Nat):Int)/\((0:Nat):Int)<=((0:Nat):Int)/\((0:Int)=((0:Nat):Int)\/(0:Int)=0)) c0) fun fr hA=>?_
   rw [show ((min ((rn:Nat):Int) 0).toNat)=0 from by omega] at hA
   have hS:=hO.pk [0]
   refine rT (.q 0 (.q 1 (.q 2 (.q 4 (.q 5 (.q 6 (.q 7 (.q 8 (.q 9 (.m 3 (.m 10 (.q 11 (.q 12 (.q 13 (.q 14 (.q 15 (.q 16 (.q 17 (.q 18 (.m 19 .fin .non))))))))) .non) (.m 10 (.q 11 (.q 12 (.q 13 (.q 14 (.q 15 (.m 3 (.q 16 (.q 17 (.q 18 (.m 19 .fin .non)))) .non)))))) .non))))))))))) hS ?_
   intro w2 ho; replace hO:=hO.st ho; clear ho
   refine Kt [0,1,2,4,5,6,7,8,9] [(31,pt pb),(33,pf pb 2),(35,.slice none 0 0),(37,i64 0),(40,pf pb 2)] hA [] c0 fun fr hA=>?_
   refine tree_mem ?_ ?_
   · refine (Qc [(34,str inp)] hA [str inp] (cc (hO.l1 1 2 9 (str inp)) c0) fun fr hA=>?_)
     refine ⟨(hO.sub [0]),?_⟩
     refine tree_mem ?_ ?_
     · refine (Qc [(41,str inp)] hA [str inp] (cc (hO.l1 1 2 9 (str inp)) c0) fun fr hA=>?_)
       refine ⟨(hO.sub [0]),?_⟩
       refine Kt [11,12,13,14,15,16,17,18] [(47,str (inp++(bsI []))),(49,pf pb 2)] hA [bl true,bl false] (cc ((inK_i64 (by omega) (by omega)):inK .i64 (300 - ((inp.size:Nat):Int))) (cc (⟨by omega,by omega,by omega,by omega,by omega⟩:(0:Int)<=0/\(0:Int)<=min 0 (300 - ((inp.size:Nat):Int))/\(min 0 (300 - ((inp.size:Nat):Int)):Int)<=((0:Nat):Int)/\((0:Nat):Int)<=((0:Nat):Int)/\((0:Int)=((0:Nat):Int)\/(0:Int)=0)) (cc ((by have hz_:(⟨#[10]⟩:ByteArray).size=1:=rfl; simp only [bsI_size,ByteArray.size_append,ByteArray.size_extract,List.length_take,List.length_nil]; omega):inp.size+(bsI []).size<=9223372036854775807) c0))) fun fr hA=>?_
       refine tree_mem ?_ ?_
       · refine (mS (off:=2) (vc:=[str (inp++(bsI []))]) 1 hA hO fun w3 hO=>?_)
         refine ⟨(hO.sub [0]),?_⟩
         refine tree_fin ?_
         refine inBlock_normal ?_
         refine then_normal ?_
         refine sr 3 ?_
         refine Ka 1 [(70,pt pb)] hA fun fr hA=>?_
         have hGm1:Holds' T (SV.ok (⟨mo,po,inp++(bsI []),pj,kj,lj,rd,wr,pv,pn,kn,ln,pp,kp,lp⟩:SV)):=(ok3 (T:=T++([])) (x:=(⟨mo,po,inp++(bsI []),pj,kj,lj,rd,wr,pv,pn,kn,ln,pp,kp,lp⟩:SV)) ((hG.mono fun _ h_=>h_.j).l) ((hG.mono fun _ h_=>h_.k).l) ((hG.mono fun _ h_=>h_.p).l)).tt
         refine wpOps_cons' (mC (d:=(some 71)) hA Tryd.func27 ((proceed_any pb mo po (inp++(bsI [])) pj kj lj rd wr pv pn kn ln pp kp lp T _ hGm1 (mself (A:=[_]) (hO.tt:Ow Tryd.prog M w _ (([(b1,35,[i64 0,i64 0,i64 0,i64 0,.slice none 0 0])]++[(pb,31,cS mo po (inp++(bsI [])) pj lj.length kj rd wr pv pn ln.length kn pp lp.length kp)])++(T++[])))) ⟨(by show ByteArray.size (inp++(bsI []))<=_; have hz_:(⟨#[10]⟩:ByteArray).size=1:=rfl; simp only [bsI_size,ByteArray.size_append,ByteArray.size_extract,List.length_take,List.length_nil]; omega),hm.j,hm.k,hm.p,hm.ck,hm.cj,hm.cp⟩ hvl (fun w_ k_=>hE w_ (Ow.pan (A:=[_]) ((hO.tt:Ow Tryd.prog M w _ (([(b1,35,[i64 0,i64 0,i64 0,i64 0,.slice none 0 0])]++[(pb,31,cS mo po (inp++(bsI [])) pj lj.length kj rd wr pv pn ln.length kn pp lp.length kp)])++(T++[]))).tt) k_))).mono ?_))
         rintro en w4 ⟨⟨mo3,po3,inp3,pj3,kj3,lj3,rd3,wr3,pv3,pn3,kn3,ln3,pp3,kp3,lp3⟩,⟨xp_3,xc_3,xd_3⟩,T1,hr1,hsm3,hvl3,rfl,hW,hG1,hvx1⟩
         refine ⟨_,rfl,?_⟩
         clear hA fr; intro fr hA
         replace hO:=mcall (A:=[(b1,35,[i64 0,i64 0,i64 0,i64 0,.slice none 0 0])]) (B:=[]) (T:=T) (Tn:=T1) (x':=(pb,31,cS mo3 po3 inp3 pj3 lj3.length kj3 rd3 wr3 pv3 pn3 ln3.length kn3 pp3 lp3.length kp3)) hO.tt hW; clear hW
         refine Ms 0 [i64 xd_3.call,i64 xd_3.a0,i64 xd_3.a1,i64 xd_3.a2,.slice xp_3 xd_3.data.length xc_3] 0 hA hO fun w5 hO=>?_
         refine end_ops ?_
         refine then_normal ?_
         refine wp_ret ?_
         refine cR (cs:=[some (⟨b1,0,none⟩,35)]) (us:=[.agg #[i64 xd_3.call,i64 xd_3.a0,i64 xd_3.a1,i64 xd_3.a2,.slice xp_3 xd_3.data.length xc_3]]) hA [.agg #[i64 xd_3.call,i64 xd_3.a0,i64 xd_3.a1,i64 xd_3.a2,.slice xp_3 xd_3.data.length xc_3]] ⟨(hO.ln 0 0 35 [i64 xd_3.call,i64 xd_3.a0,i64 xd_3.a1,i64 xd_3.a2,.slice xp_3 xd_3.data.length xc_3]),trivial⟩ ?_
         exact ⟨(⟨mo3,po3,inp3,pj3,kj3,lj3,rd3,wr3,pv3,pn3,kn3,ln3,pp3,kp3,lp3⟩:SV),⟨xp_3,xc_3,xd_3⟩,(T1++([])),((rd_more0 (s:=SV.d (⟨mo,po,inp,pj,kj,lj,rd,wr,pv,pn,kn,ln,pp,kp,lp⟩:SV)) (by omega)).trans hr1),hsm3,hvl3,rfl,(((Ow.subP (A:=[_,_]) hO (.cons _ (.cons_cons _ .slnil)))).tt),((ok3 (T:=(T++T1)++([])) (x:=(⟨mo3,po3,inp3,pj3,kj3,lj3,rd3,wr3,pv3,pn3,kn3,ln3,pp3,kp3,lp3⟩:SV)) ((hG1.mono fun _ h_=>h_.j).l) ((hG1.mono fun _ h_=>h_.k).l) ((hG1.mono fun _ h_=>h_.p).l)).tt),(hvx1).tt⟩
       exact trivial
     exact trivial
   refine tree_mem ?_ ?_
   · refine (Qc [(41,str inp)] hA [str inp] (cc (hO.l1 1 2 9 (str inp)) c0) fun fr hA=>?_)
     refine ⟨(hO.sub [0]),?_⟩
     refine Kt [11,12,13,14,15] [(46,str (bsI []))] hA [bl true,bl false] (cc ((inK_i64 (by omega) (by omega)):inK .i64 (300 - ((inp.size:Nat):Int))) (cc (⟨by omega,by omega,by omega,by omega,by omega⟩:(0:Int)<=0/\(0:Int)<=min 0 (300 - ((inp.size:Nat):Int))/\(min 0 (300 - ((inp.size:Nat):Int)):Int)<=((0:Nat):Int)/\((0:Nat):Int)<=((0:Nat):Int)/\((0:Int)=((0:Nat):Int)\/(0:Int)=0)) c0)) fun fr hA=>?_
     refine tree_mem ?_ ?_
     · refine (Qc [(34,str inp)] hA [str inp] (cc (hO.l1 1 2 9 (str inp)) c0) fun fr hA=>?_)
       refine ⟨(hO.sub [0]),?_⟩
       refine Kt [16,17,18] [(47,str (inp++(bsI []))),(49,pf pb 2)] hA [] (cc ((by have hz_:(⟨#[10]⟩:ByteArray).size=1:=rfl; simp only [bsI_size,ByteArray.size_append,ByteArray.size_extract,List.length_take,List.length_nil]; omega):inp.size+(bsI []).size<=9223372036854775807) c0) fun fr hA=>?_
       refine tree_mem ?_ ?_
       · refine (mS (off:=2) (vc:=[str (inp++(bsI []))]) 1 hA hO fun w6 hO=>?_)
         refine ⟨(hO.sub [0]),?_⟩
         refine tree_fin ?_
         refine inBlock_normal ?_
         refine then_normal ?_
         refine sr 3 ?_
         refine Ka 1 [(70,pt pb)] hA fun fr hA=>?_
         have hGm2:Holds' T (SV.ok (⟨mo,po,inp++(bsI []),pj,kj,lj,rd,wr,pv,pn,kn,ln,pp,kp,lp⟩:SV)):=(ok3 (T:=T++([])) (x:=(⟨mo,po,inp++(bsI []),pj,kj,lj,rd,wr,pv,pn,kn,ln,pp,kp,lp⟩:SV)) ((hG.mono fun _ h_=>h_.j).l) ((hG.mono fun _ h_=>h_.k).l) ((hG.mono fun _ h_=>h_.p).l)).tt
         refine wpOps_cons' (mC (d:=(some 71)) hA Tryd.func27 ((proceed_any pb mo po (inp++(bsI [])) pj kj lj rd wr pv pn kn ln pp kp lp T _ hGm2 (mself (A:=[_]) (hO.tt:Ow Tryd.prog M w _ (([(b1,35,[i64 0,i64 0,i64 0,i64 0,.slice none 0 0])]++[(pb,31,cS mo po (inp++(bsI [])) pj lj.length kj rd wr pv pn ln.length kn pp lp.length kp)])++(T++[])))) ⟨(by show ByteArray.size (inp++(bsI []))<=_; have hz_:(⟨#[10]⟩:ByteArray).size=1:=rfl; simp only [bsI_size,ByteArray.size_append,ByteArray.size_extract,List.length_take,List.length_nil]; omega),hm.j,hm.k,hm.p,hm.ck,hm.cj,hm.cp⟩ hvl (fun w_ k_=>hE w_ (Ow.pan (A:=[_]) ((hO.tt:Ow Tryd.prog M w _ (([(b1,35,[i64 0,i64 0,i64 0,i64 0,.slice none 0 0])]++[(pb,31,cS mo po (inp++(bsI [])) pj lj.length kj rd wr pv pn ln.length kn pp lp.length kp)])++(T++[]))).tt) k_))).mono ?_))
         rintro en w7 ⟨⟨mo4,po4,inp4,pj4,kj4,lj4,rd4,wr4,pv4,pn4,kn4,ln4,pp4,kp4,lp4⟩,⟨xp_4,xc_4,xd_4⟩,T2,hr2,hsm4,hvl4,rfl,hW,hG2,hvx2⟩
         refine ⟨_,rfl,?_⟩
         clear hA fr; intro fr hA
         replace hO:=mcall (A:=[(b1,35,[i64 0,i64 0,i64 0,i64 0,.slice none 0 0])]) (B:=[]) (T:=T) (Tn:=T2) (x':=(pb,31,cS mo4 po4 inp4 pj4 lj4.length kj4 rd4 wr4 pv4 pn4 ln4.length kn4 pp4 lp4.length kp4)) hO.tt hW; clear hW
         refine Ms 0 [i64 xd_4.call,i64 xd_4.a0,i64 xd_4.a1,i64 xd_4.a2,.slice xp_4 xd_4.data.length xc_4] 0 hA hO fun w8 hO=>?_
         refine end_ops ?_
         refine then_normal ?_
         refine wp_ret ?_
         refine cR (cs:=[some (⟨b1,0,none⟩,35)]) (us:=[.agg #[i64 xd_4.call,i64 xd_4.a0,i64 xd_4.a1,i64 xd_4.a2,.slice xp_4 xd_4.data.length xc_4]]) hA [.agg #[i64 xd_4.call,i64 xd_4.a0,i64 xd_4.a1,i64 xd_4.a2,.slice xp_4 xd_4.data.length xc_4]] ⟨(hO.ln 0 0 35 [i64 xd_4.call,i64 xd_4.a0,i64 xd_4.a1,i64 xd_4.a2,.slice xp_4 xd_4.data.length xc_4]),trivial⟩ ?_
         exact ⟨(⟨mo4,po4,inp4,pj4,kj4,lj4,rd4,wr4,pv4,pn4,kn4,ln4,pp4,kp4,lp4⟩:SV),⟨xp_4,xc_4,xd_4⟩,(T2++([])),((rd_more0 (s:=SV.d (⟨mo,po,inp,pj,kj,lj,rd,wr,pv,pn,kn,ln,pp,kp,lp⟩:SV)) (by omega)).trans hr2),hsm4,hvl4,rfl,(((Ow.subP (A:=[_,_]) hO (.cons _ (.cons_cons _ .slnil)))).tt),((ok3 (T:=(T++T2)++([])) (x:=(⟨mo4,po4,inp4,pj4,kj4,lj4,rd4,wr4,pv4,pn4,kn4,ln4,pp4,kp4,lp4⟩:SV)) ((hG2.mono fun _ h_=>h_.j).l) ((hG2.mono fun _ h_=>h_.k).l) ((hG2.mono fun _ h_=>h_.p).l)).tt),(hvx2).tt⟩
       exact trivial
     exact trivial
   exact trivial
 rw [h1] at hA
 have h1p:=of_decide_eq_false h1
 refine cF hA ?_
 refine sr 10 ?_
 refine Kb 6 [(55,bl (inp.toList == (⟨#[]⟩:ByteArray).toList)),(56,bl (inp.toList == (⟨#[]⟩:ByteArray).toList))] hA [str inp] (cc (hO.l1 1 2 9 (str inp)) c0) fun fr hA=>?_
 rw [(str_empty inp:(inp.toList == (⟨#[]⟩:ByteArray).toList)=(decide (inp.size=0)))] at hA
 rcases Bool.eq_false_or_eq_true (decide (inp.size=0)) with h2 | h2
 · rw [h2] at hA
   have h2p:=of_decide_eq_true h2
   have hmn3:min ((inp.size:Nat):Int) 299=((min inp.size 299:Nat):Int):=min_lit
   refine Ka 4 [(50,bl (result == 0))] hA fun fr hA=>?_
   refine end_ops ?_
   refine then_normal ?_
   rcases Bool.eq_false_or_eq_true (result == 0) with h3 | h3
   · rw [h3] at hA
     have h3p:=eq_of_beq h3
     refine cT hA ?_
     refine sr 3 ?_
     refine Ka 1 [(60,pt pb)] hA fun fr hA=>?_
     refine wpOps_cons' (mC (d:=(some 61)) hA Tryd.func42 ((exit_any pb mo po inp pj kj lj rd wr pv pn kn ln pp kp lp 0 _ (Ow.self (A:=[_]) (hO.tt))).mono ?_))
     rintro en w9 ⟨rfl,hW⟩
     refine ⟨_,rfl,?_⟩
     clear hA fr; intro fr hA
     replace hO:=Ow.pass (A:=[_]) hO hW; clear hW
     refine Ms 0 [i64 0,i64 0,i64 0,i64 0,.slice none 0 0] 0 hA hO fun w10 hO=>?_
     refine end_ops ?_
     refine then_normal ?_
     refine wp_ret ?_
     refine inBlock_ret ?_
     refine then_ret ?_
     refine cR (cs:=[some (⟨b1,0,none⟩,35)]) (us:=[.agg #[i64 0,i64 0,i64 0,i64 0,.slice none 0 0]]) hA [.agg #[i64 0,i64 0,i64 0,i64 0,.slice none 0 0]] ⟨(hO.ln 0 0 35 [i64 0,i64 0,i64 0,i64 0,.slice none 0 0]),trivial⟩ ?_
     exact ⟨(⟨7,po,inp,pj,kj,lj,rd,wr,pv,pn,kn,ln,pp,kp,lp⟩:SV),⟨none,0,callL 0 0 0⟩,([]),(rd_0 (s:=SV.d (⟨mo,po,inp,pj,kj,lj,rd,wr,pv,pn,kn,ln,pp,kp,lp⟩:SV)) (by omega) (by assumption) (by omega)),⟨hm.i,hm.j,hm.k,hm.p,hm.ck,hm.cj,hm.cp⟩,hvl,rfl,(((Ow.subP (A:=[_,_]) hO (.cons _ (.cons_cons _ .slnil)))).tt),((ok3 (T:=T++([])) (x:=(⟨7,po,inp,pj,kj,lj,rd,wr,pv,pn,kn,ln,pp,kp,lp⟩:SV)) ((hG.mono fun _ h_=>h_.j).l) ((hG.mono fun _ h_=>h_.k).l) ((hG.mono fun _ h_=>h_.p).l)).tt),(fun _ _ _ _=>bare_vp (bare_one _ _ _ _) _ _ (List.mem_singleton.2 rfl))⟩
   rw [h3] at hA
   have h3p:=ne_of_beq_false h3
   refine cF hA ?_
   refine Sb [(62,bl (inp.toList == (⟨#[]⟩:ByteArray).toList))] hA [str inp] (cc (hO.l1 1 2 9 (str inp)) c0) fun fr hA=>?_
   rw [(str_empty inp:(inp.toList == (⟨#[]⟩:ByteArray).toList)=(decide (inp.size=0)))] at hA
   rw [(h2:(decide (inp.size=0))=true)] at hA
   refine cT hA ?_
   refine sr 3 ?_
   refine Ka 1 [(68,pt pb)] hA fun fr hA=>?_
   refine wpOps_cons' (mC (d:=(some 69)) hA Tryd.func42 ((exit_any pb mo po inp pj kj lj rd wr pv pn kn ln pp kp lp 1 _ (Ow.self (A:=[_]) (hO.tt))).mono ?_))
   rintro en w11 ⟨rfl,hW⟩
   refine ⟨_,rfl,?_⟩
   clear hA fr; intro fr hA
   replace hO:=Ow.pass (A:=[_]) hO hW; clear hW
   refine Ms 0 [i64 0,i64 1,i64 0,i64 0,.slice none 0 0] 0 hA hO fun w12 hO=>?_
   refine end_ops ?_
   refine then_normal ?_
   refine wp_ret ?_
   refine inBlock_ret ?_
   refine then_ret ?_
   refine cR (cs:=[some (⟨b1,0,none⟩,35)]) (us:=[.agg #[i64 0,i64 1,i64 0,i64 0,.slice none 0 0]]) hA [.agg #[i64 0,i64 1,i64 0,i64 0,.slice none 0 0]] ⟨(hO.ln 0 0 35 [i64 0,i64 1,i64 0,i64 0,.slice none 0 0]),trivial⟩ ?_
   exact ⟨(⟨7,po,inp,pj,kj,lj,rd,wr,pv,pn,kn,ln,pp,kp,lp⟩:SV),⟨none,0,callL 0 1 0⟩,([]),(rd_1 (s:=SV.d (⟨mo,po,inp,pj,kj,lj,rd,wr,pv,pn,kn,ln,pp,kp,lp⟩:SV)) (by omega) (by assumption) (by omega)),⟨hm.i,hm.j,hm.k,hm.p,hm.ck,hm.cj,hm.cp⟩,hvl,rfl,(((Ow.subP (A:=[_,_]) hO (.cons _ (.cons_cons _ .slnil)))).tt),((ok3 (T:=T++([])) (x:=(⟨7,po,inp,pj,kj,lj,rd,wr,pv,pn,kn,ln,pp,kp,lp⟩:SV)) ((hG.mono fun _ h_=>h_.j).l) ((hG.mono fun _ h_=>h_.k).l) ((hG.mono fun _ h_=>h_.p).l)).tt),(fun _ _ _ _=>bare_vp (bare_one _ _ _ _) _ _ (List.mem_singleton.2 rfl))⟩
 rw [h2] at hA
 have h2p:=of_decide_eq_false h2
 have hmn3:min ((inp.size:Nat):Int) 299=((min inp.size 299:Nat):Int):=min_lit
 refine Ka 4 [(50,bl false)] hA fun fr hA=>?_
 refine end_ops ?_
 refine then_normal ?_
 refine cF hA ?_
 refine Sb [(62,bl (inp.toList == (⟨#[]⟩:ByteArray).toList))] hA [str inp] (cc (hO.l1 1 2 9 (str inp)) c0) fun fr hA=>?_
 rw [(str_empty inp:(inp.toList == (⟨#[]⟩:ByteArray).toList)=(decide (inp.size=0)))] at hA
 rw [(h2:(decide (inp.size=0))=false)] at hA
 refine cF hA ?_
 have hS:=hO.pk [0]
 refine rT (.q 0 (.q 1 (.q 2 (.q 3 (.q 5 (.q 6 (.q 7 (.m 4 (.m 8 (.q 9 (.q 10 (.q 11 (.q 12 (.q 13 (.q 14 (.m 15 .fin .non))))))) .non) (.m 8 (.q 9 (.q 10 (.m 4 (.q 11 (.q 12 (.q 13 (.q 14 (.m 15 .fin .non))))) .non))) .non))))))))) hS ?_
 intro w13 ho; replace hO:=hO.st ho; clear ho
 refine Kt [0,1,2,3,5,6,7] [(7,pt pb),(10,pf pb 2),(14,pf pb 2)] hA [] c0 fun fr hA=>?_
 refine tree_mem ?_ ?_
 · refine (Qc [(11,str inp)] hA [str inp] (cc (hO.l1 1 2 9 (str inp)) c0) fun fr hA=>?_)
   refine ⟨(hO.sub [0]),?_⟩
   refine tree_mem ?_ ?_
   · refine (Qc [(15,str inp)] hA [str inp] (cc (hO.l1 1 2 9 (str inp)) c0) fun fr hA=>?_)
     refine ⟨(hO.sub [0]),?_⟩
     refine Kt [9,10,11,12,13,14] [(19,str ((inp.extract 0 ((min ((inp.size:Nat):Int) 299).toNat))++(⟨#[10]⟩:ByteArray))),(21,pf pb 2)] hA [] (cc (⟨by omega,by omega,by omega⟩:(0:Int)<=0/\(0:Int)<=min ((inp.size:Nat):Int) 299/\(min ((inp.size:Nat):Int) 299:Int)<=((inp.size:Nat):Int)) (cc ((by have hz_:(⟨#[10]⟩:ByteArray).size=1:=rfl; simp only [bsI_size,ByteArray.size_append,ByteArray.size_extract,List.length_take,List.length_nil]; omega):(inp.extract 0 ((min ((inp.size:Nat):Int) 299).toNat)).size+(⟨#[10]⟩:ByteArray).size<=9223372036854775807) c0)) fun fr hA=>?_
     rw [show ((inp.extract 0 ((min ((inp.size:Nat):Int) 299).toNat))++(⟨#[10]⟩:ByteArray))=((inp.extract 0 (min inp.size 299))++(⟨#[10]⟩:ByteArray)) from by rw [show (min ((inp.size:Nat):Int) 299).toNat=min inp.size 299 by rw [hmn3]; rfl]] at hA
     refine tree_mem ?_ ?_
     · refine (mS (off:=2) (vc:=[str ((inp.extract 0 (min inp.size 299))++(⟨#[10]⟩:ByteArray))]) 1 hA hO fun w14 hO=>?_)
       refine ⟨(hO.sub [0]),?_⟩
       refine tree_fin ?_
       refine inBlock_normal ?_
       refine then_normal ?_
       refine sr 3 ?_
       refine Ka 1 [(70,pt pb)] hA fun fr hA=>?_
       have hGm3:Holds' T (SV.ok (⟨mo,po,(inp.extract 0 (min inp.size 299))++(⟨#[10]⟩:ByteArray),pj,kj,lj,rd,wr,pv,pn,kn,ln,pp,kp,lp⟩:SV)):=(ok3 (T:=T++([])) (x:=(⟨mo,po,(inp.extract 0 (min inp.size 299))++(⟨#[10]⟩:ByteArray),pj,kj,lj,rd,wr,pv,pn,kn,ln,pp,kp,lp⟩:SV)) ((hG.mono fun _ h_=>h_.j).l) ((hG.mono fun _ h_=>h_.k).l) ((hG.mono fun _ h_=>h_.p).l)).tt
       refine wpOps_cons' (mC (d:=(some 71)) hA Tryd.func27 ((proceed_any pb mo po ((inp.extract 0 (min inp.size 299))++(⟨#[10]⟩:ByteArray)) pj kj lj rd wr pv pn kn ln pp kp lp T _ hGm3 (mself (A:=[_]) (hO.tt:Ow Tryd.prog M w _ (([(b1,35,[i64 0,i64 0,i64 0,i64 0,.slice none 0 0])]++[(pb,31,cS mo po ((inp.extract 0 (min inp.size 299))++(⟨#[10]⟩:ByteArray)) pj lj.length kj rd wr pv pn ln.length kn pp lp.length kp)])++(T++[])))) ⟨(by show ByteArray.size ((inp.extract 0 (min inp.size 299))++(⟨#[10]⟩:ByteArray))<=_; have hz_:(⟨#[10]⟩:ByteArray).size=1:=rfl; simp only [bsI_size,ByteArray.size_append,ByteArray.size_extract,List.length_take,List.length_nil]; omega),hm.j,hm.k,hm.p,hm.ck,hm.cj,hm.cp⟩ hvl (fun w_ k_=>hE w_ (Ow.pan (A:=[_]) ((hO.tt:Ow Tryd.prog M w _ (([(b1,35,[i64 0,i64 0,i64 0,i64 0,.slice none 0 0])]++[(pb,31,cS mo po ((inp.extract 0 (min inp.size 299))++(⟨#[10]⟩:ByteArray)) pj lj.length kj rd wr pv pn ln.length kn pp lp.length kp)])++(T++[]))).tt) k_))).mono ?_))
       rintro en w15 ⟨⟨mo5,po5,inp5,pj5,kj5,lj5,rd5,wr5,pv5,pn5,kn5,ln5,pp5,kp5,lp5⟩,⟨xp_5,xc_5,xd_5⟩,T3,hr3,hsm5,hvl5,rfl,hW,hG3,hvx3⟩
       refine ⟨_,rfl,?_⟩
       clear hA fr; intro fr hA
       replace hO:=mcall (A:=[(b1,35,[i64 0,i64 0,i64 0,i64 0,.slice none 0 0])]) (B:=[]) (T:=T) (Tn:=T3) (x':=(pb,31,cS mo5 po5 inp5 pj5 lj5.length kj5 rd5 wr5 pv5 pn5 ln5.length kn5 pp5 lp5.length kp5)) hO.tt hW; clear hW
       refine Ms 0 [i64 xd_5.call,i64 xd_5.a0,i64 xd_5.a1,i64 xd_5.a2,.slice xp_5 xd_5.data.length xc_5] 0 hA hO fun w16 hO=>?_
       refine end_ops ?_
       refine then_normal ?_
       refine wp_ret ?_
       refine cR (cs:=[some (⟨b1,0,none⟩,35)]) (us:=[.agg #[i64 xd_5.call,i64 xd_5.a0,i64 xd_5.a1,i64 xd_5.a2,.slice xp_5 xd_5.data.length xc_5]]) hA [.agg #[i64 xd_5.call,i64 xd_5.a0,i64 xd_5.a1,i64 xd_5.a2,.slice xp_5 xd_5.data.length xc_5]] ⟨(hO.ln 0 0 35 [i64 xd_5.call,i64 xd_5.a0,i64 xd_5.a1,i64 xd_5.a2,.slice xp_5 xd_5.data.length xc_5]),trivial⟩ ?_
       exact ⟨(⟨mo5,po5,inp5,pj5,kj5,lj5,rd5,wr5,pv5,pn5,kn5,ln5,pp5,kp5,lp5⟩:SV),⟨xp_5,xc_5,xd_5⟩,(T3++([])),((rd_nl (s:=SV.d (⟨mo,po,inp,pj,kj,lj,rd,wr,pv,pn,kn,ln,pp,kp,lp⟩:SV)) (d:=[]) (by omega) (by assumption)).trans hr3),hsm5,hvl5,rfl,(((Ow.subP (A:=[_,_]) hO (.cons _ (.cons_cons _ .slnil)))).tt),((ok3 (T:=(T++T3)++([])) (x:=(⟨mo5,po5,inp5,pj5,kj5,lj5,rd5,wr5,pv5,pn5,kn5,ln5,pp5,kp5,lp5⟩:SV)) ((hG3.mono fun _ h_=>h_.j).l) ((hG3.mono fun _ h_=>h_.k).l) ((hG3.mono fun _ h_=>h_.p).l)).tt),(hvx3).tt⟩
     exact trivial
   exact trivial
 refine tree_mem ?_ ?_
 · refine (Qc [(15,str inp)] hA [str inp] (cc (hO.l1 1 2 9 (str inp)) c0) fun fr hA=>?_)
   refine ⟨(hO.sub [0]),?_⟩
   refine Kt [9,10] [(17,i64 (min ((inp.size:Nat):Int) 299))] hA [] c0 fun fr hA=>?_
   rw [(min_lit:min ((inp.size:Nat):Int) 299=((min inp.size 299:Nat):Int))] at hA
   refine tree_mem ?_ ?_
   · refine (Qc [(11,str inp),(17,i64 ((min inp.size 299:Nat):Int))] hA [str inp] (cc (hO.l1 1 2 9 (str inp)) c0) fun fr hA=>?_)
     refine ⟨(hO.sub [0]),?_⟩
     refine Kt [11,12,13,14] [(19,str ((inp.extract 0 (min inp.size 299))++(⟨#[10]⟩:ByteArray))),(21,pf pb 2)] hA [] (cc (⟨by omega,by omega,by omega⟩:(0:Int)<=0/\(0:Int)<=((min inp.size 299:Nat):Int)/\(((min inp.size 299:Nat):Int):Int)<=((inp.size:Nat):Int)) (cc ((by have hz_:(⟨#[10]⟩:ByteArray).size=1:=rfl; simp only [bsI_size,ByteArray.size_append,ByteArray.size_extract,List.length_take,List.length_nil]; omega):(inp.extract 0 (min inp.size 299)).size+(⟨#[10]⟩:ByteArray).size<=9223372036854775807) c0)) fun fr hA=>?_
     refine tree_mem ?_ ?_
     · refine (mS (off:=2) (vc:=[str ((inp.extract 0 (min inp.size 299))++(⟨#[10]⟩:ByteArray))]) 1 hA hO fun w17 hO=>?_)
       refine ⟨(hO.sub [0]),?_⟩
       refine tree_fin ?_
       refine inBlock_normal ?_
       refine then_normal ?_
       refine sr 3 ?_
       refine Ka 1 [(70,pt pb)] hA fun fr hA=>?_
       have hGm4:Holds' T (SV.ok (⟨mo,po,(inp.extract 0 (min inp.size 299))++(⟨#[10]⟩:ByteArray),pj,kj,lj,rd,wr,pv,pn,kn,ln,pp,kp,lp⟩:SV)):=(ok3 (T:=T++([])) (x:=(⟨mo,po,(inp.extract 0 (min inp.size 299))++(⟨#[10]⟩:ByteArray),pj,kj,lj,rd,wr,pv,pn,kn,ln,pp,kp,lp⟩:SV)) ((hG.mono fun _ h_=>h_.j).l) ((hG.mono fun _ h_=>h_.k).l) ((hG.mono fun _ h_=>h_.p).l)).tt
       refine wpOps_cons' (mC (d:=(some 71)) hA Tryd.func27 ((proceed_any pb mo po ((inp.extract 0 (min inp.size 299))++(⟨#[10]⟩:ByteArray)) pj kj lj rd wr pv pn kn ln pp kp lp T _ hGm4 (mself (A:=[_]) (hO.tt:Ow Tryd.prog M w _ (([(b1,35,[i64 0,i64 0,i64 0,i64 0,.slice none 0 0])]++[(pb,31,cS mo po ((inp.extract 0 (min inp.size 299))++(⟨#[10]⟩:ByteArray)) pj lj.length kj rd wr pv pn ln.length kn pp lp.length kp)])++(T++[])))) ⟨(by show ByteArray.size ((inp.extract 0 (min inp.size 299))++(⟨#[10]⟩:ByteArray))<=_; have hz_:(⟨#[10]⟩:ByteArray).size=1:=rfl; simp only [bsI_size,ByteArray.size_append,ByteArray.size_extract,List.length_take,List.length_nil]; omega),hm.j,hm.k,hm.p,hm.ck,hm.cj,hm.cp⟩ hvl (fun w_ k_=>hE w_ (Ow.pan (A:=[_]) ((hO.tt:Ow Tryd.prog M w _ (([(b1,35,[i64 0,i64 0,i64 0,i64 0,.slice none 0 0])]++[(pb,31,cS mo po ((inp.extract 0 (min inp.size 299))++(⟨#[10]⟩:ByteArray)) pj lj.length kj rd wr pv pn ln.length kn pp lp.length kp)])++(T++[]))).tt) k_))).mono ?_))
       rintro en w18 ⟨⟨mo6,po6,inp6,pj6,kj6,lj6,rd6,wr6,pv6,pn6,kn6,ln6,pp6,kp6,lp6⟩,⟨xp_6,xc_6,xd_6⟩,T4,hr4,hsm6,hvl6,rfl,hW,hG4,hvx4⟩
       refine ⟨_,rfl,?_⟩
       clear hA fr; intro fr hA
       replace hO:=mcall (A:=[(b1,35,[i64 0,i64 0,i64 0,i64 0,.slice none 0 0])]) (B:=[]) (T:=T) (Tn:=T4) (x':=(pb,31,cS mo6 po6 inp6 pj6 lj6.length kj6 rd6 wr6 pv6 pn6 ln6.length kn6 pp6 lp6.length kp6)) hO.tt hW; clear hW
       refine Ms 0 [i64 xd_6.call,i64 xd_6.a0,i64 xd_6.a1,i64 xd_6.a2,.slice xp_6 xd_6.data.length xc_6] 0 hA hO fun w19 hO=>?_
       refine end_ops ?_
       refine then_normal ?_
       refine wp_ret ?_
       refine cR (cs:=[some (⟨b1,0,none⟩,35)]) (us:=[.agg #[i64 xd_6.call,i64 xd_6.a0,i64 xd_6.a1,i64 xd_6.a2,.slice xp_6 xd_6.data.length xc_6]]) hA [.agg #[i64 xd_6.call,i64 xd_6.a0,i64 xd_6.a1,i64 xd_6.a2,.slice xp_6 xd_6.data.length xc_6]] ⟨(hO.ln 0 0 35 [i64 xd_6.call,i64 xd_6.a0,i64 xd_6.a1,i64 xd_6.a2,.slice xp_6 xd_6.data.length xc_6]),trivial⟩ ?_
       exact ⟨(⟨mo6,po6,inp6,pj6,kj6,lj6,rd6,wr6,pv6,pn6,kn6,ln6,pp6,kp6,lp6⟩:SV),⟨xp_6,xc_6,xd_6⟩,(T4++([])),((rd_nl (s:=SV.d (⟨mo,po,inp,pj,kj,lj,rd,wr,pv,pn,kn,ln,pp,kp,lp⟩:SV)) (d:=[]) (by omega) (by assumption)).trans hr4),hsm6,hvl6,rfl,(((Ow.subP (A:=[_,_]) hO (.cons _ (.cons_cons _ .slnil)))).tt),((ok3 (T:=(T++T4)++([])) (x:=(⟨mo6,po6,inp6,pj6,kj6,lj6,rd6,wr6,pv6,pn6,kn6,ln6,pp6,kp6,lp6⟩:SV)) ((hG4.mono fun _ h_=>h_.j).l) ((hG4.mono fun _ h_=>h_.k).l) ((hG4.mono fun _ h_=>h_.p).l)).tt),(hvx4).tt⟩
     exact trivial
   exact trivial
 exact trivial
end Go.Proofs.YtdljjajjonfjbaaDoor
