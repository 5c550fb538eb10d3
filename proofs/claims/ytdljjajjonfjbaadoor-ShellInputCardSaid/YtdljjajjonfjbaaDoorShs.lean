import Derived.Test.YtdljjajjonfjbaaDoorShr
import Derived.Test.YtdljjajjonfjbaaDoorSn
set_option linter.unusedVariables false
set_option linter.unusedSimpArgs false
set_option maxRecDepth 10000
namespace Go.Proofs.YtdljjajjonfjbaaDoor
open Go Go.Shelf Go.RowKit Go.Proofs Go.Proofs.Sx
theorem optV {d:CmdL} (h:validC d=true):d.inp.size<=60/\d.out.size<=60:=by
 unfold validC at h
 simp only [Bool.and_eq_true] at h
 exact ⟨optB_size h.2.2.1,optB_size h.2.2.2.1⟩
theorem okW0 {pb:Nat} {cs:List Value} {T:OwL} {X:Nat->Prop} {w:World} {sv:SV} (hG:Holds' T sv.ok) (h0:Ow Tryd.prog X w w ((pb,31,cs)::T)):sv.ok w:=hG X w w (h0.m.less (List.sublist_cons_self _ _))
theorem forked_any (pb:Nat) (mo po:Int) (inp:ByteArray) (pj:Option Addr) (kj:Nat) (lj:List JV) (rd wr pv:Int) (pn:Option Addr) (kn:Nat) (ln:List Int) (pp:Option Addr) (kp:Nat) (lp:List PV) (T:OwL) (result:Int) (w:World) (hG:Holds' T (SV.ok (⟨mo,po,inp,pj,kj,lj,rd,wr,pv,pn,kn,ln,pp,kp,lp⟩:SV))) (h0:Ow Tryd.prog (inT ((pb,31,cS mo po inp pj lj.length kj rd wr pv pn ln.length kn pp lp.length kp)::T)) w w ((pb,31,cS mo po inp pj lj.length kj rd wr pv pn ln.length kn pp lp.length kp)::T)) (hm:SV.sm (⟨mo,po,inp,pj,kj,lj,rd,wr,pv,pn,kn,ln,pp,kp,lp⟩:SV)) (hvl:validL (lj.map JV.d)=true) (hE : ∀ w',Only (inT ((pb,31,cS mo po inp pj lj.length kj rd wr pv pn ln.length kn pp lp.length kp)::T)) w w'->ErrOk w') (hp0:lp.length=0) (hpo : 0<=po/\po < ((nCmd (lj.map JV.d):Nat):Int)) (hkn:ln.length<=1000) (hrx:result<=9223372036854775807):Calls Tryd.prog 30 #[pt pb,i64 result] w fun e w'=>∃ (v:SV) (x:PV) (Tn:OwL),forkS (SV.d (⟨mo,po,inp,pj,kj,lj,rd,wr,pv,pn,kn,ln,pp,kp,lp⟩:SV)) result=(v.d,x.d)/\v.sm/\validL (v.lj.map JV.d)=true/\e = .returned (.agg #[i64 x.d.call,i64 x.d.a0,i64 x.d.a1,i64 x.d.a2,.slice x.p x.d.data.length x.c])/\Ow Tryd.prog (inT ((pb,31,cS mo po inp pj lj.length kj rd wr pv pn ln.length kn pp lp.length kp)::T)) w w' ((pb,31,v.cells)::(T++Tn))/\Holds' (T++Tn) v.ok/\Holds' (T++Tn) (fun w=>VP w x):=by
  rcases Int.lt_trichotomy result 0 with hr | hr | hr
  · exact forked_neg pb mo po inp pj kj lj rd wr pv pn kn ln pp kp lp T result w hG h0 hm hvl hE hp0 hr
  · subst hr
    have hok:=okW0 hG h0
    cases lj with
    | nil=>exact absurd hpo (by simp only [List.map_nil,nCmd]; omega)
    | cons x rj =>
      obtain ⟨xp,xc,xl,xb⟩:=x
      obtain ⟨aj,rfl⟩:=hok.j.1.pos (Nat.zero_lt_succ _)
      obtain ⟨hxl,hxv⟩:=vl_hd hvl
      have hxl' : 1<=xl.length/\xl.length<=4:=hxl
      have hn:nCmd ((⟨xp,xc,xl,xb⟩::rj:List JV).map JV.d)=xl.length:=by show (xl.map CV.d).length=_; rw [List.length_map]
      rw [hn] at hpo
      have hxV:=hok.j.2 _ List.mem_cons_self
      obtain ⟨ax,rfl⟩:=(show ∃ ad,xp=some ad from (show Vw fC w (.slice xp xl.length xc) xl from hxV.1).pos (by omega))
      obtain ⟨i,rfl⟩ : ∃ i:Nat,po=((i:Nat):Int):=⟨po.toNat,by omega⟩
      obtain ⟨⟨yp,yc,yd⟩,hi⟩ : ∃ y,xl[i]? = some y:=⟨_,List.getElem?_eq_getElem (by omega)⟩
      have hyv:validC yd=true:=hxv _ (List.mem_of_getElem? hi)
      obtain ⟨hwl,hws⟩:=vc_words hyv
      obtain ⟨ay,rfl⟩:=(show ∃ ad,yp=some ad from (show Vw fT w (.slice yp yd.words.length yc) yd.words from hxV.2 _ (List.mem_of_getElem? hi)).pos (by omega))
      obtain ⟨z,hz⟩ : ∃ z,yd.words[0]? = some z:=⟨_,List.getElem?_eq_getElem (by omega)⟩
      exact forked_zero pb mo i inp aj kj ax xc xl xb rj rd wr pv pn kn ln pp kp lp T ay yc yd z w hG h0 hi hz (hws z (List.mem_of_getElem? hz)).2 (optV hyv).1 (optV hyv).2 (by have:=smL.len hm.j; rw [List.length_cons] at this; omega) (by omega)
  · exact forked_pos pb mo po inp pj kj lj rd wr pv pn kn ln pp kp lp T result w hG h0 hm hvl hE hp0 hr hrx ⟨hpo.1,by
      have:nCmd (lj.map JV.d)<=4:=by
        cases lj with
        | nil=>exact Nat.zero_le _
        | cons x rj=>have:=(vl_hd hvl).1.2; show (x.cmds.map CV.d).length<=4; rw [List.length_map]; exact this
      omega⟩ hkn
theorem child_any (pb:Nat) (mo po:Int) (inp:ByteArray) (pj:Option Addr) (kj:Nat) (lj:List JV) (rd wr pv:Int) (pn:Option Addr) (kn:Nat) (ln:List Int) (pp:Option Addr) (kp:Nat) (lp:List PV) (T:OwL) (result:Int) (w:World) (hG:Holds' T (SV.ok (⟨mo,po,inp,pj,kj,lj,rd,wr,pv,pn,kn,ln,pp,kp,lp⟩:SV))) (h0:Ow Tryd.prog (inT ((pb,31,cS mo po inp pj lj.length kj rd wr pv pn ln.length kn pp lp.length kp)::T)) w w ((pb,31,cS mo po inp pj lj.length kj rd wr pv pn ln.length kn pp lp.length kp)::T)) (hm:SV.sm (⟨mo,po,inp,pj,kj,lj,rd,wr,pv,pn,kn,ln,pp,kp,lp⟩:SV)) (hvl:validL (lj.map JV.d)=true) (hE : ∀ w',Only (inT ((pb,31,cS mo po inp pj lj.length kj rd wr pv pn ln.length kn pp lp.length kp)::T)) w w'->ErrOk w') (hlp : 0 < lp.length) (hlq:lp.length<=12) (hrx:result<=9223372036854775807):Calls Tryd.prog 33 #[pt pb,i64 result] w fun e w'=>∃ (v:SV) (x:PV) (Tn:OwL),childS (SV.d (⟨mo,po,inp,pj,kj,lj,rd,wr,pv,pn,kn,ln,pp,kp,lp⟩:SV)) result=(v.d,x.d)/\v.sm/\validL (v.lj.map JV.d)=true/\e = .returned (.agg #[i64 x.d.call,i64 x.d.a0,i64 x.d.a1,i64 x.d.a2,.slice x.p x.d.data.length x.c])/\Ow Tryd.prog (inT ((pb,31,cS mo po inp pj lj.length kj rd wr pv pn ln.length kn pp lp.length kp)::T)) w w' ((pb,31,v.cells)::(T++Tn))/\Holds' (T++Tn) v.ok/\Holds' (T++Tn) (fun w=>VP w x):=by
  have hok:=okW0 hG h0
  cases lp with
  | nil=>exact absurd hlp (by simp)
  | cons x rp =>
    obtain ⟨qp,qc,qd⟩:=x
    obtain ⟨ap,rfl⟩:=hok.p.1.pos (Nat.zero_lt_succ _)
    have hrp:rp.length<=100:=by rw [List.length_cons] at hlq; omega
    by_cases hn:result < 0/\¬ qd.call=10
    · exact child_neg pb mo po inp pj kj lj rd wr pv pn kn ln ap kp qp qc qd rp T result w hG h0 hm hvl hrp hn.1 hn.2
    · exact child_rest pb mo po inp pj kj lj rd wr pv pn kn ln ap kp qp qc qd rp T result w hG h0 hm hvl hrp hn hrx
theorem read_any (pb:Nat) (mo po:Int) (inp:ByteArray) (pj:Option Addr) (kj:Nat) (lj:List JV) (rd wr pv:Int) (pn:Option Addr) (kn:Nat) (ln:List Int) (pp:Option Addr) (kp:Nat) (lp:List PV) (T:OwL) (result:Int) (dp:Option Addr) (cd:Nat) (dl:List Int) (w:World) (hG:Holds' T (SV.ok (⟨mo,po,inp,pj,kj,lj,rd,wr,pv,pn,kn,ln,pp,kp,lp⟩:SV))) (h0:Ow Tryd.prog (inT ((pb,31,cS mo po inp pj lj.length kj rd wr pv pn ln.length kn pp lp.length kp)::T)) w w ((pb,31,cS mo po inp pj lj.length kj rd wr pv pn ln.length kn pp lp.length kp)::T)) (hm:SV.sm (⟨mo,po,inp,pj,kj,lj,rd,wr,pv,pn,kn,ln,pp,kp,lp⟩:SV)) (hvl:validL (lj.map JV.d)=true) (hE : ∀ w',Only (inT ((pb,31,cS mo po inp pj lj.length kj rd wr pv pn ln.length kn pp lp.length kp)::T)) w w'->ErrOk w') (hp0:lp.length=0) (hin:inp.size<=300) (hvd : ∀ w',Only (inT ((pb,31,cS mo po inp pj lj.length kj rd wr pv pn ln.length kn pp lp.length kp)::T)) w w'->Vw fB w' (.slice dp dl.length cd) dl) (hud:U8s dl) (hdl:dl.length<=1000000) (hcd:dl.length<=cd):Calls Tryd.prog 28 #[pt pb,i64 result,.slice dp dl.length cd] w fun e w'=>∃ (v:SV) (x:PV) (Tn:OwL),readS (SV.d (⟨mo,po,inp,pj,kj,lj,rd,wr,pv,pn,kn,ln,pp,kp,lp⟩:SV)) result dl=(v.d,x.d)/\v.sm/\validL (v.lj.map JV.d)=true/\e = .returned (.agg #[i64 x.d.call,i64 x.d.a0,i64 x.d.a1,i64 x.d.a2,.slice x.p x.d.data.length x.c])/\Ow Tryd.prog (inT ((pb,31,cS mo po inp pj lj.length kj rd wr pv pn ln.length kn pp lp.length kp)::T)) w w' ((pb,31,v.cells)::(T++Tn))/\Holds' (T++Tn) v.ok/\Holds' (T++Tn) (fun w=>VP w x):=by
  cases dp with
  | some ad=>exact read_some pb mo po inp pj kj lj rd wr pv pn kn ln pp kp lp T result ad cd dl w hG h0 hm hvl hE hp0 hin hvd hud hdl hcd
  | none =>
    have h:=hvd w (Only.refl _ _)
    rcases h with ⟨h,hd⟩ | ⟨ad,c,h,_⟩
    · subst hd
      cases h
      exact read_none pb mo po inp pj kj lj rd wr pv pn kn ln pp kp lp T result w hG h0 hm hvl hE hp0 hin
    · cases h
theorem del_none (r:Int) (rb:Nat) (w:World) (hr : ∀ w',Only none' w w'->Ld Tryd.prog w' ⟨rb,0,none⟩ 3 (i64 r)) (h0r : 0<=r) (hxr:r<=9223372036854775807) :
    Calls Tryd.prog 31 #[.slice none 0 0,.func (.func 32) #[] #[pt rb]] w fun e w'=>e = .returned (.slice none 0 0)/\Only none' w w':=by
 refine c_enter (args:=[.slice none 0 0,.func (.func 32) #[] #[pt rb]]) (m:=40) (n:=42) Tryd.func31 rfl (by kernel_rfl) (by kernel_rfl) fun fr hA=>?_
 have hO:=Ow.nil Tryd.prog none' w
 have hfalse_ : ∀ (k:Nat) (v:Int),([]:List Int)[k]? = some v->False:=fun k v h=>by simp at h
 refine Sa [(4,.slice none 0 0)] hA fun fr hA=>?_
 refine sr 4 ?_
 refine Ka 2 [(8,.slice none 0 0),(9,.func (.func 32) #[] #[pt rb])] hA fun fr hA=>?_
 refine wpOps_cons' (mC (d:=(some 10)) hA Tryd.func47 ((ixi_any none 0 [] _ (.inl ⟨rfl,rfl⟩) (Nat.zero_le _) r rb (fun w_ k_=>hr w_ (hO.only.step k_ (fun _ _ h_=>h_.elim))) h0r hxr).mono ?_))
 rintro en w1 ⟨(⟨rfl,hnone⟩ | ⟨k,v0,rfl,hk0,hkn,hkp⟩),ho⟩
 · refine ⟨_,rfl,?_⟩
   clear hA fr; intro fr hA
   replace hO:=hO.st ho; clear ho
   refine Ka 1 [(5,i64 (-1))] hA fun fr hA=>?_
   refine end_ops ?_
   refine then_normal ?_
   refine wp_seq ?_
   refine Sa [(12,bl true)] hA fun fr hA=>?_
   refine cT hA ?_
   refine Sa [] hA fun fr hA=>?_
   refine wp_ret ?_
   refine then_ret ?_
   refine cv [.slice none 0 0] hA ?_
   have hF:=hO.only; clear hA hO
   exact ⟨rfl,hF⟩
 exact (hfalse_ _ _ hk0).elim
theorem del_all (p:Option Addr) (c:Nat) (l:List Int) (T:OwL) (r:Int) (rb:Nat) (w:World) (h1:One fN 3 1 p c l T) (h0:Ow Tryd.prog (inT T) w w T) (hm:l.length<=1000000) (hr : ∀ w',Only (inT T) w w'->Ld Tryd.prog w' ⟨rb,0,none⟩ 3 (i64 r)) (h0r : 0<=r) (hxr:r<=9223372036854775807) :
    Calls Tryd.prog 31 #[.slice p l.length c,.func (.func 32) #[] #[pt rb]] w fun e w'=>∃ T',e = .returned (.slice p (l.filter (neT r)).length c)/\One fN 3 1 p c (l.filter (neT r)) T'/\Ow Tryd.prog (inT T) w w' T':=by
  cases p with
  | some ad=>exact del_any ad c l T r rb w h1 h0 hm hr h0r hxr
  | none =>
    rcases h1 with ⟨_,rfl,rfl,rfl⟩ | ⟨b,q,h,_⟩
    · exact (del_none r rb w (fun w' k=>hr w' (k.mono fun _ _ h=>h.elim)) h0r hxr).mono fun e w' h=>⟨[],h.1,One.nil _ _ _,h0.st h.2⟩
    · cases h
section
variable {s:StL} {r:Int} {d:List Int}
theorem st_0 (h:s.mode=0):stepS s r d=procS s:=by unfold stepS; rw [if_pos h]
theorem st_1 (h:s.mode=1):stepS s r d=readS s r d:=by unfold stepS; rw [if_neg (by omega),if_pos h]
theorem st_2 (h:s.mode=2):stepS s r d=procS {s with plan:=s.plan.tail}:=by unfold stepS; rw [if_neg (by omega),if_neg (by omega),if_pos h]
theorem st_3n (h:s.mode=3) (hr:r < 0):stepS s r d=upS s:=by unfold stepS; rw [if_neg (by omega),if_neg (by omega),if_neg (by omega),if_pos h,if_pos hr]
theorem st_3 (h:s.mode=3) (hr : ¬ r < 0):stepS s r d=({s with rd:=r / 256 % 8,wr:=r % 256 % 8,mode:=4},callL 1 0 0):=by unfold stepS; rw [if_neg (by omega),if_neg (by omega),if_neg (by omega),if_pos h,if_neg hr]
theorem st_4 (h:s.mode=4):stepS s r d=forkS s r:=by unfold stepS; rw [if_neg (by omega),if_neg (by omega),if_neg (by omega),if_neg (by omega),if_pos h]
theorem st_5n (h:s.mode=5) (hr:r < 0):stepS s r d=procS {s with kids:=[]}:=by unfold stepS; rw [if_neg (by omega),if_neg (by omega),if_neg (by omega),if_neg (by omega),if_neg (by omega),if_pos h,if_pos hr]
theorem st_5 (h:s.mode=5) (hr : ¬ r < 0):stepS s r d=procS {s with kids:=s.kids.filter (neT r)}:=by unfold stepS; rw [if_neg (by omega),if_neg (by omega),if_neg (by omega),if_neg (by omega),if_neg (by omega),if_pos h,if_neg hr]; rfl
theorem st_6 (h:s.mode=6):stepS s r d=childS s r:=by unfold stepS; rw [if_neg (by omega),if_neg (by omega),if_neg (by omega),if_neg (by omega),if_neg (by omega),if_neg (by omega),if_pos h]
theorem st_7 (h:s.mode=7):stepS s r d=(s,callL 0 255 0):=by unfold stepS; rw [if_neg (by omega),if_neg (by omega),if_neg (by omega),if_neg (by omega),if_neg (by omega),if_neg (by omega),if_neg (by omega)]
end
theorem step_0 (pb:Nat) (mo po:Int) (inp:ByteArray) (pj:Option Addr) (kj:Nat) (lj:List JV) (rd wr pv:Int) (pn:Option Addr) (kn:Nat) (ln:List Int) (pp:Option Addr) (kp:Nat) (lp:List PV) (T:OwL) (result:Int) (dp:Option Addr) (cd:Nat) (dl:List Int) (w:World) (hG:Holds' T (SV.ok (⟨mo,po,inp,pj,kj,lj,rd,wr,pv,pn,kn,ln,pp,kp,lp⟩:SV))) (h0:Ow Tryd.prog (inT ((pb,31,cS mo po inp pj lj.length kj rd wr pv pn ln.length kn pp lp.length kp)::T)) w w ((pb,31,cS mo po inp pj lj.length kj rd wr pv pn ln.length kn pp lp.length kp)::T)) (hm:SV.sm (⟨mo,po,inp,pj,kj,lj,rd,wr,pv,pn,kn,ln,pp,kp,lp⟩:SV)) (hvl:validL (lj.map JV.d)=true) (hE : ∀ w',Only (inT ((pb,31,cS mo po inp pj lj.length kj rd wr pv pn ln.length kn pp lp.length kp)::T)) w w'->ErrOk w') (hmo:mo=0) (hrn : -9223372036854775808<=result) (hrx:result<=9223372036854775807)  :
    Calls Tryd.prog 14 #[pt pb,i64 result,.slice dp dl.length cd] w fun e w'=>∃ (v:SV) (x:PV) (Tn:OwL),stepS (SV.d (⟨mo,po,inp,pj,kj,lj,rd,wr,pv,pn,kn,ln,pp,kp,lp⟩:SV)) result dl=(v.d,x.d)/\v.sm/\validL (v.lj.map JV.d)=true/\e = .returned (.agg #[i64 x.d.call,i64 x.d.a0,i64 x.d.a1,i64 x.d.a2,.slice x.p x.d.data.length x.c])/\Ow Tryd.prog (inT ((pb,31,cS mo po inp pj lj.length kj rd wr pv pn ln.length kn pp lp.length kp)::T)) w w' ((pb,31,v.cells)::(T++Tn))/\Holds' (T++Tn) v.ok/\Holds' (T++Tn) (fun w=>VP w x):=by
 refine c_enter (args:=[pt pb,i64 result,.slice dp dl.length cd]) (m:=83) (n:=86) Tryd.func14 rfl (by kernel_rfl) (by kernel_rfl) fun fr hA=>?_
 generalize inT ((pb,31,cS mo po inp pj lj.length kj rd wr pv pn ln.length kn pp lp.length kp)::T)=M at *
 have hO:Ow Tryd.prog M w w ([(pb,31,(cS mo po inp pj lj.length kj rd wr pv pn ln.length kn pp lp.length kp))]++(T++([]))):=h0.to (by first | rfl | first | rfl | (simp only [TP,apd]))
 refine sr 2 ?_
 refine Mn [i64 result] 3 4 hA hO fun fr w1 b1 hA hO=>?_
 refine Mn [i64 0,i64 0,i64 0,i64 0,.slice none 0 0] 35 6 hA hO fun fr w2 b2 hA hO=>?_
 refine end_ops ?_
 refine then_normal ?_
 refine wp_seq ?_
 refine Sb [(10,i64 mo)] hA [i64 mo] (cc (hO.l1 2 0 3 (i64 mo)) c0) fun fr hA=>?_
 refine wp_block ?_
 refine Sa [(11,bl (mo == 0))] hA fun fr hA=>?_
 rw [((by rw [hmo]; rfl):(mo == 0)=true)] at hA
 refine cT hA ?_
 refine sr 3 ?_
 refine Ka 1 [(13,pt pb)] hA fun fr hA=>?_
 have hGm1:Holds' T (SV.ok (⟨mo,po,inp,pj,kj,lj,rd,wr,pv,pn,kn,ln,pp,kp,lp⟩:SV)):=(ok3 (T:=T++([])) (x:=(⟨mo,po,inp,pj,kj,lj,rd,wr,pv,pn,kn,ln,pp,kp,lp⟩:SV)) ((hG.mono fun _ h_=>h_.j).l) ((hG.mono fun _ h_=>h_.k).l) ((hG.mono fun _ h_=>h_.p).l)).tt
 refine wpOps_cons' (mC (d:=(some 14)) hA Tryd.func27 ((proceed_any pb mo po inp pj kj lj rd wr pv pn kn ln pp kp lp T _ hGm1 (mself (A:=[_,_]) (hO.tt:Ow Tryd.prog M w _ (([(b2,35,[i64 0,i64 0,i64 0,i64 0,.slice none 0 0]),(b1,3,[i64 result])]++[(pb,31,cS mo po inp pj lj.length kj rd wr pv pn ln.length kn pp lp.length kp)])++(T++[])))) hm hvl (fun w_ k_=>hE w_ (Ow.pan (A:=[_,_]) ((hO.tt:Ow Tryd.prog M w _ (([(b2,35,[i64 0,i64 0,i64 0,i64 0,.slice none 0 0]),(b1,3,[i64 result])]++[(pb,31,cS mo po inp pj lj.length kj rd wr pv pn ln.length kn pp lp.length kp)])++(T++[]))).tt) k_))).mono ?_))
 rintro en w3 ⟨⟨mo3,po3,inp3,pj3,kj3,lj3,rd3,wr3,pv3,pn3,kn3,ln3,pp3,kp3,lp3⟩,⟨xp_3,xc_3,xd_3⟩,T1,hr1,hsm3,hvl3,rfl,hW,hG1,hvx1⟩
 refine ⟨_,rfl,?_⟩
 clear hA fr; intro fr hA
 replace hO:=mcall (A:=[(b2,35,[i64 0,i64 0,i64 0,i64 0,.slice none 0 0]),(b1,3,[i64 result])]) (B:=[]) (T:=T) (Tn:=T1) (x':=(pb,31,cS mo3 po3 inp3 pj3 lj3.length kj3 rd3 wr3 pv3 pn3 ln3.length kn3 pp3 lp3.length kp3)) hO.tt hW; clear hW
 refine Ms 0 [i64 xd_3.call,i64 xd_3.a0,i64 xd_3.a1,i64 xd_3.a2,.slice xp_3 xd_3.data.length xc_3] 0 hA hO fun w4 hO=>?_
 refine end_ops ?_
 refine then_normal ?_
 refine wp_ret ?_
 refine inBlock_ret ?_
 refine then_ret ?_
 refine cR (cs:=[some (⟨b2,0,none⟩,35)]) (us:=[.agg #[i64 xd_3.call,i64 xd_3.a0,i64 xd_3.a1,i64 xd_3.a2,.slice xp_3 xd_3.data.length xc_3]]) hA [.agg #[i64 xd_3.call,i64 xd_3.a0,i64 xd_3.a1,i64 xd_3.a2,.slice xp_3 xd_3.data.length xc_3]] ⟨(hO.ln 0 0 35 [i64 xd_3.call,i64 xd_3.a0,i64 xd_3.a1,i64 xd_3.a2,.slice xp_3 xd_3.data.length xc_3]),trivial⟩ ?_
 exact ⟨(⟨mo3,po3,inp3,pj3,kj3,lj3,rd3,wr3,pv3,pn3,kn3,ln3,pp3,kp3,lp3⟩:SV),⟨xp_3,xc_3,xd_3⟩,(T1++([])),((st_0 (s:=SV.d (⟨mo,po,inp,pj,kj,lj,rd,wr,pv,pn,kn,ln,pp,kp,lp⟩:SV)) hmo).trans hr1),hsm3,hvl3,rfl,(((Ow.subP (A:=[_,_,_]) hO (.cons _ (.cons _ (.cons_cons _ .slnil))))).tt),((ok3 (T:=(T++T1)++([])) (x:=(⟨mo3,po3,inp3,pj3,kj3,lj3,rd3,wr3,pv3,pn3,kn3,ln3,pp3,kp3,lp3⟩:SV)) ((hG1.mono fun _ h_=>h_.j).l) ((hG1.mono fun _ h_=>h_.k).l) ((hG1.mono fun _ h_=>h_.p).l)).tt),(hvx1).tt⟩
theorem step_1 (pb:Nat) (mo po:Int) (inp:ByteArray) (pj:Option Addr) (kj:Nat) (lj:List JV) (rd wr pv:Int) (pn:Option Addr) (kn:Nat) (ln:List Int) (pp:Option Addr) (kp:Nat) (lp:List PV) (T:OwL) (result:Int) (dp:Option Addr) (cd:Nat) (dl:List Int) (w:World) (hG:Holds' T (SV.ok (⟨mo,po,inp,pj,kj,lj,rd,wr,pv,pn,kn,ln,pp,kp,lp⟩:SV))) (h0:Ow Tryd.prog (inT ((pb,31,cS mo po inp pj lj.length kj rd wr pv pn ln.length kn pp lp.length kp)::T)) w w ((pb,31,cS mo po inp pj lj.length kj rd wr pv pn ln.length kn pp lp.length kp)::T)) (hm:SV.sm (⟨mo,po,inp,pj,kj,lj,rd,wr,pv,pn,kn,ln,pp,kp,lp⟩:SV)) (hvl:validL (lj.map JV.d)=true) (hE : ∀ w',Only (inT ((pb,31,cS mo po inp pj lj.length kj rd wr pv pn ln.length kn pp lp.length kp)::T)) w w'->ErrOk w') (hmo:mo=1) (hrn : -9223372036854775808<=result) (hrx:result<=9223372036854775807) (hp0:lp.length=0) (hin:inp.size<=300) (hvd : ∀ w',Only (inT ((pb,31,cS mo po inp pj lj.length kj rd wr pv pn ln.length kn pp lp.length kp)::T)) w w'->Vw fB w' (.slice dp dl.length cd) dl) (hud:U8s dl) (hdl:dl.length<=1000000) (hcd:dl.length<=cd) :
    Calls Tryd.prog 14 #[pt pb,i64 result,.slice dp dl.length cd] w fun e w'=>∃ (v:SV) (x:PV) (Tn:OwL),stepS (SV.d (⟨mo,po,inp,pj,kj,lj,rd,wr,pv,pn,kn,ln,pp,kp,lp⟩:SV)) result dl=(v.d,x.d)/\v.sm/\validL (v.lj.map JV.d)=true/\e = .returned (.agg #[i64 x.d.call,i64 x.d.a0,i64 x.d.a1,i64 x.d.a2,.slice x.p x.d.data.length x.c])/\Ow Tryd.prog (inT ((pb,31,cS mo po inp pj lj.length kj rd wr pv pn ln.length kn pp lp.length kp)::T)) w w' ((pb,31,v.cells)::(T++Tn))/\Holds' (T++Tn) v.ok/\Holds' (T++Tn) (fun w=>VP w x):=by
 refine c_enter (args:=[pt pb,i64 result,.slice dp dl.length cd]) (m:=83) (n:=86) Tryd.func14 rfl (by kernel_rfl) (by kernel_rfl) fun fr hA=>?_
 generalize inT ((pb,31,cS mo po inp pj lj.length kj rd wr pv pn ln.length kn pp lp.length kp)::T)=M at *
 have hO:Ow Tryd.prog M w w ([(pb,31,(cS mo po inp pj lj.length kj rd wr pv pn ln.length kn pp lp.length kp))]++(T++([]))):=h0.to (by first | rfl | first | rfl | (simp only [TP,apd]))
 refine sr 2 ?_
 refine Mn [i64 result] 3 4 hA hO fun fr w1 b1 hA hO=>?_
 refine Mn [i64 0,i64 0,i64 0,i64 0,.slice none 0 0] 35 6 hA hO fun fr w2 b2 hA hO=>?_
 refine end_ops ?_
 refine then_normal ?_
 refine wp_seq ?_
 refine Sb [(10,i64 mo)] hA [i64 mo] (cc (hO.l1 2 0 3 (i64 mo)) c0) fun fr hA=>?_
 refine wp_block ?_
 refine Sa [(11,bl (mo == 0))] hA fun fr hA=>?_
 rw [((by rw [hmo]; rfl):(mo == 0)=false)] at hA
 refine cF hA ?_
 refine Sa [(15,bl (mo == 1))] hA fun fr hA=>?_
 rw [((by rw [hmo]; rfl):(mo == 1)=true)] at hA
 refine cT hA ?_
 refine sr 5 ?_
 refine Kb 3 [(17,pt pb),(18,i64 result),(19,.slice dp dl.length cd)] hA [i64 result] (cc (hO.l1 1 0 3 (i64 result)) c0) fun fr hA=>?_
 have hGm1:Holds' T (SV.ok (⟨mo,po,inp,pj,kj,lj,rd,wr,pv,pn,kn,ln,pp,kp,lp⟩:SV)):=(ok3 (T:=T++([])) (x:=(⟨mo,po,inp,pj,kj,lj,rd,wr,pv,pn,kn,ln,pp,kp,lp⟩:SV)) ((hG.mono fun _ h_=>h_.j).l) ((hG.mono fun _ h_=>h_.k).l) ((hG.mono fun _ h_=>h_.p).l)).tt
 refine wpOps_cons' (mC (d:=(some 20)) hA Tryd.func28 ((read_any pb mo po inp pj kj lj rd wr pv pn kn ln pp kp lp T result dp cd dl _ hGm1 (mself (A:=[_,_]) (hO.tt:Ow Tryd.prog M w _ (([(b2,35,[i64 0,i64 0,i64 0,i64 0,.slice none 0 0]),(b1,3,[i64 result])]++[(pb,31,cS mo po inp pj lj.length kj rd wr pv pn ln.length kn pp lp.length kp)])++(T++[])))) hm hvl (fun w_ k_=>hE w_ (Ow.pan (A:=[_,_]) ((hO.tt:Ow Tryd.prog M w _ (([(b2,35,[i64 0,i64 0,i64 0,i64 0,.slice none 0 0]),(b1,3,[i64 result])]++[(pb,31,cS mo po inp pj lj.length kj rd wr pv pn ln.length kn pp lp.length kp)])++(T++[]))).tt) k_)) hp0 hin (fun w_ k_=>hvd w_ (Ow.pan (A:=[_,_]) ((hO.tt:Ow Tryd.prog M w _ (([(b2,35,[i64 0,i64 0,i64 0,i64 0,.slice none 0 0]),(b1,3,[i64 result])]++[(pb,31,cS mo po inp pj lj.length kj rd wr pv pn ln.length kn pp lp.length kp)])++(T++[]))).tt) k_)) hud hdl hcd).mono ?_))
 rintro en w3 ⟨⟨mo3,po3,inp3,pj3,kj3,lj3,rd3,wr3,pv3,pn3,kn3,ln3,pp3,kp3,lp3⟩,⟨xp_3,xc_3,xd_3⟩,T1,hr1,hsm3,hvl3,rfl,hW,hG1,hvx1⟩
 refine ⟨_,rfl,?_⟩
 clear hA fr; intro fr hA
 replace hO:=mcall (A:=[(b2,35,[i64 0,i64 0,i64 0,i64 0,.slice none 0 0]),(b1,3,[i64 result])]) (B:=[]) (T:=T) (Tn:=T1) (x':=(pb,31,cS mo3 po3 inp3 pj3 lj3.length kj3 rd3 wr3 pv3 pn3 ln3.length kn3 pp3 lp3.length kp3)) hO.tt hW; clear hW
 refine Ms 0 [i64 xd_3.call,i64 xd_3.a0,i64 xd_3.a1,i64 xd_3.a2,.slice xp_3 xd_3.data.length xc_3] 0 hA hO fun w4 hO=>?_
 refine end_ops ?_
 refine then_normal ?_
 refine wp_ret ?_
 refine inBlock_ret ?_
 refine then_ret ?_
 refine cR (cs:=[some (⟨b2,0,none⟩,35)]) (us:=[.agg #[i64 xd_3.call,i64 xd_3.a0,i64 xd_3.a1,i64 xd_3.a2,.slice xp_3 xd_3.data.length xc_3]]) hA [.agg #[i64 xd_3.call,i64 xd_3.a0,i64 xd_3.a1,i64 xd_3.a2,.slice xp_3 xd_3.data.length xc_3]] ⟨(hO.ln 0 0 35 [i64 xd_3.call,i64 xd_3.a0,i64 xd_3.a1,i64 xd_3.a2,.slice xp_3 xd_3.data.length xc_3]),trivial⟩ ?_
 exact ⟨(⟨mo3,po3,inp3,pj3,kj3,lj3,rd3,wr3,pv3,pn3,kn3,ln3,pp3,kp3,lp3⟩:SV),⟨xp_3,xc_3,xd_3⟩,(T1++([])),((st_1 (s:=SV.d (⟨mo,po,inp,pj,kj,lj,rd,wr,pv,pn,kn,ln,pp,kp,lp⟩:SV)) hmo).trans hr1),hsm3,hvl3,rfl,(((Ow.subP (A:=[_,_,_]) hO (.cons _ (.cons _ (.cons_cons _ .slnil))))).tt),((ok3 (T:=(T++T1)++([])) (x:=(⟨mo3,po3,inp3,pj3,kj3,lj3,rd3,wr3,pv3,pn3,kn3,ln3,pp3,kp3,lp3⟩:SV)) ((hG1.mono fun _ h_=>h_.j).l) ((hG1.mono fun _ h_=>h_.k).l) ((hG1.mono fun _ h_=>h_.p).l)).tt),(hvx1).tt⟩
theorem step_2c (pb:Nat) (mo po:Int) (inp:ByteArray) (pj:Option Addr) (kj:Nat) (lj:List JV) (rd wr pv:Int) (pn:Option Addr) (kn:Nat) (ln:List Int) (ap:Addr) (kp:Nat) (qp:Option Addr) (qc:Nat) (qd:CallL) (rp:List PV) (T:OwL) (result:Int) (dp:Option Addr) (cd:Nat) (dl:List Int) (w:World) (hG:Holds' T (SV.ok (⟨mo,po,inp,pj,kj,lj,rd,wr,pv,pn,kn,ln,some ap,kp,((⟨qp,qc,qd⟩:PV)::rp)⟩:SV))) (h0:Ow Tryd.prog (inT ((pb,31,cS mo po inp pj lj.length kj rd wr pv pn ln.length kn (some ap) (((⟨qp,qc,qd⟩:PV)::rp).length) kp)::T)) w w ((pb,31,cS mo po inp pj lj.length kj rd wr pv pn ln.length kn (some ap) (((⟨qp,qc,qd⟩:PV)::rp).length) kp)::T)) (hm:SV.sm (⟨mo,po,inp,pj,kj,lj,rd,wr,pv,pn,kn,ln,some ap,kp,((⟨qp,qc,qd⟩:PV)::rp)⟩:SV)) (hvl:validL (lj.map JV.d)=true) (hE : ∀ w',Only (inT ((pb,31,cS mo po inp pj lj.length kj rd wr pv pn ln.length kn (some ap) (((⟨qp,qc,qd⟩:PV)::rp).length) kp)::T)) w w'->ErrOk w') (hmo:mo=2) (hrn : -9223372036854775808<=result) (hrx:result<=9223372036854775807) (hrp:rp.length<=12) :
    Calls Tryd.prog 14 #[pt pb,i64 result,.slice dp dl.length cd] w fun e w'=>∃ (v:SV) (x:PV) (Tn:OwL),stepS (SV.d (⟨mo,po,inp,pj,kj,lj,rd,wr,pv,pn,kn,ln,some ap,kp,((⟨qp,qc,qd⟩:PV)::rp)⟩:SV)) result dl=(v.d,x.d)/\v.sm/\validL (v.lj.map JV.d)=true/\e = .returned (.agg #[i64 x.d.call,i64 x.d.a0,i64 x.d.a1,i64 x.d.a2,.slice x.p x.d.data.length x.c])/\Ow Tryd.prog (inT ((pb,31,cS mo po inp pj lj.length kj rd wr pv pn ln.length kn (some ap) (((⟨qp,qc,qd⟩:PV)::rp).length) kp)::T)) w w' ((pb,31,v.cells)::(T++Tn))/\Holds' (T++Tn) v.ok/\Holds' (T++Tn) (fun w=>VP w x):=by
 refine c_enter (args:=[pt pb,i64 result,.slice dp dl.length cd]) (m:=83) (n:=86) Tryd.func14 rfl (by kernel_rfl) (by kernel_rfl) fun fr hA=>?_
 generalize inT ((pb,31,cS mo po inp pj lj.length kj rd wr pv pn ln.length kn (some ap) (((⟨qp,qc,qd⟩:PV)::rp).length) kp)::T)=M at *
 have hO:Ow Tryd.prog M w w ([(pb,31,(cS mo po inp pj lj.length kj rd wr pv pn ln.length kn (some ap) (((⟨qp,qc,qd⟩:PV)::rp).length) kp))]++(T++([]))):=h0.to (by first | rfl | first | rfl | (simp only [TP,apd]))
 have hlq_ : 0 < ((⟨qp,qc,qd⟩:PV)::rp).length:=Nat.zero_lt_succ _
 have hlr_:((⟨qp,qc,qd⟩:PV)::rp).length=rp.length+1:=rfl
 have hcp_:((⟨qp,qc,qd⟩:PV)::rp).length<=kp:=hm.cp
 refine sr 2 ?_
 refine Mn [i64 result] 3 4 hA hO fun fr w1 b1 hA hO=>?_
 refine Mn [i64 0,i64 0,i64 0,i64 0,.slice none 0 0] 35 6 hA hO fun fr w2 b2 hA hO=>?_
 refine end_ops ?_
 refine then_normal ?_
 refine wp_seq ?_
 refine Sb [(10,i64 mo)] hA [i64 mo] (cc (hO.l1 2 0 3 (i64 mo)) c0) fun fr hA=>?_
 refine wp_block ?_
 refine Sa [(11,bl (mo == 0))] hA fun fr hA=>?_
 rw [((by rw [hmo]; rfl):(mo == 0)=false)] at hA
 refine cF hA ?_
 refine Sa [(15,bl (mo == 1))] hA fun fr hA=>?_
 rw [((by rw [hmo]; rfl):(mo == 1)=false)] at hA
 refine cF hA ?_
 refine Sa [(21,bl (mo == 2))] hA fun fr hA=>?_
 rw [((by rw [hmo]; rfl):(mo == 2)=true)] at hA
 refine cT hA ?_
 rcases Nat.lt_or_ge 1 kp with hk1 | hk1
 · refine sr 9 ?_
   refine Kb 8 [(28,.slice (some (atIx (ap:Addr) 5 1)) ((((⟨qp,qc,qd⟩:PV)::rp).length) - (1)) ((kp) - (1))),(30,pf pb 8)] hA [.slice (some ap) (((⟨qp,qc,qd⟩:PV)::rp).length) kp,bl true] (cc (hO.l1 2 8 29 (.slice (some ap) (((⟨qp,qc,qd⟩:PV)::rp).length) kp)) (cc (⟨by omega,by omega,by omega,by omega,by omega⟩:(0:Int)<=1/\(1:Int)<=((((⟨qp,qc,qd⟩:PV)::rp).length:Nat):Int)/\((((⟨qp,qc,qd⟩:PV)::rp).length:Nat):Int)<=((kp:Nat):Int)/\((kp:Nat):Int)<=((kp:Nat):Int)/\(1:Int) < ((kp:Nat):Int)) c0)) fun fr hA=>?_
   rw [show atIx ap 5 1=((ap.add 5):Addr) from atIx_five _] at hA
   rw [show ((((⟨qp,qc,qd⟩:PV)::rp).length) - (1))=rp.length from rfl] at hA
   rw [show ((kp) - (1))=(kp - 1) from rfl] at hA
   refine Ms 8 [.slice (some (ap.add 5)) rp.length (kp - 1)] 2 hA hO fun w3 hO=>?_
   refine end_ops ?_
   refine then_normal ?_
   refine sr 3 ?_
   refine Ka 1 [(31,pt pb)] hA fun fr hA=>?_
   have hGm1:Holds' T (SV.ok (⟨mo,po,inp,pj,kj,lj,rd,wr,pv,pn,kn,ln,some (ap.add 5),(kp - 1),rp⟩:SV)):=(ok3 (T:=T++([])) (x:=(⟨mo,po,inp,pj,kj,lj,rd,wr,pv,pn,kn,ln,some (ap.add 5),(kp - 1),rp⟩:SV)) ((hG.mono fun _ h_=>h_.j).l) ((hG.mono fun _ h_=>h_.k).l) (show Holds' (T++([])) (fun w_=>PL w_ (.slice (some (ap.add 5)) rp.length (kp - 1)) rp) from ((hG.mono fun _ h_=>h_.p).l).mono fun _ h_=>pl_tail h_)).tt
   refine wpOps_cons' (mC (d:=(some 32)) hA Tryd.func27 ((proceed_any pb mo po inp pj kj lj rd wr pv pn kn ln (some (ap.add 5)) (kp - 1) rp T _ hGm1 (mself (A:=[_,_]) (hO.tt:Ow Tryd.prog M w _ (([(b2,35,[i64 0,i64 0,i64 0,i64 0,.slice none 0 0]),(b1,3,[i64 result])]++[(pb,31,cS mo po inp pj lj.length kj rd wr pv pn ln.length kn (some (ap.add 5)) rp.length (kp - 1))])++(T++[])))) ⟨hm.i,hm.j,hm.k,(by show rp.length<=_; omega),hm.ck,hm.cj,(by show rp.length<=kp - 1; omega)⟩ hvl (fun w_ k_=>hE w_ (Ow.pan (A:=[_,_]) ((hO.tt:Ow Tryd.prog M w _ (([(b2,35,[i64 0,i64 0,i64 0,i64 0,.slice none 0 0]),(b1,3,[i64 result])]++[(pb,31,cS mo po inp pj lj.length kj rd wr pv pn ln.length kn (some (ap.add 5)) rp.length (kp - 1))])++(T++[]))).tt) k_))).mono ?_))
   rintro en w4 ⟨⟨mo3,po3,inp3,pj3,kj3,lj3,rd3,wr3,pv3,pn3,kn3,ln3,pp3,kp3,lp3⟩,⟨xp_3,xc_3,xd_3⟩,T1,hr1,hsm3,hvl3,rfl,hW,hG1,hvx1⟩
   refine ⟨_,rfl,?_⟩
   clear hA fr; intro fr hA
   replace hO:=mcall (A:=[(b2,35,[i64 0,i64 0,i64 0,i64 0,.slice none 0 0]),(b1,3,[i64 result])]) (B:=[]) (T:=T) (Tn:=T1) (x':=(pb,31,cS mo3 po3 inp3 pj3 lj3.length kj3 rd3 wr3 pv3 pn3 ln3.length kn3 pp3 lp3.length kp3)) hO.tt hW; clear hW
   refine Ms 0 [i64 xd_3.call,i64 xd_3.a0,i64 xd_3.a1,i64 xd_3.a2,.slice xp_3 xd_3.data.length xc_3] 0 hA hO fun w5 hO=>?_
   refine end_ops ?_
   refine then_normal ?_
   refine wp_ret ?_
   refine inBlock_ret ?_
   refine then_ret ?_
   refine cR (cs:=[some (⟨b2,0,none⟩,35)]) (us:=[.agg #[i64 xd_3.call,i64 xd_3.a0,i64 xd_3.a1,i64 xd_3.a2,.slice xp_3 xd_3.data.length xc_3]]) hA [.agg #[i64 xd_3.call,i64 xd_3.a0,i64 xd_3.a1,i64 xd_3.a2,.slice xp_3 xd_3.data.length xc_3]] ⟨(hO.ln 0 0 35 [i64 xd_3.call,i64 xd_3.a0,i64 xd_3.a1,i64 xd_3.a2,.slice xp_3 xd_3.data.length xc_3]),trivial⟩ ?_
   exact ⟨(⟨mo3,po3,inp3,pj3,kj3,lj3,rd3,wr3,pv3,pn3,kn3,ln3,pp3,kp3,lp3⟩:SV),⟨xp_3,xc_3,xd_3⟩,(T1++([])),((st_2 (s:=SV.d (⟨mo,po,inp,pj,kj,lj,rd,wr,pv,pn,kn,ln,some ap,kp,((⟨qp,qc,qd⟩:PV)::rp)⟩:SV)) hmo).trans hr1),hsm3,hvl3,rfl,(((Ow.subP (A:=[_,_,_]) hO (.cons _ (.cons _ (.cons_cons _ .slnil))))).tt),((ok3 (T:=(T++T1)++([])) (x:=(⟨mo3,po3,inp3,pj3,kj3,lj3,rd3,wr3,pv3,pn3,kn3,ln3,pp3,kp3,lp3⟩:SV)) ((hG1.mono fun _ h_=>h_.j).l) ((hG1.mono fun _ h_=>h_.k).l) ((hG1.mono fun _ h_=>h_.p).l)).tt),(hvx1).tt⟩
 have hrq0:rp.length=0:=by omega
 refine sr 9 ?_
 refine Kb 8 [(28,.slice (some ap) ((((⟨qp,qc,qd⟩:PV)::rp).length) - (1)) ((kp) - (1))),(30,pf pb 8)] hA [.slice (some ap) (((⟨qp,qc,qd⟩:PV)::rp).length) kp,bl false] (cc (hO.l1 2 8 29 (.slice (some ap) (((⟨qp,qc,qd⟩:PV)::rp).length) kp)) (cc (⟨by omega,by omega,by omega,by omega,by omega⟩:(0:Int)<=1/\(1:Int)<=((((⟨qp,qc,qd⟩:PV)::rp).length:Nat):Int)/\((((⟨qp,qc,qd⟩:PV)::rp).length:Nat):Int)<=((kp:Nat):Int)/\((kp:Nat):Int)<=((kp:Nat):Int)/\((1:Int)=((kp:Nat):Int)\/(1:Int)=0)) c0)) fun fr hA=>?_
 rw [show ((((⟨qp,qc,qd⟩:PV)::rp).length) - (1))=rp.length from rfl] at hA
 rw [show ((kp) - (1))=(kp - 1) from rfl] at hA
 refine Ms 8 [.slice (some ap) rp.length (kp - 1)] 2 hA hO fun w6 hO=>?_
 refine end_ops ?_
 refine then_normal ?_
 refine sr 3 ?_
 refine Ka 1 [(31,pt pb)] hA fun fr hA=>?_
 have hGm2:Holds' T (SV.ok (⟨mo,po,inp,pj,kj,lj,rd,wr,pv,pn,kn,ln,some ap,(kp - 1),rp⟩:SV)):=(ok3 (T:=T++([])) (x:=(⟨mo,po,inp,pj,kj,lj,rd,wr,pv,pn,kn,ln,some ap,(kp - 1),rp⟩:SV)) ((hG.mono fun _ h_=>h_.j).l) ((hG.mono fun _ h_=>h_.k).l) (show Holds' (T++([])) (fun w_=>PL w_ (.slice (some ap) rp.length (kp - 1)) rp) from ((hG.mono fun _ h_=>h_.p).l).mono fun _ h_=>pl_short hrq0 h_)).tt
 refine wpOps_cons' (mC (d:=(some 32)) hA Tryd.func27 ((proceed_any pb mo po inp pj kj lj rd wr pv pn kn ln (some ap) (kp - 1) rp T _ hGm2 (mself (A:=[_,_]) (hO.tt:Ow Tryd.prog M w _ (([(b2,35,[i64 0,i64 0,i64 0,i64 0,.slice none 0 0]),(b1,3,[i64 result])]++[(pb,31,cS mo po inp pj lj.length kj rd wr pv pn ln.length kn (some ap) rp.length (kp - 1))])++(T++[])))) ⟨hm.i,hm.j,hm.k,(by show rp.length<=_; omega),hm.ck,hm.cj,(by show rp.length<=kp - 1; omega)⟩ hvl (fun w_ k_=>hE w_ (Ow.pan (A:=[_,_]) ((hO.tt:Ow Tryd.prog M w _ (([(b2,35,[i64 0,i64 0,i64 0,i64 0,.slice none 0 0]),(b1,3,[i64 result])]++[(pb,31,cS mo po inp pj lj.length kj rd wr pv pn ln.length kn (some ap) rp.length (kp - 1))])++(T++[]))).tt) k_))).mono ?_))
 rintro en w7 ⟨⟨mo4,po4,inp4,pj4,kj4,lj4,rd4,wr4,pv4,pn4,kn4,ln4,pp4,kp4,lp4⟩,⟨xp_4,xc_4,xd_4⟩,T2,hr2,hsm4,hvl4,rfl,hW,hG2,hvx2⟩
 refine ⟨_,rfl,?_⟩
 clear hA fr; intro fr hA
 replace hO:=mcall (A:=[(b2,35,[i64 0,i64 0,i64 0,i64 0,.slice none 0 0]),(b1,3,[i64 result])]) (B:=[]) (T:=T) (Tn:=T2) (x':=(pb,31,cS mo4 po4 inp4 pj4 lj4.length kj4 rd4 wr4 pv4 pn4 ln4.length kn4 pp4 lp4.length kp4)) hO.tt hW; clear hW
 refine Ms 0 [i64 xd_4.call,i64 xd_4.a0,i64 xd_4.a1,i64 xd_4.a2,.slice xp_4 xd_4.data.length xc_4] 0 hA hO fun w8 hO=>?_
 refine end_ops ?_
 refine then_normal ?_
 refine wp_ret ?_
 refine inBlock_ret ?_
 refine then_ret ?_
 refine cR (cs:=[some (⟨b2,0,none⟩,35)]) (us:=[.agg #[i64 xd_4.call,i64 xd_4.a0,i64 xd_4.a1,i64 xd_4.a2,.slice xp_4 xd_4.data.length xc_4]]) hA [.agg #[i64 xd_4.call,i64 xd_4.a0,i64 xd_4.a1,i64 xd_4.a2,.slice xp_4 xd_4.data.length xc_4]] ⟨(hO.ln 0 0 35 [i64 xd_4.call,i64 xd_4.a0,i64 xd_4.a1,i64 xd_4.a2,.slice xp_4 xd_4.data.length xc_4]),trivial⟩ ?_
 exact ⟨(⟨mo4,po4,inp4,pj4,kj4,lj4,rd4,wr4,pv4,pn4,kn4,ln4,pp4,kp4,lp4⟩:SV),⟨xp_4,xc_4,xd_4⟩,(T2++([])),((st_2 (s:=SV.d (⟨mo,po,inp,pj,kj,lj,rd,wr,pv,pn,kn,ln,some ap,kp,((⟨qp,qc,qd⟩:PV)::rp)⟩:SV)) hmo).trans hr2),hsm4,hvl4,rfl,(((Ow.subP (A:=[_,_,_]) hO (.cons _ (.cons _ (.cons_cons _ .slnil))))).tt),((ok3 (T:=(T++T2)++([])) (x:=(⟨mo4,po4,inp4,pj4,kj4,lj4,rd4,wr4,pv4,pn4,kn4,ln4,pp4,kp4,lp4⟩:SV)) ((hG2.mono fun _ h_=>h_.j).l) ((hG2.mono fun _ h_=>h_.k).l) ((hG2.mono fun _ h_=>h_.p).l)).tt),(hvx2).tt⟩
theorem step_3 (pb:Nat) (mo po:Int) (inp:ByteArray) (pj:Option Addr) (kj:Nat) (lj:List JV) (rd wr pv:Int) (pn:Option Addr) (kn:Nat) (ln:List Int) (pp:Option Addr) (kp:Nat) (lp:List PV) (T:OwL) (result:Int) (dp:Option Addr) (cd:Nat) (dl:List Int) (w:World) (hG:Holds' T (SV.ok (⟨mo,po,inp,pj,kj,lj,rd,wr,pv,pn,kn,ln,pp,kp,lp⟩:SV))) (h0:Ow Tryd.prog (inT ((pb,31,cS mo po inp pj lj.length kj rd wr pv pn ln.length kn pp lp.length kp)::T)) w w ((pb,31,cS mo po inp pj lj.length kj rd wr pv pn ln.length kn pp lp.length kp)::T)) (hm:SV.sm (⟨mo,po,inp,pj,kj,lj,rd,wr,pv,pn,kn,ln,pp,kp,lp⟩:SV)) (hvl:validL (lj.map JV.d)=true) (hE : ∀ w',Only (inT ((pb,31,cS mo po inp pj lj.length kj rd wr pv pn ln.length kn pp lp.length kp)::T)) w w'->ErrOk w') (hmo:mo=3) (hrn : -9223372036854775808<=result) (hrx:result<=9223372036854775807) (hp0:lp.length=0) :
    Calls Tryd.prog 14 #[pt pb,i64 result,.slice dp dl.length cd] w fun e w'=>∃ (v:SV) (x:PV) (Tn:OwL),stepS (SV.d (⟨mo,po,inp,pj,kj,lj,rd,wr,pv,pn,kn,ln,pp,kp,lp⟩:SV)) result dl=(v.d,x.d)/\v.sm/\validL (v.lj.map JV.d)=true/\e = .returned (.agg #[i64 x.d.call,i64 x.d.a0,i64 x.d.a1,i64 x.d.a2,.slice x.p x.d.data.length x.c])/\Ow Tryd.prog (inT ((pb,31,cS mo po inp pj lj.length kj rd wr pv pn ln.length kn pp lp.length kp)::T)) w w' ((pb,31,v.cells)::(T++Tn))/\Holds' (T++Tn) v.ok/\Holds' (T++Tn) (fun w=>VP w x):=by
 refine c_enter (args:=[pt pb,i64 result,.slice dp dl.length cd]) (m:=83) (n:=86) Tryd.func14 rfl (by kernel_rfl) (by kernel_rfl) fun fr hA=>?_
 generalize inT ((pb,31,cS mo po inp pj lj.length kj rd wr pv pn ln.length kn pp lp.length kp)::T)=M at *
 have hO:Ow Tryd.prog M w w ([(pb,31,(cS mo po inp pj lj.length kj rd wr pv pn ln.length kn pp lp.length kp))]++(T++([]))):=h0.to (by first | rfl | first | rfl | (simp only [TP,apd]))
 refine sr 2 ?_
 refine Mn [i64 result] 3 4 hA hO fun fr w1 b1 hA hO=>?_
 refine Mn [i64 0,i64 0,i64 0,i64 0,.slice none 0 0] 35 6 hA hO fun fr w2 b2 hA hO=>?_
 refine end_ops ?_
 refine then_normal ?_
 refine wp_seq ?_
 refine Sb [(10,i64 mo)] hA [i64 mo] (cc (hO.l1 2 0 3 (i64 mo)) c0) fun fr hA=>?_
 refine wp_block ?_
 refine Sa [(11,bl (mo == 0))] hA fun fr hA=>?_
 rw [((by rw [hmo]; rfl):(mo == 0)=false)] at hA
 refine cF hA ?_
 refine Sa [(15,bl (mo == 1))] hA fun fr hA=>?_
 rw [((by rw [hmo]; rfl):(mo == 1)=false)] at hA
 refine cF hA ?_
 refine Sa [(21,bl (mo == 2))] hA fun fr hA=>?_
 rw [((by rw [hmo]; rfl):(mo == 2)=false)] at hA
 refine cF hA ?_
 refine Sa [(33,bl (mo == 3))] hA fun fr hA=>?_
 rw [((by rw [hmo]; rfl):(mo == 3)=true)] at hA
 refine cT hA ?_
 refine wp_seq ?_
 refine Sb [(36,bl (decide (result < 0)))] hA [i64 result] (cc (hO.l1 1 0 3 (i64 result)) c0) fun fr hA=>?_
 rcases Bool.eq_false_or_eq_true (decide (result < 0)) with h1 | h1
 · rw [h1] at hA
   have h1p:=of_decide_eq_true h1
   refine cT hA ?_
   refine sr 3 ?_
   refine Ka 1 [(37,pt pb)] hA fun fr hA=>?_
   have hGm1:Holds' T (SV.ok (⟨mo,po,inp,pj,kj,lj,rd,wr,pv,pn,kn,ln,pp,kp,lp⟩:SV)):=(ok3 (T:=T++([])) (x:=(⟨mo,po,inp,pj,kj,lj,rd,wr,pv,pn,kn,ln,pp,kp,lp⟩:SV)) ((hG.mono fun _ h_=>h_.j).l) ((hG.mono fun _ h_=>h_.k).l) ((hG.mono fun _ h_=>h_.p).l)).tt
   refine wpOps_cons' (mC (d:=(some 38)) hA Tryd.func29 ((giveUp_any pb mo po inp pj kj lj rd wr pv pn kn ln pp kp lp T _ hGm1 (mself (A:=[_,_]) (hO.tt:Ow Tryd.prog M w _ (([(b2,35,[i64 0,i64 0,i64 0,i64 0,.slice none 0 0]),(b1,3,[i64 result])]++[(pb,31,cS mo po inp pj lj.length kj rd wr pv pn ln.length kn pp lp.length kp)])++(T++[])))) hm hvl (fun w_ k_=>hE w_ (Ow.pan (A:=[_,_]) ((hO.tt:Ow Tryd.prog M w _ (([(b2,35,[i64 0,i64 0,i64 0,i64 0,.slice none 0 0]),(b1,3,[i64 result])]++[(pb,31,cS mo po inp pj lj.length kj rd wr pv pn ln.length kn pp lp.length kp)])++(T++[]))).tt) k_)) hp0).mono ?_))
   rintro en w3 ⟨⟨mo3,po3,inp3,pj3,kj3,lj3,rd3,wr3,pv3,pn3,kn3,ln3,pp3,kp3,lp3⟩,⟨xp_3,xc_3,xd_3⟩,T1,hr1,hsm3,hvl3,rfl,hW,hG1,hvx1⟩
   refine ⟨_,rfl,?_⟩
   clear hA fr; intro fr hA
   replace hO:=mcall (A:=[(b2,35,[i64 0,i64 0,i64 0,i64 0,.slice none 0 0]),(b1,3,[i64 result])]) (B:=[]) (T:=T) (Tn:=T1) (x':=(pb,31,cS mo3 po3 inp3 pj3 lj3.length kj3 rd3 wr3 pv3 pn3 ln3.length kn3 pp3 lp3.length kp3)) hO.tt hW; clear hW
   refine Ms 0 [i64 xd_3.call,i64 xd_3.a0,i64 xd_3.a1,i64 xd_3.a2,.slice xp_3 xd_3.data.length xc_3] 0 hA hO fun w4 hO=>?_
   refine end_ops ?_
   refine then_normal ?_
   refine wp_ret ?_
   refine then_ret ?_
   refine inBlock_ret ?_
   refine then_ret ?_
   refine cR (cs:=[some (⟨b2,0,none⟩,35)]) (us:=[.agg #[i64 xd_3.call,i64 xd_3.a0,i64 xd_3.a1,i64 xd_3.a2,.slice xp_3 xd_3.data.length xc_3]]) hA [.agg #[i64 xd_3.call,i64 xd_3.a0,i64 xd_3.a1,i64 xd_3.a2,.slice xp_3 xd_3.data.length xc_3]] ⟨(hO.ln 0 0 35 [i64 xd_3.call,i64 xd_3.a0,i64 xd_3.a1,i64 xd_3.a2,.slice xp_3 xd_3.data.length xc_3]),trivial⟩ ?_
   exact ⟨(⟨mo3,po3,inp3,pj3,kj3,lj3,rd3,wr3,pv3,pn3,kn3,ln3,pp3,kp3,lp3⟩:SV),⟨xp_3,xc_3,xd_3⟩,(T1++([])),((st_3n (s:=SV.d (⟨mo,po,inp,pj,kj,lj,rd,wr,pv,pn,kn,ln,pp,kp,lp⟩:SV)) hmo (by assumption)).trans hr1),hsm3,hvl3,rfl,(((Ow.subP (A:=[_,_,_]) hO (.cons _ (.cons _ (.cons_cons _ .slnil))))).tt),((ok3 (T:=(T++T1)++([])) (x:=(⟨mo3,po3,inp3,pj3,kj3,lj3,rd3,wr3,pv3,pn3,kn3,ln3,pp3,kp3,lp3⟩:SV)) ((hG1.mono fun _ h_=>h_.j).l) ((hG1.mono fun _ h_=>h_.k).l) ((hG1.mono fun _ h_=>h_.p).l)).tt),(hvx1).tt⟩
 rw [h1] at hA
 have h1p:=of_decide_eq_false h1
 refine cF hA ?_
 refine wp_skip ?_
 refine then_normal ?_
 refine sJ (fun fr W=>Holds 86 [] fr [(0,pt pb),(6,pt b2)]/\Ow Tryd.prog M w W ([(b2,35,[i64 0,i64 0,i64 0,i64 0,.slice none 0 0]),(b1,3,[i64 result]),(pb,31,(cS mo po inp pj lj.length kj ((result / 256) % 8) ((result % 256) % 8) pv pn ln.length kn pp lp.length kp))]++(T++([])))/\True) ?_ ?_
 · rintro fr w5 ⟨hA,hO,-⟩
   refine sr 4 ?_
   refine Ka 3 [(53,pt pb)] hA fun fr hA=>?_
   refine Ms 0 [i64 4] 2 hA hO fun w6 hO=>?_
   refine end_ops ?_
   refine then_normal ?_
   refine sr 2 ?_
   refine Mk 54 hA hO Tryd.func12 (call_0 1 _) fun fr w7 hA hO=>?_
   refine Ms 0 [i64 1,i64 0,i64 0,i64 0,.slice none 0 0] 0 hA hO fun w8 hO=>?_
   refine end_ops ?_
   refine then_normal ?_
   refine wp_ret ?_
   refine inBlock_ret ?_
   refine then_ret ?_
   refine cR (cs:=[some (⟨b2,0,none⟩,35)]) (us:=[.agg #[i64 1,i64 0,i64 0,i64 0,.slice none 0 0]]) hA [.agg #[i64 1,i64 0,i64 0,i64 0,.slice none 0 0]] ⟨(hO.ln 0 0 35 [i64 1,i64 0,i64 0,i64 0,.slice none 0 0]),trivial⟩ ?_
   exact ⟨(⟨4,po,inp,pj,kj,lj,(result / 256) % 8,(result % 256) % 8,pv,pn,kn,ln,pp,kp,lp⟩:SV),⟨none,0,callL 1 0 0⟩,([]),(st_3 (s:=SV.d (⟨mo,po,inp,pj,kj,lj,rd,wr,pv,pn,kn,ln,pp,kp,lp⟩:SV)) hmo (by assumption)),⟨hm.i,hm.j,hm.k,hm.p,hm.ck,hm.cj,hm.cp⟩,hvl,rfl,(((Ow.subP (A:=[_,_,_]) hO (.cons _ (.cons _ (.cons_cons _ .slnil))))).tt),((ok3 (T:=T++([])) (x:=(⟨4,po,inp,pj,kj,lj,(result / 256) % 8,(result % 256) % 8,pv,pn,kn,ln,pp,kp,lp⟩:SV)) ((hG.mono fun _ h_=>h_.j).l) ((hG.mono fun _ h_=>h_.k).l) ((hG.mono fun _ h_=>h_.p).l)).tt),(fun _ _ _ _=>bare_vp (bare_one _ _ _ _) _ _ (List.mem_singleton.2 rfl))⟩
 have hS:=hO.pk [0,1]
 refine rP [(0,true),(1,true),(2,true),(3,true),(4,true),(5,true),(6,true),(7,true),(8,true),(9,true),(10,false),(11,true),(12,true),(13,false)] hS ?_
 intro w9 ho; replace hO:=hO.st ho; clear ho
 refine Ke 10 [(40,pt pb),(43,i64 ((result / 256) % 8)),(46,i64 ((result % 256) % 8)),(48,pf pb 4)] hA [i64 result,bl true,bl true,i64 result,bl true,bl true] (cc (hS.s1 1 0 3 (i64 result)) (cc (⟨by omega,by omega,inK_i64 (by omega) (by omega)⟩:(0:Int)<=result/\(0:Int) < 256/\inK .i64 result) (cc (⟨by omega,by omega,inK_i64 (by omega) (by omega)⟩:(0:Int)<=result / 256/\(0:Int) < 8/\inK .i64 (result / 256)) (cc (hS.s1 1 0 3 (i64 result)) (cc (⟨by omega,by omega,inK_i64 (by omega) (by omega)⟩:(0:Int)<=result/\(0:Int) < 256/\inK .i64 result) (cc (⟨by omega,by omega,inK_i64 (by omega) (by omega)⟩:(0:Int)<=result % 256/\(0:Int) < 8/\inK .i64 (result % 256)) c0)))))) fun fr hA=>?_
 refine plan_mem (mS (off:=4) (vc:=[i64 ((result / 256) % 8)]) 2 hA hO fun w10 hO=>?_)
 refine ⟨(hO.sub [0,1]),?_⟩
 refine Kd 2 [(50,pf pb 5)] hA fun fr hA=>?_
 refine plan_mem (mS (off:=5) (vc:=[i64 ((result % 256) % 8)]) 2 hA hO fun w11 hO=>?_)
 refine ⟨(hO.sub [0,1]),?_⟩
 refine end_plan ?_
 refine then_normal ?_
 exact ⟨hA.sb,hO.tt,trivial⟩
theorem step_4 (pb:Nat) (mo po:Int) (inp:ByteArray) (pj:Option Addr) (kj:Nat) (lj:List JV) (rd wr pv:Int) (pn:Option Addr) (kn:Nat) (ln:List Int) (pp:Option Addr) (kp:Nat) (lp:List PV) (T:OwL) (result:Int) (dp:Option Addr) (cd:Nat) (dl:List Int) (w:World) (hG:Holds' T (SV.ok (⟨mo,po,inp,pj,kj,lj,rd,wr,pv,pn,kn,ln,pp,kp,lp⟩:SV))) (h0:Ow Tryd.prog (inT ((pb,31,cS mo po inp pj lj.length kj rd wr pv pn ln.length kn pp lp.length kp)::T)) w w ((pb,31,cS mo po inp pj lj.length kj rd wr pv pn ln.length kn pp lp.length kp)::T)) (hm:SV.sm (⟨mo,po,inp,pj,kj,lj,rd,wr,pv,pn,kn,ln,pp,kp,lp⟩:SV)) (hvl:validL (lj.map JV.d)=true) (hE : ∀ w',Only (inT ((pb,31,cS mo po inp pj lj.length kj rd wr pv pn ln.length kn pp lp.length kp)::T)) w w'->ErrOk w') (hmo:mo=4) (hrn : -9223372036854775808<=result) (hrx:result<=9223372036854775807) (hp0:lp.length=0) (hpo : 0<=po/\po < ((nCmd (lj.map JV.d):Nat):Int)) (hkn:ln.length<=1000) :
    Calls Tryd.prog 14 #[pt pb,i64 result,.slice dp dl.length cd] w fun e w'=>∃ (v:SV) (x:PV) (Tn:OwL),stepS (SV.d (⟨mo,po,inp,pj,kj,lj,rd,wr,pv,pn,kn,ln,pp,kp,lp⟩:SV)) result dl=(v.d,x.d)/\v.sm/\validL (v.lj.map JV.d)=true/\e = .returned (.agg #[i64 x.d.call,i64 x.d.a0,i64 x.d.a1,i64 x.d.a2,.slice x.p x.d.data.length x.c])/\Ow Tryd.prog (inT ((pb,31,cS mo po inp pj lj.length kj rd wr pv pn ln.length kn pp lp.length kp)::T)) w w' ((pb,31,v.cells)::(T++Tn))/\Holds' (T++Tn) v.ok/\Holds' (T++Tn) (fun w=>VP w x):=by
 refine c_enter (args:=[pt pb,i64 result,.slice dp dl.length cd]) (m:=83) (n:=86) Tryd.func14 rfl (by kernel_rfl) (by kernel_rfl) fun fr hA=>?_
 generalize inT ((pb,31,cS mo po inp pj lj.length kj rd wr pv pn ln.length kn pp lp.length kp)::T)=M at *
 have hO:Ow Tryd.prog M w w ([(pb,31,(cS mo po inp pj lj.length kj rd wr pv pn ln.length kn pp lp.length kp))]++(T++([]))):=h0.to (by first | rfl | first | rfl | (simp only [TP,apd]))
 refine sr 2 ?_
 refine Mn [i64 result] 3 4 hA hO fun fr w1 b1 hA hO=>?_
 refine Mn [i64 0,i64 0,i64 0,i64 0,.slice none 0 0] 35 6 hA hO fun fr w2 b2 hA hO=>?_
 refine end_ops ?_
 refine then_normal ?_
 refine wp_seq ?_
 refine Sb [(10,i64 mo)] hA [i64 mo] (cc (hO.l1 2 0 3 (i64 mo)) c0) fun fr hA=>?_
 refine wp_block ?_
 refine Sa [(11,bl (mo == 0))] hA fun fr hA=>?_
 rw [((by rw [hmo]; rfl):(mo == 0)=false)] at hA
 refine cF hA ?_
 refine Sa [(15,bl (mo == 1))] hA fun fr hA=>?_
 rw [((by rw [hmo]; rfl):(mo == 1)=false)] at hA
 refine cF hA ?_
 refine Sa [(21,bl (mo == 2))] hA fun fr hA=>?_
 rw [((by rw [hmo]; rfl):(mo == 2)=false)] at hA
 refine cF hA ?_
 refine Sa [(33,bl (mo == 3))] hA fun fr hA=>?_
 rw [((by rw [hmo]; rfl):(mo == 3)=false)] at hA
 refine cF hA ?_
 refine Sa [(55,bl (mo == 4))] hA fun fr hA=>?_
 rw [((by rw [hmo]; rfl):(mo == 4)=true)] at hA
 refine cT hA ?_
 refine sr 4 ?_
 refine Kb 2 [(57,pt pb),(58,i64 result)] hA [i64 result] (cc (hO.l1 1 0 3 (i64 result)) c0) fun fr hA=>?_
 have hGm1:Holds' T (SV.ok (⟨mo,po,inp,pj,kj,lj,rd,wr,pv,pn,kn,ln,pp,kp,lp⟩:SV)):=(ok3 (T:=T++([])) (x:=(⟨mo,po,inp,pj,kj,lj,rd,wr,pv,pn,kn,ln,pp,kp,lp⟩:SV)) ((hG.mono fun _ h_=>h_.j).l) ((hG.mono fun _ h_=>h_.k).l) ((hG.mono fun _ h_=>h_.p).l)).tt
 refine wpOps_cons' (mC (d:=(some 59)) hA Tryd.func30 ((forked_any pb mo po inp pj kj lj rd wr pv pn kn ln pp kp lp T result _ hGm1 (mself (A:=[_,_]) (hO.tt:Ow Tryd.prog M w _ (([(b2,35,[i64 0,i64 0,i64 0,i64 0,.slice none 0 0]),(b1,3,[i64 result])]++[(pb,31,cS mo po inp pj lj.length kj rd wr pv pn ln.length kn pp lp.length kp)])++(T++[])))) hm hvl (fun w_ k_=>hE w_ (Ow.pan (A:=[_,_]) ((hO.tt:Ow Tryd.prog M w _ (([(b2,35,[i64 0,i64 0,i64 0,i64 0,.slice none 0 0]),(b1,3,[i64 result])]++[(pb,31,cS mo po inp pj lj.length kj rd wr pv pn ln.length kn pp lp.length kp)])++(T++[]))).tt) k_)) hp0 hpo hkn hrx).mono ?_))
 rintro en w3 ⟨⟨mo3,po3,inp3,pj3,kj3,lj3,rd3,wr3,pv3,pn3,kn3,ln3,pp3,kp3,lp3⟩,⟨xp_3,xc_3,xd_3⟩,T1,hr1,hsm3,hvl3,rfl,hW,hG1,hvx1⟩
 refine ⟨_,rfl,?_⟩
 clear hA fr; intro fr hA
 replace hO:=mcall (A:=[(b2,35,[i64 0,i64 0,i64 0,i64 0,.slice none 0 0]),(b1,3,[i64 result])]) (B:=[]) (T:=T) (Tn:=T1) (x':=(pb,31,cS mo3 po3 inp3 pj3 lj3.length kj3 rd3 wr3 pv3 pn3 ln3.length kn3 pp3 lp3.length kp3)) hO.tt hW; clear hW
 refine Ms 0 [i64 xd_3.call,i64 xd_3.a0,i64 xd_3.a1,i64 xd_3.a2,.slice xp_3 xd_3.data.length xc_3] 0 hA hO fun w4 hO=>?_
 refine end_ops ?_
 refine then_normal ?_
 refine wp_ret ?_
 refine inBlock_ret ?_
 refine then_ret ?_
 refine cR (cs:=[some (⟨b2,0,none⟩,35)]) (us:=[.agg #[i64 xd_3.call,i64 xd_3.a0,i64 xd_3.a1,i64 xd_3.a2,.slice xp_3 xd_3.data.length xc_3]]) hA [.agg #[i64 xd_3.call,i64 xd_3.a0,i64 xd_3.a1,i64 xd_3.a2,.slice xp_3 xd_3.data.length xc_3]] ⟨(hO.ln 0 0 35 [i64 xd_3.call,i64 xd_3.a0,i64 xd_3.a1,i64 xd_3.a2,.slice xp_3 xd_3.data.length xc_3]),trivial⟩ ?_
 exact ⟨(⟨mo3,po3,inp3,pj3,kj3,lj3,rd3,wr3,pv3,pn3,kn3,ln3,pp3,kp3,lp3⟩:SV),⟨xp_3,xc_3,xd_3⟩,(T1++([])),((st_4 (s:=SV.d (⟨mo,po,inp,pj,kj,lj,rd,wr,pv,pn,kn,ln,pp,kp,lp⟩:SV)) hmo).trans hr1),hsm3,hvl3,rfl,(((Ow.subP (A:=[_,_,_]) hO (.cons _ (.cons _ (.cons_cons _ .slnil))))).tt),((ok3 (T:=(T++T1)++([])) (x:=(⟨mo3,po3,inp3,pj3,kj3,lj3,rd3,wr3,pv3,pn3,kn3,ln3,pp3,kp3,lp3⟩:SV)) ((hG1.mono fun _ h_=>h_.j).l) ((hG1.mono fun _ h_=>h_.k).l) ((hG1.mono fun _ h_=>h_.p).l)).tt),(hvx1).tt⟩
theorem step_5 (pb:Nat) (mo po:Int) (inp:ByteArray) (pj:Option Addr) (kj:Nat) (lj:List JV) (rd wr pv:Int) (pn:Option Addr) (kn:Nat) (ln:List Int) (pp:Option Addr) (kp:Nat) (lp:List PV) (T:OwL) (result:Int) (dp:Option Addr) (cd:Nat) (dl:List Int) (w:World) (hG:Holds' T (SV.ok (⟨mo,po,inp,pj,kj,lj,rd,wr,pv,pn,kn,ln,pp,kp,lp⟩:SV))) (h0:Ow Tryd.prog (inT ((pb,31,cS mo po inp pj lj.length kj rd wr pv pn ln.length kn pp lp.length kp)::T)) w w ((pb,31,cS mo po inp pj lj.length kj rd wr pv pn ln.length kn pp lp.length kp)::T)) (hm:SV.sm (⟨mo,po,inp,pj,kj,lj,rd,wr,pv,pn,kn,ln,pp,kp,lp⟩:SV)) (hvl:validL (lj.map JV.d)=true) (hE : ∀ w',Only (inT ((pb,31,cS mo po inp pj lj.length kj rd wr pv pn ln.length kn pp lp.length kp)::T)) w w'->ErrOk w') (hmo:mo=5) (hrn : -9223372036854775808<=result) (hrx:result<=9223372036854775807) (hkn:ln.length<=1000) :
    Calls Tryd.prog 14 #[pt pb,i64 result,.slice dp dl.length cd] w fun e w'=>∃ (v:SV) (x:PV) (Tn:OwL),stepS (SV.d (⟨mo,po,inp,pj,kj,lj,rd,wr,pv,pn,kn,ln,pp,kp,lp⟩:SV)) result dl=(v.d,x.d)/\v.sm/\validL (v.lj.map JV.d)=true/\e = .returned (.agg #[i64 x.d.call,i64 x.d.a0,i64 x.d.a1,i64 x.d.a2,.slice x.p x.d.data.length x.c])/\Ow Tryd.prog (inT ((pb,31,cS mo po inp pj lj.length kj rd wr pv pn ln.length kn pp lp.length kp)::T)) w w' ((pb,31,v.cells)::(T++Tn))/\Holds' (T++Tn) v.ok/\Holds' (T++Tn) (fun w=>VP w x):=by
 refine c_enter (args:=[pt pb,i64 result,.slice dp dl.length cd]) (m:=83) (n:=86) Tryd.func14 rfl (by kernel_rfl) (by kernel_rfl) fun fr hA=>?_
 generalize inT ((pb,31,cS mo po inp pj lj.length kj rd wr pv pn ln.length kn pp lp.length kp)::T)=M at *
 have hO:Ow Tryd.prog M w w ([(pb,31,(cS mo po inp pj lj.length kj rd wr pv pn ln.length kn pp lp.length kp))]++(T++([]))):=h0.to (by first | rfl | first | rfl | (simp only [TP,apd]))
 refine sr 2 ?_
 refine Mn [i64 result] 3 4 hA hO fun fr w1 b1 hA hO=>?_
 refine Mn [i64 0,i64 0,i64 0,i64 0,.slice none 0 0] 35 6 hA hO fun fr w2 b2 hA hO=>?_
 refine end_ops ?_
 refine then_normal ?_
 refine wp_seq ?_
 refine Sb [(10,i64 mo)] hA [i64 mo] (cc (hO.l1 2 0 3 (i64 mo)) c0) fun fr hA=>?_
 refine wp_block ?_
 refine Sa [(11,bl (mo == 0))] hA fun fr hA=>?_
 rw [((by rw [hmo]; rfl):(mo == 0)=false)] at hA
 refine cF hA ?_
 refine Sa [(15,bl (mo == 1))] hA fun fr hA=>?_
 rw [((by rw [hmo]; rfl):(mo == 1)=false)] at hA
 refine cF hA ?_
 refine Sa [(21,bl (mo == 2))] hA fun fr hA=>?_
 rw [((by rw [hmo]; rfl):(mo == 2)=false)] at hA
 refine cF hA ?_
 refine Sa [(33,bl (mo == 3))] hA fun fr hA=>?_
 rw [((by rw [hmo]; rfl):(mo == 3)=false)] at hA
 refine cF hA ?_
 refine Sa [(55,bl (mo == 4))] hA fun fr hA=>?_
 rw [((by rw [hmo]; rfl):(mo == 4)=false)] at hA
 refine cF hA ?_
 refine Sa [(60,bl (mo == 5))] hA fun fr hA=>?_
 rw [((by rw [hmo]; rfl):(mo == 5)=true)] at hA
 refine cT hA ?_
 refine wp_seq ?_
 refine Sb [(63,bl (decide (result < 0)))] hA [i64 result] (cc (hO.l1 1 0 3 (i64 result)) c0) fun fr hA=>?_
 rcases Bool.eq_false_or_eq_true (decide (result < 0)) with h1 | h1
 · rw [h1] at hA
   have h1p:=of_decide_eq_true h1
   refine cT hA ?_
   refine rr 4 ?_
   refine Ka 3 [(66,pf pb 7)] hA fun fr hA=>?_
   refine Ms 7 [.slice none 0 0] 2 hA hO fun w3 hO=>?_
   refine end_ops ?_
   refine then_normal ?_
   refine sr 3 ?_
   refine Ka 1 [(77,pt pb)] hA fun fr hA=>?_
   have hGm1:Holds' T (SV.ok (⟨mo,po,inp,pj,kj,lj,rd,wr,pv,none,0,([]:List Int),pp,kp,lp⟩:SV)):=(ok3 (T:=T++([])) (x:=(⟨mo,po,inp,pj,kj,lj,rd,wr,pv,none,0,([]:List Int),pp,kp,lp⟩:SV)) ((hG.mono fun _ h_=>h_.j).l) (fun _ _ _ _=> .inl ⟨rfl,rfl⟩) ((hG.mono fun _ h_=>h_.p).l)).tt
   refine wpOps_cons' (mC (d:=(some 78)) hA Tryd.func27 ((proceed_any pb mo po inp pj kj lj rd wr pv none 0 ([]:List Int) pp kp lp T _ hGm1 (mself (A:=[_,_]) (hO.tt:Ow Tryd.prog M w _ (([(b2,35,[i64 0,i64 0,i64 0,i64 0,.slice none 0 0]),(b1,3,[i64 result])]++[(pb,31,cS mo po inp pj lj.length kj rd wr pv none 0 0 pp lp.length kp)])++(T++[])))) ⟨hm.i,hm.j,Nat.zero_le _,hm.p,Nat.zero_le _,hm.cj,hm.cp⟩ hvl (fun w_ k_=>hE w_ (Ow.pan (A:=[_,_]) ((hO.tt:Ow Tryd.prog M w _ (([(b2,35,[i64 0,i64 0,i64 0,i64 0,.slice none 0 0]),(b1,3,[i64 result])]++[(pb,31,cS mo po inp pj lj.length kj rd wr pv none 0 0 pp lp.length kp)])++(T++[]))).tt) k_))).mono ?_))
   rintro en w4 ⟨⟨mo3,po3,inp3,pj3,kj3,lj3,rd3,wr3,pv3,pn3,kn3,ln3,pp3,kp3,lp3⟩,⟨xp_3,xc_3,xd_3⟩,T1,hr1,hsm3,hvl3,rfl,hW,hG1,hvx1⟩
   refine ⟨_,rfl,?_⟩
   clear hA fr; intro fr hA
   replace hO:=mcall (A:=[(b2,35,[i64 0,i64 0,i64 0,i64 0,.slice none 0 0]),(b1,3,[i64 result])]) (B:=[]) (T:=T) (Tn:=T1) (x':=(pb,31,cS mo3 po3 inp3 pj3 lj3.length kj3 rd3 wr3 pv3 pn3 ln3.length kn3 pp3 lp3.length kp3)) hO.tt hW; clear hW
   refine Ms 0 [i64 xd_3.call,i64 xd_3.a0,i64 xd_3.a1,i64 xd_3.a2,.slice xp_3 xd_3.data.length xc_3] 0 hA hO fun w5 hO=>?_
   refine end_ops ?_
   refine then_normal ?_
   refine wp_ret ?_
   refine inBlock_ret ?_
   refine then_ret ?_
   refine cR (cs:=[some (⟨b2,0,none⟩,35)]) (us:=[.agg #[i64 xd_3.call,i64 xd_3.a0,i64 xd_3.a1,i64 xd_3.a2,.slice xp_3 xd_3.data.length xc_3]]) hA [.agg #[i64 xd_3.call,i64 xd_3.a0,i64 xd_3.a1,i64 xd_3.a2,.slice xp_3 xd_3.data.length xc_3]] ⟨(hO.ln 0 0 35 [i64 xd_3.call,i64 xd_3.a0,i64 xd_3.a1,i64 xd_3.a2,.slice xp_3 xd_3.data.length xc_3]),trivial⟩ ?_
   exact ⟨(⟨mo3,po3,inp3,pj3,kj3,lj3,rd3,wr3,pv3,pn3,kn3,ln3,pp3,kp3,lp3⟩:SV),⟨xp_3,xc_3,xd_3⟩,(T1++([])),((st_5n (s:=SV.d (⟨mo,po,inp,pj,kj,lj,rd,wr,pv,pn,kn,ln,pp,kp,lp⟩:SV)) hmo (by assumption)).trans hr1),hsm3,hvl3,rfl,(((Ow.subP (A:=[_,_,_]) hO (.cons _ (.cons _ (.cons_cons _ .slnil))))).tt),((ok3 (T:=(T++T1)++([])) (x:=(⟨mo3,po3,inp3,pj3,kj3,lj3,rd3,wr3,pv3,pn3,kn3,ln3,pp3,kp3,lp3⟩:SV)) ((hG1.mono fun _ h_=>h_.j).l) ((hG1.mono fun _ h_=>h_.k).l) ((hG1.mono fun _ h_=>h_.p).l)).tt),(hvx1).tt⟩
 rw [h1] at hA
 have h1p:=of_decide_eq_false h1
 refine cF hA ?_
 refine rr 11 ?_
 refine Kb 5 [(67,pt pb),(71,.slice pn ln.length kn)] hA [.slice pn ln.length kn] (cc (hO.l1 2 7 28 (.slice pn ln.length kn)) c0) fun fr hA=>?_
 refine wpOps_cons' (mC (d:=(some 72)) hA Tryd.func24 ((clonen_any pn kn ln _ (Holds'.at (A:=[_,_,_]) ((hG.mono fun _ h_=>h_.k).l) (hO.tt:Ow Tryd.prog M w _ ([(b2,35,[i64 0,i64 0,i64 0,i64 0,.slice none 0 0]),(b1,3,[i64 result]),(pb,31,(cS mo po inp pj lj.length kj rd wr pv pn ln.length kn pp lp.length kp))]++(T++([])++[]))).m) (by omega)).mono ?_))
 rintro en w6 ⟨p1,c1,T2,rfl,hT2,hW⟩
 refine ⟨_,rfl,?_⟩
 clear hA fr; intro fr hA
 replace hO:=Ow.join hO hW; clear hW
 refine Ka 1 [(73,.func (.func 32) #[] #[pt b1])] hA fun fr hA=>?_
 refine wpOps_cons' (mC (d:=(some 74)) hA Tryd.func31 ((del_all p1 c1 ln T2 result b1 _ hT2 (Ow.self (A:=([(b2,35,[i64 0,i64 0,i64 0,i64 0,.slice none 0 0]),(b1,3,[i64 result]),(pb,31,(cS mo po inp pj lj.length kj rd wr pv pn ln.length kn pp lp.length kp))]++(T++([])))) (T:=T2) (B:=[]) (hO.tt)) (by omega) (fun w_ k_=>((Ow.pan3 (A:=([(b2,35,[i64 0,i64 0,i64 0,i64 0,.slice none 0 0]),(b1,3,[i64 result]),(pb,31,(cS mo po inp pj lj.length kj rd wr pv pn ln.length kn pp lp.length kp))]++(T++([])))) (T:=T2) (B:=[]) (hO.tt) k_).m.blk (b1,3,[i64 result]) (by simp)).ld1 (i:=0) (by kernel_rfl) rfl) (by omega) (by omega)).mono ?_))
 rintro en w7 ⟨T3,rfl,hT3,hW⟩
 refine ⟨_,rfl,?_⟩
 clear hA fr; intro fr hA
 replace hO:=Ow.pass (A:=([(b2,35,[i64 0,i64 0,i64 0,i64 0,.slice none 0 0]),(b1,3,[i64 result]),(pb,31,(cS mo po inp pj lj.length kj rd wr pv pn ln.length kn pp lp.length kp))]++(T++([])))) (T:=T2) (B:=[]) (T':=T3) hO.tt hW; clear hW
 replace hO:Ow Tryd.prog M w w7 ([(b2,35,[i64 0,i64 0,i64 0,i64 0,.slice none 0 0]),(b1,3,[i64 result]),(pb,31,(cS mo po inp pj lj.length kj rd wr pv pn ln.length kn pp lp.length kp))]++(T++(T3++([])))):=hO.to (by first | rfl | (simp only [TP,apd]))
 refine Ka 2 [(76,pf pb 7)] hA fun fr hA=>?_
 refine Ms 7 [.slice p1 ((ln.filter (neT result)).length) c1] 2 hA hO fun w8 hO=>?_
 refine end_ops ?_
 refine then_normal ?_
 refine sr 3 ?_
 refine Ka 1 [(77,pt pb)] hA fun fr hA=>?_
 have hkle_:=hT3.le
 replace hO:Ow Tryd.prog M w w8 ([(b2,35,[i64 0,i64 0,i64 0,i64 0,.slice none 0 0]),(b1,3,[i64 result]),(pb,31,(cS mo po inp pj lj.length kj rd wr pv p1 ((ln.filter (neT result)).length) c1 pp lp.length kp))]++(T++(T3++([])))):=hO
 have hGm2:Holds' (T++T3) (SV.ok (⟨mo,po,inp,pj,kj,lj,rd,wr,pv,p1,c1,(ln.filter (neT result)),pp,kp,lp⟩:SV)):=(ok3 (T:=T++(T3++([]))) (x:=(⟨mo,po,inp,pj,kj,lj,rd,wr,pv,p1,c1,(ln.filter (neT result)),pp,kp,lp⟩:SV)) ((hG.mono fun _ h_=>h_.j).l) (hT3.holds.l.r) ((hG.mono fun _ h_=>h_.p).l)).tt
 replace hO:Ow Tryd.prog M w w8 ([(b2,35,[i64 0,i64 0,i64 0,i64 0,.slice none 0 0]),(b1,3,[i64 result]),(pb,31,(cS mo po inp pj lj.length kj rd wr pv p1 ((ln.filter (neT result)).length) c1 pp lp.length kp))]++((T++T3)++([]))):=hO.to (by first | rfl | (simp only [TP,apd]))
 refine wpOps_cons' (mC (d:=(some 78)) hA Tryd.func27 ((proceed_any pb mo po inp pj kj lj rd wr pv p1 c1 (ln.filter (neT result)) pp kp lp (T++T3) _ hGm2 (mself (A:=[_,_]) (hO.tt:Ow Tryd.prog M w _ (([(b2,35,[i64 0,i64 0,i64 0,i64 0,.slice none 0 0]),(b1,3,[i64 result])]++[(pb,31,cS mo po inp pj lj.length kj rd wr pv p1 ((ln.filter (neT result)).length) c1 pp lp.length kp)])++((T++T3)++[])))) ⟨hm.i,hm.j,(by have q_:=filt_le ln (neT result); show (ln.filter (neT result)).length<=_; omega),hm.p,hkle_,hm.cj,hm.cp⟩ hvl (fun w_ k_=>hE w_ (Ow.pan (A:=[_,_]) ((hO.tt:Ow Tryd.prog M w _ (([(b2,35,[i64 0,i64 0,i64 0,i64 0,.slice none 0 0]),(b1,3,[i64 result])]++[(pb,31,cS mo po inp pj lj.length kj rd wr pv p1 ((ln.filter (neT result)).length) c1 pp lp.length kp)])++((T++T3)++[]))).tt) k_))).mono ?_))
 rintro en w9 ⟨⟨mo4,po4,inp4,pj4,kj4,lj4,rd4,wr4,pv4,pn4,kn4,ln4,pp4,kp4,lp4⟩,⟨xp_4,xc_4,xd_4⟩,T4,hr2,hsm4,hvl4,rfl,hW,hG2,hvx2⟩
 refine ⟨_,rfl,?_⟩
 clear hA fr; intro fr hA
 replace hO:=mcall (A:=[(b2,35,[i64 0,i64 0,i64 0,i64 0,.slice none 0 0]),(b1,3,[i64 result])]) (B:=[]) (T:=(T++T3)) (Tn:=T4) (x':=(pb,31,cS mo4 po4 inp4 pj4 lj4.length kj4 rd4 wr4 pv4 pn4 ln4.length kn4 pp4 lp4.length kp4)) (hO.to (by simp only [List.append_assoc,List.cons_append,List.nil_append]):Ow Tryd.prog M w _ (([(b2,35,[i64 0,i64 0,i64 0,i64 0,.slice none 0 0]),(b1,3,[i64 result])]++[(pb,31,cS mo po inp pj lj.length kj rd wr pv p1 ((ln.filter (neT result)).length) c1 pp lp.length kp)])++((T++T3)++[]))) hW; clear hW
 refine Ms 0 [i64 xd_4.call,i64 xd_4.a0,i64 xd_4.a1,i64 xd_4.a2,.slice xp_4 xd_4.data.length xc_4] 0 hA hO fun w10 hO=>?_
 refine end_ops ?_
 refine then_normal ?_
 refine wp_ret ?_
 refine inBlock_ret ?_
 refine then_ret ?_
 refine cR (cs:=[some (⟨b2,0,none⟩,35)]) (us:=[.agg #[i64 xd_4.call,i64 xd_4.a0,i64 xd_4.a1,i64 xd_4.a2,.slice xp_4 xd_4.data.length xc_4]]) hA [.agg #[i64 xd_4.call,i64 xd_4.a0,i64 xd_4.a1,i64 xd_4.a2,.slice xp_4 xd_4.data.length xc_4]] ⟨(hO.ln 0 0 35 [i64 xd_4.call,i64 xd_4.a0,i64 xd_4.a1,i64 xd_4.a2,.slice xp_4 xd_4.data.length xc_4]),trivial⟩ ?_
 exact ⟨(⟨mo4,po4,inp4,pj4,kj4,lj4,rd4,wr4,pv4,pn4,kn4,ln4,pp4,kp4,lp4⟩:SV),⟨xp_4,xc_4,xd_4⟩,(T3++(T4++([]))),((st_5 (s:=SV.d (⟨mo,po,inp,pj,kj,lj,rd,wr,pv,pn,kn,ln,pp,kp,lp⟩:SV)) hmo (by assumption)).trans hr2),hsm4,hvl4,rfl,(show Ow Tryd.prog M w _ ((pb,31,cS mo4 po4 inp4 pj4 lj4.length kj4 rd4 wr4 pv4 pn4 ln4.length kn4 pp4 lp4.length kp4)::(T++(T3++(T4++([]))))) from ((Ow.subP (A:=[_,_,_]) hO (.cons _ (.cons _ (.cons_cons _ .slnil))))).tt),((ok3 (T:=((T++T3)++T4)++([])) (x:=(⟨mo4,po4,inp4,pj4,kj4,lj4,rd4,wr4,pv4,pn4,kn4,ln4,pp4,kp4,lp4⟩:SV)) ((hG2.mono fun _ h_=>h_.j).l) ((hG2.mono fun _ h_=>h_.k).l) ((hG2.mono fun _ h_=>h_.p).l)).tt),(hvx2).tt⟩
theorem step_6 (pb:Nat) (mo po:Int) (inp:ByteArray) (pj:Option Addr) (kj:Nat) (lj:List JV) (rd wr pv:Int) (pn:Option Addr) (kn:Nat) (ln:List Int) (pp:Option Addr) (kp:Nat) (lp:List PV) (T:OwL) (result:Int) (dp:Option Addr) (cd:Nat) (dl:List Int) (w:World) (hG:Holds' T (SV.ok (⟨mo,po,inp,pj,kj,lj,rd,wr,pv,pn,kn,ln,pp,kp,lp⟩:SV))) (h0:Ow Tryd.prog (inT ((pb,31,cS mo po inp pj lj.length kj rd wr pv pn ln.length kn pp lp.length kp)::T)) w w ((pb,31,cS mo po inp pj lj.length kj rd wr pv pn ln.length kn pp lp.length kp)::T)) (hm:SV.sm (⟨mo,po,inp,pj,kj,lj,rd,wr,pv,pn,kn,ln,pp,kp,lp⟩:SV)) (hvl:validL (lj.map JV.d)=true) (hE : ∀ w',Only (inT ((pb,31,cS mo po inp pj lj.length kj rd wr pv pn ln.length kn pp lp.length kp)::T)) w w'->ErrOk w') (hmo:mo=6) (hrn : -9223372036854775808<=result) (hrx:result<=9223372036854775807) (hlp : 0 < lp.length) (hlq:lp.length<=12) :
    Calls Tryd.prog 14 #[pt pb,i64 result,.slice dp dl.length cd] w fun e w'=>∃ (v:SV) (x:PV) (Tn:OwL),stepS (SV.d (⟨mo,po,inp,pj,kj,lj,rd,wr,pv,pn,kn,ln,pp,kp,lp⟩:SV)) result dl=(v.d,x.d)/\v.sm/\validL (v.lj.map JV.d)=true/\e = .returned (.agg #[i64 x.d.call,i64 x.d.a0,i64 x.d.a1,i64 x.d.a2,.slice x.p x.d.data.length x.c])/\Ow Tryd.prog (inT ((pb,31,cS mo po inp pj lj.length kj rd wr pv pn ln.length kn pp lp.length kp)::T)) w w' ((pb,31,v.cells)::(T++Tn))/\Holds' (T++Tn) v.ok/\Holds' (T++Tn) (fun w=>VP w x):=by
 refine c_enter (args:=[pt pb,i64 result,.slice dp dl.length cd]) (m:=83) (n:=86) Tryd.func14 rfl (by kernel_rfl) (by kernel_rfl) fun fr hA=>?_
 generalize inT ((pb,31,cS mo po inp pj lj.length kj rd wr pv pn ln.length kn pp lp.length kp)::T)=M at *
 have hO:Ow Tryd.prog M w w ([(pb,31,(cS mo po inp pj lj.length kj rd wr pv pn ln.length kn pp lp.length kp))]++(T++([]))):=h0.to (by first | rfl | first | rfl | (simp only [TP,apd]))
 refine sr 2 ?_
 refine Mn [i64 result] 3 4 hA hO fun fr w1 b1 hA hO=>?_
 refine Mn [i64 0,i64 0,i64 0,i64 0,.slice none 0 0] 35 6 hA hO fun fr w2 b2 hA hO=>?_
 refine end_ops ?_
 refine then_normal ?_
 refine wp_seq ?_
 refine Sb [(10,i64 mo)] hA [i64 mo] (cc (hO.l1 2 0 3 (i64 mo)) c0) fun fr hA=>?_
 refine wp_block ?_
 refine Sa [(11,bl (mo == 0))] hA fun fr hA=>?_
 rw [((by rw [hmo]; rfl):(mo == 0)=false)] at hA
 refine cF hA ?_
 refine Sa [(15,bl (mo == 1))] hA fun fr hA=>?_
 rw [((by rw [hmo]; rfl):(mo == 1)=false)] at hA
 refine cF hA ?_
 refine Sa [(21,bl (mo == 2))] hA fun fr hA=>?_
 rw [((by rw [hmo]; rfl):(mo == 2)=false)] at hA
 refine cF hA ?_
 refine Sa [(33,bl (mo == 3))] hA fun fr hA=>?_
 rw [((by rw [hmo]; rfl):(mo == 3)=false)] at hA
 refine cF hA ?_
 refine Sa [(55,bl (mo == 4))] hA fun fr hA=>?_
 rw [((by rw [hmo]; rfl):(mo == 4)=false)] at hA
 refine cF hA ?_
 refine Sa [(60,bl (mo == 5))] hA fun fr hA=>?_
 rw [((by rw [hmo]; rfl):(mo == 5)=false)] at hA
 refine cF hA ?_
 refine Sa [(79,bl (mo == 6))] hA fun fr hA=>?_
 rw [((by rw [hmo]; rfl):(mo == 6)=true)] at hA
 refine cT hA ?_
 refine sr 4 ?_
 refine Kb 2 [(81,pt pb),(82,i64 result)] hA [i64 result] (cc (hO.l1 1 0 3 (i64 result)) c0) fun fr hA=>?_
 have hGm1:Holds' T (SV.ok (⟨mo,po,inp,pj,kj,lj,rd,wr,pv,pn,kn,ln,pp,kp,lp⟩:SV)):=(ok3 (T:=T++([])) (x:=(⟨mo,po,inp,pj,kj,lj,rd,wr,pv,pn,kn,ln,pp,kp,lp⟩:SV)) ((hG.mono fun _ h_=>h_.j).l) ((hG.mono fun _ h_=>h_.k).l) ((hG.mono fun _ h_=>h_.p).l)).tt
 refine wpOps_cons' (mC (d:=(some 83)) hA Tryd.func33 ((child_any pb mo po inp pj kj lj rd wr pv pn kn ln pp kp lp T result _ hGm1 (mself (A:=[_,_]) (hO.tt:Ow Tryd.prog M w _ (([(b2,35,[i64 0,i64 0,i64 0,i64 0,.slice none 0 0]),(b1,3,[i64 result])]++[(pb,31,cS mo po inp pj lj.length kj rd wr pv pn ln.length kn pp lp.length kp)])++(T++[])))) hm hvl (fun w_ k_=>hE w_ (Ow.pan (A:=[_,_]) ((hO.tt:Ow Tryd.prog M w _ (([(b2,35,[i64 0,i64 0,i64 0,i64 0,.slice none 0 0]),(b1,3,[i64 result])]++[(pb,31,cS mo po inp pj lj.length kj rd wr pv pn ln.length kn pp lp.length kp)])++(T++[]))).tt) k_)) hlp hlq hrx).mono ?_))
 rintro en w3 ⟨⟨mo3,po3,inp3,pj3,kj3,lj3,rd3,wr3,pv3,pn3,kn3,ln3,pp3,kp3,lp3⟩,⟨xp_3,xc_3,xd_3⟩,T1,hr1,hsm3,hvl3,rfl,hW,hG1,hvx1⟩
 refine ⟨_,rfl,?_⟩
 clear hA fr; intro fr hA
 replace hO:=mcall (A:=[(b2,35,[i64 0,i64 0,i64 0,i64 0,.slice none 0 0]),(b1,3,[i64 result])]) (B:=[]) (T:=T) (Tn:=T1) (x':=(pb,31,cS mo3 po3 inp3 pj3 lj3.length kj3 rd3 wr3 pv3 pn3 ln3.length kn3 pp3 lp3.length kp3)) hO.tt hW; clear hW
 refine Ms 0 [i64 xd_3.call,i64 xd_3.a0,i64 xd_3.a1,i64 xd_3.a2,.slice xp_3 xd_3.data.length xc_3] 0 hA hO fun w4 hO=>?_
 refine end_ops ?_
 refine then_normal ?_
 refine wp_ret ?_
 refine inBlock_ret ?_
 refine then_ret ?_
 refine cR (cs:=[some (⟨b2,0,none⟩,35)]) (us:=[.agg #[i64 xd_3.call,i64 xd_3.a0,i64 xd_3.a1,i64 xd_3.a2,.slice xp_3 xd_3.data.length xc_3]]) hA [.agg #[i64 xd_3.call,i64 xd_3.a0,i64 xd_3.a1,i64 xd_3.a2,.slice xp_3 xd_3.data.length xc_3]] ⟨(hO.ln 0 0 35 [i64 xd_3.call,i64 xd_3.a0,i64 xd_3.a1,i64 xd_3.a2,.slice xp_3 xd_3.data.length xc_3]),trivial⟩ ?_
 exact ⟨(⟨mo3,po3,inp3,pj3,kj3,lj3,rd3,wr3,pv3,pn3,kn3,ln3,pp3,kp3,lp3⟩:SV),⟨xp_3,xc_3,xd_3⟩,(T1++([])),((st_6 (s:=SV.d (⟨mo,po,inp,pj,kj,lj,rd,wr,pv,pn,kn,ln,pp,kp,lp⟩:SV)) hmo).trans hr1),hsm3,hvl3,rfl,(((Ow.subP (A:=[_,_,_]) hO (.cons _ (.cons _ (.cons_cons _ .slnil))))).tt),((ok3 (T:=(T++T1)++([])) (x:=(⟨mo3,po3,inp3,pj3,kj3,lj3,rd3,wr3,pv3,pn3,kn3,ln3,pp3,kp3,lp3⟩:SV)) ((hG1.mono fun _ h_=>h_.j).l) ((hG1.mono fun _ h_=>h_.k).l) ((hG1.mono fun _ h_=>h_.p).l)).tt),(hvx1).tt⟩
theorem step_7 (pb:Nat) (mo po:Int) (inp:ByteArray) (pj:Option Addr) (kj:Nat) (lj:List JV) (rd wr pv:Int) (pn:Option Addr) (kn:Nat) (ln:List Int) (pp:Option Addr) (kp:Nat) (lp:List PV) (T:OwL) (result:Int) (dp:Option Addr) (cd:Nat) (dl:List Int) (w:World) (hG:Holds' T (SV.ok (⟨mo,po,inp,pj,kj,lj,rd,wr,pv,pn,kn,ln,pp,kp,lp⟩:SV))) (h0:Ow Tryd.prog (inT ((pb,31,cS mo po inp pj lj.length kj rd wr pv pn ln.length kn pp lp.length kp)::T)) w w ((pb,31,cS mo po inp pj lj.length kj rd wr pv pn ln.length kn pp lp.length kp)::T)) (hm:SV.sm (⟨mo,po,inp,pj,kj,lj,rd,wr,pv,pn,kn,ln,pp,kp,lp⟩:SV)) (hvl:validL (lj.map JV.d)=true) (hE : ∀ w',Only (inT ((pb,31,cS mo po inp pj lj.length kj rd wr pv pn ln.length kn pp lp.length kp)::T)) w w'->ErrOk w') (hmo:mo=7) (hrn : -9223372036854775808<=result) (hrx:result<=9223372036854775807)  :
    Calls Tryd.prog 14 #[pt pb,i64 result,.slice dp dl.length cd] w fun e w'=>∃ (v:SV) (x:PV) (Tn:OwL),stepS (SV.d (⟨mo,po,inp,pj,kj,lj,rd,wr,pv,pn,kn,ln,pp,kp,lp⟩:SV)) result dl=(v.d,x.d)/\v.sm/\validL (v.lj.map JV.d)=true/\e = .returned (.agg #[i64 x.d.call,i64 x.d.a0,i64 x.d.a1,i64 x.d.a2,.slice x.p x.d.data.length x.c])/\Ow Tryd.prog (inT ((pb,31,cS mo po inp pj lj.length kj rd wr pv pn ln.length kn pp lp.length kp)::T)) w w' ((pb,31,v.cells)::(T++Tn))/\Holds' (T++Tn) v.ok/\Holds' (T++Tn) (fun w=>VP w x):=by
 refine c_enter (args:=[pt pb,i64 result,.slice dp dl.length cd]) (m:=83) (n:=86) Tryd.func14 rfl (by kernel_rfl) (by kernel_rfl) fun fr hA=>?_
 generalize inT ((pb,31,cS mo po inp pj lj.length kj rd wr pv pn ln.length kn pp lp.length kp)::T)=M at *
 have hO:Ow Tryd.prog M w w ([(pb,31,(cS mo po inp pj lj.length kj rd wr pv pn ln.length kn pp lp.length kp))]++(T++([]))):=h0.to (by first | rfl | first | rfl | (simp only [TP,apd]))
 refine sr 2 ?_
 refine Mn [i64 result] 3 4 hA hO fun fr w1 b1 hA hO=>?_
 refine Mn [i64 0,i64 0,i64 0,i64 0,.slice none 0 0] 35 6 hA hO fun fr w2 b2 hA hO=>?_
 refine end_ops ?_
 refine then_normal ?_
 refine wp_seq ?_
 refine Sb [(10,i64 mo)] hA [i64 mo] (cc (hO.l1 2 0 3 (i64 mo)) c0) fun fr hA=>?_
 refine wp_block ?_
 refine Sa [(11,bl (mo == 0))] hA fun fr hA=>?_
 rw [((by rw [hmo]; rfl):(mo == 0)=false)] at hA
 refine cF hA ?_
 refine Sa [(15,bl (mo == 1))] hA fun fr hA=>?_
 rw [((by rw [hmo]; rfl):(mo == 1)=false)] at hA
 refine cF hA ?_
 refine Sa [(21,bl (mo == 2))] hA fun fr hA=>?_
 rw [((by rw [hmo]; rfl):(mo == 2)=false)] at hA
 refine cF hA ?_
 refine Sa [(33,bl (mo == 3))] hA fun fr hA=>?_
 rw [((by rw [hmo]; rfl):(mo == 3)=false)] at hA
 refine cF hA ?_
 refine Sa [(55,bl (mo == 4))] hA fun fr hA=>?_
 rw [((by rw [hmo]; rfl):(mo == 4)=false)] at hA
 refine cF hA ?_
 refine Sa [(60,bl (mo == 5))] hA fun fr hA=>?_
 rw [((by rw [hmo]; rfl):(mo == 5)=false)] at hA
 refine cF hA ?_
 refine Sa [(79,bl (mo == 6))] hA fun fr hA=>?_
 rw [((by rw [hmo]; rfl):(mo == 6)=false)] at hA
 refine cF hA ?_
 refine wp_skip ?_
 refine inBlock_normal ?_
 refine then_normal ?_
 refine sr 3 ?_
 refine Mv [i64 255] 3 1 84 hA hO fun fr w3 b3 hA hO=>?_
 refine Mk 85 hA hO Tryd.func12 (call_1 0 255 ⟨b3,0,none⟩ 1 _ ((hO.b 0).vw (off:=0) (xs:=[255]) (by kernel_rfl))) fun fr w4 hA hO=>?_
 refine Ms 0 [i64 0,i64 255,i64 0,i64 0,.slice none 0 0] 1 hA hO fun w5 hO=>?_
 refine end_ops ?_
 refine then_normal ?_
 refine wp_ret ?_
 refine cR (cs:=[some (⟨b2,0,none⟩,35)]) (us:=[.agg #[i64 0,i64 255,i64 0,i64 0,.slice none 0 0]]) hA [.agg #[i64 0,i64 255,i64 0,i64 0,.slice none 0 0]] ⟨(hO.ln 1 0 35 [i64 0,i64 255,i64 0,i64 0,.slice none 0 0]),trivial⟩ ?_
 exact ⟨(⟨mo,po,inp,pj,kj,lj,rd,wr,pv,pn,kn,ln,pp,kp,lp⟩:SV),⟨none,0,callL 0 255 0⟩,([]),(st_7 (s:=SV.d (⟨mo,po,inp,pj,kj,lj,rd,wr,pv,pn,kn,ln,pp,kp,lp⟩:SV)) hmo),⟨hm.i,hm.j,hm.k,hm.p,hm.ck,hm.cj,hm.cp⟩,hvl,rfl,(((Ow.subP (A:=[_,_,_,_]) hO (.cons _ (.cons _ (.cons _ (.cons_cons _ .slnil)))))).tt),((ok3 (T:=T++([])) (x:=(⟨mo,po,inp,pj,kj,lj,rd,wr,pv,pn,kn,ln,pp,kp,lp⟩:SV)) ((hG.mono fun _ h_=>h_.j).l) ((hG.mono fun _ h_=>h_.k).l) ((hG.mono fun _ h_=>h_.p).l)).tt),(fun _ _ _ _=>bare_vp (bare_one _ _ _ _) _ _ (List.mem_singleton.2 rfl))⟩
end Go.Proofs.YtdljjajjonfjbaaDoor
