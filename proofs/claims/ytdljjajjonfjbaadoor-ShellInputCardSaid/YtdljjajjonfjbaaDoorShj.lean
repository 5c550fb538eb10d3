import Derived.Test.YtdljjajjonfjbaaDoorShh
import Derived.Test.YtdljjajjonfjbaaDoorCmdLaw
import Derived.Test.YtdljjajjonfjbaaDoorSn
set_option linter.unusedVariables false
set_option linter.unusedSimpArgs false
set_option maxRecDepth 10000
namespace Go.Proofs.YtdljjajjonfjbaaDoor
open Go Go.Shelf Go.RowKit Go.Proofs Go.Proofs.Sx
theorem wordP_er {s:ByteArray} {n:Nat} {e:Nat×Int} (h:wordP s n = .error e):e.2≠0:=by
 unfold wordP at h
 split at h
 · cases h; simp
 split at h
 · cases h; simp
 cases h
theorem redirP_er {s:ByteArray} {c:CmdL} {n:Nat} {e:Nat×Int} (h:redirP s c n = .error e):e.2≠0:=by
 unfold redirP at h
 split at h
 · cases h; simp
 cases hw:wordP s (nx s n) with
 | error e'=>rw [hw] at h; cases h; exact wordP_er hw
 | ok q=>rw [hw] at h; cases h
theorem cmdF_er {s:ByteArray} : ∀ (k:Nat) (c:CmdL) (n:Nat) (e:Nat×Int),cmdF false s k c n = .error e->e.2≠0
  | 0,_,_,_,h=>by cases h
  | k+1,c,n,e,h=>by
    simp only [cmdF] at h
    split at h
    · split at h
      · cases h; simp
      · cases hw:wordP s n with
        | error e'=>rw [hw] at h; cases h; exact wordP_er hw
        | ok q=>rw [hw] at h; exact cmdF_er k _ _ e h
    · split at h
      · cases hw:redirP s c n with
        | error e'=>rw [hw] at h; cases h; exact redirP_er hw
        | ok q=>rw [hw] at h; exact cmdF_er k _ _ e h
      · split at h
        · cases h; simp
        · cases h
theorem jobF_er {s:ByteArray} : ∀ (k:Nat) (l:List CmdL) (n:Nat) (e:Nat×Int),jobF false s k l n = .error e->e.2≠0
  | 0,_,_,_,h=>by cases h
  | k+1,l,n,e,h=>by
    simp only [jobF] at h
    split at h
    · split at h
      · cases h; simp
      · cases hw:cmdP false s (nx s n) with
        | error e'=>rw [hw] at h; cases h; exact cmdF_er _ _ _ _ hw
        | ok q=>rw [hw] at h; exact jobF_er k _ _ e h
    · cases h
theorem jobP_er {s:ByteArray} {n:Nat} {e:Nat×Int} (h:jobP false s n = .error e):e.2≠0:=by
 unfold jobP at h
 cases hw:cmdP false s n with
 | error e'=>rw [hw] at h; cases h; exact cmdF_er _ _ _ _ hw
 | ok q=>rw [hw] at h; exact jobF_er _ _ _ e h
theorem lineF_er {s:ByteArray} : ∀ (k:Nat) (l:List JobL) (n:Nat) (e:Nat×Int),lineF false s k l n = .error e->e.2≠0
  | 0,_,_,_,h=>by cases h
  | k+1,l,n,e,h=>by
    simp only [lineF] at h
    split at h
    · split at h
      · cases h; simp
      · cases hw:jobP false s n with
        | error e'=>rw [hw] at h; cases h; exact jobP_er hw
        | ok q =>
          rw [hw] at h
          simp only at h
          split at h
          · cases h
          · split at h
            · exact lineF_er k _ _ e h
            · cases h; simp
    · cases h
theorem lineP_er {s:ByteArray} {a:Nat} {b:Int} (h:lineP false s = .error (a,b)):(b != 0)=true:=by rw [bne_iff_ne]; exact lineF_er _ _ _ _ h
theorem own_vl {eJ eC:TypeId} {p:Option Addr} {k:Nat} {l:List JV} {T0 T1:OwL} (h0:One fJ eJ 2 p k l T0) (h1:InJ eC 9 l T1):Holds' (T0++(T1++[])) fun w=>VL w (.slice p l.length k) l:=fun X w₀ w hO =>
  ⟨h0.vw (A:=[]) (B:=T1++[]) hO,InJ.view (A:=T0) (B:=[]) h1 hO⟩
theorem parse_err {sv:ByteArray} {a:Nat} {b:Int} (w:World) (hs:sv.size<=1000000) (hl:lineP false sv = .error (a,b)):Calls Tryd.prog 55 #[str sv] w fun e w'=>e = .returned (.tuple #[.slice none 0 0,i64 ((a:Nat):Int),i64 b])/\Only none' w w':=by
 refine (parse_any sv w hs).mono fun e w' h=>?_
 rcases h with ⟨a',b',h1,h2,h3⟩ | ⟨p,k,l,T0,T1,h1,_⟩
 · rw [hl] at h1; cases h1; exact ⟨h2,h3⟩
 rw [hl] at h1; cases h1
theorem parse_ok {sv:ByteArray} {js:List JobL} (w:World) (hs:sv.size<=1000000) (hl:lineP false sv = .ok js):Calls Tryd.prog 55 #[str sv] w fun e w'=>∃ p k l T0 T1,l.map JV.d=js/\e = .returned (.tuple #[.slice p l.length k,i64 0,i64 0])/\One fJ 64 2 p k l T0/\InJ 66 9 l T1/\Ow Tryd.prog none' w w' (T0++T1):=by
 refine (parse_any sv w hs).mono fun e w' h=>?_
 rcases h with ⟨a',b',h1,h2,h3⟩ | ⟨p,k,l,T0,T1,h1,h2,h3,h4,h5,_⟩
 · rw [hl] at h1; cases h1
 rw [hl] at h1
 exact ⟨p,k,l,T0,T1,(Except.ok.inj h1).symm,h2,h3,h4,h5⟩
theorem ext_sm {s:ByteArray} (a b:Nat) (h:s.size<=1000000):(s.extract a b).size<=1000000:=by rw [ByteArray.size_extract]; omega
theorem line_err (pb:Nat) (mo po:Int) (inp:ByteArray) (pj:Option Addr) (kj:Nat) (lj:List JV) (rd wr pv:Int) (pn:Option Addr) (kn:Nat) (ln:List Int) (pp:Option Addr) (kp:Nat) (lp:List PV) (T:OwL) (n:Nat) (w:World) (hG:Holds' T (SV.ok (⟨mo,po,inp,pj,kj,lj,rd,wr,pv,pn,kn,ln,pp,kp,lp⟩:SV))) (h0:Ow Tryd.prog (inT ((pb,31,cS mo po inp pj lj.length kj rd wr pv pn ln.length kn pp lp.length kp)::T)) w w ((pb,31,cS mo po inp pj lj.length kj rd wr pv pn ln.length kn pp lp.length kp)::T)) (hm:SV.sm (⟨mo,po,inp,pj,kj,lj,rd,wr,pv,pn,kn,ln,pp,kp,lp⟩:SV)) (hvl:validL (lj.map JV.d)=true) (hp0:lp.length=0) (hn:n < inp.size) {a:Nat} {b:Int} (hl:lineP false (inp.extract 0 n) = .error (a,b)) :
    Calls Tryd.prog 41 #[pt pb,i64 ((n:Nat):Int)] w fun e w'=>∃ (v:SV) (Tn:OwL),v.d=lineS (SV.d (⟨mo,po,inp,pj,kj,lj,rd,wr,pv,pn,kn,ln,pp,kp,lp⟩:SV)) n/\v.sm/\validL (v.lj.map JV.d)=true/\e = .returned (.tuple #[])/\Ow Tryd.prog (inT ((pb,31,cS mo po inp pj lj.length kj rd wr pv pn ln.length kn pp lp.length kp)::T)) w w' ((pb,31,v.cells)::(T++Tn))/\Holds' (T++Tn) v.ok:=by
 refine c_enter (args:=[pt pb,i64 ((n:Nat):Int)]) (m:=38) (n:=40) Tryd.func41 rfl (by kernel_rfl) (by kernel_rfl) fun fr hA=>?_
 generalize inT ((pb,31,cS mo po inp pj lj.length kj rd wr pv pn ln.length kn pp lp.length kp)::T)=M at *
 have hO:Ow Tryd.prog M w w ([(pb,31,(cS mo po inp pj lj.length kj rd wr pv pn ln.length kn pp lp.length kp))]++(T++([]))):=h0.to (by first | rfl | first | rfl | (simp only [TP,apd]))
 have hm_i:inp.size<=1000000:=hm.i
 refine Sb [(4,str (inp.extract 0 n))] hA [str inp] (cc (hO.l1 0 2 9 (str inp)) (cc (⟨by omega,by omega,by omega⟩:(0:Int)<=0/\(0:Int)<=((n:Nat):Int)/\(((n:Nat):Int):Int)<=((inp.size:Nat):Int)) c0)) fun fr hA=>?_
 refine sr 11 ?_
 refine Kb 10 [(21,str (inp.extract ((((n:Nat):Int)+1).toNat) inp.size)),(23,pf pb 2)] hA [str inp,bl true] (cc (hO.l1 0 2 9 (str inp)) (cc ((inK_i64 (by omega) (by omega)):inK .i64 (((n:Nat):Int)+1)) (cc (⟨by omega,by omega,by omega⟩:(0:Int)<=((n:Nat):Int)+1/\(((n:Nat):Int)+1:Int)<=((inp.size:Nat):Int)/\(((inp.size:Nat):Int):Int)<=((inp.size:Nat):Int)) c0))) fun fr hA=>?_
 rw [show (inp.extract ((((n:Nat):Int)+1).toNat) inp.size)=(inp.extract (n+1) inp.size) from by rw [show (((n:Nat):Int)+1).toNat=n+1 by omega]] at hA
 refine Ms 2 [str (inp.extract (n+1) inp.size)] 0 hA hO fun w1 hO=>?_
 refine end_ops ?_
 refine then_normal ?_
 refine sr 9 ?_
 refine Ka 1 [(25,str (inp.extract 0 n))] hA fun fr hA=>?_
 refine Mk 26 hA hO Tryd.func55 (parse_err (sv:=(inp.extract 0 n)) _ (ext_sm _ _ hm_i) hl) fun fr w2 hA hO=>?_
 refine Ka 7 [(5,.slice none 0 0),(7,i64 b)] hA fun fr hA=>?_
 refine end_ops ?_
 refine then_normal ?_
 refine wp_seq ?_
 refine Sa [(31,bl (b != 0))] hA fun fr hA=>?_
 rw [(lineP_er hl:(b != 0)=(true))] at hA
 refine cT hA ?_
 refine sr 4 ?_
 refine Ka 1 [(32,pt pb)] hA fun fr hA=>?_
 replace hO:Ow Tryd.prog M w w2 ([(pb,31,(cS mo po (inp.extract (n+1) inp.size) pj lj.length kj rd wr pv pn ln.length kn pp lp.length kp))]++(T++([]))):=hO
 refine wpOps_cons' (mC (d:=(some 33)) hA Tryd.func45 ((telling_any _).mono ?_))
 rintro en w3 ⟨p1,c1,T1,rfl,hT1,hW⟩
 refine ⟨_,rfl,?_⟩
 clear hA fr; intro fr hA
 replace hO:=Ow.join hO hW; clear hW
 replace hO:Ow Tryd.prog M w _ ([(pb,31,(cS mo po (inp.extract (n+1) inp.size) pj lj.length kj rd wr pv pn ln.length kn pp lp.length kp))]++(T++(T1++([])))):=hO.to (by first | rfl | (simp only [TP,apd]))
 refine Mv [i64 10,i64 2,i64 0,i64 0,.slice p1 (([63,10]:List Int).length) c1] 35 1 34 hA hO fun fr w4 b1 hA hO=>?_
 replace hO:Ow Tryd.prog M w w4 ([(b1,35,[i64 10,i64 2,i64 0,i64 0,.slice p1 (([63,10]:List Int).length) c1]),(pb,31,(cS mo po (inp.extract (n+1) inp.size) pj lj.length kj rd wr pv pn ln.length kn pp lp.length kp))]++(T++(T1++([])))):=hO
 refine wpOps_cons' (mC (d:=(some 35)) hA Tryd.func44 ((plan_any pb mo po (inp.extract (n+1) inp.size) pj kj lj rd wr pv pn kn ln pp kp lp ⟨p1,c1,⟨10,2,0,0,[63,10]⟩⟩ ⟨b1,0,none⟩ 1 _ (Ow.self (A:=[_]) (hO.tt)) (mkeep (A:=[_]) (Q:=(fun w_=>Vw fP w_ (.slice pp lp.length kp) lp)) ((hG.mono fun _ h_=>h_.p.1).l) (hO.tt:Ow Tryd.prog M w _ (([(b1,35,[i64 10,i64 2,i64 0,i64 0,.slice p1 (([63,10]:List Int).length) c1])]++[(pb,31,cS mo po (inp.extract (n+1) inp.size) pj lj.length kj rd wr pv pn ln.length kn pp lp.length kp)])++((T++(T1++([])))++[])))) (fun w_ k_=>((mrest (A:=[_]) (hO.tt:Ow Tryd.prog M w _ (([(b1,35,[i64 10,i64 2,i64 0,i64 0,.slice p1 (([63,10]:List Int).length) c1])]++[(pb,31,cS mo po (inp.extract (n+1) inp.size) pj lj.length kj rd wr pv pn ln.length kn pp lp.length kp)])++((T++(T1++([])))++[]))) k_).b 0).vw (off:=0) (xs:=([⟨p1,c1,⟨10,2,0,0,[63,10]⟩⟩]:List PV)) (by kernel_rfl)) (by omega)).mono ?_))
 rintro en w5 ⟨rfl,p2,k1,T2,hT2,hW⟩
 refine ⟨_,rfl,?_⟩
 clear hA fr; intro fr hA
 replace hO:=Ow.pass2 (A:=[_]) hO hW; clear hW
 replace hO:Ow Tryd.prog M w w5 ([(b1,35,[i64 10,i64 2,i64 0,i64 0,.slice p1 (([63,10]:List Int).length) c1]),(pb,31,(cS mo po (inp.extract (n+1) inp.size) pj lj.length kj rd wr pv pn ln.length kn p2 ((lp++([⟨p1,c1,⟨10,2,0,0,[63,10]⟩⟩]:List PV)).length) k1))]++(T++(T1++(T2++([]))))):=hO.to (by first | rfl | (simp only [TP,apd]))
 refine end_ops ?_
 refine then_normal ?_
 refine wp_ret ?_
 refine then_ret ?_
 refine cv [] hA ?_
 have heq_:SV.d (⟨mo,po,inp.extract (n+1) inp.size,pj,kj,lj,rd,wr,pv,pn,kn,ln,p2,k1,lp++([⟨p1,c1,⟨10,2,0,0,[63,10]⟩⟩]:List PV)⟩:SV)=lineS (SV.d (⟨mo,po,inp,pj,kj,lj,rd,wr,pv,pn,kn,ln,pp,kp,lp⟩:SV)) n:=by unfold lineS; simp only [SV.d]; rw [hl,List.map_append]; rfl
 replace hO:Ow Tryd.prog M w w5 ([(b1,35,[i64 10,i64 2,i64 0,i64 0,.slice p1 (([63,10]:List Int).length) c1]),(pb,31,(cS mo po (inp.extract (n+1) inp.size) pj lj.length kj rd wr pv pn ln.length kn p2 ((lp++([⟨p1,c1,⟨10,2,0,0,[63,10]⟩⟩]:List PV)).length) k1))]++(T++(T1++(T2++([]))))):=hO
 exact ⟨(⟨mo,po,inp.extract (n+1) inp.size,pj,kj,lj,rd,wr,pv,pn,kn,ln,p2,k1,lp++([⟨p1,c1,⟨10,2,0,0,[63,10]⟩⟩]:List PV)⟩:SV),(T1++(T2++([]))),heq_,⟨ext_sm _ _ hm.i,hm.j,hm.k,(by show (lp++[_]).length<=_; rw [List.length_append,hp0]; show 0+1<=_; omega),hm.ck,hm.cj,hT2.le⟩,hvl,rfl,(show Ow Tryd.prog M w _ ((pb,31,cS mo po (inp.extract (n+1) inp.size) pj lj.length kj rd wr pv pn ln.length kn p2 ((lp++([⟨p1,c1,⟨10,2,0,0,[63,10]⟩⟩]:List PV)).length) k1)::(T++(T1++(T2++([]))))) from ((Ow.subP (A:=[_,_]) hO (.cons _ (.cons_cons _ .slnil)))).tt),((ok3 (T:=T++(T1++(T2++([])))) (x:=(⟨mo,po,inp.extract (n+1) inp.size,pj,kj,lj,rd,wr,pv,pn,kn,ln,p2,k1,lp++([⟨p1,c1,⟨10,2,0,0,[63,10]⟩⟩]:List PV)⟩:SV)) ((hG.mono fun _ h_=>h_.j).l) ((hG.mono fun _ h_=>h_.k).l) (pl_app (T:=T++(T1++(T2++([])))) (hT2.holds.l.r.r) ((hG.mono fun _ h_=>h_.p.2).l) (vp_one (x:=⟨p1,c1,⟨10,2,0,0,[63,10]⟩⟩) (hT1.holds.l.r) tell_u8))).tt)⟩
theorem line_ok (pb:Nat) (mo po:Int) (inp:ByteArray) (pj:Option Addr) (kj:Nat) (lj:List JV) (rd wr pv:Int) (pn:Option Addr) (kn:Nat) (ln:List Int) (pp:Option Addr) (kp:Nat) (lp:List PV) (T:OwL) (n:Nat) (w:World) (hG:Holds' T (SV.ok (⟨mo,po,inp,pj,kj,lj,rd,wr,pv,pn,kn,ln,pp,kp,lp⟩:SV))) (h0:Ow Tryd.prog (inT ((pb,31,cS mo po inp pj lj.length kj rd wr pv pn ln.length kn pp lp.length kp)::T)) w w ((pb,31,cS mo po inp pj lj.length kj rd wr pv pn ln.length kn pp lp.length kp)::T)) (hm:SV.sm (⟨mo,po,inp,pj,kj,lj,rd,wr,pv,pn,kn,ln,pp,kp,lp⟩:SV)) (hvl:validL (lj.map JV.d)=true) (hp0:lp.length=0) (hn:n < inp.size) {js:List JobL} (hl:lineP false (inp.extract 0 n) = .ok js) :
    Calls Tryd.prog 41 #[pt pb,i64 ((n:Nat):Int)] w fun e w'=>∃ (v:SV) (Tn:OwL),v.d=lineS (SV.d (⟨mo,po,inp,pj,kj,lj,rd,wr,pv,pn,kn,ln,pp,kp,lp⟩:SV)) n/\v.sm/\validL (v.lj.map JV.d)=true/\e = .returned (.tuple #[])/\Ow Tryd.prog (inT ((pb,31,cS mo po inp pj lj.length kj rd wr pv pn ln.length kn pp lp.length kp)::T)) w w' ((pb,31,v.cells)::(T++Tn))/\Holds' (T++Tn) v.ok:=by
 refine c_enter (args:=[pt pb,i64 ((n:Nat):Int)]) (m:=38) (n:=40) Tryd.func41 rfl (by kernel_rfl) (by kernel_rfl) fun fr hA=>?_
 generalize inT ((pb,31,cS mo po inp pj lj.length kj rd wr pv pn ln.length kn pp lp.length kp)::T)=M at *
 have hO:Ow Tryd.prog M w w ([(pb,31,(cS mo po inp pj lj.length kj rd wr pv pn ln.length kn pp lp.length kp))]++(T++([]))):=h0.to (by first | rfl | first | rfl | (simp only [TP,apd]))
 have hm_i:inp.size<=1000000:=hm.i
 refine Sb [(4,str (inp.extract 0 n))] hA [str inp] (cc (hO.l1 0 2 9 (str inp)) (cc (⟨by omega,by omega,by omega⟩:(0:Int)<=0/\(0:Int)<=((n:Nat):Int)/\(((n:Nat):Int):Int)<=((inp.size:Nat):Int)) c0)) fun fr hA=>?_
 refine sr 11 ?_
 refine Kb 10 [(21,str (inp.extract ((((n:Nat):Int)+1).toNat) inp.size)),(23,pf pb 2)] hA [str inp,bl true] (cc (hO.l1 0 2 9 (str inp)) (cc ((inK_i64 (by omega) (by omega)):inK .i64 (((n:Nat):Int)+1)) (cc (⟨by omega,by omega,by omega⟩:(0:Int)<=((n:Nat):Int)+1/\(((n:Nat):Int)+1:Int)<=((inp.size:Nat):Int)/\(((inp.size:Nat):Int):Int)<=((inp.size:Nat):Int)) c0))) fun fr hA=>?_
 rw [show (inp.extract ((((n:Nat):Int)+1).toNat) inp.size)=(inp.extract (n+1) inp.size) from by rw [show (((n:Nat):Int)+1).toNat=n+1 by omega]] at hA
 refine Ms 2 [str (inp.extract (n+1) inp.size)] 0 hA hO fun w1 hO=>?_
 refine end_ops ?_
 refine then_normal ?_
 refine sr 9 ?_
 refine Ka 1 [(25,str (inp.extract 0 n))] hA fun fr hA=>?_
 replace hO:Ow Tryd.prog M w w1 ([(pb,31,(cS mo po (inp.extract (n+1) inp.size) pj lj.length kj rd wr pv pn ln.length kn pp lp.length kp))]++(T++([]))):=hO
 refine wpOps_cons' (mC (d:=(some 26)) hA Tryd.func55 ((parse_ok (sv:=(inp.extract 0 n)) _ (ext_sm _ _ hm_i) hl).mono ?_))
 rintro en w2 ⟨p1,k1,l1,T1,T2,hj1,rfl,hT1,hT2,hW⟩
 refine ⟨_,rfl,?_⟩
 clear hA fr; intro fr hA
 replace hO:=Ow.join hO hW; clear hW
 replace hO:Ow Tryd.prog M w _ ([(pb,31,(cS mo po (inp.extract (n+1) inp.size) pj lj.length kj rd wr pv pn ln.length kn pp lp.length kp))]++(T++(T1++(T2++([]))))):=hO.to (by first | rfl | (simp only [TP,apd]))
 refine Ka 7 [(5,.slice p1 l1.length k1),(7,i64 0)] hA fun fr hA=>?_
 refine end_ops ?_
 refine then_normal ?_
 refine wp_seq ?_
 refine Sa [(31,bl false)] hA fun fr hA=>?_
 refine cF hA ?_
 refine wp_skip ?_
 refine then_normal ?_
 refine rr 5 ?_
 refine Ka 4 [(37,.slice p1 l1.length k1),(39,pf pb 3)] hA fun fr hA=>?_
 refine Ms 3 [.slice p1 l1.length k1] 0 hA hO fun w3 hO=>?_
 refine end_ops ?_
 refine c_end ?_
 refine cv [] hA ?_
 have heq_:SV.d (⟨mo,po,inp.extract (n+1) inp.size,p1,k1,l1,rd,wr,pv,pn,kn,ln,pp,kp,lp⟩:SV)=lineS (SV.d (⟨mo,po,inp,pj,kj,lj,rd,wr,pv,pn,kn,ln,pp,kp,lp⟩:SV)) n:=by unfold lineS; simp only [SV.d]; rw [hl,hj1]
 have hvj_:=lineP_valid hl
 replace hO:Ow Tryd.prog M w w3 ([(pb,31,(cS mo po (inp.extract (n+1) inp.size) p1 l1.length k1 rd wr pv pn ln.length kn pp lp.length kp))]++(T++(T1++(T2++([]))))):=hO
 exact ⟨(⟨mo,po,inp.extract (n+1) inp.size,p1,k1,l1,rd,wr,pv,pn,kn,ln,pp,kp,lp⟩:SV),(T1++(T2++([]))),heq_,⟨ext_sm _ _ hm.i,(by show smL 1000000 (l1.map JV.d); rw [hj1]; exact valid_small hvj_),hm.k,hm.p,hm.ck,hT1.le,hm.cp⟩,(by show validL (l1.map JV.d)=true; rw [hj1]; exact hvj_),rfl,(show Ow Tryd.prog M w _ ((pb,31,cS mo po (inp.extract (n+1) inp.size) p1 l1.length k1 rd wr pv pn ln.length kn pp lp.length kp)::(T++(T1++(T2++([]))))) from (hO).tt),((ok3 (T:=T++(T1++(T2++([])))) (x:=(⟨mo,po,inp.extract (n+1) inp.size,p1,k1,l1,rd,wr,pv,pn,kn,ln,pp,kp,lp⟩:SV)) (own_vl hT1 hT2).r ((hG.mono fun _ h_=>h_.k).l) ((hG.mono fun _ h_=>h_.p).l)).tt)⟩
theorem sline_any (pb:Nat) (mo po:Int) (inp:ByteArray) (pj:Option Addr) (kj:Nat) (lj:List JV) (rd wr pv:Int) (pn:Option Addr) (kn:Nat) (ln:List Int) (pp:Option Addr) (kp:Nat) (lp:List PV) (T:OwL) (n:Nat) (w:World) (hG:Holds' T (SV.ok (⟨mo,po,inp,pj,kj,lj,rd,wr,pv,pn,kn,ln,pp,kp,lp⟩:SV))) (h0:Ow Tryd.prog (inT ((pb,31,cS mo po inp pj lj.length kj rd wr pv pn ln.length kn pp lp.length kp)::T)) w w ((pb,31,cS mo po inp pj lj.length kj rd wr pv pn ln.length kn pp lp.length kp)::T)) (hm:SV.sm (⟨mo,po,inp,pj,kj,lj,rd,wr,pv,pn,kn,ln,pp,kp,lp⟩:SV)) (hvl:validL (lj.map JV.d)=true) (hp0:lp.length=0) (hn:n < inp.size):Calls Tryd.prog 41 #[pt pb,i64 ((n:Nat):Int)] w fun e w'=>∃ (v:SV) (Tn:OwL),v.d=lineS (SV.d (⟨mo,po,inp,pj,kj,lj,rd,wr,pv,pn,kn,ln,pp,kp,lp⟩:SV)) n/\v.sm/\validL (v.lj.map JV.d)=true/\e = .returned (.tuple #[])/\Ow Tryd.prog (inT ((pb,31,cS mo po inp pj lj.length kj rd wr pv pn ln.length kn pp lp.length kp)::T)) w w' ((pb,31,v.cells)::(T++Tn))/\Holds' (T++Tn) v.ok:=by
 cases hl:lineP false (inp.extract 0 n) with
 | error q=>obtain ⟨a,b⟩:=q; exact line_err pb mo po inp pj kj lj rd wr pv pn kn ln pp kp lp T n w hG h0 hm hvl hp0 hn hl
 | ok js=>exact line_ok pb mo po inp pj kj lj rd wr pv pn kn ln pp kp lp T n w hG h0 hm hvl hp0 hn hl
end Go.Proofs.YtdljjajjonfjbaaDoor
namespace Go.Proofs.YtdljjajjonfjbaaDoor
open Go Go.Shelf Go.RowKit Go.Proofs Go.Proofs.Sx
theorem jobS_valid {s:StL} (h:validL s.jobs=true):validL (jobS s).1.jobs=true:=by
  have tl : ∀ {j:JobL} {r:List JobL},s.jobs=j::r->validL r=true:=fun {j r} e=>by
    rw [e] at h
    unfold validL at h ⊢
    rw [Bool.and_eq_true,List.all_cons,Bool.and_eq_true] at h
    rw [Bool.and_eq_true]
    exact ⟨h.1.2,decide_eq_true (by have:=of_decide_eq_true h.2; rw [List.length_cons] at this; omega)⟩
  unfold jobS
  split
  · exact h
  · rename_i j r e
    repeat' split
    all_goals first | exact h | exact tl e
theorem jobS_none {s s':StL} (h:jobS s=(s',none)) (hj : 0 < s.jobs.length):meas s'+1=meas s:=by
 unfold jobS at h
 split at h
 · rename_i e; rw [e] at hj; simp at hj
 rename_i j r e
 repeat' split at h
 all_goals (cases h; try (unfold meas; rw [e]; simp only [List.length_cons]; omega))
theorem lineS_meas {s:StL} {n:Nat} (h:n < s.inp.size) (hj:s.jobs.length=0) (hv:(lineS s n).jobs.length<=8):meas (lineS s n)+1<=meas s:=by
 have e:(lineS s n).inp=s.inp.extract (n+1) s.inp.size:=by unfold lineS; split <;> rfl
 unfold meas
 rw [e,ByteArray.size_extract,hj]
 omega
theorem valid_le {l:List JobL} (h:validL l=true):l.length<=8:=by
 unfold validL at h
 rw [Bool.and_eq_true] at h
 exact of_decide_eq_true h.2
section
variable {s s':StL} {c:CallL} {r:List CallL} {f:Nat}
theorem proc_plan (h:s.plan=c::r):procF (f+1) s=({s with mode:=2},c):=by simp only [procF]; rw [h]
theorem proc_some (h:s.plan=[]) (hj : 0 < s.jobs.length) (hs:jobS s=(s',some c)):procF (f+1) s=(s',c):=by
 simp only [procF]
 rw [h]
 cases hq:s.jobs with
 | nil=>rw [hq] at hj; simp at hj
 | cons j r=>simp only; rw [hs]
theorem proc_none (h:s.plan=[]) (hj : 0 < s.jobs.length) (hs:jobS s=(s',none)):procF (f+1) s=procF f s':=by
 simp only [procF]
 rw [h]
 cases hq:s.jobs with
 | nil=>rw [hq] at hj; simp at hj
 | cons j r=>simp only; rw [hs]
theorem proc_read (h:s.plan=[]) (hj:s.jobs=[]) (hn:nlI s.inp < 0):procF (f+1) s=({s with mode:=1},callL 9 0 80):=by
 simp only [procF]
 rw [h,hj]
 simp only
 rw [if_pos hn]
theorem proc_line (h:s.plan=[]) (hj:s.jobs=[]) (hn : ¬ nlI s.inp < 0):procF (f+1) s=procF f (lineS s (nlI s.inp).toNat):=by
 simp only [procF]
 rw [h,hj]
 simp only
 rw [if_neg hn]
end
theorem ixb_lt : ∀ (l:List UInt8) (c:UInt8),Lib.indexByte l c < 0\/Lib.indexByte l c < l.length:=by
  intro l c
  induction l with
  | nil=>left; simp [Lib.indexByte]
  | cons x r ih =>
    simp only [Lib.indexByte,List.length_cons]
    split
    · right; omega
    · split
      · left; omega
      · rcases ih with h | h
        · omega
        · right; omega
theorem nlI_lt {s:ByteArray} (h : ¬ nlI s < 0):(nlI s).toNat < s.size:=by
 have:=ixb_lt s.data.toList 10
 rw [size_list] at this
 unfold nlI at h ⊢
 omega
theorem ixb_ge : ∀ (l:List UInt8) (c:UInt8),-1<=Lib.indexByte l c:=by
  intro l c
  induction l with
  | nil=>simp [Lib.indexByte]
  | cons x r ih =>
    simp only [Lib.indexByte]
    split
    · omega
    · split
      · omega
      · omega
end Go.Proofs.YtdljjajjonfjbaaDoor
