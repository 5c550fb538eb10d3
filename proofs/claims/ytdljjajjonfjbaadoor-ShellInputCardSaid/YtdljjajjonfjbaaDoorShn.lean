import Derived.Test.YtdljjajjonfjbaaDoorShm
import Derived.Test.YtdljjajjonfjbaaDoorSn
set_option linter.unusedVariables false
set_option linter.unusedSimpArgs false
set_option maxRecDepth 10000
namespace Go.Proofs.YtdljjajjonfjbaaDoor
open Go Go.Shelf Go.RowKit Go.Proofs Go.Proofs.Sx
section
variable {P:Program} {X:Nat->Prop} {w₀ w w':World} {A B T Tn:OwL} {x x' y:Nat×TypeId×List Value}
theorem msw (h:Ow P X w₀ w ((A++[x,y])++B)):Ow P X w₀ w ((A++[y,x])++B):=(h.m.perm (List.Perm.append_right B (List.Perm.append_left A (List.Perm.swap y x [])))).o
theorem mself2 (h:Ow P X w₀ w ((A++[x,y])++(T++B))):Ow P (inT (x::T)) w w (x::T):=mself (A:=A++[y]) (B:=B) ((msw h).to (by simp only [List.append_assoc,List.cons_append,List.nil_append]))
theorem mcall2 {T':OwL} (h:Ow P X w₀ w ((A++[x,y])++(T++B))) (h':Ow P (inT (x::T)) w w' (x'::(T'++Tn))):Ow P X w₀ w' ((A++[x',y])++(T'++(Tn++B))) :=
  msw ((Ow.pass (A:=A++[y]) (T:=x::T) (B:=B) (T':=x'::(T'++Tn)) ((msw h).tt) h').tt)
end
theorem open_any (nm:ByteArray) (fl fd:Int) (ob:Nat) (po:Option Addr) (ko:Nat) (lo:List PV) (To:OwL) (w:World) (h1:One fP 35 5 po ko lo To) (h0:Ow Tryd.prog (inT ((ob,29,[.slice po lo.length ko])::To)) w w ((ob,29,[.slice po lo.length ko])::To)) (hnm:nm.size<=1000) (hlo:lo.length<=1000) :
    Calls Tryd.prog 56 #[str nm,i64 fl,i64 fd,pt ob] w fun e w'=>e = .returned (.tuple #[])/\∃ p' c' T' pd cd Td,One fP 35 5 p' c' (lo++([⟨pd,cd,⟨7,fl,0,0,sI nm⟩⟩,⟨none,0,⟨12,-1,fd,0,[]⟩⟩,⟨none,0,⟨8,-1,0,0,[]⟩⟩]:List PV)) T'/\One fB 5 1 pd cd (sI nm) Td/\Ow Tryd.prog (inT ((ob,29,[.slice po lo.length ko])::To)) w w' ((ob,29,[.slice p' (lo++([⟨pd,cd,⟨7,fl,0,0,sI nm⟩⟩,⟨none,0,⟨12,-1,fd,0,[]⟩⟩,⟨none,0,⟨8,-1,0,0,[]⟩⟩]:List PV)).length c'])::(T'++Td)):=by
 refine c_enter (args:=[str nm,i64 fl,i64 fd,pt ob]) (m:=19) (n:=23) Tryd.func56 rfl (by kernel_rfl) (by kernel_rfl) fun fr hA=>?_
 generalize inT ((ob,29,[.slice po lo.length ko])::To)=M at *
 have hO:Ow Tryd.prog M w w ([(ob,29,[.slice po lo.length ko])]++(To++([]))):=h0.to (by first | rfl | first | rfl | (simp only [TP,apd]))
 refine sr 5 ?_
 refine Ka 1 [(8,i64 fl)] hA fun fr hA=>?_
 refine Mv [i64 fl] 3 1 9 hA hO fun fr w1 b1 hA hO=>?_
 refine Mk 10 hA hO Tryd.func12 (call_1 7 fl ⟨b1,0,none⟩ 1 _ ((hO.b 0).vw (off:=0) (xs:=[fl]) (by kernel_rfl))) fun fr w2 hA hO=>?_
 refine Mn [i64 0,i64 0,i64 0,i64 0,.slice none 0 0] 35 7 hA hO fun fr w3 b2 hA hO=>?_
 refine Ms 0 [i64 7,i64 fl,i64 0,i64 0,.slice none 0 0] 0 hA hO fun w4 hO=>?_
 refine end_ops ?_
 refine then_normal ?_
 refine sr 4 ?_
 refine Ka 1 [(11,str nm)] hA fun fr hA=>?_
 replace hO:Ow Tryd.prog M w w4 ([(b2,35,[i64 7,i64 fl,i64 0,i64 0,.slice none 0 0]),(b1,3,[i64 fl]),(ob,29,[.slice po lo.length ko])]++(To++([]))):=hO
 refine wpOps_cons' (mB (t0:=9) (t:=33) (el:=5) (s:=nm) (d:=12) hA hO (by unfold maxLen; omega) fun fr w5 p1 c1 T1 hA hO hT1=>?_)
 replace hO:Ow Tryd.prog M w w5 ([(b2,35,[i64 7,i64 fl,i64 0,i64 0,.slice none 0 0]),(b1,3,[i64 fl]),(ob,29,[.slice po lo.length ko])]++(To++(T1++([])))):=hO.to (by first | rfl | (simp only [TP,apd]))
 refine Ka 1 [(13,pf b2 4)] hA fun fr hA=>?_
 refine Ms 4 [.slice p1 ((sI nm).length) c1] 0 hA hO fun w6 hO=>?_
 refine end_ops ?_
 refine then_normal ?_
 have hS:Ow Tryd.prog M w _ [(b2,35,[i64 7,i64 fl,i64 0,i64 0,.slice p1 ((sI nm).length) c1]),(b1,3,[i64 fl])]:=hO.sub [0,1]
 refine rT (.q 1 (.q 2 (.m 0 (.m 3 (.m 4 (.m 5 (.m 6 (.m 7 (.m 8 (.m 9 .fin .non) .non) .non) .non) .non) (.m 5 (.m 4 (.m 6 (.m 7 (.m 8 (.m 9 .fin .non) .non) .non) .non) .non) .non)) (.m 5 (.m 3 (.m 4 (.m 6 (.m 7 (.m 8 (.m 9 .fin .non) .non) .non) .non) .non) .non) .non)) (.m 3 (.m 0 (.m 4 (.m 5 (.m 6 (.m 7 (.m 8 (.m 9 .fin .non) .non) .non) .non) .non) (.m 5 (.m 4 (.m 6 (.m 7 (.m 8 (.m 9 .fin .non) .non) .non) .non) .non) .non)) (.m 4 (.m 0 (.m 5 (.m 6 (.m 7 (.m 8 (.m 9 .fin .non) .non) .non) .non) .non) (.m 5 (.m 0 (.m 6 (.m 7 (.m 8 (.m 9 .fin .non) .non) .non) .non) (.m 6 (.m 0 (.m 7 (.m 8 (.m 9 .fin .non) .non) .non) (.m 7 (.m 0 (.m 8 (.m 9 .fin .non) .non) .non) .non)) .non)) .non)) (.m 5 (.m 0 (.m 4 (.m 6 (.m 7 (.m 8 (.m 9 .fin .non) .non) .non) .non) .non) (.m 4 (.m 0 (.m 6 (.m 7 (.m 8 (.m 9 .fin .non) .non) .non) .non) (.m 6 (.m 0 (.m 7 (.m 8 (.m 9 .fin .non) .non) .non) (.m 7 (.m 0 (.m 8 (.m 9 .fin .non) .non) .non) .non)) .non)) .non)) .non))) (.m 5 (.m 0 (.m 3 (.m 4 (.m 6 (.m 7 (.m 8 (.m 9 .fin .non) .non) .non) .non) .non) .non) (.m 3 (.m 0 (.m 4 (.m 6 (.m 7 (.m 8 (.m 9 .fin .non) .non) .non) .non) .non) (.m 4 (.m 0 (.m 6 (.m 7 (.m 8 (.m 9 .fin .non) .non) .non) .non) (.m 6 (.m 0 (.m 7 (.m 8 (.m 9 .fin .non) .non) .non) (.m 7 (.m 0 (.m 8 (.m 9 .fin .non) .non) .non) .non)) .non)) .non)) .non)) .non))))) hS ?_
 intro w7 ho; replace hO:=hO.st ho; clear ho
 refine tree_let (t1:= .m 7 (.m 8 (.m 9 .fin .non) .non) .non) (fun fr W=>Holds 23 [] fr [(3,pt ob),(14,.slice po lo.length ko),(15,.agg #[i64 7,i64 fl,i64 0,i64 0,.slice p1 ((sI nm).length) c1]),(18,.agg #[i64 12,i64 (-1),i64 fd,i64 0,.slice none 0 0]),(20,.agg #[i64 8,i64 (-1),i64 0,i64 0,.slice none 0 0])]/\Ow Tryd.prog M w W ([(b2,35,[i64 7,i64 fl,i64 0,i64 0,.slice p1 ((sI nm).length) c1]),(b1,3,[i64 fl]),(ob,29,[.slice po lo.length ko])]++(To++(T1++([]))))/\True) ?_ ?_
 · rintro fr w8 ⟨hA,hO,-⟩
   refine tree_mem ?_ ?_
   · refine (mN (l:=[i64 7,i64 fl,i64 0,i64 0,.slice p1 ((sI nm).length) c1,i64 12,i64 (-1),i64 fd,i64 0,.slice none 0 0,i64 8,i64 (-1),i64 0,i64 0,.slice none 0 0]) (t:=35) (v:=fun b=> .slice (some ⟨b,0,none⟩) 3 3) (d:=21) hA hO fun fr w9 b3 hA hO=>?_)
     refine ⟨(hO.sub [1,2]),?_⟩
     refine tree_mem ?_ ?_
     · replace hO:Ow Tryd.prog M w w9 ([(b3,35,[i64 7,i64 fl,i64 0,i64 0,.slice p1 ((sI nm).length) c1,i64 12,i64 (-1),i64 fd,i64 0,.slice none 0 0,i64 8,i64 (-1),i64 0,i64 0,.slice none 0 0]),(b2,35,[i64 7,i64 fl,i64 0,i64 0,.slice p1 ((sI nm).length) c1]),(b1,3,[i64 fl]),(ob,29,[.slice po lo.length ko])]++(To++(T1++([])))):=hO
       refine (mA (f:=fP) (el:=35) (sz:=5) (bytes:=56) (p:=po) (c:=ko) (l:=lo) (l':=([⟨p1,c1,⟨7,fl,0,0,sI nm⟩⟩,⟨none,0,⟨12,(-1),fd,0,[]⟩⟩,⟨none,0,⟨8,(-1),0,0,[]⟩⟩]:List PV)) (T:=To) (t:=29) (tx:=29) (ty:=29) (x:= .slice (some ⟨b3,0,none⟩) 3 3) (d:=22) [(b3,35,[i64 7,i64 fl,i64 0,i64 0,.slice p1 ((sI nm).length) c1,i64 12,i64 (-1),i64 fd,i64 0,.slice none 0 0,i64 8,i64 (-1),i64 0,i64 0,.slice none 0 0]),(b2,35,[i64 7,i64 fl,i64 0,i64 0,.slice p1 ((sI nm).length) c1]),(b1,3,[i64 fl]),(ob,29,[.slice po lo.length ko])] (T1++([])) encP hA hO h1 (Vw.src (e':=35) encP ((hO.b 0).vw (off:=0) (xs:=([⟨p1,c1,⟨7,fl,0,0,sI nm⟩⟩,⟨none,0,⟨12,(-1),fd,0,[]⟩⟩,⟨none,0,⟨8,(-1),0,0,[]⟩⟩]:List PV)) (by kernel_rfl)) (by kernel_rfl)) (by first | omega | (simp only [List.length_append,List.length_cons,List.length_nil]; omega)) (by unfold maxLen; first | omega | (simp only [List.length_append,List.length_cons,List.length_nil]; omega)) fun fr w10 p2 c2 T2 hA hO hT2=>?_)
       refine ⟨(hO.sub [1,2]),?_⟩
       refine tree_mem ?_ ?_
       · refine (mS (off:=0) (vc:=[.slice p2 ((lo++([⟨p1,c1,⟨7,fl,0,0,sI nm⟩⟩,⟨none,0,⟨12,(-1),fd,0,[]⟩⟩,⟨none,0,⟨8,(-1),0,0,[]⟩⟩]:List PV)).length) c2]) 3 hA hO fun w11 hO=>?_)
         refine ⟨(hO.sub [1,2]),?_⟩
         refine tree_fin ?_
         refine c_end ?_
         refine cv [] hA ?_
         replace hO:Ow Tryd.prog M w w11 ([(b3,35,[i64 7,i64 fl,i64 0,i64 0,.slice p1 ((sI nm).length) c1,i64 12,i64 (-1),i64 fd,i64 0,.slice none 0 0,i64 8,i64 (-1),i64 0,i64 0,.slice none 0 0]),(b2,35,[i64 7,i64 fl,i64 0,i64 0,.slice p1 ((sI nm).length) c1]),(b1,3,[i64 fl]),(ob,29,[.slice p2 ((lo++([⟨p1,c1,⟨7,fl,0,0,sI nm⟩⟩,⟨none,0,⟨12,(-1),fd,0,[]⟩⟩,⟨none,0,⟨8,(-1),0,0,[]⟩⟩]:List PV)).length) c2])]++(T2++(T1++([])))):=hO
         exact ⟨rfl,_,_,_,p1,c1,_,hT2,hT1,((Ow.subP (A:=[_,_,_,_]) hO (.cons _ (.cons _ (.cons _ (.cons_cons _ .slnil)))))).to (by simp only [List.append_nil,List.cons_append,List.nil_append])⟩
       exact trivial
     exact trivial
   exact trivial
 intro ht1
 refine tree_let (t1:= .m 6 (.m 7 (.m 8 (.m 9 .fin .non) .non) .non) .non) (fun fr W=>∃ (s1:Nat),Holds 23 [] fr [(3,pt ob),(14,.slice po lo.length ko),(15,.agg #[i64 7,i64 fl,i64 0,i64 0,.slice p1 ((sI nm).length) c1]),(18,.agg #[i64 12,i64 (-1),i64 fd,i64 0,.slice none 0 0]),(19,.slice (some ⟨s1,0,none⟩) 1 1)]/\Ow Tryd.prog M w W ([(s1,3,[i64 (-1)]),(b2,35,[i64 7,i64 fl,i64 0,i64 0,.slice p1 ((sI nm).length) c1]),(b1,3,[i64 fl]),(ob,29,[.slice po lo.length ko])]++(To++(T1++([]))))/\True) ?_ ?_
 · rintro fr w12 ⟨s1,hA,hO,-⟩
   refine tree_mem ?_ ?_
   · refine (mK (d:=(some 20)) hA hO Tryd.func12 (call_1 8 (-1) ⟨s1,0,none⟩ 1 _ ((hO.b 0).vw (off:=0) (xs:=[(-1)]) (by kernel_rfl))) fun fr w13 hA hO=>?_)
     refine ⟨(hO.sub [1,2]),?_⟩
     exact ht1 _ _ ⟨hA.sb,(Ow.subP (A:=[_,_,_,_]) hO (.cons _ (.cons_cons _ (.cons_cons _ (.cons_cons _ .slnil))))),trivial⟩
   exact trivial
 intro ht2
 refine tree_let (t1:= .m 5 (.m 6 (.m 7 (.m 8 (.m 9 .fin .non) .non) .non) .non) .non) (fun fr W=>Holds 23 [] fr [(3,pt ob),(14,.slice po lo.length ko),(15,.agg #[i64 7,i64 fl,i64 0,i64 0,.slice p1 ((sI nm).length) c1]),(18,.agg #[i64 12,i64 (-1),i64 fd,i64 0,.slice none 0 0])]/\Ow Tryd.prog M w W ([(b2,35,[i64 7,i64 fl,i64 0,i64 0,.slice p1 ((sI nm).length) c1]),(b1,3,[i64 fl]),(ob,29,[.slice po lo.length ko])]++(To++(T1++([]))))/\True) ?_ ?_
 · rintro fr w14 ⟨hA,hO,-⟩
   refine tree_mem ?_ ?_
   · refine (mN (l:=[i64 (-1)]) (t:=3) (v:=fun b=> .slice (some ⟨b,0,none⟩) 1 1) (d:=19) hA hO fun fr w15 b4 hA hO=>?_)
     refine ⟨(hO.sub [1,2]),?_⟩
     exact ht2 _ _ ⟨b4,hA.sb,hO,trivial⟩
   exact trivial
 intro ht3
 refine tree_let (t1:= .m 4 (.m 6 (.m 7 (.m 8 (.m 9 .fin .non) .non) .non) .non) .non) (fun fr W=>∃ (s2:Nat) (s3:Nat),Holds 23 [] fr [(3,pt ob),(14,.slice po lo.length ko),(15,.agg #[i64 7,i64 fl,i64 0,i64 0,.slice p1 ((sI nm).length) c1]),(17,.slice (some ⟨s2,0,none⟩) 2 2),(19,.slice (some ⟨s3,0,none⟩) 1 1)]/\Ow Tryd.prog M w W ([(s3,3,[i64 (-1)]),(s2,3,[i64 (-1),i64 fd]),(b2,35,[i64 7,i64 fl,i64 0,i64 0,.slice p1 ((sI nm).length) c1]),(b1,3,[i64 fl]),(ob,29,[.slice po lo.length ko])]++(To++(T1++([]))))/\True) ?_ ?_
 · rintro fr w16 ⟨s2,s3,hA,hO,-⟩
   refine tree_mem ?_ ?_
   · refine (mK (d:=(some 18)) hA hO Tryd.func12 (call_2 12 (-1) fd ⟨s2,0,none⟩ 2 _ ((hO.b 1).vw (off:=0) (xs:=[(-1),fd]) (by kernel_rfl))) fun fr w17 hA hO=>?_)
     refine ⟨(hO.sub [2,3]),?_⟩
     exact ht2 _ _ ⟨s3,hA.sb,(Ow.subP (A:=[_,_,_,_,_]) hO (.cons_cons _ (.cons _ (.cons_cons _ (.cons_cons _ (.cons_cons _ .slnil)))))),trivial⟩
   exact trivial
 intro ht4
 refine tree_let (t1:= .m 0 (.m 6 (.m 7 (.m 8 (.m 9 .fin .non) .non) .non) .non) (.m 6 (.m 0 (.m 7 (.m 8 (.m 9 .fin .non) .non) .non) (.m 7 (.m 0 (.m 8 (.m 9 .fin .non) .non) .non) .non)) .non)) (fun fr W=>∃ (s4:Nat),Holds 23 [] fr [(3,pt ob),(15,.agg #[i64 7,i64 fl,i64 0,i64 0,.slice p1 ((sI nm).length) c1]),(18,.agg #[i64 12,i64 (-1),i64 fd,i64 0,.slice none 0 0]),(19,.slice (some ⟨s4,0,none⟩) 1 1)]/\Ow Tryd.prog M w W ([(s4,3,[i64 (-1)]),(b2,35,[i64 7,i64 fl,i64 0,i64 0,.slice p1 ((sI nm).length) c1]),(b1,3,[i64 fl]),(ob,29,[.slice po lo.length ko])]++(To++(T1++([]))))/\True) ?_ ?_
 · rintro fr w18 ⟨s4,hA,hO,-⟩
   refine tree_mem ?_ ?_
   · refine (Qc [(14,.slice po lo.length ko)] hA [.slice po lo.length ko] (cc (hO.l1 3 0 29 (.slice po lo.length ko)) c0) fun fr hA=>?_)
     refine ⟨(hO.sub [1,2]),?_⟩
     exact ht2 _ _ ⟨s4,hA.sb,hO,trivial⟩
   refine tree_mem ?_ ?_
   · refine (mK (d:=(some 20)) hA hO Tryd.func12 (call_1 8 (-1) ⟨s4,0,none⟩ 1 _ ((hO.b 0).vw (off:=0) (xs:=[(-1)]) (by kernel_rfl))) fun fr w19 hA hO=>?_)
     refine ⟨(hO.sub [1,2]),?_⟩
     refine tree_mem ?_ ?_
     · refine (Qc [(14,.slice po lo.length ko)] hA [.slice po lo.length ko] (cc (hO.l1 3 0 29 (.slice po lo.length ko)) c0) fun fr hA=>?_)
       refine ⟨(hO.sub [1,2]),?_⟩
       exact ht1 _ _ ⟨hA.sb,(Ow.subP (A:=[_,_,_,_]) hO (.cons _ (.cons_cons _ (.cons_cons _ (.cons_cons _ .slnil))))),trivial⟩
     refine tree_mem ?_ ?_
     · refine (mN (l:=[i64 7,i64 fl,i64 0,i64 0,.slice p1 ((sI nm).length) c1,i64 12,i64 (-1),i64 fd,i64 0,.slice none 0 0,i64 8,i64 (-1),i64 0,i64 0,.slice none 0 0]) (t:=35) (v:=fun b=> .slice (some ⟨b,0,none⟩) 3 3) (d:=21) hA hO fun fr w20 b5 hA hO=>?_)
       refine ⟨(hO.sub [2,3]),?_⟩
       refine tree_mem ?_ ?_
       · refine (Qc [(14,.slice po lo.length ko)] hA [.slice po lo.length ko] (cc (hO.l1 4 0 29 (.slice po lo.length ko)) c0) fun fr hA=>?_)
         refine ⟨(hO.sub [2,3]),?_⟩
         refine tree_mem ?_ ?_
         · replace hO:Ow Tryd.prog M w w20 ([(b5,35,[i64 7,i64 fl,i64 0,i64 0,.slice p1 ((sI nm).length) c1,i64 12,i64 (-1),i64 fd,i64 0,.slice none 0 0,i64 8,i64 (-1),i64 0,i64 0,.slice none 0 0]),(s4,3,[i64 (-1)]),(b2,35,[i64 7,i64 fl,i64 0,i64 0,.slice p1 ((sI nm).length) c1]),(b1,3,[i64 fl]),(ob,29,[.slice po lo.length ko])]++(To++(T1++([])))):=hO
           refine (mA (f:=fP) (el:=35) (sz:=5) (bytes:=56) (p:=po) (c:=ko) (l:=lo) (l':=([⟨p1,c1,⟨7,fl,0,0,sI nm⟩⟩,⟨none,0,⟨12,(-1),fd,0,[]⟩⟩,⟨none,0,⟨8,(-1),0,0,[]⟩⟩]:List PV)) (T:=To) (t:=29) (tx:=29) (ty:=29) (x:= .slice (some ⟨b5,0,none⟩) 3 3) (d:=22) [(b5,35,[i64 7,i64 fl,i64 0,i64 0,.slice p1 ((sI nm).length) c1,i64 12,i64 (-1),i64 fd,i64 0,.slice none 0 0,i64 8,i64 (-1),i64 0,i64 0,.slice none 0 0]),(s4,3,[i64 (-1)]),(b2,35,[i64 7,i64 fl,i64 0,i64 0,.slice p1 ((sI nm).length) c1]),(b1,3,[i64 fl]),(ob,29,[.slice po lo.length ko])] (T1++([])) encP hA hO h1 (Vw.src (e':=35) encP ((hO.b 0).vw (off:=0) (xs:=([⟨p1,c1,⟨7,fl,0,0,sI nm⟩⟩,⟨none,0,⟨12,(-1),fd,0,[]⟩⟩,⟨none,0,⟨8,(-1),0,0,[]⟩⟩]:List PV)) (by kernel_rfl)) (by kernel_rfl)) (by first | omega | (simp only [List.length_append,List.length_cons,List.length_nil]; omega)) (by unfold maxLen; first | omega | (simp only [List.length_append,List.length_cons,List.length_nil]; omega)) fun fr w21 p3 c3 T3 hA hO hT3=>?_)
           refine ⟨(hO.sub [2,3]),?_⟩
           refine tree_mem ?_ ?_
           · refine (mS (off:=0) (vc:=[.slice p3 ((lo++([⟨p1,c1,⟨7,fl,0,0,sI nm⟩⟩,⟨none,0,⟨12,(-1),fd,0,[]⟩⟩,⟨none,0,⟨8,(-1),0,0,[]⟩⟩]:List PV)).length) c3]) 4 hA hO fun w22 hO=>?_)
             refine ⟨(hO.sub [2,3]),?_⟩
             refine tree_fin ?_
             refine c_end ?_
             refine cv [] hA ?_
             replace hO:Ow Tryd.prog M w w22 ([(b5,35,[i64 7,i64 fl,i64 0,i64 0,.slice p1 ((sI nm).length) c1,i64 12,i64 (-1),i64 fd,i64 0,.slice none 0 0,i64 8,i64 (-1),i64 0,i64 0,.slice none 0 0]),(s4,3,[i64 (-1)]),(b2,35,[i64 7,i64 fl,i64 0,i64 0,.slice p1 ((sI nm).length) c1]),(b1,3,[i64 fl]),(ob,29,[.slice p3 ((lo++([⟨p1,c1,⟨7,fl,0,0,sI nm⟩⟩,⟨none,0,⟨12,(-1),fd,0,[]⟩⟩,⟨none,0,⟨8,(-1),0,0,[]⟩⟩]:List PV)).length) c3])]++(T3++(T1++([])))):=hO
             exact ⟨rfl,_,_,_,p1,c1,_,hT3,hT1,((Ow.subP (A:=[_,_,_,_,_]) hO (.cons _ (.cons _ (.cons _ (.cons _ (.cons_cons _ .slnil))))))).to (by simp only [List.append_nil,List.cons_append,List.nil_append])⟩
           exact trivial
         exact trivial
       exact trivial
     exact trivial
   exact trivial
 intro ht5
 refine tree_let (t1:= .m 4 (.m 5 (.m 6 (.m 7 (.m 8 (.m 9 .fin .non) .non) .non) .non) .non) (.m 5 (.m 4 (.m 6 (.m 7 (.m 8 (.m 9 .fin .non) .non) .non) .non) .non) .non)) (fun fr W=>∃ (s5:Nat),Holds 23 [] fr [(3,pt ob),(14,.slice po lo.length ko),(15,.agg #[i64 7,i64 fl,i64 0,i64 0,.slice p1 ((sI nm).length) c1]),(17,.slice (some ⟨s5,0,none⟩) 2 2)]/\Ow Tryd.prog M w W ([(s5,3,[i64 (-1),i64 fd]),(b2,35,[i64 7,i64 fl,i64 0,i64 0,.slice p1 ((sI nm).length) c1]),(b1,3,[i64 fl]),(ob,29,[.slice po lo.length ko])]++(To++(T1++([]))))/\True) ?_ ?_
 · rintro fr w23 ⟨s5,hA,hO,-⟩
   refine tree_mem ?_ ?_
   · refine (mK (d:=(some 18)) hA hO Tryd.func12 (call_2 12 (-1) fd ⟨s5,0,none⟩ 2 _ ((hO.b 0).vw (off:=0) (xs:=[(-1),fd]) (by kernel_rfl))) fun fr w24 hA hO=>?_)
     refine ⟨(hO.sub [1,2]),?_⟩
     exact ht3 _ _ ⟨hA.sb,(Ow.subP (A:=[_,_,_,_]) hO (.cons _ (.cons_cons _ (.cons_cons _ (.cons_cons _ .slnil))))),trivial⟩
   refine tree_mem ?_ ?_
   · refine (mN (l:=[i64 (-1)]) (t:=3) (v:=fun b=> .slice (some ⟨b,0,none⟩) 1 1) (d:=19) hA hO fun fr w25 b6 hA hO=>?_)
     refine ⟨(hO.sub [2,3]),?_⟩
     exact ht4 _ _ ⟨s5,b6,hA.sb,hO,trivial⟩
   exact trivial
 intro ht6
 refine tree_let (t1:= .m 3 (.m 4 (.m 6 (.m 7 (.m 8 (.m 9 .fin .non) .non) .non) .non) .non) .non) (fun fr W=>∃ (s6:Nat),Holds 23 [] fr [(3,pt ob),(14,.slice po lo.length ko),(15,.agg #[i64 7,i64 fl,i64 0,i64 0,.slice p1 ((sI nm).length) c1]),(16,i64 fd),(19,.slice (some ⟨s6,0,none⟩) 1 1)]/\Ow Tryd.prog M w W ([(s6,3,[i64 (-1)]),(b2,35,[i64 7,i64 fl,i64 0,i64 0,.slice p1 ((sI nm).length) c1]),(b1,3,[i64 fl]),(ob,29,[.slice po lo.length ko])]++(To++(T1++([]))))/\True) ?_ ?_
 · rintro fr w26 ⟨s6,hA,hO,-⟩
   refine tree_mem ?_ ?_
   · refine (mN (l:=[i64 (-1),i64 fd]) (t:=3) (v:=fun b=> .slice (some ⟨b,0,none⟩) 2 2) (d:=17) hA hO fun fr w27 b7 hA hO=>?_)
     refine ⟨(hO.sub [2,3]),?_⟩
     exact ht4 _ _ ⟨b7,s6,hA.sb,(permA (A:=[_,_,_,_,_]) (hO) (List.Perm.swap _ _ _)),trivial⟩
   exact trivial
 intro ht7
 refine tree_let (t1:= .m 0 (.m 4 (.m 6 (.m 7 (.m 8 (.m 9 .fin .non) .non) .non) .non) .non) (.m 4 (.m 0 (.m 6 (.m 7 (.m 8 (.m 9 .fin .non) .non) .non) .non) (.m 6 (.m 0 (.m 7 (.m 8 (.m 9 .fin .non) .non) .non) (.m 7 (.m 0 (.m 8 (.m 9 .fin .non) .non) .non) .non)) .non)) .non)) (fun fr W=>∃ (s7:Nat) (s8:Nat),Holds 23 [] fr [(3,pt ob),(15,.agg #[i64 7,i64 fl,i64 0,i64 0,.slice p1 ((sI nm).length) c1]),(17,.slice (some ⟨s7,0,none⟩) 2 2),(19,.slice (some ⟨s8,0,none⟩) 1 1)]/\Ow Tryd.prog M w W ([(s8,3,[i64 (-1)]),(s7,3,[i64 (-1),i64 fd]),(b2,35,[i64 7,i64 fl,i64 0,i64 0,.slice p1 ((sI nm).length) c1]),(b1,3,[i64 fl]),(ob,29,[.slice po lo.length ko])]++(To++(T1++([]))))/\True) ?_ ?_
 · rintro fr w28 ⟨s7,s8,hA,hO,-⟩
   refine tree_mem ?_ ?_
   · refine (Qc [(14,.slice po lo.length ko)] hA [.slice po lo.length ko] (cc (hO.l1 4 0 29 (.slice po lo.length ko)) c0) fun fr hA=>?_)
     refine ⟨(hO.sub [2,3]),?_⟩
     exact ht4 _ _ ⟨s7,s8,hA.sb,hO,trivial⟩
   refine tree_mem ?_ ?_
   · refine (mK (d:=(some 18)) hA hO Tryd.func12 (call_2 12 (-1) fd ⟨s7,0,none⟩ 2 _ ((hO.b 1).vw (off:=0) (xs:=[(-1),fd]) (by kernel_rfl))) fun fr w29 hA hO=>?_)
     refine ⟨(hO.sub [2,3]),?_⟩
     exact ht5 _ _ ⟨s8,hA.sb,(Ow.subP (A:=[_,_,_,_,_]) hO (.cons_cons _ (.cons _ (.cons_cons _ (.cons_cons _ (.cons_cons _ .slnil)))))),trivial⟩
   exact trivial
 intro ht8
 refine Kt [1,2] [(15,.agg #[i64 7,i64 fl,i64 0,i64 0,.slice p1 ((sI nm).length) c1]),(16,i64 fd)] hA [.agg #[i64 7,i64 fl,i64 0,i64 0,.slice p1 ((sI nm).length) c1]] (cc (hS.sn 0 0 35 [i64 7,i64 fl,i64 0,i64 0,.slice p1 ((sI nm).length) c1]) c0) fun fr hA=>?_
 refine tree_mem ?_ ?_
 · refine (Qc [(14,.slice po lo.length ko)] hA [.slice po lo.length ko] (cc (hO.l1 2 0 29 (.slice po lo.length ko)) c0) fun fr hA=>?_)
   refine ⟨(hO.sub [0,1]),?_⟩
   refine tree_mem ?_ ?_
   · refine (mN (l:=[i64 (-1),i64 fd]) (t:=3) (v:=fun b=> .slice (some ⟨b,0,none⟩) 2 2) (d:=17) hA hO fun fr w30 b8 hA hO=>?_)
     refine ⟨(hO.sub [1,2]),?_⟩
     exact ht6 _ _ ⟨b8,hA.sb,hO,trivial⟩
   refine tree_mem ?_ ?_
   · refine (mN (l:=[i64 (-1)]) (t:=3) (v:=fun b=> .slice (some ⟨b,0,none⟩) 1 1) (d:=19) hA hO fun fr w31 b9 hA hO=>?_)
     refine ⟨(hO.sub [1,2]),?_⟩
     exact ht7 _ _ ⟨b9,hA.sb,hO,trivial⟩
   exact trivial
 refine tree_mem ?_ ?_
 · refine (mN (l:=[i64 (-1),i64 fd]) (t:=3) (v:=fun b=> .slice (some ⟨b,0,none⟩) 2 2) (d:=17) hA hO fun fr w32 b10 hA hO=>?_)
   refine ⟨(hO.sub [1,2]),?_⟩
   refine tree_mem ?_ ?_
   · refine (Qc [(14,.slice po lo.length ko)] hA [.slice po lo.length ko] (cc (hO.l1 3 0 29 (.slice po lo.length ko)) c0) fun fr hA=>?_)
     refine ⟨(hO.sub [1,2]),?_⟩
     exact ht6 _ _ ⟨b10,hA.sb,hO,trivial⟩
   refine tree_mem ?_ ?_
   · refine (mK (d:=(some 18)) hA hO Tryd.func12 (call_2 12 (-1) fd ⟨b10,0,none⟩ 2 _ ((hO.b 0).vw (off:=0) (xs:=[(-1),fd]) (by kernel_rfl))) fun fr w33 hA hO=>?_)
     refine ⟨(hO.sub [1,2]),?_⟩
     refine tree_mem ?_ ?_
     · refine (Qc [(14,.slice po lo.length ko)] hA [.slice po lo.length ko] (cc (hO.l1 3 0 29 (.slice po lo.length ko)) c0) fun fr hA=>?_)
       refine ⟨(hO.sub [1,2]),?_⟩
       exact ht3 _ _ ⟨hA.sb,(Ow.subP (A:=[_,_,_,_]) hO (.cons _ (.cons_cons _ (.cons_cons _ (.cons_cons _ .slnil))))),trivial⟩
     refine tree_mem ?_ ?_
     · refine (mN (l:=[i64 (-1)]) (t:=3) (v:=fun b=> .slice (some ⟨b,0,none⟩) 1 1) (d:=19) hA hO fun fr w34 b11 hA hO=>?_)
       refine ⟨(hO.sub [2,3]),?_⟩
       exact ht5 _ _ ⟨b11,hA.sb,(Ow.subP (A:=[_,_,_,_,_]) hO (.cons_cons _ (.cons _ (.cons_cons _ (.cons_cons _ (.cons_cons _ .slnil)))))),trivial⟩
     exact trivial
   refine tree_mem ?_ ?_
   · refine (mN (l:=[i64 (-1)]) (t:=3) (v:=fun b=> .slice (some ⟨b,0,none⟩) 1 1) (d:=19) hA hO fun fr w35 b12 hA hO=>?_)
     refine ⟨(hO.sub [2,3]),?_⟩
     exact ht8 _ _ ⟨b10,b12,hA.sb,hO,trivial⟩
   exact trivial
 refine tree_mem ?_ ?_
 · refine (mN (l:=[i64 (-1)]) (t:=3) (v:=fun b=> .slice (some ⟨b,0,none⟩) 1 1) (d:=19) hA hO fun fr w36 b13 hA hO=>?_)
   refine ⟨(hO.sub [1,2]),?_⟩
   refine tree_mem ?_ ?_
   · refine (Qc [(14,.slice po lo.length ko)] hA [.slice po lo.length ko] (cc (hO.l1 3 0 29 (.slice po lo.length ko)) c0) fun fr hA=>?_)
     refine ⟨(hO.sub [1,2]),?_⟩
     exact ht7 _ _ ⟨b13,hA.sb,hO,trivial⟩
   refine tree_mem ?_ ?_
   · refine (mN (l:=[i64 (-1),i64 fd]) (t:=3) (v:=fun b=> .slice (some ⟨b,0,none⟩) 2 2) (d:=17) hA hO fun fr w37 b14 hA hO=>?_)
     refine ⟨(hO.sub [2,3]),?_⟩
     exact ht8 _ _ ⟨b14,b13,hA.sb,(permA (A:=[_,_,_,_,_]) (hO) (List.Perm.swap _ _ _)),trivial⟩
   exact trivial
 exact trivial
end Go.Proofs.YtdljjajjonfjbaaDoor
