import Derived.Test.YtdljjajjonfjbaaDoorParse
import Derived.Test.YtdljjajjonfjbaaDoorSn
set_option linter.unusedVariables false
set_option linter.unusedSimpArgs false
set_option maxRecDepth 10000
namespace Go.Proofs.YtdljjajjonfjbaaDoor
open Go Go.Shelf Go.RowKit Go.Proofs Go.Proofs.Sx
theorem line_any (pb:Nat) (sv:ByteArray) (w:World) (hs:sv.size<=1000000) (h0:Ow Tryd.prog (inT (TP pb sv 0)) w w (TP pb sv 0)) :
    Calls Tryd.prog 62 #[pt pb] w fun e w'=>(∃ a b,lineP false sv = .error (a,b)/\e = .panicked (pnc a b)/\Only (inT (TP pb sv 0)) w w')\/∃ m p k l T0 T1,lineP false sv = .ok (l.map JV.d)/\e = .returned (.slice p l.length k)/\One fJ 64 2 p k l T0/\InJ 66 9 l T1/\Ow Tryd.prog (inT (TP pb sv 0)) w w' (TP pb sv m++(T0++T1))/\l.length<=1000000:=by
 refine c_enter (args:=[pt pb]) (m:=62) (n:=63) Tryd.func62 rfl (by kernel_rfl) (by kernel_rfl) fun fr hA=>?_
 have hO:Ow Tryd.prog (inT (TP pb sv 0)) w w [(pb,103,[str sv,i64 0,.slice none 0 0])]:=h0
 refine Sa [(2,.slice none 0 0)] hA fun fr hA=>?_
 refine sr 2 ?_
 refine Ka 1 [(6,pt pb)] hA fun fr hA=>?_
 refine wpOps_cons' (mC (d:=(some 7)) hA Tryd.func65 ((skip_any pb sv 0 _ (by omega) (by omega) (Ow.self (A:=[]) (hO.tt))).mono ?_))
 rintro en w1 ⟨rfl,hW⟩
 refine ⟨_,rfl,?_⟩
 clear hA fr; intro fr hA
 replace hO:=Ow.pass (A:=[]) hO hW; clear hW
 refine end_ops ?_
 refine then_normal ?_
 refine Sa [(3,.slice none 0 0)] hA fun fr hA=>?_
 refine wp_seq ?_
 refine wp_block ?_
 have hT1:=One.nil fJ 64 2
 have hC0:InJ 66 9 [] []:=rfl
 refine c_loop (fun mm fr W=>∃ (l:List JV) (m f:Nat) (pL1:Option Addr) (cL1:Nat) (TL1:OwL) (TL2:OwL),mm=sv.size - m/\Holds 63 [] fr [(0,pt pb),(2,.slice none 0 0),(3,.slice pL1 l.length cL1)]/\Ow Tryd.prog (inT (TP pb sv 0)) w W ([(pb,103,[str sv,i64 ((m:Nat):Int),.slice none 0 0])]++(TL1++(TL2++([]))))/\One fJ 64 2 pL1 cL1 l TL1/\InJ 66 9 l TL2/\m<=sv.size/\sv.size - m < f/\lineF false sv f (l.map JV.d) m=lineP false sv/\l.length<=m/\True) ?_ ?_
 · exact ⟨_,([]:List JV),sk sv 0,sv.size+1,none,0,[],[],rfl,hA.ss,hO.tt,hT1,hC0,(sk_le (Nat.zero_le _)),(by omega),rfl,(Nat.zero_le _),trivial⟩
 rintro _ fr w2 ⟨l,m,f,pL1,cL1,TL1,TL2,rfl,hA,hO,hTL1,hTL2,hm,hf,hR,hcl,-⟩
 have hnx:=nx_le hm
 have hml:(l.map JV.d).length=l.length:=List.length_map _
 have hke:=kd_end hm
 refine wp_seq ?_
 refine wp_seq ?_
 have hS:Ow Tryd.prog (inT (TP pb sv 0)) w _ [(pb,103,[str sv,i64 ((m:Nat):Int),.slice none 0 0])]:=hO.sub [0]
 refine rP [(0,true),(1,true),(2,true),(3,true),(4,true),(5,true),(6,true),(7,true),(8,true),(9,true)] hS ?_
 intro w3 ho; replace hO:=hO.st ho; clear ho
 refine Ke 10 [(17,bl (decide (((m:Nat):Int) < ((sv.size:Nat):Int))))] hA [i64 ((m:Nat):Int),str sv] (cc (hS.s1 0 1 3 (i64 ((m:Nat):Int))) (cc (hS.s1 0 0 9 (str sv)) c0)) fun fr hA=>?_
 refine end_plan ?_
 refine then_normal ?_
 rcases Bool.eq_false_or_eq_true (decide (((m:Nat):Int) < ((sv.size:Nat):Int))) with h1 | h1
 · rw [h1] at hA
   have h1p:=of_decide_eq_true h1
   obtain ⟨f,rfl⟩ : ∃ j,f=j+1:=⟨f - 1,by omega⟩
   have hgtx:=nx_gt (s:=sv) (n:=m)
   have hkd:=tl_kd sv m
   refine cT hA ?_
   refine wp_skip ?_
   refine then_normal ?_
   refine wp_block ?_
   refine wp_seq ?_
   refine sr 8 ?_
   refine Ka 4 [(20,bl (((l.length:Nat):Int) == 8)),(21,bl (((l.length:Nat):Int) == 8))] hA fun fr hA=>?_
   rcases Bool.eq_false_or_eq_true (((l.length:Nat):Int) == 8) with h2 | h2
   · rw [h2] at hA
     have h2p:=eq_of_beq h2
     refine Ka 1 [(21,bl true),(22,pt pb)] hA fun fr hA=>?_
     refine Mk 23 hA hO Tryd.func67 (next_any pb sv m _ (by omega) (by omega) (hO.b 0)) fun fr w4 hA hO=>?_
     refine Mk 24 hA hO Tryd.func66 (begins_any sv m _) fun fr w5 hA hO=>?_
     refine Ka 1 [(25,bl (begK (kd sv m)))] hA fun fr hA=>?_
     refine end_ops ?_
     refine then_normal ?_
     rcases Bool.eq_false_or_eq_true (begK (kd sv m)) with h3 | h3
     · rw [h3] at hA
       have h3p:=begK_yes h3
       refine cT hA ?_
       refine rr 2 ?_
       refine Ka 1 [(26,pt pb)] hA fun fr hA=>?_
       refine wpOps_cons' (mP (d:=(some 27)) hA Tryd.func68 ((fail_any pb sv m _ (by omega) (by omega) 6 (hO.b 0)).mono ?_))
       rintro en w6 ⟨rfl,hW⟩
       refine .inr ⟨_,rfl,?_⟩
       show _/\_
       exact ⟨hA.dfr,Or.inl ⟨_,_,(by rw [← hR]; exact lineF_lim (by omega) (by rw [List.length_map]; omega) (by assumption)),rfl,Ow.pan0 hO hW⟩⟩
     rw [h3] at hA
     have h3p:=begK_no h3
     refine cF hA ?_
     refine wp_skip ?_
     refine then_normal ?_
     refine sr 4 ?_
     refine Ka 1 [(28,pt pb)] hA fun fr hA=>?_
     refine wpOps_cons' (mP (d:=(some 29)) hA Tryd.func69 ((job_any pb sv m _ (by omega) (by omega) (Ow.self (A:=[]) (hO.tt))).mono ?_))
     rintro en w7 (⟨ea,ee,hr,rfl,hW⟩ | ⟨v1,m1,hr,p1,k1,lc1,T2,T3,rfl,hT2,hT3,hv_,hW,hc1a,hc1b⟩)
     · refine .inr ⟨_,rfl,?_⟩
       show _/\_
       exact ⟨hA.dfr,Or.inl ⟨_,_,(by rw [← hR]; exact lineF_jobE (by omega) (by rintro ⟨q1,q2⟩; rw [List.length_map] at q1; first | omega | simp_all) hr),rfl,Ow.pan (A:=[]) (hO.tt:Ow Tryd.prog (inT (TP pb sv 0)) w _ ([]++(TP pb sv m++(([]++(TL1++(TL2++([])))))))) hW⟩⟩
     refine .inl ⟨_,rfl,?_⟩
     clear hA fr; intro fr hA
     subst hv_
     replace hO:=Ow.pass2 (A:=[]) hO hW; clear hW
     replace hO:Ow Tryd.prog (inT (TP pb sv 0)) w w7 ([(pb,103,[str sv,i64 ((m1:Nat):Int),.slice none 0 0])]++(TL1++(TL2++(T2++(T3++([])))))):=hO.to (by first | rfl | (simp only [TP,apd]))
     have hnx2:=nx_le (s:=sv) (n:=m1) (by omega)
     have hgt2:=nx_gt (s:=sv) (n:=m1)
     have hkd2:=tl_kd sv m1
     have hke2:=kd_end (s:=sv) (n:=m1) (by omega)
     refine Mn [.slice none 0 0,bl false] 64 4 hA hO fun fr w8 b1 hA hO=>?_
     refine Ms 0 [.slice p1 lc1.length k1,bl false] 0 hA hO fun w9 hO=>?_
     refine end_ops ?_
     refine then_normal ?_
     refine sr 3 ?_
     refine Ka 1 [(30,pt pb)] hA fun fr hA=>?_
     refine Mk 31 hA hO Tryd.func67 (next_any pb sv m1 _ (by omega) (by omega) (hO.b 1)) fun fr w10 hA hO=>?_
     refine Ka 1 [(5,str (tk sv m1))] hA fun fr hA=>?_
     refine end_ops ?_
     refine then_normal ?_
     refine sr 4 ?_
     refine Ka 3 [(33,bl ((tk sv m1).toList == (⟨#[38]⟩:ByteArray).toList)),(34,pf b1 1)] hA fun fr hA=>?_
     replace hA:=hA.ss.bool (f:=fun z_=>[(0,pt pb),(2,.slice none 0 0),(3,.slice pL1 l.length cL1),(4,pt b1),(5,str (tk sv m1)),(33,.bool z_),(34,pf b1 1)]) (tk_amp sv m1:((tk sv m1).toList == (⟨#[38]⟩:ByteArray).toList)=(decide (kd sv m1=6)))
     refine Ms 1 [bl (decide (kd sv m1=6))] 0 hA hO fun w11 hO=>?_
     refine end_ops ?_
     refine then_normal ?_
     refine sr 5 ?_
     refine Kb 2 [(35,.slice pL1 l.length cL1),(36,.agg #[.slice p1 lc1.length k1,bl (decide (kd sv m1=6))])] hA [.agg #[.slice p1 lc1.length k1,bl (decide (kd sv m1=6))]] (cc (hO.ln 0 0 64 [.slice p1 lc1.length k1,bl (decide (kd sv m1=6))]) c0) fun fr hA=>?_
     refine Mv [.slice p1 lc1.length k1,bl (decide (kd sv m1=6))] 64 1 37 hA hO fun fr w12 b2 hA hO=>?_
     replace hO:Ow Tryd.prog (inT (TP pb sv 0)) w w12 ([(b2,64,[.slice p1 lc1.length k1,bl (decide (kd sv m1=6))]),(b1,64,[.slice p1 lc1.length k1,bl (decide (kd sv m1=6))]),(pb,103,[str sv,i64 ((m1:Nat):Int),.slice none 0 0])]++(TL1++(TL2++(T2++(T3++([])))))):=hO
     refine wpOps_cons' (mA (f:=fJ) (el:=64) (sz:=2) (bytes:=32) (p:=pL1) (c:=cL1) (l:=l) (l':=([⟨p1,k1,lc1,decide (kd sv m1=6)⟩]:List JV)) (T:=TL1) (t:=27) (tx:=27) (ty:=27) (x:= .slice (some ⟨b2,0,none⟩) 1 1) (d:=38) [(b2,64,[.slice p1 lc1.length k1,bl (decide (kd sv m1=6))]),(b1,64,[.slice p1 lc1.length k1,bl (decide (kd sv m1=6))]),(pb,103,[str sv,i64 ((m1:Nat):Int),.slice none 0 0])] (TL2++(T2++(T3++([])))) encJ hA hO hTL1 (Vw.src (e':=64) encJ ((hO.b 0).vw (off:=0) (xs:=([⟨p1,k1,lc1,decide (kd sv m1=6)⟩]:List JV)) (by kernel_rfl)) (by kernel_rfl)) (by first | omega | (simp only [List.length_append,List.length_cons,List.length_nil]; omega)) (by unfold maxLen; first | omega | (simp only [List.length_append,List.length_cons,List.length_nil]; omega)) fun fr w13 p2 c1 T4 hA hO hT4=>?_)
     refine Ka 1 [(3,.slice p2 ((l++([⟨p1,k1,lc1,decide (kd sv m1=6)⟩]:List JV)).length) c1)] hA fun fr hA=>?_
     refine end_ops ?_
     refine then_normal ?_
     refine wp_block ?_
     refine wp_seq ?_
     have hS:=hO.pk [0,1,2]
     refine rP [(0,true),(1,true),(2,true),(3,true),(4,true),(5,true),(6,true),(7,true),(8,true),(9,true),(10,true)] hS ?_
     intro w14 ho; replace hO:=hO.st ho; clear ho
     refine Ke 11 [(41,bl (((m1:Nat):Int) == ((sv.size:Nat):Int)))] hA [i64 ((m1:Nat):Int),str sv] (cc (hS.s1 2 1 3 (i64 ((m1:Nat):Int))) (cc (hS.s1 2 0 9 (str sv)) c0)) fun fr hA=>?_
     refine end_plan ?_
     refine then_normal ?_
     rcases Bool.eq_false_or_eq_true (((m1:Nat):Int) == ((sv.size:Nat):Int)) with h4 | h4
     · rw [h4] at hA
       have h4p:=eq_of_beq h4
       refine cT hA ?_
       refine wp_skip ?_
       refine inBlock_normal ?_
       refine inBlock_normal ?_
       refine then_normal ?_
       have hC1:InJ 66 9 (l++([⟨p1,k1,lc1,decide (kd sv m1=6)⟩]:List JV)) (TL2++(T2++T3)):=InJ.snoc (x:=⟨p1,k1,lc1,decide (kd sv m1=6)⟩) hT2 hT3 hTL2
       replace hO:Ow Tryd.prog (inT (TP pb sv 0)) w w14 ([(b2,64,[.slice p1 lc1.length k1,bl (decide (kd sv m1=6))]),(b1,64,[.slice p1 lc1.length k1,bl (decide (kd sv m1=6))]),(pb,103,[str sv,i64 ((m1:Nat):Int),.slice none 0 0])]++(T4++((TL2++(T2++T3))++([])))):=hO.to (by first | rfl | (simp only [TP,apd]))
       exact ⟨_,by omega,l++([⟨p1,k1,lc1,decide (kd sv m1=6)⟩]:List JV),m1,f,p2,c1,T4,(TL2++(T2++T3)),rfl,hA.ss,(Ow.subP (A:=[_,_,_]) hO (.cons _ (.cons _ (.cons_cons _ .slnil)))),hT4,hC1,(by omega),(by omega),(by rw [← hR,List.map_append,lineF_last (by omega) (by rintro ⟨q1,q2⟩; rw [List.length_map] at q1; first | omega | simp_all) hr (by omega)]; exact lineF_done (by omega)),(by simp only [List.length_append,List.length_cons,List.length_nil]; omega),trivial⟩
     rw [h4] at hA
     have h4p:=ne_of_beq_false h4
     refine cF hA ?_
     refine sr 7 ?_
     refine Ka 3 [(54,bl ((tk sv m1).toList == (⟨#[59]⟩:ByteArray).toList)),(55,bl ((tk sv m1).toList == (⟨#[59]⟩:ByteArray).toList))] hA fun fr hA=>?_
     replace hA:=hA.ss.bool (f:=fun z_=>[(0,pt pb),(2,.slice none 0 0),(3,.slice p2 ((l++([⟨p1,k1,lc1,decide (kd sv m1=6)⟩]:List JV)).length) c1),(5,str (tk sv m1)),(54,.bool z_),(55,.bool z_)]) (tk_semi sv m1:((tk sv m1).toList == (⟨#[59]⟩:ByteArray).toList)=(decide (kd sv m1=5)))
     rcases Bool.eq_false_or_eq_true (decide (kd sv m1=5)) with h5 | h5
     · rw [h5] at hA
       have h5p:=of_decide_eq_true h5
       refine Ka 4 [(52,bl true)] hA fun fr hA=>?_
       refine end_ops ?_
       refine then_normal ?_
       refine cT hA ?_
       refine rr 3 ?_
       refine Ka 2 [(59,pt pb),(60,str (tk sv m1))] hA fun fr hA=>?_
       refine wpOps_cons' (mC (d:=(some 61)) hA Tryd.func70 ((takek_any pb sv m1 _ (by omega) (by omega) (Ow.self (A:=[_,_]) (hO.tt))).mono ?_))
       rintro en w15 ⟨rfl,hW⟩
       refine ⟨_,rfl,?_⟩
       clear hA fr; intro fr hA
       replace hO:=Ow.pass (A:=[_,_]) hO hW; clear hW
       refine end_ops ?_
       refine inBlock_normal ?_
       refine inBlock_normal ?_
       refine then_normal ?_
       have hC1:InJ 66 9 (l++([⟨p1,k1,lc1,decide (kd sv m1=6)⟩]:List JV)) (TL2++(T2++T3)):=InJ.snoc (x:=⟨p1,k1,lc1,decide (kd sv m1=6)⟩) hT2 hT3 hTL2
       replace hO:Ow Tryd.prog (inT (TP pb sv 0)) w w15 ([(b2,64,[.slice p1 lc1.length k1,bl (decide (kd sv m1=6))]),(b1,64,[.slice p1 lc1.length k1,bl (decide (kd sv m1=6))]),(pb,103,[str sv,i64 ((nx sv m1:Nat):Int),.slice none 0 0])]++(T4++((TL2++(T2++T3))++([])))):=hO.to (by first | rfl | (simp only [TP,apd]))
       exact ⟨_,by omega,l++([⟨p1,k1,lc1,decide (kd sv m1=6)⟩]:List JV),nx sv m1,f,p2,c1,T4,(TL2++(T2++T3)),rfl,hA.ss,(Ow.subP (A:=[_,_,_]) hO (.cons _ (.cons _ (.cons_cons _ .slnil)))),hT4,hC1,(by omega),(by omega),(by rw [← hR,List.map_append]; exact (lineF_more (by omega) (by rintro ⟨q1,q2⟩; rw [List.length_map] at q1; first | omega | simp_all) hr (by omega)).symm),(by simp only [List.length_append,List.length_cons,List.length_nil]; omega),trivial⟩
     rw [h5] at hA
     have h5p:=of_decide_eq_false h5
     refine Ka 4 [(52,bl ((tk sv m1).toList == (⟨#[38]⟩:ByteArray).toList))] hA fun fr hA=>?_
     replace hA:=hA.ss.bool (f:=fun z_=>[(0,pt pb),(2,.slice none 0 0),(3,.slice p2 ((l++([⟨p1,k1,lc1,decide (kd sv m1=6)⟩]:List JV)).length) c1),(5,str (tk sv m1)),(52,.bool z_)]) (tk_amp sv m1:((tk sv m1).toList == (⟨#[38]⟩:ByteArray).toList)=(decide (kd sv m1=6)))
     refine end_ops ?_
     refine then_normal ?_
     rcases Bool.eq_false_or_eq_true (decide (kd sv m1=6)) with h6 | h6
     · replace hA:=hA.ss.bool (f:=fun z_=>[(0,pt pb),(2,.slice none 0 0),(3,.slice p2 ((l++([⟨p1,k1,lc1,decide (kd sv m1=6)⟩]:List JV)).length) c1),(5,str (tk sv m1)),(52,.bool z_)]) h6
       have h6p:=of_decide_eq_true h6
       refine cT hA ?_
       refine rr 3 ?_
       refine Ka 2 [(59,pt pb),(60,str (tk sv m1))] hA fun fr hA=>?_
       refine wpOps_cons' (mC (d:=(some 61)) hA Tryd.func70 ((takek_any pb sv m1 _ (by omega) (by omega) (Ow.self (A:=[_,_]) (hO.tt))).mono ?_))
       rintro en w16 ⟨rfl,hW⟩
       refine ⟨_,rfl,?_⟩
       clear hA fr; intro fr hA
       replace hO:=Ow.pass (A:=[_,_]) hO hW; clear hW
       refine end_ops ?_
       refine inBlock_normal ?_
       refine inBlock_normal ?_
       refine then_normal ?_
       have hC1:InJ 66 9 (l++([⟨p1,k1,lc1,decide (kd sv m1=6)⟩]:List JV)) (TL2++(T2++T3)):=InJ.snoc (x:=⟨p1,k1,lc1,decide (kd sv m1=6)⟩) hT2 hT3 hTL2
       replace hO:Ow Tryd.prog (inT (TP pb sv 0)) w w16 ([(b2,64,[.slice p1 lc1.length k1,bl (decide (kd sv m1=6))]),(b1,64,[.slice p1 lc1.length k1,bl (decide (kd sv m1=6))]),(pb,103,[str sv,i64 ((nx sv m1:Nat):Int),.slice none 0 0])]++(T4++((TL2++(T2++T3))++([])))):=hO.to (by first | rfl | (simp only [TP,apd]))
       exact ⟨_,by omega,l++([⟨p1,k1,lc1,decide (kd sv m1=6)⟩]:List JV),nx sv m1,f,p2,c1,T4,(TL2++(T2++T3)),rfl,hA.ss,(Ow.subP (A:=[_,_,_]) hO (.cons _ (.cons _ (.cons_cons _ .slnil)))),hT4,hC1,(by omega),(by omega),(by rw [← hR,List.map_append]; exact (lineF_more (by omega) (by rintro ⟨q1,q2⟩; rw [List.length_map] at q1; first | omega | simp_all) hr (by omega)).symm),(by simp only [List.length_append,List.length_cons,List.length_nil]; omega),trivial⟩
     replace hA:=hA.ss.bool (f:=fun z_=>[(0,pt pb),(2,.slice none 0 0),(3,.slice p2 ((l++([⟨p1,k1,lc1,decide (kd sv m1=6)⟩]:List JV)).length) c1),(5,str (tk sv m1)),(52,.bool z_)]) h6
     have h6p:=of_decide_eq_false h6
     refine cF hA ?_
     refine rr 2 ?_
     refine Ka 1 [(39,pt pb)] hA fun fr hA=>?_
     refine wpOps_cons' (mP (d:=(some 40)) hA Tryd.func68 ((fail_any pb sv m1 _ (by omega) (by omega) 3 (hO.b 2)).mono ?_))
     rintro en w17 ⟨rfl,hW⟩
     refine .inr ⟨_,rfl,?_⟩
     show _/\_
     exact ⟨hA.dfr,Or.inl ⟨_,_,(by rw [← hR]; exact lineF_bad (by omega) (by rintro ⟨q1,q2⟩; rw [List.length_map] at q1; first | omega | simp_all) hr (by omega)),rfl,Ow.pan0 hO hW⟩⟩
   rw [h2] at hA
   have h2p:=ne_of_beq_false h2
   refine Ka 4 [(25,bl false)] hA fun fr hA=>?_
   refine end_ops ?_
   refine then_normal ?_
   refine cF hA ?_
   refine wp_skip ?_
   refine then_normal ?_
   refine sr 4 ?_
   refine Ka 1 [(28,pt pb)] hA fun fr hA=>?_
   refine wpOps_cons' (mP (d:=(some 29)) hA Tryd.func69 ((job_any pb sv m _ (by omega) (by omega) (Ow.self (A:=[]) (hO.tt))).mono ?_))
   rintro en w18 (⟨ea,ee,hr,rfl,hW⟩ | ⟨v2,m2,hr,p3,k2,lc2,T5,T6,rfl,hT5,hT6,hv_,hW,hc2a,hc2b⟩)
   · refine .inr ⟨_,rfl,?_⟩
     show _/\_
     exact ⟨hA.dfr,Or.inl ⟨_,_,(by rw [← hR]; exact lineF_jobE (by omega) (by rintro ⟨q1,q2⟩; rw [List.length_map] at q1; first | omega | simp_all) hr),rfl,Ow.pan (A:=[]) (hO.tt:Ow Tryd.prog (inT (TP pb sv 0)) w _ ([]++(TP pb sv m++(([]++(TL1++(TL2++([])))))))) hW⟩⟩
   refine .inl ⟨_,rfl,?_⟩
   clear hA fr; intro fr hA
   subst hv_
   replace hO:=Ow.pass2 (A:=[]) hO hW; clear hW
   replace hO:Ow Tryd.prog (inT (TP pb sv 0)) w w18 ([(pb,103,[str sv,i64 ((m2:Nat):Int),.slice none 0 0])]++(TL1++(TL2++(T5++(T6++([])))))):=hO.to (by first | rfl | (simp only [TP,apd]))
   have hnx2:=nx_le (s:=sv) (n:=m2) (by omega)
   have hgt2:=nx_gt (s:=sv) (n:=m2)
   have hkd2:=tl_kd sv m2
   have hke2:=kd_end (s:=sv) (n:=m2) (by omega)
   refine Mn [.slice none 0 0,bl false] 64 4 hA hO fun fr w19 b3 hA hO=>?_
   refine Ms 0 [.slice p3 lc2.length k2,bl false] 0 hA hO fun w20 hO=>?_
   refine end_ops ?_
   refine then_normal ?_
   refine sr 3 ?_
   refine Ka 1 [(30,pt pb)] hA fun fr hA=>?_
   refine Mk 31 hA hO Tryd.func67 (next_any pb sv m2 _ (by omega) (by omega) (hO.b 1)) fun fr w21 hA hO=>?_
   refine Ka 1 [(5,str (tk sv m2))] hA fun fr hA=>?_
   refine end_ops ?_
   refine then_normal ?_
   refine sr 4 ?_
   refine Ka 3 [(33,bl ((tk sv m2).toList == (⟨#[38]⟩:ByteArray).toList)),(34,pf b3 1)] hA fun fr hA=>?_
   replace hA:=hA.ss.bool (f:=fun z_=>[(0,pt pb),(2,.slice none 0 0),(3,.slice pL1 l.length cL1),(4,pt b3),(5,str (tk sv m2)),(33,.bool z_),(34,pf b3 1)]) (tk_amp sv m2:((tk sv m2).toList == (⟨#[38]⟩:ByteArray).toList)=(decide (kd sv m2=6)))
   refine Ms 1 [bl (decide (kd sv m2=6))] 0 hA hO fun w22 hO=>?_
   refine end_ops ?_
   refine then_normal ?_
   refine sr 5 ?_
   refine Kb 2 [(35,.slice pL1 l.length cL1),(36,.agg #[.slice p3 lc2.length k2,bl (decide (kd sv m2=6))])] hA [.agg #[.slice p3 lc2.length k2,bl (decide (kd sv m2=6))]] (cc (hO.ln 0 0 64 [.slice p3 lc2.length k2,bl (decide (kd sv m2=6))]) c0) fun fr hA=>?_
   refine Mv [.slice p3 lc2.length k2,bl (decide (kd sv m2=6))] 64 1 37 hA hO fun fr w23 b4 hA hO=>?_
   replace hO:Ow Tryd.prog (inT (TP pb sv 0)) w w23 ([(b4,64,[.slice p3 lc2.length k2,bl (decide (kd sv m2=6))]),(b3,64,[.slice p3 lc2.length k2,bl (decide (kd sv m2=6))]),(pb,103,[str sv,i64 ((m2:Nat):Int),.slice none 0 0])]++(TL1++(TL2++(T5++(T6++([])))))):=hO
   refine wpOps_cons' (mA (f:=fJ) (el:=64) (sz:=2) (bytes:=32) (p:=pL1) (c:=cL1) (l:=l) (l':=([⟨p3,k2,lc2,decide (kd sv m2=6)⟩]:List JV)) (T:=TL1) (t:=27) (tx:=27) (ty:=27) (x:= .slice (some ⟨b4,0,none⟩) 1 1) (d:=38) [(b4,64,[.slice p3 lc2.length k2,bl (decide (kd sv m2=6))]),(b3,64,[.slice p3 lc2.length k2,bl (decide (kd sv m2=6))]),(pb,103,[str sv,i64 ((m2:Nat):Int),.slice none 0 0])] (TL2++(T5++(T6++([])))) encJ hA hO hTL1 (Vw.src (e':=64) encJ ((hO.b 0).vw (off:=0) (xs:=([⟨p3,k2,lc2,decide (kd sv m2=6)⟩]:List JV)) (by kernel_rfl)) (by kernel_rfl)) (by first | omega | (simp only [List.length_append,List.length_cons,List.length_nil]; omega)) (by unfold maxLen; first | omega | (simp only [List.length_append,List.length_cons,List.length_nil]; omega)) fun fr w24 p4 c2 T7 hA hO hT7=>?_)
   refine Ka 1 [(3,.slice p4 ((l++([⟨p3,k2,lc2,decide (kd sv m2=6)⟩]:List JV)).length) c2)] hA fun fr hA=>?_
   refine end_ops ?_
   refine then_normal ?_
   refine wp_block ?_
   refine wp_seq ?_
   have hS:=hO.pk [0,1,2]
   refine rP [(0,true),(1,true),(2,true),(3,true),(4,true),(5,true),(6,true),(7,true),(8,true),(9,true),(10,true)] hS ?_
   intro w25 ho; replace hO:=hO.st ho; clear ho
   refine Ke 11 [(41,bl (((m2:Nat):Int) == ((sv.size:Nat):Int)))] hA [i64 ((m2:Nat):Int),str sv] (cc (hS.s1 2 1 3 (i64 ((m2:Nat):Int))) (cc (hS.s1 2 0 9 (str sv)) c0)) fun fr hA=>?_
   refine end_plan ?_
   refine then_normal ?_
   rcases Bool.eq_false_or_eq_true (((m2:Nat):Int) == ((sv.size:Nat):Int)) with h7 | h7
   · rw [h7] at hA
     have h7p:=eq_of_beq h7
     refine cT hA ?_
     refine wp_skip ?_
     refine inBlock_normal ?_
     refine inBlock_normal ?_
     refine then_normal ?_
     have hC1:InJ 66 9 (l++([⟨p3,k2,lc2,decide (kd sv m2=6)⟩]:List JV)) (TL2++(T5++T6)):=InJ.snoc (x:=⟨p3,k2,lc2,decide (kd sv m2=6)⟩) hT5 hT6 hTL2
     replace hO:Ow Tryd.prog (inT (TP pb sv 0)) w w25 ([(b4,64,[.slice p3 lc2.length k2,bl (decide (kd sv m2=6))]),(b3,64,[.slice p3 lc2.length k2,bl (decide (kd sv m2=6))]),(pb,103,[str sv,i64 ((m2:Nat):Int),.slice none 0 0])]++(T7++((TL2++(T5++T6))++([])))):=hO.to (by first | rfl | (simp only [TP,apd]))
     exact ⟨_,by omega,l++([⟨p3,k2,lc2,decide (kd sv m2=6)⟩]:List JV),m2,f,p4,c2,T7,(TL2++(T5++T6)),rfl,hA.ss,(Ow.subP (A:=[_,_,_]) hO (.cons _ (.cons _ (.cons_cons _ .slnil)))),hT7,hC1,(by omega),(by omega),(by rw [← hR,List.map_append,lineF_last (by omega) (by rintro ⟨q1,q2⟩; rw [List.length_map] at q1; first | omega | simp_all) hr (by omega)]; exact lineF_done (by omega)),(by simp only [List.length_append,List.length_cons,List.length_nil]; omega),trivial⟩
   rw [h7] at hA
   have h7p:=ne_of_beq_false h7
   refine cF hA ?_
   refine sr 7 ?_
   refine Ka 3 [(54,bl ((tk sv m2).toList == (⟨#[59]⟩:ByteArray).toList)),(55,bl ((tk sv m2).toList == (⟨#[59]⟩:ByteArray).toList))] hA fun fr hA=>?_
   replace hA:=hA.ss.bool (f:=fun z_=>[(0,pt pb),(2,.slice none 0 0),(3,.slice p4 ((l++([⟨p3,k2,lc2,decide (kd sv m2=6)⟩]:List JV)).length) c2),(5,str (tk sv m2)),(54,.bool z_),(55,.bool z_)]) (tk_semi sv m2:((tk sv m2).toList == (⟨#[59]⟩:ByteArray).toList)=(decide (kd sv m2=5)))
   rcases Bool.eq_false_or_eq_true (decide (kd sv m2=5)) with h8 | h8
   · rw [h8] at hA
     have h8p:=of_decide_eq_true h8
     refine Ka 4 [(52,bl true)] hA fun fr hA=>?_
     refine end_ops ?_
     refine then_normal ?_
     refine cT hA ?_
     refine rr 3 ?_
     refine Ka 2 [(59,pt pb),(60,str (tk sv m2))] hA fun fr hA=>?_
     refine wpOps_cons' (mC (d:=(some 61)) hA Tryd.func70 ((takek_any pb sv m2 _ (by omega) (by omega) (Ow.self (A:=[_,_]) (hO.tt))).mono ?_))
     rintro en w26 ⟨rfl,hW⟩
     refine ⟨_,rfl,?_⟩
     clear hA fr; intro fr hA
     replace hO:=Ow.pass (A:=[_,_]) hO hW; clear hW
     refine end_ops ?_
     refine inBlock_normal ?_
     refine inBlock_normal ?_
     refine then_normal ?_
     have hC1:InJ 66 9 (l++([⟨p3,k2,lc2,decide (kd sv m2=6)⟩]:List JV)) (TL2++(T5++T6)):=InJ.snoc (x:=⟨p3,k2,lc2,decide (kd sv m2=6)⟩) hT5 hT6 hTL2
     replace hO:Ow Tryd.prog (inT (TP pb sv 0)) w w26 ([(b4,64,[.slice p3 lc2.length k2,bl (decide (kd sv m2=6))]),(b3,64,[.slice p3 lc2.length k2,bl (decide (kd sv m2=6))]),(pb,103,[str sv,i64 ((nx sv m2:Nat):Int),.slice none 0 0])]++(T7++((TL2++(T5++T6))++([])))):=hO.to (by first | rfl | (simp only [TP,apd]))
     exact ⟨_,by omega,l++([⟨p3,k2,lc2,decide (kd sv m2=6)⟩]:List JV),nx sv m2,f,p4,c2,T7,(TL2++(T5++T6)),rfl,hA.ss,(Ow.subP (A:=[_,_,_]) hO (.cons _ (.cons _ (.cons_cons _ .slnil)))),hT7,hC1,(by omega),(by omega),(by rw [← hR,List.map_append]; exact (lineF_more (by omega) (by rintro ⟨q1,q2⟩; rw [List.length_map] at q1; first | omega | simp_all) hr (by omega)).symm),(by simp only [List.length_append,List.length_cons,List.length_nil]; omega),trivial⟩
   rw [h8] at hA
   have h8p:=of_decide_eq_false h8
   refine Ka 4 [(52,bl ((tk sv m2).toList == (⟨#[38]⟩:ByteArray).toList))] hA fun fr hA=>?_
   replace hA:=hA.ss.bool (f:=fun z_=>[(0,pt pb),(2,.slice none 0 0),(3,.slice p4 ((l++([⟨p3,k2,lc2,decide (kd sv m2=6)⟩]:List JV)).length) c2),(5,str (tk sv m2)),(52,.bool z_)]) (tk_amp sv m2:((tk sv m2).toList == (⟨#[38]⟩:ByteArray).toList)=(decide (kd sv m2=6)))
   refine end_ops ?_
   refine then_normal ?_
   rcases Bool.eq_false_or_eq_true (decide (kd sv m2=6)) with h9 | h9
   · replace hA:=hA.ss.bool (f:=fun z_=>[(0,pt pb),(2,.slice none 0 0),(3,.slice p4 ((l++([⟨p3,k2,lc2,decide (kd sv m2=6)⟩]:List JV)).length) c2),(5,str (tk sv m2)),(52,.bool z_)]) h9
     have h9p:=of_decide_eq_true h9
     refine cT hA ?_
     refine rr 3 ?_
     refine Ka 2 [(59,pt pb),(60,str (tk sv m2))] hA fun fr hA=>?_
     refine wpOps_cons' (mC (d:=(some 61)) hA Tryd.func70 ((takek_any pb sv m2 _ (by omega) (by omega) (Ow.self (A:=[_,_]) (hO.tt))).mono ?_))
     rintro en w27 ⟨rfl,hW⟩
     refine ⟨_,rfl,?_⟩
     clear hA fr; intro fr hA
     replace hO:=Ow.pass (A:=[_,_]) hO hW; clear hW
     refine end_ops ?_
     refine inBlock_normal ?_
     refine inBlock_normal ?_
     refine then_normal ?_
     have hC1:InJ 66 9 (l++([⟨p3,k2,lc2,decide (kd sv m2=6)⟩]:List JV)) (TL2++(T5++T6)):=InJ.snoc (x:=⟨p3,k2,lc2,decide (kd sv m2=6)⟩) hT5 hT6 hTL2
     replace hO:Ow Tryd.prog (inT (TP pb sv 0)) w w27 ([(b4,64,[.slice p3 lc2.length k2,bl (decide (kd sv m2=6))]),(b3,64,[.slice p3 lc2.length k2,bl (decide (kd sv m2=6))]),(pb,103,[str sv,i64 ((nx sv m2:Nat):Int),.slice none 0 0])]++(T7++((TL2++(T5++T6))++([])))):=hO.to (by first | rfl | (simp only [TP,apd]))
     exact ⟨_,by omega,l++([⟨p3,k2,lc2,decide (kd sv m2=6)⟩]:List JV),nx sv m2,f,p4,c2,T7,(TL2++(T5++T6)),rfl,hA.ss,(Ow.subP (A:=[_,_,_]) hO (.cons _ (.cons _ (.cons_cons _ .slnil)))),hT7,hC1,(by omega),(by omega),(by rw [← hR,List.map_append]; exact (lineF_more (by omega) (by rintro ⟨q1,q2⟩; rw [List.length_map] at q1; first | omega | simp_all) hr (by omega)).symm),(by simp only [List.length_append,List.length_cons,List.length_nil]; omega),trivial⟩
   replace hA:=hA.ss.bool (f:=fun z_=>[(0,pt pb),(2,.slice none 0 0),(3,.slice p4 ((l++([⟨p3,k2,lc2,decide (kd sv m2=6)⟩]:List JV)).length) c2),(5,str (tk sv m2)),(52,.bool z_)]) h9
   have h9p:=of_decide_eq_false h9
   refine cF hA ?_
   refine rr 2 ?_
   refine Ka 1 [(39,pt pb)] hA fun fr hA=>?_
   refine wpOps_cons' (mP (d:=(some 40)) hA Tryd.func68 ((fail_any pb sv m2 _ (by omega) (by omega) 3 (hO.b 2)).mono ?_))
   rintro en w28 ⟨rfl,hW⟩
   refine .inr ⟨_,rfl,?_⟩
   show _/\_
   exact ⟨hA.dfr,Or.inl ⟨_,_,(by rw [← hR]; exact lineF_bad (by omega) (by rintro ⟨q1,q2⟩; rw [List.length_map] at q1; first | omega | simp_all) hr (by omega)),rfl,Ow.pan0 hO hW⟩⟩
 rw [h1] at hA
 have h1p:=of_decide_eq_false h1
 refine cF hA ?_
 refine wp_exit ?_
 refine then_exit ?_
 refine then_exit ?_
 refine inBlock_exit ?_
 refine then_normal ?_
 refine Sa [(2,.slice pL1 l.length cL1)] hA fun fr hA=>?_
 refine wp_ret ?_
 refine cv [.slice pL1 l.length cL1] hA ?_
 exact Or.inr ⟨m,_,_,l,_,_,by rw [← hR]; exact lineF_done (by omega),rfl,hTL1,hTL2,(hO).to (by simp only [List.append_nil]),by omega⟩
theorem clos_yes (be ba bl_:Nat) (e0 a0:Int) (s0:Value) (h1s:s0.oneCell'=true) (n:Nat) (er:Int) (w:World) (h0:Ow Tryd.prog (inT [(be,87,[i64 e0]),(ba,3,[i64 a0]),(bl_,27,[s0])]) w w [(be,87,[i64 e0]),(ba,3,[i64 a0]),(bl_,27,[s0])]) :
    CallsD Tryd.prog 61 #[pt bl_,pt ba,pt be] (.panicking (pnc n er)) w fun e u' w'=>e = .returned (.tuple #[])/\settle u' = .returning/\Ow Tryd.prog (inT [(be,87,[i64 e0]),(ba,3,[i64 a0]),(bl_,27,[s0])]) w w' [(be,87,[i64 er]),(ba,3,[i64 ((n:Nat):Int)]),(bl_,27,[.slice none 0 0])]:=by
 refine callsD_of_wpS Tryd.func61 rfl fun c₀ cs hu=>?_
 have hA:Holds 21 [] {tmps:=#[pt bl_,pt ba,pt be]++Array.replicate (Tryd.f61.ntmps - 3) undef,defers:=[]} [(0,pt bl_),(1,pt ba),(2,pt be)]:=(Holds.begin [pt bl_,pt ba,pt be] 18)
 have hO:=h0
 refine wpS_seq ?_
 refine rec_region (v:= .iface 99 (.agg #[i64 ((n:Nat):Int),i64 er])) hA rfl rfl rfl rfl rfl rfl rfl rfl (by decide) (by decide) (by rw [recoverD_yes hu]) fun fr hA=>?_
 refine Sa [(0,pt bl_),(1,pt ba),(2,pt be),(3,.iface 99 (.agg #[i64 ((n:Nat):Int),i64 er])),(8,bl true)] hA fun fr hA=>?_
 refine cT hA ?_
 refine sr 8 ?_
 refine Ka 5 [(12,.agg #[i64 ((n:Nat):Int),i64 er]),(13,bl true)] hA fun fr hA=>?_
 refine Mn [i64 0,i64 0] 99 4 hA hO fun fr w1 b1 hA hO=>?_
 refine Ms 0 [i64 ((n:Nat):Int),i64 er] 0 hA hO fun w2 hO=>?_
 refine Ka 1 [(5,bl true)] hA fun fr hA=>?_
 refine end_ops ?_
 refine then_normal ?_
 refine wp_seq ?_
 refine Sa [(15,bl false)] hA fun fr hA=>?_
 refine cF hA ?_
 refine wp_skip ?_
 refine then_normal ?_
 have hS:=hO.pk [0]
 refine rP [(0,true),(1,true),(2,true),(3,true),(4,false),(5,false),(6,false)] hS ?_
 intro w3 ho; replace hO:=hO.st ho; clear ho
 refine Ke 4 [(18,i64 ((n:Nat):Int)),(20,i64 er)] hA [i64 ((n:Nat):Int),i64 er] (cc (hS.s1 0 0 3 (i64 ((n:Nat):Int))) (cc (hS.s1 0 1 87 (i64 er)) c0)) fun fr hA=>?_
 refine plan_mem (mS (off:=0) (vc:=[.slice none 0 0]) 3 hA hO fun w4 hO=>?_)
 refine ⟨(hO.sub [0]),?_⟩
 refine plan_mem (mS (off:=0) (vc:=[i64 ((n:Nat):Int)]) 2 hA hO fun w5 hO=>?_)
 refine ⟨(hO.sub [0]),?_⟩
 refine plan_mem (mS (off:=0) (vc:=[i64 er]) 1 hA hO fun w6 hO=>?_)
 refine ⟨(hO.sub [0]),?_⟩
 refine end_plan ?_
 exact ⟨hA.dfr,_,rfl,_,res_run hA [] (cs:=[]) (us:=[]) trivial rfl,rfl,rfl,(hO.sub [1,2,3])⟩
theorem clos_no (be ba bl_:Nat) (w:World):CallsD Tryd.prog 61 #[pt bl_,pt ba,pt be] .returning w fun e u' w'=>e = .returned (.tuple #[])/\settle u' = .returning/\w'=w:=by
 refine callsD_of_wpS Tryd.func61 rfl fun c₀ cs hu=>?_
 have hA:Holds 21 [] {tmps:=#[pt bl_,pt ba,pt be]++Array.replicate (Tryd.f61.ntmps - 3) undef,defers:=[]} [(0,pt bl_),(1,pt ba),(2,pt be)]:=(Holds.begin [pt bl_,pt ba,pt be] 18)
 refine wpS_seq ?_
 refine rec_region (v:= .nilIface) (cs':=c₀::cs) hA rfl rfl rfl rfl rfl rfl rfl rfl (by decide) (by decide) (by rw [recoverD_no hu]) fun fr hA=>?_
 refine Sa [(8,bl false)] hA fun fr hA=>?_
 refine cF hA ?_
 refine wp_skip ?_
 exact ⟨hA.dfr,c₀.mode,rfl,_,res_run hA [] (cs:=[]) (us:=[]) trivial rfl,rfl,by rw [hu]; rfl,rfl⟩
theorem Ow.pan3 {P:Program} {X:Nat->Prop} {w₀ w w':World} {A T B:OwL} (h:Ow P X w₀ w (A++(T++B))) (k:Only (inT T) w w'):Ow P X w₀ w' (A++B):=by
  have hd : ∀ x∈A++B,¬ inT T x.1:=fun x hx ⟨y,hy,e⟩=>by
    have hne:=h.m.ne
    rw [List.pairwise_append,List.pairwise_append] at hne
    rcases List.mem_append.1 hx with hx | hx
    · exact hne.2.2 x hx y (List.mem_append_left _ hy) e.symm
    · exact hne.2.1.2.2 y hy x hx e
  have h2:=(Ow.drop h).m
  refine (⟨Ow.pan h k,fun x hx=>(h2.blk x hx).keep k (hd x hx),h2.ne,h2.new⟩:OwM _ _ _ _).o
theorem parse_any (sv:ByteArray) (w:World) (hs:sv.size<=1000000) :
    Calls Tryd.prog 55 #[str sv] w fun e w'=>(∃ a b,lineP false sv = .error (a,b)/\e = .returned (.tuple #[.slice none 0 0,i64 ((a:Nat):Int),i64 b])/\Only none' w w')\/∃ p k l T0 T1,lineP false sv = .ok (l.map JV.d)/\e = .returned (.tuple #[.slice p l.length k,i64 0,i64 0])/\One fJ 64 2 p k l T0/\InJ 66 9 l T1/\Ow Tryd.prog none' w w' (T0++T1)/\l.length<=1000000:=by
 refine c_enterD (args:=[str sv]) (m:=9) (n:=10) Tryd.func55 rfl (by kernel_rfl) (by kernel_rfl) fun fr hA=>?_
 have hO:=Ow.nil Tryd.prog none' w
 refine sr 3 ?_
 refine Mn [.slice none 0 0] 27 2 hA hO fun fr w1 b1 hA hO=>?_
 refine Mn [i64 0] 3 3 hA hO fun fr w2 b2 hA hO=>?_
 refine Mn [i64 0] 87 4 hA hO fun fr w3 b3 hA hO=>?_
 refine end_ops ?_
 refine then_normal ?_
 refine sr 2 ?_
 refine Ka 1 [(5,.func (.func 61) #[] #[pt b1,pt b2,pt b3])] hA fun fr hA=>?_
 refine wpOps_cons' (mD (f:=61) (cap:=#[pt b1,pt b2,pt b3]) hA fun fr hA=>?_)
 refine end_ops ?_
 refine then_normal ?_
 refine sr 7 ?_
 refine Ka 2 [(7,.agg #[str sv,i64 0,.slice none 0 0])] hA fun fr hA=>?_
 refine Mn [str sv,i64 0,.slice none 0 0] 103 8 hA hO fun fr w4 b4 hA hO=>?_
 refine wpOps_cons' (mP (d:=(some 9)) hA Tryd.func62 ((line_any b4 sv _ hs (Ow.self (A:=[]) (hO.tt))).mono ?_))
 rintro en w5 (⟨ea,ee,hr,rfl,hW⟩ | ⟨m_,p_,k_,l_,T0,T1,hr,rfl,hT0,hT1,hW,hll⟩)
 · refine .inr ⟨_,rfl,?_⟩
   have hO2:=Ow.pan3 (A:=[]) (hO.tt:Ow Tryd.prog none' w _ ([]++(TP b4 sv 0++(([(b3,87,[i64 0]),(b2,3,[i64 0]),(b1,27,[.slice none 0 0])]++([])))))) hW
   replace hO2:Ow Tryd.prog none' w w5 (([]:OwL)++([(b3,87,[i64 0]),(b2,3,[i64 0]),(b1,27,[.slice none 0 0])]++([]:OwL))):=hO2
   refine ret_deferred (u:= .panicking (pnc ea ee)) (S:=fun w'=>Ow Tryd.prog (inT [(b3,87,[i64 0]),(b2,3,[i64 0]),(b1,27,[.slice none 0 0])]) w5 w' [(b3,87,[i64 ee]),(b2,3,[i64 ((ea:Nat):Int)]),(b1,27,[.slice none 0 0])]) hA (fun h=>by cases h) Tryd.func61 (clos_yes b3 b2 b1 0 0 (.slice none 0 0) rfl ea ee w5 (Ow.self hO2)) fun w9 hS=>?_
   have hO3:=Ow.pass hO2 hS
   exact ⟨[.slice none 0 0,i64 ((ea:Nat):Int),i64 ee],[some (⟨b1,0,none⟩,27),some (⟨b2,0,none⟩,3),some (⟨b3,0,none⟩,87)],[.slice none 0 0,i64 ((ea:Nat):Int),i64 ee],⟨hS.l1 2 0 27 _,hS.l1 1 0 3 _,hS.l1 0 0 87 _,trivial⟩,by kernel_rfl,Or.inl ⟨_,_,hr,rfl,hO3.only⟩⟩
 refine .inl ⟨_,rfl,?_⟩
 clear hA fr; intro fr hA
 replace hO:=Ow.pass2 (A:=[]) hO hW; clear hW
 refine Ms 0 [.slice p_ l_.length k_] 3 hA hO fun w6 hO=>?_
 refine Ms 0 [i64 0] 2 hA hO fun w7 hO=>?_
 refine Ms 0 [i64 0] 1 hA hO fun w8 hO=>?_
 refine end_ops ?_
 refine then_normal ?_
 refine wp_ret ?_
 refine ret_deferred (u:= .returning) (S:=fun w'=>w'=w8) hA (fun h=>by cases h) Tryd.func61 (clos_no b3 b2 b1 _) fun w9 hS=>?_
 subst hS
 exact ⟨[.slice p_ l_.length k_,i64 0,i64 0],[some (⟨b1,0,none⟩,27),some (⟨b2,0,none⟩,3),some (⟨b3,0,none⟩,87)],[.slice p_ l_.length k_,i64 0,i64 0],⟨hO.l1 3 0 27 _,hO.l1 2 0 3 _,hO.l1 1 0 87 _,trivial⟩,by kernel_rfl,Or.inr ⟨_,_,l_,_,_,hr,rfl,hT0,hT1,((Ow.subP (A:=[_,_,_,_]) hO (.cons _ (.cons _ (.cons _ (.cons _ .slnil)))))).to (by simp only [List.nil_append,List.append_nil]),hll⟩⟩
end Go.Proofs.YtdljjajjonfjbaaDoor
