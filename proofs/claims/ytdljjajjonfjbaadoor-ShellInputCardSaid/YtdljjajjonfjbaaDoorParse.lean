import Derived.Test.YtdljjajjonfjbaaDoorParsd
import Derived.Test.YtdljjajjonfjbaaDoorSn
set_option linter.unusedVariables false
set_option linter.unusedSimpArgs false
set_option maxRecDepth 10000
namespace Go.Proofs.YtdljjajjonfjbaaDoor
open Go Go.Shelf Go.RowKit Go.Proofs Go.Proofs.Sx
theorem takel_any (pb:Nat) (sv:ByteArray) (n:Nat) (w:World) (hn:n<=sv.size) (hs:sv.size<=1000000) (t:ByteArray) (ht:t.size=tl sv n) (h0:Ow Tryd.prog (inT (TP pb sv n)) w w (TP pb sv n)) :
    Calls Tryd.prog 70 #[pt pb,str t] w fun e w'=>e = .returned (.tuple #[])/\Ow Tryd.prog (inT (TP pb sv n)) w w' (TP pb sv (nx sv n)):=by
 have h2:=tl_le sv n
 have h:=take_any pb sv n w hn hs t (by omega) h0
 rw [ht] at h
 exact h
section
variable {soft:Bool} {s:ByteArray} {k n m:Nat} {c:CmdL} {l cs:List CmdL} {j:List JobL} {e:Nat×Int}
theorem jobF_lim (h:kd s n=7) (hl:l.length=4) (hb:begK (kd s (nx s n))=true):jobF soft s (k+1) l n = .error (nx s n,6):=by
 simp only [jobF]; rw [if_pos h,if_pos ⟨hl,hb⟩]
theorem jobF_cmd (h:kd s n=7) (hl : ¬ (l.length=4/\begK (kd s (nx s n))=true)) (hc:cmdP soft s (nx s n) = .ok (c,m)):jobF soft s (k+1) l n=jobF soft s k (l++[c]) m:=by
 simp only [jobF]; rw [if_pos h,if_neg hl,hc]
theorem jobF_cmdE (h:kd s n=7) (hl : ¬ (l.length=4/\begK (kd s (nx s n))=true)) (hc:cmdP soft s (nx s n) = .error e):jobF soft s (k+1) l n = .error e:=by
 simp only [jobF]; rw [if_pos h,if_neg hl,hc]
theorem jobF_end (h:kd s n≠7):jobF soft s (k+1) l n = .ok (l,n):=by simp only [jobF]; rw [if_neg h]
theorem lineF_done (h : ¬ n < s.size):lineF soft s k j n = .ok j:=by
 cases k with
 | zero=>rfl
 | succ k=>simp only [lineF]; rw [if_neg h]
theorem lineF_lim (h:n < s.size) (hl:j.length=8) (hb:begK (kd s n)=true):lineF soft s (k+1) j n = .error (n,6):=by
 simp only [lineF]; rw [if_pos h,if_pos ⟨hl,hb⟩]
theorem lineF_jobE (h:n < s.size) (hl : ¬ (j.length=8/\begK (kd s n)=true)) (hj:jobP soft s n = .error e):lineF soft s (k+1) j n = .error e:=by
 simp only [lineF]; rw [if_pos h,if_neg hl,hj]
theorem lineF_last (h:n < s.size) (hl : ¬ (j.length=8/\begK (kd s n)=true)) (hj:jobP soft s n = .ok (cs,m)) (hk:kd s m=0):lineF soft s (k+1) j n = .ok (j++[⟨cs,decide (kd s m=6)⟩]):=by
 simp only [lineF]; rw [if_pos h,if_neg hl,hj]; simp only; rw [if_pos hk]
theorem lineF_more (h:n < s.size) (hl : ¬ (j.length=8/\begK (kd s n)=true)) (hj:jobP soft s n = .ok (cs,m)) (hk:kd s m=5\/kd s m=6):lineF soft s (k+1) j n=lineF soft s k (j++[⟨cs,decide (kd s m=6)⟩]) (nx s m):=by
 simp only [lineF]; rw [if_pos h,if_neg hl,hj]; simp only; rw [if_neg (by omega),if_pos hk]
theorem lineF_bad (h:n < s.size) (hl : ¬ (j.length=8/\begK (kd s n)=true)) (hj:jobP soft s n = .ok (cs,m)) (hk:kd s m≠0/\kd s m≠5/\kd s m≠6):lineF soft s (k+1) j n = .error (m,3):=by
 simp only [lineF]; rw [if_pos h,if_neg hl,hj]; simp only; rw [if_neg hk.1,if_neg (by omega)]
theorem kd_end (hn:n<=s.size):kd s n=0↔n=s.size:=by
 have:=kd_spec s n
 omega
end
theorem job_any (pb:Nat) (sv:ByteArray) (n:Nat) (w:World) (hn:n<=sv.size) (hs:sv.size<=1000000) (h0:Ow Tryd.prog (inT (TP pb sv n)) w w (TP pb sv n)) :
    Calls Tryd.prog 69 #[pt pb] w fun e w'=>PP (jobP false sv n) (TP pb sv n) w w' e fun v m=>∃ p k l T0 T1,e = .returned (.agg #[.slice p l.length k,bl false])/\One fC 66 4 p k l T0/\InC 9 l T1/\l.map CV.d=v/\Ow Tryd.prog (inT (TP pb sv n)) w w' (TP pb sv m++(T0++T1))/\m<=sv.size/\n < m:=by
 refine c_enter (args:=[pt pb]) (m:=31) (n:=32) Tryd.func69 rfl (by kernel_rfl) (by kernel_rfl) fun fr hA=>?_
 have hO:Ow Tryd.prog (inT (TP pb sv n)) w w [(pb,103,[str sv,i64 ((n:Nat):Int),.slice none 0 0])]:=h0
 refine sr 1 ?_
 refine Mn [.slice none 0 0,bl false] 64 2 hA hO fun fr w1 b1 hA hO=>?_
 refine end_ops ?_
 refine then_normal ?_
 refine sr 6 ?_
 refine Ka 1 [(4,pt pb)] hA fun fr hA=>?_
 refine wpOps_cons' (mP (d:=(some 5)) hA Tryd.func78 ((command_any pb sv n _ (by omega) (by omega) (Ow.self (A:=[_]) (hO.tt))).mono ?_))
 rintro en w2 (⟨ea,ee,hr,rfl,hW⟩ | ⟨v1,m1,hr,p1,k1,T1,rfl,hT1,hW,hc1a,hc1b,hc1c,hc1d⟩)
 · refine .inr ⟨_,rfl,?_⟩
   show _/\_
   exact ⟨hA.dfr,Or.inl ⟨_,_,(by unfold jobP; rw [hr]),rfl,Ow.pan (A:=[_]) (hO.tt:Ow Tryd.prog (inT (TP pb sv n)) w _ ([(b1,64,[.slice none 0 0,bl false])]++(TP pb sv n++(([]++([])))))) hW⟩⟩
 refine .inl ⟨_,rfl,?_⟩
 clear hA fr; intro fr hA
 replace hO:=Ow.pass2 (A:=[_]) hO hW; clear hW
 replace hO:Ow Tryd.prog (inT (TP pb sv n)) w w2 ([(b1,64,[.slice none 0 0,bl false]),(pb,103,[str sv,i64 ((m1:Nat):Int),.slice none 0 0])]++(T1++([]))):=hO.to (by first | rfl | (simp only [TP,apd]))
 refine Mv [.slice p1 v1.words.length k1,str v1.inp,str v1.out,bl v1.app] 66 1 6 hA hO fun fr w3 b2 hA hO=>?_
 refine Ka 1 [(7,.agg #[.slice (some ⟨b2,0,none⟩) 1 1,bl false])] hA fun fr hA=>?_
 refine Mn [.slice none 0 0,bl false] 64 3 hA hO fun fr w4 b3 hA hO=>?_
 refine Ms 0 [.slice (some ⟨b2,0,none⟩) 1 1,bl false] 0 hA hO fun w5 hO=>?_
 refine end_ops ?_
 refine then_normal ?_
 refine wp_seq ?_
 refine wp_block ?_
 have hT2:One fC 66 4 (some ⟨b2,0,none⟩) 1 ([⟨p1,k1,v1⟩]:List CV) [(b2,66,[.slice p1 v1.words.length k1,str v1.inp,str v1.out,bl v1.app])]:=One.ofBlk (r:=[]) (by kernel_rfl) (by first | decide | simp) (by decide) (by kernel_rfl)
 replace hO:=Ow.move (A:=[_]) hO
 replace hO:Ow Tryd.prog (inT (TP pb sv n)) w w5 ([(b3,64,[.slice (some ⟨b2,0,none⟩) 1 1,bl false]),(b1,64,[.slice none 0 0,bl false]),(pb,103,[str sv,i64 ((m1:Nat):Int),.slice none 0 0])]++([(b2,66,[.slice p1 v1.words.length k1,str v1.inp,str v1.out,bl v1.app])]++(T1++([])))):=hO.to (by first | rfl | (simp only [TP,apd]))
 have hC0:InC 9 ([⟨p1,k1,v1⟩]:List CV) T1:=⟨T1,[],hT1,rfl,(List.append_nil _).symm⟩
 refine c_loop (fun mm fr W=>∃ (l:List CV) (m f:Nat) (pL1:Option Addr) (cL1:Nat) (TL1:OwL) (TL2:OwL),mm=sv.size - m/\Holds 32 [] fr [(0,pt pb),(2,pt b1),(3,pt b3)]/\Ow Tryd.prog (inT (TP pb sv n)) w W ([(b3,64,[.slice pL1 l.length cL1,bl false]),(b1,64,[.slice none 0 0,bl false]),(pb,103,[str sv,i64 ((m:Nat):Int),.slice none 0 0])]++(TL1++(TL2++([]))))/\One fC 66 4 pL1 cL1 l TL1/\InC 9 l TL2/\m<=sv.size/\sv.size - m < f/\jobF false sv f (l.map CV.d) m=jobP false sv n/\l.length<=m/\n < m/\True) ?_ ?_
 · exact ⟨_,([⟨p1,k1,v1⟩]:List CV),m1,sv.size+1,some ⟨b2,0,none⟩,1,[(b2,66,[.slice p1 v1.words.length k1,str v1.inp,str v1.out,bl v1.app])],T1,rfl,hA.ss,hO,hT2,hC0,(by omega),(by omega),(by unfold jobP; rw [hr]; rfl),(by simp only [List.length_cons,List.length_nil]; omega),(by omega),trivial⟩
 rintro _ fr w6 ⟨l,m,f,pL1,cL1,TL1,TL2,rfl,hA,hO,hTL1,hTL2,hm,hf,hR,hcl,hgt,-⟩
 obtain ⟨f,rfl⟩ : ∃ j,f=j+1:=⟨f - 1,by omega⟩
 have hnx:=nx_le hm
 have hgtx:=nx_gt (s:=sv) (n:=m)
 have hkd:=tl_kd sv m
 have hml:(l.map CV.d).length=l.length:=List.length_map _
 refine wp_seq ?_
 refine sr 3 ?_
 refine Ka 1 [(8,pt pb)] hA fun fr hA=>?_
 refine Mk 9 hA hO Tryd.func67 (next_any pb sv m _ (by omega) (by omega) (hO.b 2)) fun fr w7 hA hO=>?_
 refine Ka 1 [(10,bl ((tk sv m).toList == (⟨#[124]⟩:ByteArray).toList))] hA fun fr hA=>?_
 rw [(tk_bar sv m:((tk sv m).toList == (⟨#[124]⟩:ByteArray).toList)=(decide (kd sv m=7)))] at hA
 refine end_ops ?_
 refine then_normal ?_
 rcases Bool.eq_false_or_eq_true (decide (kd sv m=7)) with h1 | h1
 · rw [h1] at hA
   have h1p:=of_decide_eq_true h1
   refine cT hA ?_
   refine wp_skip ?_
   refine then_normal ?_
   refine wp_block ?_
   refine sr 2 ?_
   refine Ka 1 [(11,pt pb)] hA fun fr hA=>?_
   have hz_:((⟨#[124]⟩:ByteArray)).size=1:=rfl
   refine wpOps_cons' (mC (d:=(some 12)) hA Tryd.func70 ((takel_any pb sv m _ (by omega) (by omega) (⟨#[124]⟩:ByteArray) (by omega) (Ow.self (A:=[_,_]) (hO.tt))).mono ?_))
   rintro en w8 ⟨rfl,hW⟩
   refine ⟨_,rfl,?_⟩
   clear hA fr; intro fr hA
   replace hO:=Ow.pass (A:=[_,_]) hO hW; clear hW
   refine end_ops ?_
   refine then_normal ?_
   refine wp_seq ?_
   refine sr 9 ?_
   refine Kb 5 [(16,bl (((l.length:Nat):Int) == 4)),(17,bl (((l.length:Nat):Int) == 4))] hA [.slice pL1 l.length cL1] (cc (hO.l1 0 0 62 (.slice pL1 l.length cL1)) c0) fun fr hA=>?_
   rcases Bool.eq_false_or_eq_true (((l.length:Nat):Int) == 4) with h2 | h2
   · rw [h2] at hA
     have h2p:=eq_of_beq h2
     refine Ka 1 [(17,bl true),(18,pt pb)] hA fun fr hA=>?_
     refine Mk 19 hA hO Tryd.func67 (next_any pb sv (nx sv m) _ (by omega) (by omega) (hO.b 2)) fun fr w9 hA hO=>?_
     refine Mk 20 hA hO Tryd.func66 (begins_any sv (nx sv m) _) fun fr w10 hA hO=>?_
     refine Ka 1 [(21,bl (begK (kd sv (nx sv m))))] hA fun fr hA=>?_
     refine end_ops ?_
     refine then_normal ?_
     rcases Bool.eq_false_or_eq_true (begK (kd sv (nx sv m))) with h3 | h3
     · rw [h3] at hA
       have h3p:=begK_yes h3
       refine cT hA ?_
       refine rr 2 ?_
       refine Ka 1 [(22,pt pb)] hA fun fr hA=>?_
       refine wpOps_cons' (mP (d:=(some 23)) hA Tryd.func68 ((fail_any pb sv (nx sv m) _ (by omega) (by omega) 6 (hO.b 2)).mono ?_))
       rintro en w11 ⟨rfl,hW⟩
       refine .inr ⟨_,rfl,?_⟩
       show _/\_
       exact ⟨hA.dfr,Or.inl ⟨_,_,(by rw [← hR]; exact jobF_lim (by omega) (by rw [List.length_map]; omega) (by assumption)),rfl,Ow.pan0 hO hW⟩⟩
     rw [h3] at hA
     have h3p:=begK_no h3
     refine cF hA ?_
     refine wp_skip ?_
     refine then_normal ?_
     have hS:=hO.pk [1]
     refine rT (.q 0 (.q 2 (.m 1 (.m 3 (.m 4 (.m 5 (.q 6 (.m 7 .fin .non)) .non) .non) .non) (.m 3 (.m 1 (.m 4 (.m 5 (.q 6 (.m 7 .fin .non)) .non) .non) (.m 4 (.m 1 (.m 5 (.q 6 (.m 7 .fin .non)) .non) .non) .non)) .non)))) hS ?_
     intro w12 ho; replace hO:=hO.st ho; clear ho
     refine Kt [0,2] [(24,pt b3),(26,pt pb)] hA [] c0 fun fr hA=>?_
     refine tree_mem ?_ ?_
     · refine (Qc [(25,.slice pL1 l.length cL1)] hA [.slice pL1 l.length cL1] (cc (hO.l1 0 0 62 (.slice pL1 l.length cL1)) c0) fun fr hA=>?_)
       refine ⟨(hO.sub [1]),?_⟩
       refine tree_mem ?_ ?_
       · refine (mP (d:=(some 27)) hA Tryd.func78 ((command_any pb sv (nx sv m) _ (by omega) (by omega) (Ow.self (A:=[_,_]) (hO.tt))).mono ?_))
         rintro en w13 (⟨ea,ee,hr,rfl,hW⟩ | ⟨v2,m2,hr,p2,k2,T3,rfl,hT3,hW,hc2a,hc2b,hc2c,hc2d⟩)
         · refine .inr ⟨_,rfl,?_⟩
           show _/\_
           exact ⟨hA.dfr,Or.inl ⟨_,_,(by rw [← hR]; exact jobF_cmdE (by omega) (by rintro ⟨q1,q2⟩; rw [List.length_map] at q1; first | omega | simp_all) hr),rfl,Ow.pan (A:=[_,_]) (hO.tt:Ow Tryd.prog (inT (TP pb sv n)) w _ ([(b3,64,[.slice pL1 l.length cL1,bl false]),(b1,64,[.slice none 0 0,bl false])]++(TP pb sv (nx sv m)++(([]++(TL1++(TL2++([])))))))) hW⟩⟩
         refine .inl ⟨_,rfl,?_⟩
         clear hA fr; intro fr hA
         replace hO:=Ow.pass2 (A:=[_,_]) hO hW; clear hW
         replace hO:Ow Tryd.prog (inT (TP pb sv n)) w w13 ([(b3,64,[.slice pL1 l.length cL1,bl false]),(b1,64,[.slice none 0 0,bl false]),(pb,103,[str sv,i64 ((m2:Nat):Int),.slice none 0 0])]++(TL1++(TL2++(T3++([]))))):=hO.to (by first | rfl | (simp only [TP,apd]))
         refine ⟨(hO.sub [1]),?_⟩
         refine tree_mem ?_ ?_
         · refine (mN (l:=[.slice p2 v2.words.length k2,str v2.inp,str v2.out,bl v2.app]) (t:=66) (v:=fun b=> .slice (some ⟨b,0,none⟩) 1 1) (d:=28) hA hO fun fr w14 b4 hA hO=>?_)
           refine ⟨(hO.sub [2]),?_⟩
           refine tree_mem ?_ ?_
           · replace hO:Ow Tryd.prog (inT (TP pb sv n)) w w14 ([(b4,66,[.slice p2 v2.words.length k2,str v2.inp,str v2.out,bl v2.app]),(b3,64,[.slice pL1 l.length cL1,bl false]),(b1,64,[.slice none 0 0,bl false]),(pb,103,[str sv,i64 ((m2:Nat):Int),.slice none 0 0])]++(TL1++(TL2++(T3++([]))))):=hO
             refine (mA (f:=fC) (el:=66) (sz:=4) (bytes:=64) (p:=pL1) (c:=cL1) (l:=l) (l':=([⟨p2,k2,v2⟩]:List CV)) (T:=TL1) (t:=62) (tx:=62) (ty:=62) (x:= .slice (some ⟨b4,0,none⟩) 1 1) (d:=29) [(b4,66,[.slice p2 v2.words.length k2,str v2.inp,str v2.out,bl v2.app]),(b3,64,[.slice pL1 l.length cL1,bl false]),(b1,64,[.slice none 0 0,bl false]),(pb,103,[str sv,i64 ((m2:Nat):Int),.slice none 0 0])] (TL2++(T3++([]))) encC hA hO hTL1 (Vw.src (e':=66) encC ((hO.b 0).vw (off:=0) (xs:=([⟨p2,k2,v2⟩]:List CV)) (by kernel_rfl)) (by kernel_rfl)) (by first | omega | (simp only [List.length_append,List.length_cons,List.length_nil]; omega)) (by unfold maxLen; first | omega | (simp only [List.length_append,List.length_cons,List.length_nil]; omega)) fun fr w15 p3 c1 T4 hA hO hT4=>?_)
             refine ⟨(hO.sub [2]),?_⟩
             refine Kt [6] [(30,pt b3)] hA [] c0 fun fr hA=>?_
             refine tree_mem ?_ ?_
             · refine (mS (off:=0) (vc:=[.slice p3 ((l++([⟨p2,k2,v2⟩]:List CV)).length) c1]) 1 hA hO fun w16 hO=>?_)
               refine ⟨(hO.sub [2]),?_⟩
               refine tree_fin ?_
               refine inBlock_normal ?_
               refine then_normal ?_
               replace hO:Ow Tryd.prog (inT (TP pb sv n)) w w16 ([(b4,66,[.slice p2 v2.words.length k2,str v2.inp,str v2.out,bl v2.app]),(b3,64,[.slice p3 ((l++([⟨p2,k2,v2⟩]:List CV)).length) c1,bl false]),(b1,64,[.slice none 0 0,bl false]),(pb,103,[str sv,i64 ((m2:Nat):Int),.slice none 0 0])]++(T4++(TL2++(T3++([]))))):=hO
               have hC1:InC 9 (l++([⟨p2,k2,v2⟩]:List CV)) (TL2++T3):=InC.snoc (x:=⟨p2,k2,v2⟩) hT3 hTL2
               replace hO:Ow Tryd.prog (inT (TP pb sv n)) w w16 ([(b4,66,[.slice p2 v2.words.length k2,str v2.inp,str v2.out,bl v2.app]),(b3,64,[.slice p3 ((l++([⟨p2,k2,v2⟩]:List CV)).length) c1,bl false]),(b1,64,[.slice none 0 0,bl false]),(pb,103,[str sv,i64 ((m2:Nat):Int),.slice none 0 0])]++(T4++((TL2++T3)++([])))):=hO.to (by first | rfl | (simp only [TP,apd]))
               exact ⟨_,by omega,l++([⟨p2,k2,v2⟩]:List CV),m2,f,p3,c1,T4,(TL2++T3),rfl,hA.ss,(Ow.subP (A:=[_,_,_,_]) hO (.cons _ (.cons_cons _ (.cons_cons _ (.cons_cons _ .slnil))))),hT4,hC1,(by omega),(by omega),(by rw [← hR,List.map_append]; exact (jobF_cmd (by omega) (by rintro ⟨q1,q2⟩; rw [List.length_map] at q1; first | omega | simp_all) hr).symm),(by simp only [List.length_append,List.length_cons,List.length_nil]; omega),(by omega),trivial⟩
             exact trivial
           exact trivial
         exact trivial
       exact trivial
     refine tree_mem ?_ ?_
     · refine (mP (d:=(some 27)) hA Tryd.func78 ((command_any pb sv (nx sv m) _ (by omega) (by omega) (Ow.self (A:=[_,_]) (hO.tt))).mono ?_))
       rintro en w17 (⟨ea,ee,hr,rfl,hW⟩ | ⟨v3,m3,hr,p4,k3,T5,rfl,hT5,hW,hc3a,hc3b,hc3c,hc3d⟩)
       · refine .inr ⟨_,rfl,?_⟩
         show _/\_
         exact ⟨hA.dfr,Or.inl ⟨_,_,(by rw [← hR]; exact jobF_cmdE (by omega) (by rintro ⟨q1,q2⟩; rw [List.length_map] at q1; first | omega | simp_all) hr),rfl,Ow.pan (A:=[_,_]) (hO.tt:Ow Tryd.prog (inT (TP pb sv n)) w _ ([(b3,64,[.slice pL1 l.length cL1,bl false]),(b1,64,[.slice none 0 0,bl false])]++(TP pb sv (nx sv m)++(([]++(TL1++(TL2++([])))))))) hW⟩⟩
       refine .inl ⟨_,rfl,?_⟩
       clear hA fr; intro fr hA
       replace hO:=Ow.pass2 (A:=[_,_]) hO hW; clear hW
       replace hO:Ow Tryd.prog (inT (TP pb sv n)) w w17 ([(b3,64,[.slice pL1 l.length cL1,bl false]),(b1,64,[.slice none 0 0,bl false]),(pb,103,[str sv,i64 ((m3:Nat):Int),.slice none 0 0])]++(TL1++(TL2++(T5++([]))))):=hO.to (by first | rfl | (simp only [TP,apd]))
       refine ⟨(hO.sub [1]),?_⟩
       refine tree_mem ?_ ?_
       · refine (Qc [(25,.slice pL1 l.length cL1)] hA [.slice pL1 l.length cL1] (cc (hO.l1 0 0 62 (.slice pL1 l.length cL1)) c0) fun fr hA=>?_)
         refine ⟨(hO.sub [1]),?_⟩
         refine tree_mem ?_ ?_
         · refine (mN (l:=[.slice p4 v3.words.length k3,str v3.inp,str v3.out,bl v3.app]) (t:=66) (v:=fun b=> .slice (some ⟨b,0,none⟩) 1 1) (d:=28) hA hO fun fr w18 b5 hA hO=>?_)
           refine ⟨(hO.sub [2]),?_⟩
           refine tree_mem ?_ ?_
           · replace hO:Ow Tryd.prog (inT (TP pb sv n)) w w18 ([(b5,66,[.slice p4 v3.words.length k3,str v3.inp,str v3.out,bl v3.app]),(b3,64,[.slice pL1 l.length cL1,bl false]),(b1,64,[.slice none 0 0,bl false]),(pb,103,[str sv,i64 ((m3:Nat):Int),.slice none 0 0])]++(TL1++(TL2++(T5++([]))))):=hO
             refine (mA (f:=fC) (el:=66) (sz:=4) (bytes:=64) (p:=pL1) (c:=cL1) (l:=l) (l':=([⟨p4,k3,v3⟩]:List CV)) (T:=TL1) (t:=62) (tx:=62) (ty:=62) (x:= .slice (some ⟨b5,0,none⟩) 1 1) (d:=29) [(b5,66,[.slice p4 v3.words.length k3,str v3.inp,str v3.out,bl v3.app]),(b3,64,[.slice pL1 l.length cL1,bl false]),(b1,64,[.slice none 0 0,bl false]),(pb,103,[str sv,i64 ((m3:Nat):Int),.slice none 0 0])] (TL2++(T5++([]))) encC hA hO hTL1 (Vw.src (e':=66) encC ((hO.b 0).vw (off:=0) (xs:=([⟨p4,k3,v3⟩]:List CV)) (by kernel_rfl)) (by kernel_rfl)) (by first | omega | (simp only [List.length_append,List.length_cons,List.length_nil]; omega)) (by unfold maxLen; first | omega | (simp only [List.length_append,List.length_cons,List.length_nil]; omega)) fun fr w19 p5 c2 T6 hA hO hT6=>?_)
             refine ⟨(hO.sub [2]),?_⟩
             refine Kt [6] [(30,pt b3)] hA [] c0 fun fr hA=>?_
             refine tree_mem ?_ ?_
             · refine (mS (off:=0) (vc:=[.slice p5 ((l++([⟨p4,k3,v3⟩]:List CV)).length) c2]) 1 hA hO fun w20 hO=>?_)
               refine ⟨(hO.sub [2]),?_⟩
               refine tree_fin ?_
               refine inBlock_normal ?_
               refine then_normal ?_
               replace hO:Ow Tryd.prog (inT (TP pb sv n)) w w20 ([(b5,66,[.slice p4 v3.words.length k3,str v3.inp,str v3.out,bl v3.app]),(b3,64,[.slice p5 ((l++([⟨p4,k3,v3⟩]:List CV)).length) c2,bl false]),(b1,64,[.slice none 0 0,bl false]),(pb,103,[str sv,i64 ((m3:Nat):Int),.slice none 0 0])]++(T6++(TL2++(T5++([]))))):=hO
               have hC1:InC 9 (l++([⟨p4,k3,v3⟩]:List CV)) (TL2++T5):=InC.snoc (x:=⟨p4,k3,v3⟩) hT5 hTL2
               replace hO:Ow Tryd.prog (inT (TP pb sv n)) w w20 ([(b5,66,[.slice p4 v3.words.length k3,str v3.inp,str v3.out,bl v3.app]),(b3,64,[.slice p5 ((l++([⟨p4,k3,v3⟩]:List CV)).length) c2,bl false]),(b1,64,[.slice none 0 0,bl false]),(pb,103,[str sv,i64 ((m3:Nat):Int),.slice none 0 0])]++(T6++((TL2++T5)++([])))):=hO.to (by first | rfl | (simp only [TP,apd]))
               exact ⟨_,by omega,l++([⟨p4,k3,v3⟩]:List CV),m3,f,p5,c2,T6,(TL2++T5),rfl,hA.ss,(Ow.subP (A:=[_,_,_,_]) hO (.cons _ (.cons_cons _ (.cons_cons _ (.cons_cons _ .slnil))))),hT6,hC1,(by omega),(by omega),(by rw [← hR,List.map_append]; exact (jobF_cmd (by omega) (by rintro ⟨q1,q2⟩; rw [List.length_map] at q1; first | omega | simp_all) hr).symm),(by simp only [List.length_append,List.length_cons,List.length_nil]; omega),(by omega),trivial⟩
             exact trivial
           exact trivial
         exact trivial
       refine tree_mem ?_ ?_
       · refine (mN (l:=[.slice p4 v3.words.length k3,str v3.inp,str v3.out,bl v3.app]) (t:=66) (v:=fun b=> .slice (some ⟨b,0,none⟩) 1 1) (d:=28) hA hO fun fr w21 b6 hA hO=>?_)
         refine ⟨(hO.sub [2]),?_⟩
         refine tree_mem ?_ ?_
         · refine (Qc [(25,.slice pL1 l.length cL1)] hA [.slice pL1 l.length cL1] (cc (hO.l1 1 0 62 (.slice pL1 l.length cL1)) c0) fun fr hA=>?_)
           refine ⟨(hO.sub [2]),?_⟩
           refine tree_mem ?_ ?_
           · replace hO:Ow Tryd.prog (inT (TP pb sv n)) w w21 ([(b6,66,[.slice p4 v3.words.length k3,str v3.inp,str v3.out,bl v3.app]),(b3,64,[.slice pL1 l.length cL1,bl false]),(b1,64,[.slice none 0 0,bl false]),(pb,103,[str sv,i64 ((m3:Nat):Int),.slice none 0 0])]++(TL1++(TL2++(T5++([]))))):=hO
             refine (mA (f:=fC) (el:=66) (sz:=4) (bytes:=64) (p:=pL1) (c:=cL1) (l:=l) (l':=([⟨p4,k3,v3⟩]:List CV)) (T:=TL1) (t:=62) (tx:=62) (ty:=62) (x:= .slice (some ⟨b6,0,none⟩) 1 1) (d:=29) [(b6,66,[.slice p4 v3.words.length k3,str v3.inp,str v3.out,bl v3.app]),(b3,64,[.slice pL1 l.length cL1,bl false]),(b1,64,[.slice none 0 0,bl false]),(pb,103,[str sv,i64 ((m3:Nat):Int),.slice none 0 0])] (TL2++(T5++([]))) encC hA hO hTL1 (Vw.src (e':=66) encC ((hO.b 0).vw (off:=0) (xs:=([⟨p4,k3,v3⟩]:List CV)) (by kernel_rfl)) (by kernel_rfl)) (by first | omega | (simp only [List.length_append,List.length_cons,List.length_nil]; omega)) (by unfold maxLen; first | omega | (simp only [List.length_append,List.length_cons,List.length_nil]; omega)) fun fr w22 p6 c3 T7 hA hO hT7=>?_)
             refine ⟨(hO.sub [2]),?_⟩
             refine Kt [6] [(30,pt b3)] hA [] c0 fun fr hA=>?_
             refine tree_mem ?_ ?_
             · refine (mS (off:=0) (vc:=[.slice p6 ((l++([⟨p4,k3,v3⟩]:List CV)).length) c3]) 1 hA hO fun w23 hO=>?_)
               refine ⟨(hO.sub [2]),?_⟩
               refine tree_fin ?_
               refine inBlock_normal ?_
               refine then_normal ?_
               replace hO:Ow Tryd.prog (inT (TP pb sv n)) w w23 ([(b6,66,[.slice p4 v3.words.length k3,str v3.inp,str v3.out,bl v3.app]),(b3,64,[.slice p6 ((l++([⟨p4,k3,v3⟩]:List CV)).length) c3,bl false]),(b1,64,[.slice none 0 0,bl false]),(pb,103,[str sv,i64 ((m3:Nat):Int),.slice none 0 0])]++(T7++(TL2++(T5++([]))))):=hO
               have hC1:InC 9 (l++([⟨p4,k3,v3⟩]:List CV)) (TL2++T5):=InC.snoc (x:=⟨p4,k3,v3⟩) hT5 hTL2
               replace hO:Ow Tryd.prog (inT (TP pb sv n)) w w23 ([(b6,66,[.slice p4 v3.words.length k3,str v3.inp,str v3.out,bl v3.app]),(b3,64,[.slice p6 ((l++([⟨p4,k3,v3⟩]:List CV)).length) c3,bl false]),(b1,64,[.slice none 0 0,bl false]),(pb,103,[str sv,i64 ((m3:Nat):Int),.slice none 0 0])]++(T7++((TL2++T5)++([])))):=hO.to (by first | rfl | (simp only [TP,apd]))
               exact ⟨_,by omega,l++([⟨p4,k3,v3⟩]:List CV),m3,f,p6,c3,T7,(TL2++T5),rfl,hA.ss,(Ow.subP (A:=[_,_,_,_]) hO (.cons _ (.cons_cons _ (.cons_cons _ (.cons_cons _ .slnil))))),hT7,hC1,(by omega),(by omega),(by rw [← hR,List.map_append]; exact (jobF_cmd (by omega) (by rintro ⟨q1,q2⟩; rw [List.length_map] at q1; first | omega | simp_all) hr).symm),(by simp only [List.length_append,List.length_cons,List.length_nil]; omega),(by omega),trivial⟩
             exact trivial
           exact trivial
         exact trivial
       exact trivial
     exact trivial
   rw [h2] at hA
   have h2p:=ne_of_beq_false h2
   refine Ka 4 [(21,bl false)] hA fun fr hA=>?_
   refine end_ops ?_
   refine then_normal ?_
   refine cF hA ?_
   refine wp_skip ?_
   refine then_normal ?_
   have hS:=hO.pk [1]
   refine rT (.q 0 (.q 2 (.m 1 (.m 3 (.m 4 (.m 5 (.q 6 (.m 7 .fin .non)) .non) .non) .non) (.m 3 (.m 1 (.m 4 (.m 5 (.q 6 (.m 7 .fin .non)) .non) .non) (.m 4 (.m 1 (.m 5 (.q 6 (.m 7 .fin .non)) .non) .non) .non)) .non)))) hS ?_
   intro w24 ho; replace hO:=hO.st ho; clear ho
   refine Kt [0,2] [(24,pt b3),(26,pt pb)] hA [] c0 fun fr hA=>?_
   refine tree_mem ?_ ?_
   · refine (Qc [(25,.slice pL1 l.length cL1)] hA [.slice pL1 l.length cL1] (cc (hO.l1 0 0 62 (.slice pL1 l.length cL1)) c0) fun fr hA=>?_)
     refine ⟨(hO.sub [1]),?_⟩
     refine tree_mem ?_ ?_
     · refine (mP (d:=(some 27)) hA Tryd.func78 ((command_any pb sv (nx sv m) _ (by omega) (by omega) (Ow.self (A:=[_,_]) (hO.tt))).mono ?_))
       rintro en w25 (⟨ea,ee,hr,rfl,hW⟩ | ⟨v4,m4,hr,p7,k4,T8,rfl,hT8,hW,hc4a,hc4b,hc4c,hc4d⟩)
       · refine .inr ⟨_,rfl,?_⟩
         show _/\_
         exact ⟨hA.dfr,Or.inl ⟨_,_,(by rw [← hR]; exact jobF_cmdE (by omega) (by rintro ⟨q1,q2⟩; rw [List.length_map] at q1; first | omega | simp_all) hr),rfl,Ow.pan (A:=[_,_]) (hO.tt:Ow Tryd.prog (inT (TP pb sv n)) w _ ([(b3,64,[.slice pL1 l.length cL1,bl false]),(b1,64,[.slice none 0 0,bl false])]++(TP pb sv (nx sv m)++(([]++(TL1++(TL2++([])))))))) hW⟩⟩
       refine .inl ⟨_,rfl,?_⟩
       clear hA fr; intro fr hA
       replace hO:=Ow.pass2 (A:=[_,_]) hO hW; clear hW
       replace hO:Ow Tryd.prog (inT (TP pb sv n)) w w25 ([(b3,64,[.slice pL1 l.length cL1,bl false]),(b1,64,[.slice none 0 0,bl false]),(pb,103,[str sv,i64 ((m4:Nat):Int),.slice none 0 0])]++(TL1++(TL2++(T8++([]))))):=hO.to (by first | rfl | (simp only [TP,apd]))
       refine ⟨(hO.sub [1]),?_⟩
       refine tree_mem ?_ ?_
       · refine (mN (l:=[.slice p7 v4.words.length k4,str v4.inp,str v4.out,bl v4.app]) (t:=66) (v:=fun b=> .slice (some ⟨b,0,none⟩) 1 1) (d:=28) hA hO fun fr w26 b7 hA hO=>?_)
         refine ⟨(hO.sub [2]),?_⟩
         refine tree_mem ?_ ?_
         · replace hO:Ow Tryd.prog (inT (TP pb sv n)) w w26 ([(b7,66,[.slice p7 v4.words.length k4,str v4.inp,str v4.out,bl v4.app]),(b3,64,[.slice pL1 l.length cL1,bl false]),(b1,64,[.slice none 0 0,bl false]),(pb,103,[str sv,i64 ((m4:Nat):Int),.slice none 0 0])]++(TL1++(TL2++(T8++([]))))):=hO
           refine (mA (f:=fC) (el:=66) (sz:=4) (bytes:=64) (p:=pL1) (c:=cL1) (l:=l) (l':=([⟨p7,k4,v4⟩]:List CV)) (T:=TL1) (t:=62) (tx:=62) (ty:=62) (x:= .slice (some ⟨b7,0,none⟩) 1 1) (d:=29) [(b7,66,[.slice p7 v4.words.length k4,str v4.inp,str v4.out,bl v4.app]),(b3,64,[.slice pL1 l.length cL1,bl false]),(b1,64,[.slice none 0 0,bl false]),(pb,103,[str sv,i64 ((m4:Nat):Int),.slice none 0 0])] (TL2++(T8++([]))) encC hA hO hTL1 (Vw.src (e':=66) encC ((hO.b 0).vw (off:=0) (xs:=([⟨p7,k4,v4⟩]:List CV)) (by kernel_rfl)) (by kernel_rfl)) (by first | omega | (simp only [List.length_append,List.length_cons,List.length_nil]; omega)) (by unfold maxLen; first | omega | (simp only [List.length_append,List.length_cons,List.length_nil]; omega)) fun fr w27 p8 c4 T9 hA hO hT9=>?_)
           refine ⟨(hO.sub [2]),?_⟩
           refine Kt [6] [(30,pt b3)] hA [] c0 fun fr hA=>?_
           refine tree_mem ?_ ?_
           · refine (mS (off:=0) (vc:=[.slice p8 ((l++([⟨p7,k4,v4⟩]:List CV)).length) c4]) 1 hA hO fun w28 hO=>?_)
             refine ⟨(hO.sub [2]),?_⟩
             refine tree_fin ?_
             refine inBlock_normal ?_
             refine then_normal ?_
             replace hO:Ow Tryd.prog (inT (TP pb sv n)) w w28 ([(b7,66,[.slice p7 v4.words.length k4,str v4.inp,str v4.out,bl v4.app]),(b3,64,[.slice p8 ((l++([⟨p7,k4,v4⟩]:List CV)).length) c4,bl false]),(b1,64,[.slice none 0 0,bl false]),(pb,103,[str sv,i64 ((m4:Nat):Int),.slice none 0 0])]++(T9++(TL2++(T8++([]))))):=hO
             have hC1:InC 9 (l++([⟨p7,k4,v4⟩]:List CV)) (TL2++T8):=InC.snoc (x:=⟨p7,k4,v4⟩) hT8 hTL2
             replace hO:Ow Tryd.prog (inT (TP pb sv n)) w w28 ([(b7,66,[.slice p7 v4.words.length k4,str v4.inp,str v4.out,bl v4.app]),(b3,64,[.slice p8 ((l++([⟨p7,k4,v4⟩]:List CV)).length) c4,bl false]),(b1,64,[.slice none 0 0,bl false]),(pb,103,[str sv,i64 ((m4:Nat):Int),.slice none 0 0])]++(T9++((TL2++T8)++([])))):=hO.to (by first | rfl | (simp only [TP,apd]))
             exact ⟨_,by omega,l++([⟨p7,k4,v4⟩]:List CV),m4,f,p8,c4,T9,(TL2++T8),rfl,hA.ss,(Ow.subP (A:=[_,_,_,_]) hO (.cons _ (.cons_cons _ (.cons_cons _ (.cons_cons _ .slnil))))),hT9,hC1,(by omega),(by omega),(by rw [← hR,List.map_append]; exact (jobF_cmd (by omega) (by rintro ⟨q1,q2⟩; rw [List.length_map] at q1; first | omega | simp_all) hr).symm),(by simp only [List.length_append,List.length_cons,List.length_nil]; omega),(by omega),trivial⟩
           exact trivial
         exact trivial
       exact trivial
     exact trivial
   refine tree_mem ?_ ?_
   · refine (mP (d:=(some 27)) hA Tryd.func78 ((command_any pb sv (nx sv m) _ (by omega) (by omega) (Ow.self (A:=[_,_]) (hO.tt))).mono ?_))
     rintro en w29 (⟨ea,ee,hr,rfl,hW⟩ | ⟨v5,m5,hr,p9,k5,T10,rfl,hT10,hW,hc5a,hc5b,hc5c,hc5d⟩)
     · refine .inr ⟨_,rfl,?_⟩
       show _/\_
       exact ⟨hA.dfr,Or.inl ⟨_,_,(by rw [← hR]; exact jobF_cmdE (by omega) (by rintro ⟨q1,q2⟩; rw [List.length_map] at q1; first | omega | simp_all) hr),rfl,Ow.pan (A:=[_,_]) (hO.tt:Ow Tryd.prog (inT (TP pb sv n)) w _ ([(b3,64,[.slice pL1 l.length cL1,bl false]),(b1,64,[.slice none 0 0,bl false])]++(TP pb sv (nx sv m)++(([]++(TL1++(TL2++([])))))))) hW⟩⟩
     refine .inl ⟨_,rfl,?_⟩
     clear hA fr; intro fr hA
     replace hO:=Ow.pass2 (A:=[_,_]) hO hW; clear hW
     replace hO:Ow Tryd.prog (inT (TP pb sv n)) w w29 ([(b3,64,[.slice pL1 l.length cL1,bl false]),(b1,64,[.slice none 0 0,bl false]),(pb,103,[str sv,i64 ((m5:Nat):Int),.slice none 0 0])]++(TL1++(TL2++(T10++([]))))):=hO.to (by first | rfl | (simp only [TP,apd]))
     refine ⟨(hO.sub [1]),?_⟩
     refine tree_mem ?_ ?_
     · refine (Qc [(25,.slice pL1 l.length cL1)] hA [.slice pL1 l.length cL1] (cc (hO.l1 0 0 62 (.slice pL1 l.length cL1)) c0) fun fr hA=>?_)
       refine ⟨(hO.sub [1]),?_⟩
       refine tree_mem ?_ ?_
       · refine (mN (l:=[.slice p9 v5.words.length k5,str v5.inp,str v5.out,bl v5.app]) (t:=66) (v:=fun b=> .slice (some ⟨b,0,none⟩) 1 1) (d:=28) hA hO fun fr w30 b8 hA hO=>?_)
         refine ⟨(hO.sub [2]),?_⟩
         refine tree_mem ?_ ?_
         · replace hO:Ow Tryd.prog (inT (TP pb sv n)) w w30 ([(b8,66,[.slice p9 v5.words.length k5,str v5.inp,str v5.out,bl v5.app]),(b3,64,[.slice pL1 l.length cL1,bl false]),(b1,64,[.slice none 0 0,bl false]),(pb,103,[str sv,i64 ((m5:Nat):Int),.slice none 0 0])]++(TL1++(TL2++(T10++([]))))):=hO
           refine (mA (f:=fC) (el:=66) (sz:=4) (bytes:=64) (p:=pL1) (c:=cL1) (l:=l) (l':=([⟨p9,k5,v5⟩]:List CV)) (T:=TL1) (t:=62) (tx:=62) (ty:=62) (x:= .slice (some ⟨b8,0,none⟩) 1 1) (d:=29) [(b8,66,[.slice p9 v5.words.length k5,str v5.inp,str v5.out,bl v5.app]),(b3,64,[.slice pL1 l.length cL1,bl false]),(b1,64,[.slice none 0 0,bl false]),(pb,103,[str sv,i64 ((m5:Nat):Int),.slice none 0 0])] (TL2++(T10++([]))) encC hA hO hTL1 (Vw.src (e':=66) encC ((hO.b 0).vw (off:=0) (xs:=([⟨p9,k5,v5⟩]:List CV)) (by kernel_rfl)) (by kernel_rfl)) (by first | omega | (simp only [List.length_append,List.length_cons,List.length_nil]; omega)) (by unfold maxLen; first | omega | (simp only [List.length_append,List.length_cons,List.length_nil]; omega)) fun fr w31 p10 c5 T11 hA hO hT11=>?_)
           refine ⟨(hO.sub [2]),?_⟩
           refine Kt [6] [(30,pt b3)] hA [] c0 fun fr hA=>?_
           refine tree_mem ?_ ?_
           · refine (mS (off:=0) (vc:=[.slice p10 ((l++([⟨p9,k5,v5⟩]:List CV)).length) c5]) 1 hA hO fun w32 hO=>?_)
             refine ⟨(hO.sub [2]),?_⟩
             refine tree_fin ?_
             refine inBlock_normal ?_
             refine then_normal ?_
             replace hO:Ow Tryd.prog (inT (TP pb sv n)) w w32 ([(b8,66,[.slice p9 v5.words.length k5,str v5.inp,str v5.out,bl v5.app]),(b3,64,[.slice p10 ((l++([⟨p9,k5,v5⟩]:List CV)).length) c5,bl false]),(b1,64,[.slice none 0 0,bl false]),(pb,103,[str sv,i64 ((m5:Nat):Int),.slice none 0 0])]++(T11++(TL2++(T10++([]))))):=hO
             have hC1:InC 9 (l++([⟨p9,k5,v5⟩]:List CV)) (TL2++T10):=InC.snoc (x:=⟨p9,k5,v5⟩) hT10 hTL2
             replace hO:Ow Tryd.prog (inT (TP pb sv n)) w w32 ([(b8,66,[.slice p9 v5.words.length k5,str v5.inp,str v5.out,bl v5.app]),(b3,64,[.slice p10 ((l++([⟨p9,k5,v5⟩]:List CV)).length) c5,bl false]),(b1,64,[.slice none 0 0,bl false]),(pb,103,[str sv,i64 ((m5:Nat):Int),.slice none 0 0])]++(T11++((TL2++T10)++([])))):=hO.to (by first | rfl | (simp only [TP,apd]))
             exact ⟨_,by omega,l++([⟨p9,k5,v5⟩]:List CV),m5,f,p10,c5,T11,(TL2++T10),rfl,hA.ss,(Ow.subP (A:=[_,_,_,_]) hO (.cons _ (.cons_cons _ (.cons_cons _ (.cons_cons _ .slnil))))),hT11,hC1,(by omega),(by omega),(by rw [← hR,List.map_append]; exact (jobF_cmd (by omega) (by rintro ⟨q1,q2⟩; rw [List.length_map] at q1; first | omega | simp_all) hr).symm),(by simp only [List.length_append,List.length_cons,List.length_nil]; omega),(by omega),trivial⟩
           exact trivial
         exact trivial
       exact trivial
     refine tree_mem ?_ ?_
     · refine (mN (l:=[.slice p9 v5.words.length k5,str v5.inp,str v5.out,bl v5.app]) (t:=66) (v:=fun b=> .slice (some ⟨b,0,none⟩) 1 1) (d:=28) hA hO fun fr w33 b9 hA hO=>?_)
       refine ⟨(hO.sub [2]),?_⟩
       refine tree_mem ?_ ?_
       · refine (Qc [(25,.slice pL1 l.length cL1)] hA [.slice pL1 l.length cL1] (cc (hO.l1 1 0 62 (.slice pL1 l.length cL1)) c0) fun fr hA=>?_)
         refine ⟨(hO.sub [2]),?_⟩
         refine tree_mem ?_ ?_
         · replace hO:Ow Tryd.prog (inT (TP pb sv n)) w w33 ([(b9,66,[.slice p9 v5.words.length k5,str v5.inp,str v5.out,bl v5.app]),(b3,64,[.slice pL1 l.length cL1,bl false]),(b1,64,[.slice none 0 0,bl false]),(pb,103,[str sv,i64 ((m5:Nat):Int),.slice none 0 0])]++(TL1++(TL2++(T10++([]))))):=hO
           refine (mA (f:=fC) (el:=66) (sz:=4) (bytes:=64) (p:=pL1) (c:=cL1) (l:=l) (l':=([⟨p9,k5,v5⟩]:List CV)) (T:=TL1) (t:=62) (tx:=62) (ty:=62) (x:= .slice (some ⟨b9,0,none⟩) 1 1) (d:=29) [(b9,66,[.slice p9 v5.words.length k5,str v5.inp,str v5.out,bl v5.app]),(b3,64,[.slice pL1 l.length cL1,bl false]),(b1,64,[.slice none 0 0,bl false]),(pb,103,[str sv,i64 ((m5:Nat):Int),.slice none 0 0])] (TL2++(T10++([]))) encC hA hO hTL1 (Vw.src (e':=66) encC ((hO.b 0).vw (off:=0) (xs:=([⟨p9,k5,v5⟩]:List CV)) (by kernel_rfl)) (by kernel_rfl)) (by first | omega | (simp only [List.length_append,List.length_cons,List.length_nil]; omega)) (by unfold maxLen; first | omega | (simp only [List.length_append,List.length_cons,List.length_nil]; omega)) fun fr w34 p11 c6 T12 hA hO hT12=>?_)
           refine ⟨(hO.sub [2]),?_⟩
           refine Kt [6] [(30,pt b3)] hA [] c0 fun fr hA=>?_
           refine tree_mem ?_ ?_
           · refine (mS (off:=0) (vc:=[.slice p11 ((l++([⟨p9,k5,v5⟩]:List CV)).length) c6]) 1 hA hO fun w35 hO=>?_)
             refine ⟨(hO.sub [2]),?_⟩
             refine tree_fin ?_
             refine inBlock_normal ?_
             refine then_normal ?_
             replace hO:Ow Tryd.prog (inT (TP pb sv n)) w w35 ([(b9,66,[.slice p9 v5.words.length k5,str v5.inp,str v5.out,bl v5.app]),(b3,64,[.slice p11 ((l++([⟨p9,k5,v5⟩]:List CV)).length) c6,bl false]),(b1,64,[.slice none 0 0,bl false]),(pb,103,[str sv,i64 ((m5:Nat):Int),.slice none 0 0])]++(T12++(TL2++(T10++([]))))):=hO
             have hC1:InC 9 (l++([⟨p9,k5,v5⟩]:List CV)) (TL2++T10):=InC.snoc (x:=⟨p9,k5,v5⟩) hT10 hTL2
             replace hO:Ow Tryd.prog (inT (TP pb sv n)) w w35 ([(b9,66,[.slice p9 v5.words.length k5,str v5.inp,str v5.out,bl v5.app]),(b3,64,[.slice p11 ((l++([⟨p9,k5,v5⟩]:List CV)).length) c6,bl false]),(b1,64,[.slice none 0 0,bl false]),(pb,103,[str sv,i64 ((m5:Nat):Int),.slice none 0 0])]++(T12++((TL2++T10)++([])))):=hO.to (by first | rfl | (simp only [TP,apd]))
             exact ⟨_,by omega,l++([⟨p9,k5,v5⟩]:List CV),m5,f,p11,c6,T12,(TL2++T10),rfl,hA.ss,(Ow.subP (A:=[_,_,_,_]) hO (.cons _ (.cons_cons _ (.cons_cons _ (.cons_cons _ .slnil))))),hT12,hC1,(by omega),(by omega),(by rw [← hR,List.map_append]; exact (jobF_cmd (by omega) (by rintro ⟨q1,q2⟩; rw [List.length_map] at q1; first | omega | simp_all) hr).symm),(by simp only [List.length_append,List.length_cons,List.length_nil]; omega),(by omega),trivial⟩
           exact trivial
         exact trivial
       exact trivial
     exact trivial
   exact trivial
 rw [h1] at hA
 have h1p:=of_decide_eq_false h1
 refine cF hA ?_
 refine wp_exit ?_
 refine then_exit ?_
 refine then_exit ?_
 refine inBlock_exit ?_
 refine then_normal ?_
 refine sr 2 ?_
 refine Kb 1 [(31,.agg #[.slice pL1 l.length cL1,bl false])] hA [.agg #[.slice pL1 l.length cL1,bl false]] (cc (hO.ln 0 0 64 [.slice pL1 l.length cL1,bl false]) c0) fun fr hA=>?_
 refine Ms 0 [.slice pL1 l.length cL1,bl false] 1 hA hO fun w36 hO=>?_
 refine end_ops ?_
 refine then_normal ?_
 refine wp_ret ?_
 refine cR (cs:=[some (⟨b1,0,none⟩,64)]) (us:=[.agg #[.slice pL1 l.length cL1,bl false]]) hA [.agg #[.slice pL1 l.length cL1,bl false]] ⟨(hO.ln 1 0 64 [.slice pL1 l.length cL1,bl false]),trivial⟩ ?_
 exact Or.inr ⟨_,m,by rw [← hR]; exact jobF_end (by omega),_,_,l,_,_,rfl,hTL1,hTL2,rfl,((Ow.subP (A:=[_,_,_]) hO (.cons _ (.cons _ (.cons_cons _ .slnil))))).to (by simp only [List.append_nil]),by omega,by omega⟩
end Go.Proofs.YtdljjajjonfjbaaDoor
