import Derived.Test.YtdljjajjonfjbaaDoorParsc
import Derived.Test.YtdljjajjonfjbaaDoorSn
set_option linter.unusedVariables false
set_option linter.unusedSimpArgs false
set_option maxRecDepth 10000
namespace Go.Proofs.YtdljjajjonfjbaaDoor
open Go Go.Shelf Go.RowKit Go.Proofs Go.Proofs.Sx
section
variable {soft:Bool} {s:ByteArray} {k n m:Nat} {c c':CmdL} {u:ByteArray} {e:Nat×Int}
theorem cmdF_word (h:kd s n=1) (hl:c.words.length≠4) (hw:wordP s n = .ok (u,m)):cmdF soft s (k+1) c n=cmdF soft s k ⟨c.words++[u],c.inp,c.out,c.app⟩ m:=by
 simp only [cmdF]; rw [if_pos h,if_neg hl,hw]
theorem cmdF_wordE (h:kd s n=1) (hl:c.words.length≠4) (hw:wordP s n = .error e):cmdF soft s (k+1) c n = .error e:=by
 simp only [cmdF]; rw [if_pos h,if_neg hl,hw]
theorem cmdF_lim (h:kd s n=1) (hl:c.words.length=4):cmdF soft s (k+1) c n = .error (n,6):=by
 simp only [cmdF]; rw [if_pos h,if_pos hl]
theorem cmdF_red (h:kd s n=2\/kd s n=3\/kd s n=4) (hs : ¬ (soft=true/\((kd s n=2/\c.inp.size≠0)\/(kd s n≠2/\c.out.size≠0)))) (hr:redirP s c n = .ok (c',m)):cmdF soft s (k+1) c n=cmdF soft s k c' m:=by
 simp only [cmdF]; rw [if_neg (by omega),if_pos ⟨h,hs⟩,hr]
theorem cmdF_redE (h:kd s n=2\/kd s n=3\/kd s n=4) (hs : ¬ (soft=true/\((kd s n=2/\c.inp.size≠0)\/(kd s n≠2/\c.out.size≠0)))) (hr:redirP s c n = .error e):cmdF soft s (k+1) c n = .error e:=by
 simp only [cmdF]; rw [if_neg (by omega),if_pos ⟨h,hs⟩,hr]
theorem cmdF_end (h:kd s n≠1) (hs : ¬ ((kd s n=2\/kd s n=3\/kd s n=4)/\¬ (soft=true/\((kd s n=2/\c.inp.size≠0)\/(kd s n≠2/\c.out.size≠0))))) (hl:c.words.length≠0):cmdF soft s (k+1) c n = .ok (c,n):=by
 simp only [cmdF]; rw [if_neg h,if_neg hs,if_neg hl]
theorem cmdF_none (h:kd s n≠1) (hs : ¬ ((kd s n=2\/kd s n=3\/kd s n=4)/\¬ (soft=true/\((kd s n=2/\c.inp.size≠0)\/(kd s n≠2/\c.out.size≠0))))) (hl:c.words.length=0):cmdF soft s (k+1) c n = .error (n,3):=by
 simp only [cmdF]; rw [if_neg h,if_neg hs,if_pos hl]
end
theorem hard {p:Prop} : ¬ (false=true/\p):=fun h=>Bool.false_ne_true h.1
theorem begK_yes {k:Nat} (h:begK k=true) : 1<=k/\k<=4:=of_decide_eq_true h
theorem begK_no {k:Nat} (h:begK k=false) : ¬ (1<=k/\k<=4):=of_decide_eq_false h
theorem Ow.two {P:Program} {X:Nat->Prop} {w₀ w:World} {x y:Nat×TypeId×List Value} {L:OwL} (h:Ow P X w₀ w (x::y::L)):Ow P X w₀ w (y::x::L):=(h.m.perm (List.Perm.swap y x L)).o
theorem command_any (pb:Nat) (sv:ByteArray) (n:Nat) (w:World) (hn:n<=sv.size) (hs:sv.size<=1000000) (h0:Ow Tryd.prog (inT (TP pb sv n)) w w (TP pb sv n)) :
    Calls Tryd.prog 78 #[pt pb] w fun e w'=>PP (cmdP false sv n) (TP pb sv n) w w' e fun v m=>∃ p k T',e = .returned (.agg #[.slice p v.words.length k,str v.inp,str v.out,bl v.app])/\One fT 9 1 p k v.words T'/\Ow Tryd.prog (inT (TP pb sv n)) w w' (TP pb sv m++T')/\m<=sv.size/\n < m/\1<=v.words.length/\v.words.length<=4:=by
 refine c_enter (args:=[pt pb]) (m:=37) (n:=38) Tryd.func78 rfl (by kernel_rfl) (by kernel_rfl) fun fr hA=>?_
 have hO:Ow Tryd.prog (inT (TP pb sv n)) w w [(pb,103,[str sv,i64 ((n:Nat):Int),.slice none 0 0])]:=h0
 refine sr 1 ?_
 refine Mn [.slice none 0 0,str (⟨#[]⟩),str (⟨#[]⟩),bl false] 66 2 hA hO fun fr w1 b1 hA hO=>?_
 refine end_ops ?_
 refine then_normal ?_
 refine sr 1 ?_
 refine Mn [.slice none 0 0,str (⟨#[]⟩),str (⟨#[]⟩),bl false] 66 3 hA hO fun fr w2 b2 hA hO=>?_
 refine end_ops ?_
 refine then_normal ?_
 refine wp_seq ?_
 refine sr 3 ?_
 refine Ka 1 [(5,pt pb)] hA fun fr hA=>?_
 refine Mk 6 hA hO Tryd.func67 (next_any pb sv n _ (by omega) (by omega) (hO.b 2)) fun fr w3 hA hO=>?_
 refine Ka 1 [(4,str (tk sv n))] hA fun fr hA=>?_
 refine end_ops ?_
 refine then_normal ?_
 refine wp_block ?_
 replace hO:=Ow.two hO
 have hT1:=One.nil fT 9 1
 refine c_loop (fun mm fr W=>∃ (c:CmdL) (m f:Nat) (pL1:Option Addr) (cL1:Nat) (TL1:OwL),mm=sv.size - m/\Holds 38 [] fr [(0,pt pb),(2,pt b1),(3,pt b2),(4,str (tk sv m))]/\Ow Tryd.prog (inT (TP pb sv n)) w W ([(b1,66,[.slice none 0 0,str (⟨#[]⟩),str (⟨#[]⟩),bl false]),(b2,66,[.slice pL1 c.words.length cL1,str c.inp,str c.out,bl c.app]),(pb,103,[str sv,i64 ((m:Nat):Int),.slice none 0 0])]++(TL1++([])))/\One fT 9 1 pL1 cL1 c.words TL1/\m<=sv.size/\sv.size - m < f/\cmdF false sv f c m=cmdP false sv n/\c.words.length<=4/\n<=m/\(c.words.length=0\/n < m)/\True) ?_ ?_
 · exact ⟨_,cmd0,n,sv.size+1,none,0,[],rfl,hA.ss,hO.tt,hT1,hn,(by omega),rfl,(by decide),(Nat.le_refl _),(.inl rfl),trivial⟩
 rintro _ fr w4 ⟨c,m,f,pL1,cL1,TL1,rfl,hA,hO,hTL1,hm,hf,hR,hcl,hgt,hgt2,-⟩
 obtain ⟨f,rfl⟩ : ∃ j,f=j+1:=⟨f - 1,by omega⟩
 have hnx:=nx_le hm
 have hgtx:=nx_gt (s:=sv) (n:=m)
 have hkd:=tl_kd sv m
 have htz:=tk_size sv m
 have hsb:=sb_b (tk sv m) 0
 refine wp_seq ?_
 refine sr 2 ?_
 refine Ka 1 [(7,str (tk sv m))] hA fun fr hA=>?_
 refine Mk 8 hA hO Tryd.func66 (begins_any sv m _) fun fr w5 hA hO=>?_
 refine end_ops ?_
 refine then_normal ?_
 rcases Bool.eq_false_or_eq_true (begK (kd sv m)) with h1 | h1
 · rw [h1] at hA
   have h1p:=begK_yes h1
   refine cT hA ?_
   refine wp_skip ?_
   refine then_normal ?_
   refine wp_seq ?_
   refine wp_block ?_
   refine wp_seq ?_
   refine sr 4 ?_
   refine Kb 2 [(12,u8 (sb (tk sv m) 0))] hA [] (cc (⟨by omega,by omega⟩:(0:Int)<=0/\0 < (((tk sv m).size:Nat):Int)) c0) fun fr hA=>?_
   refine Mk 13 hA hO Tryd.func57 (part_any (sb (tk sv m) 0) _ (by omega) (by omega)) fun fr w6 hA hO=>?_
   refine Ka 1 [(14,bl (!(partI (sb (tk sv m) 0))))] hA fun fr hA=>?_
   rw [(part_tk (by omega):(partI (sb (tk sv m) 0))=(decide (kd sv m=1)))] at hA
   refine end_ops ?_
   refine then_normal ?_
   rcases Bool.eq_false_or_eq_true (decide (kd sv m=1)) with h2 | h2
   · rw [h2] at hA
     have h2p:=of_decide_eq_true h2
     refine cF hA ?_
     refine wp_skip ?_
     refine then_normal ?_
     refine wp_seq ?_
     refine Sb [(21,bl (((c.words.length:Nat):Int) == 4))] hA [.slice pL1 c.words.length cL1] (cc (hO.l1 1 0 25 (.slice pL1 c.words.length cL1)) c0) fun fr hA=>?_
     rcases Bool.eq_false_or_eq_true (((c.words.length:Nat):Int) == 4) with h3 | h3
     · rw [h3] at hA
       have h3p:=eq_of_beq h3
       refine cT hA ?_
       refine rr 2 ?_
       refine Ka 1 [(22,pt pb)] hA fun fr hA=>?_
       refine wpOps_cons' (mP (d:=(some 23)) hA Tryd.func68 ((fail_any pb sv m _ (by omega) (by omega) 6 (hO.b 2)).mono ?_))
       rintro en w7 ⟨rfl,hW⟩
       refine .inr ⟨_,rfl,?_⟩
       show _/\_
       exact ⟨hA.dfr,Or.inl ⟨_,_,(by rw [← hR]; exact cmdF_lim (by omega) (by omega)),rfl,Ow.pan0 hO hW⟩⟩
     rw [h3] at hA
     have h3p:=ne_of_beq_false h3
     refine cF hA ?_
     refine wp_skip ?_
     refine then_normal ?_
     have hS:=hO.pk [0]
     refine rT (.q 0 (.q 2 (.m 1 (.m 3 (.m 4 (.m 5 (.q 6 (.m 7 .fin .non)) .non) .non) .non) (.m 3 (.m 1 (.m 4 (.m 5 (.q 6 (.m 7 .fin .non)) .non) .non) (.m 4 (.m 1 (.m 5 (.q 6 (.m 7 .fin .non)) .non) .non) .non)) .non)))) hS ?_
     intro w8 ho; replace hO:=hO.st ho; clear ho
     refine Kt [0,2] [(24,pt b2),(26,pt pb)] hA [] c0 fun fr hA=>?_
     refine tree_mem ?_ ?_
     · refine (Qc [(25,.slice pL1 c.words.length cL1)] hA [.slice pL1 c.words.length cL1] (cc (hO.l1 1 0 25 (.slice pL1 c.words.length cL1)) c0) fun fr hA=>?_)
       refine ⟨(hO.sub [0]),?_⟩
       refine tree_mem ?_ ?_
       · refine (mP (d:=(some 27)) hA Tryd.func84 ((word_any pb sv m _ (by omega) (by omega) (Ow.self (A:=[_,_]) (hO.tt))).mono ?_))
         rintro en w9 (⟨ea,ee,hr,rfl,hW⟩ | ⟨vv,mm,hr,rfl,hW⟩)
         · refine .inr ⟨_,rfl,?_⟩
           show _/\_
           exact ⟨hA.dfr,Or.inl ⟨_,_,(by rw [← hR]; exact cmdF_wordE (by omega) (by omega) hr),rfl,Ow.pan (A:=[_,_]) (hO.tt:Ow Tryd.prog (inT (TP pb sv n)) w _ ([(b1,66,[.slice none 0 0,str (⟨#[]⟩),str (⟨#[]⟩),bl false]),(b2,66,[.slice pL1 c.words.length cL1,str c.inp,str c.out,bl c.app])]++(TP pb sv m++(([]++(TL1++([]))))))) hW⟩⟩
         refine .inl ⟨_,rfl,?_⟩
         clear hA fr; intro fr hA
         obtain ⟨rfl,rfl,hq11,hq12,hq13,hq14,hq15⟩:=wordP_ok (by omega) hr
         replace hO:=Ow.pass (A:=[_,_]) hO hW; clear hW
         refine ⟨(hO.sub [0]),?_⟩
         refine tree_mem ?_ ?_
         · refine (mN (l:=[str (tk sv m)]) (t:=9) (v:=fun b=> .slice (some ⟨b,0,none⟩) 1 1) (d:=28) hA hO fun fr w10 b3 hA hO=>?_)
           refine ⟨(hO.sub [1]),?_⟩
           refine tree_mem ?_ ?_
           · replace hO:Ow Tryd.prog (inT (TP pb sv n)) w w10 ([(b3,9,[str (tk sv m)]),(b1,66,[.slice none 0 0,str (⟨#[]⟩),str (⟨#[]⟩),bl false]),(b2,66,[.slice pL1 c.words.length cL1,str c.inp,str c.out,bl c.app]),(pb,103,[str sv,i64 ((nx sv m:Nat):Int),.slice none 0 0])]++(TL1++([]))):=hO
             refine (mA (f:=fT) (el:=9) (sz:=1) (bytes:=16) (p:=pL1) (c:=cL1) (l:=c.words) (l':=([tk sv m]:List ByteArray)) (T:=TL1) (t:=25) (tx:=25) (ty:=25) (x:= .slice (some ⟨b3,0,none⟩) 1 1) (d:=29) [(b3,9,[str (tk sv m)]),(b1,66,[.slice none 0 0,str (⟨#[]⟩),str (⟨#[]⟩),bl false]),(b2,66,[.slice pL1 c.words.length cL1,str c.inp,str c.out,bl c.app]),(pb,103,[str sv,i64 ((nx sv m:Nat):Int),.slice none 0 0])] ([]) encT hA hO hTL1 (Vw.src (e':=9) encT ((hO.b 0).vw (off:=0) (xs:=([tk sv m]:List ByteArray)) (by kernel_rfl)) (by kernel_rfl)) (by first | omega | (simp only [List.length_append,List.length_cons,List.length_nil]; omega)) (by unfold maxLen; first | omega | (simp only [List.length_append,List.length_cons,List.length_nil]; omega)) fun fr w11 p1 c1 T2 hA hO hT2=>?_)
             refine ⟨(hO.sub [1]),?_⟩
             refine Kt [6] [(30,pt b2)] hA [] c0 fun fr hA=>?_
             refine tree_mem ?_ ?_
             · refine (mS (off:=0) (vc:=[.slice p1 ((c.words++([tk sv m]:List ByteArray)).length) c1]) 2 hA hO fun w12 hO=>?_)
               refine ⟨(hO.sub [1]),?_⟩
               refine tree_fin ?_
               refine inBlock_normal ?_
               refine then_normal ?_
               refine rr 3 ?_
               refine Ka 1 [(9,pt pb)] hA fun fr hA=>?_
               refine Mk 10 hA hO Tryd.func67 (next_any pb sv (nx sv m) _ (by omega) (by omega) (hO.b 3)) fun fr w13 hA hO=>?_
               refine Ka 1 [(4,str (tk sv (nx sv m)))] hA fun fr hA=>?_
               refine end_ops ?_
               refine then_normal ?_
               exact ⟨_,by omega,⟨c.words++[tk sv m],c.inp,c.out,c.app⟩,nx sv m,f,p1,c1,T2,rfl,hA.ss,(Ow.subP (A:=[_,_,_,_]) hO (.cons _ (.cons_cons _ (.cons_cons _ (.cons_cons _ .slnil))))),hT2,(by omega),(by omega),(by rw [← hR]; exact (cmdF_word (by omega) (by omega) hr).symm),(by simp only [List.length_append,List.length_cons,List.length_nil]; omega),(by omega),(.inr (by omega)),trivial⟩
             exact trivial
           exact trivial
         exact trivial
       exact trivial
     refine tree_mem ?_ ?_
     · refine (mP (d:=(some 27)) hA Tryd.func84 ((word_any pb sv m _ (by omega) (by omega) (Ow.self (A:=[_,_]) (hO.tt))).mono ?_))
       rintro en w14 (⟨ea,ee,hr,rfl,hW⟩ | ⟨vv,mm,hr,rfl,hW⟩)
       · refine .inr ⟨_,rfl,?_⟩
         show _/\_
         exact ⟨hA.dfr,Or.inl ⟨_,_,(by rw [← hR]; exact cmdF_wordE (by omega) (by omega) hr),rfl,Ow.pan (A:=[_,_]) (hO.tt:Ow Tryd.prog (inT (TP pb sv n)) w _ ([(b1,66,[.slice none 0 0,str (⟨#[]⟩),str (⟨#[]⟩),bl false]),(b2,66,[.slice pL1 c.words.length cL1,str c.inp,str c.out,bl c.app])]++(TP pb sv m++(([]++(TL1++([]))))))) hW⟩⟩
       refine .inl ⟨_,rfl,?_⟩
       clear hA fr; intro fr hA
       obtain ⟨rfl,rfl,hq21,hq22,hq23,hq24,hq25⟩:=wordP_ok (by omega) hr
       replace hO:=Ow.pass (A:=[_,_]) hO hW; clear hW
       refine ⟨(hO.sub [0]),?_⟩
       refine tree_mem ?_ ?_
       · refine (Qc [(25,.slice pL1 c.words.length cL1)] hA [.slice pL1 c.words.length cL1] (cc (hO.l1 1 0 25 (.slice pL1 c.words.length cL1)) c0) fun fr hA=>?_)
         refine ⟨(hO.sub [0]),?_⟩
         refine tree_mem ?_ ?_
         · refine (mN (l:=[str (tk sv m)]) (t:=9) (v:=fun b=> .slice (some ⟨b,0,none⟩) 1 1) (d:=28) hA hO fun fr w15 b4 hA hO=>?_)
           refine ⟨(hO.sub [1]),?_⟩
           refine tree_mem ?_ ?_
           · replace hO:Ow Tryd.prog (inT (TP pb sv n)) w w15 ([(b4,9,[str (tk sv m)]),(b1,66,[.slice none 0 0,str (⟨#[]⟩),str (⟨#[]⟩),bl false]),(b2,66,[.slice pL1 c.words.length cL1,str c.inp,str c.out,bl c.app]),(pb,103,[str sv,i64 ((nx sv m:Nat):Int),.slice none 0 0])]++(TL1++([]))):=hO
             refine (mA (f:=fT) (el:=9) (sz:=1) (bytes:=16) (p:=pL1) (c:=cL1) (l:=c.words) (l':=([tk sv m]:List ByteArray)) (T:=TL1) (t:=25) (tx:=25) (ty:=25) (x:= .slice (some ⟨b4,0,none⟩) 1 1) (d:=29) [(b4,9,[str (tk sv m)]),(b1,66,[.slice none 0 0,str (⟨#[]⟩),str (⟨#[]⟩),bl false]),(b2,66,[.slice pL1 c.words.length cL1,str c.inp,str c.out,bl c.app]),(pb,103,[str sv,i64 ((nx sv m:Nat):Int),.slice none 0 0])] ([]) encT hA hO hTL1 (Vw.src (e':=9) encT ((hO.b 0).vw (off:=0) (xs:=([tk sv m]:List ByteArray)) (by kernel_rfl)) (by kernel_rfl)) (by first | omega | (simp only [List.length_append,List.length_cons,List.length_nil]; omega)) (by unfold maxLen; first | omega | (simp only [List.length_append,List.length_cons,List.length_nil]; omega)) fun fr w16 p2 c2 T3 hA hO hT3=>?_)
             refine ⟨(hO.sub [1]),?_⟩
             refine Kt [6] [(30,pt b2)] hA [] c0 fun fr hA=>?_
             refine tree_mem ?_ ?_
             · refine (mS (off:=0) (vc:=[.slice p2 ((c.words++([tk sv m]:List ByteArray)).length) c2]) 2 hA hO fun w17 hO=>?_)
               refine ⟨(hO.sub [1]),?_⟩
               refine tree_fin ?_
               refine inBlock_normal ?_
               refine then_normal ?_
               refine rr 3 ?_
               refine Ka 1 [(9,pt pb)] hA fun fr hA=>?_
               refine Mk 10 hA hO Tryd.func67 (next_any pb sv (nx sv m) _ (by omega) (by omega) (hO.b 3)) fun fr w18 hA hO=>?_
               refine Ka 1 [(4,str (tk sv (nx sv m)))] hA fun fr hA=>?_
               refine end_ops ?_
               refine then_normal ?_
               exact ⟨_,by omega,⟨c.words++[tk sv m],c.inp,c.out,c.app⟩,nx sv m,f,p2,c2,T3,rfl,hA.ss,(Ow.subP (A:=[_,_,_,_]) hO (.cons _ (.cons_cons _ (.cons_cons _ (.cons_cons _ .slnil))))),hT3,(by omega),(by omega),(by rw [← hR]; exact (cmdF_word (by omega) (by omega) hr).symm),(by simp only [List.length_append,List.length_cons,List.length_nil]; omega),(by omega),(.inr (by omega)),trivial⟩
             exact trivial
           exact trivial
         exact trivial
       refine tree_mem ?_ ?_
       · refine (mN (l:=[str (tk sv m)]) (t:=9) (v:=fun b=> .slice (some ⟨b,0,none⟩) 1 1) (d:=28) hA hO fun fr w19 b5 hA hO=>?_)
         refine ⟨(hO.sub [1]),?_⟩
         refine tree_mem ?_ ?_
         · refine (Qc [(25,.slice pL1 c.words.length cL1)] hA [.slice pL1 c.words.length cL1] (cc (hO.l1 2 0 25 (.slice pL1 c.words.length cL1)) c0) fun fr hA=>?_)
           refine ⟨(hO.sub [1]),?_⟩
           refine tree_mem ?_ ?_
           · replace hO:Ow Tryd.prog (inT (TP pb sv n)) w w19 ([(b5,9,[str (tk sv m)]),(b1,66,[.slice none 0 0,str (⟨#[]⟩),str (⟨#[]⟩),bl false]),(b2,66,[.slice pL1 c.words.length cL1,str c.inp,str c.out,bl c.app]),(pb,103,[str sv,i64 ((nx sv m:Nat):Int),.slice none 0 0])]++(TL1++([]))):=hO
             refine (mA (f:=fT) (el:=9) (sz:=1) (bytes:=16) (p:=pL1) (c:=cL1) (l:=c.words) (l':=([tk sv m]:List ByteArray)) (T:=TL1) (t:=25) (tx:=25) (ty:=25) (x:= .slice (some ⟨b5,0,none⟩) 1 1) (d:=29) [(b5,9,[str (tk sv m)]),(b1,66,[.slice none 0 0,str (⟨#[]⟩),str (⟨#[]⟩),bl false]),(b2,66,[.slice pL1 c.words.length cL1,str c.inp,str c.out,bl c.app]),(pb,103,[str sv,i64 ((nx sv m:Nat):Int),.slice none 0 0])] ([]) encT hA hO hTL1 (Vw.src (e':=9) encT ((hO.b 0).vw (off:=0) (xs:=([tk sv m]:List ByteArray)) (by kernel_rfl)) (by kernel_rfl)) (by first | omega | (simp only [List.length_append,List.length_cons,List.length_nil]; omega)) (by unfold maxLen; first | omega | (simp only [List.length_append,List.length_cons,List.length_nil]; omega)) fun fr w20 p3 c3 T4 hA hO hT4=>?_)
             refine ⟨(hO.sub [1]),?_⟩
             refine Kt [6] [(30,pt b2)] hA [] c0 fun fr hA=>?_
             refine tree_mem ?_ ?_
             · refine (mS (off:=0) (vc:=[.slice p3 ((c.words++([tk sv m]:List ByteArray)).length) c3]) 2 hA hO fun w21 hO=>?_)
               refine ⟨(hO.sub [1]),?_⟩
               refine tree_fin ?_
               refine inBlock_normal ?_
               refine then_normal ?_
               refine rr 3 ?_
               refine Ka 1 [(9,pt pb)] hA fun fr hA=>?_
               refine Mk 10 hA hO Tryd.func67 (next_any pb sv (nx sv m) _ (by omega) (by omega) (hO.b 3)) fun fr w22 hA hO=>?_
               refine Ka 1 [(4,str (tk sv (nx sv m)))] hA fun fr hA=>?_
               refine end_ops ?_
               refine then_normal ?_
               exact ⟨_,by omega,⟨c.words++[tk sv m],c.inp,c.out,c.app⟩,nx sv m,f,p3,c3,T4,rfl,hA.ss,(Ow.subP (A:=[_,_,_,_]) hO (.cons _ (.cons_cons _ (.cons_cons _ (.cons_cons _ .slnil))))),hT4,(by omega),(by omega),(by rw [← hR]; exact (cmdF_word (by omega) (by omega) hr).symm),(by simp only [List.length_append,List.length_cons,List.length_nil]; omega),(by omega),(.inr (by omega)),trivial⟩
             exact trivial
           exact trivial
         exact trivial
       exact trivial
     exact trivial
   rw [h2] at hA
   have h2p:=of_decide_eq_false h2
   refine cT hA ?_
   refine sr 3 ?_
   refine Ka 2 [(15,pt pb),(16,str (tk sv m))] hA fun fr hA=>?_
   refine wpOps_cons' (mP (d:=(some 17)) hA Tryd.func83 ((redirect_any b2 pL1 cL1 c pb sv m _ (by omega) (by omega) (by omega) (Ow.self (A:=[_]) hO)).mono ?_))
   rintro en w23 (⟨ea,ee,hr,rfl,hW⟩ | ⟨c4,m1,hr,rfl,hW⟩)
   · refine .inr ⟨_,rfl,?_⟩
     show _/\_
     exact ⟨hA.dfr,Or.inl ⟨_,_,(by rw [← hR]; exact cmdF_redE (by omega) hard hr),rfl,Ow.pan (A:=[_]) hO hW⟩⟩
   refine .inl ⟨_,rfl,?_⟩
   clear hA fr; intro fr hA
   obtain ⟨hq31,hq32,hq33⟩:=redirP_ok (by omega) hr
   have hq34:=congrArg List.length hq31
   rw [← hq31] at hTL1
   replace hO:=Ow.pass (A:=[_]) hO hW; clear hW
   replace hO:Ow Tryd.prog (inT (TP pb sv n)) w w23 ([(b1,66,[.slice none 0 0,str (⟨#[]⟩),str (⟨#[]⟩),bl false]),(b2,66,[.slice pL1 c4.words.length cL1,str c4.inp,str c4.out,bl c4.app]),(pb,103,[str sv,i64 ((m1:Nat):Int),.slice none 0 0])]++(TL1++([]))):=hO.to (by rfl)
   refine end_ops ?_
   refine then_normal ?_
   refine wp_exit ?_
   refine then_exit ?_
   refine inBlock_exit ?_
   refine then_normal ?_
   refine rr 3 ?_
   refine Ka 1 [(9,pt pb)] hA fun fr hA=>?_
   refine Mk 10 hA hO Tryd.func67 (next_any pb sv m1 _ (by omega) (by omega) (hO.b 2)) fun fr w24 hA hO=>?_
   refine Ka 1 [(4,str (tk sv m1))] hA fun fr hA=>?_
   refine end_ops ?_
   refine then_normal ?_
   exact ⟨_,by omega,c4,m1,f,pL1,cL1,TL1,rfl,hA.ss,hO.tt,hTL1,(by omega),(by omega),(by rw [← hR]; exact (cmdF_red (by omega) hard hr).symm),(by omega),(by omega),(by omega),trivial⟩
 rw [h1] at hA
 have h1p:=begK_no h1
 refine cF hA ?_
 refine wp_exit ?_
 refine then_exit ?_
 refine then_exit ?_
 refine inBlock_exit ?_
 refine then_normal ?_
 refine wp_seq ?_
 refine Sb [(34,bl (((c.words.length:Nat):Int) == 0))] hA [.slice pL1 c.words.length cL1] (cc (hO.l1 1 0 25 (.slice pL1 c.words.length cL1)) c0) fun fr hA=>?_
 rcases Bool.eq_false_or_eq_true (((c.words.length:Nat):Int) == 0) with h4 | h4
 · rw [h4] at hA
   have h4p:=eq_of_beq h4
   refine cT hA ?_
   refine rr 2 ?_
   refine Ka 1 [(35,pt pb)] hA fun fr hA=>?_
   refine wpOps_cons' (mP (d:=(some 36)) hA Tryd.func68 ((fail_any pb sv m _ (by omega) (by omega) 3 (hO.b 2)).mono ?_))
   rintro en w25 ⟨rfl,hW⟩
   refine .inr ⟨_,rfl,?_⟩
   show _/\_
   exact ⟨hA.dfr,Or.inl ⟨_,_,(by rw [← hR]; exact cmdF_none (by omega) (by omega) (by omega)),rfl,Ow.pan0 hO hW⟩⟩
 rw [h4] at hA
 have h4p:=ne_of_beq_false h4
 refine cF hA ?_
 refine wp_skip ?_
 refine then_normal ?_
 refine sr 2 ?_
 refine Kb 1 [(37,.agg #[.slice pL1 c.words.length cL1,str c.inp,str c.out,bl c.app])] hA [.agg #[.slice pL1 c.words.length cL1,str c.inp,str c.out,bl c.app]] (cc (hO.ln 1 0 66 [.slice pL1 c.words.length cL1,str c.inp,str c.out,bl c.app]) c0) fun fr hA=>?_
 refine Ms 0 [.slice pL1 c.words.length cL1,str c.inp,str c.out,bl c.app] 0 hA hO fun w26 hO=>?_
 refine end_ops ?_
 refine then_normal ?_
 refine wp_ret ?_
 refine cR (cs:=[some (⟨b1,0,none⟩,66)]) (us:=[.agg #[.slice pL1 c.words.length cL1,str c.inp,str c.out,bl c.app]]) hA [.agg #[.slice pL1 c.words.length cL1,str c.inp,str c.out,bl c.app]] ⟨(hO.ln 0 0 66 [.slice pL1 c.words.length cL1,str c.inp,str c.out,bl c.app]),trivial⟩ ?_
 exact Or.inr ⟨c,m,by rw [← hR]; exact cmdF_end (by omega) (by omega) (by omega),_,_,_,rfl,hTL1,((Ow.subP (A:=[_,_,_]) hO (.cons _ (.cons _ (.cons_cons _ .slnil))))).to (by simp only [List.append_nil]),by omega,by omega,by omega,by omega⟩
end Go.Proofs.YtdljjajjonfjbaaDoor
