import Derived.Test.YtdljjajjonfjbaaDoorCmdMem
import Derived.Test.YtdljjajjonfjbaaDoorSn
set_option linter.unusedVariables false
set_option linter.unusedSimpArgs false
set_option maxRecDepth 10000
namespace Go.Proofs.YtdljjajjonfjbaaDoor
open Go Go.Shelf Go.RowKit Go.Proofs Go.Proofs.Sx
theorem takek_any (pb:Nat) (sv:ByteArray) (n:Nat) (w:World) (hn:n<=sv.size) (hs:sv.size<=1000000) (h0:Ow Tryd.prog (inT (TP pb sv n)) w w (TP pb sv n)) :
    Calls Tryd.prog 70 #[pt pb,str (tk sv n)] w fun e w'=>e = .returned (.tuple #[])/\Ow Tryd.prog (inT (TP pb sv n)) w w' (TP pb sv (nx sv n)):=by
 have h1:=tk_size sv n
 have h2:=tl_le sv n
 have h:=take_any pb sv n w hn hs (tk sv n) (by omega) h0
 rw [h1] at h
 exact h
abbrev TC (cb:Nat) (p:Option Addr) (k:Nat) (c:CmdL):Nat×TypeId×List Value:=(cb,66,[.slice p c.words.length k,str c.inp,str c.out,bl c.app])
abbrev TR (cb:Nat) (p:Option Addr) (k:Nat) (c:CmdL) (pb:Nat) (s:ByteArray) (n:Nat):OwL:=TC cb p k c::TP pb s n
theorem redirP_ok {s:ByteArray} {n m:Nat} {c v:CmdL} (hn:n<=s.size) (h:redirP s c n = .ok (v,m)):v.words=c.words/\m<=s.size/\n < m:=by
  unfold redirP at h
  split at h
  · cases h
  · cases hw:wordP s (nx s n) with
    | error e=>rw [hw] at h; cases h
    | ok q =>
      obtain ⟨u,k⟩:=q
      rw [hw] at h
      have h1:=nx_le hn
      obtain ⟨_,_,h2,h3,_⟩:=wordP_ok h1 hw
      have h4:n<=nx s n:=by unfold nx; have:=le_sk s (n+tl s n); omega
      cases h
      refine ⟨?_,h2,by omega⟩
      split <;> rfl
theorem redirect_any (cb:Nat) (p:Option Addr) (k:Nat) (c:CmdL) (pb:Nat) (sv:ByteArray) (n:Nat) (w:World) (hn:n<=sv.size) (hs:sv.size<=1000000) (hk:kd sv n=2\/kd sv n=3\/kd sv n=4) (h0:Ow Tryd.prog (inT (TR cb p k c pb sv n)) w w (TR cb p k c pb sv n)) :
    Calls Tryd.prog 83 #[pt pb,pt cb,str (tk sv n)] w fun e w'=>PP (redirP sv c n) (TR cb p k c pb sv n) w w' e fun v m=>e = .returned (.tuple #[])/\Ow Tryd.prog (inT (TR cb p k c pb sv n)) w w' (TR cb p k v pb sv m):=by
 refine c_enter (args:=[pt pb,pt cb,str (tk sv n)]) (m:=45) (n:=48) Tryd.func83 rfl (by kernel_rfl) (by kernel_rfl) fun fr hA=>?_
 have hO:Ow Tryd.prog (inT (TR cb p k c pb sv n)) w w [(cb,66,[.slice p c.words.length k,str c.inp,str c.out,bl c.app]),(pb,103,[str sv,i64 ((n:Nat):Int),.slice none 0 0])]:=h0
 have hnx:=nx_le hn
 refine wp_seq ?_
 refine sr 20 ?_
 refine Ka 3 [(7,bl ((tk sv n).toList == (⟨#[60]⟩:ByteArray).toList)),(8,bl ((tk sv n).toList == (⟨#[60]⟩:ByteArray).toList))] hA fun fr hA=>?_
 rw [(tk_lt sv n:((tk sv n).toList == (⟨#[60]⟩:ByteArray).toList)=(decide (kd sv n=2)))] at hA
 rcases Bool.eq_false_or_eq_true (decide (kd sv n=2)) with h1 | h1
 · rw [h1] at hA
   have h1p:=of_decide_eq_true h1
   refine Kb 7 [(13,bl (!(c.inp.toList == (⟨#[]⟩:ByteArray).toList))),(14,bl (!(c.inp.toList == (⟨#[]⟩:ByteArray).toList))),(15,bl (!(c.inp.toList == (⟨#[]⟩:ByteArray).toList)))] hA [str c.inp] (cc (hO.l1 0 1 9 (str c.inp)) c0) fun fr hA=>?_
   rw [(str_empty c.inp:(c.inp.toList == (⟨#[]⟩:ByteArray).toList)=(decide (c.inp.size=0)))] at hA
   rcases Bool.eq_false_or_eq_true (decide (c.inp.size=0)) with h2 | h2
   · rw [h2] at hA
     have h2p:=of_decide_eq_true h2
     refine Ka 3 [(15,bl false),(17,bl (!((tk sv n).toList == (⟨#[60]⟩:ByteArray).toList))),(18,bl (!((tk sv n).toList == (⟨#[60]⟩:ByteArray).toList)))] hA fun fr hA=>?_
     rw [(tk_lt sv n:((tk sv n).toList == (⟨#[60]⟩:ByteArray).toList)=(decide (kd sv n=2)))] at hA
     rcases Bool.eq_false_or_eq_true (decide (kd sv n=2)) with h3 | h3
     · rw [h3] at hA
       have h3p:=of_decide_eq_true h3
       refine Ka 7 [(25,bl false)] hA fun fr hA=>?_
       refine end_ops ?_
       refine then_normal ?_
       refine cF hA ?_
       refine wp_skip ?_
       refine then_normal ?_
       refine sr 3 ?_
       refine Ka 2 [(28,pt pb),(29,str (tk sv n))] hA fun fr hA=>?_
       refine wpOps_cons' (mC (d:=(some 30)) hA Tryd.func70 ((takek_any pb sv n _ (by omega) (by omega) (Ow.self (A:=[_]) (hO.tt))).mono ?_))
       rintro en w1 ⟨rfl,hW⟩
       refine ⟨_,rfl,?_⟩
       clear hA fr; intro fr hA
       replace hO:=Ow.pass (A:=[_]) hO hW; clear hW
       refine end_ops ?_
       refine then_normal ?_
       refine wp_seq ?_
       refine Sa [(32,bl ((tk sv n).toList == (⟨#[60]⟩:ByteArray).toList))] hA fun fr hA=>?_
       rw [(tk_lt sv n:((tk sv n).toList == (⟨#[60]⟩:ByteArray).toList)=(decide (kd sv n=2)))] at hA
       rcases Bool.eq_false_or_eq_true (decide (kd sv n=2)) with h4 | h4
       · rw [h4] at hA
         have h4p:=of_decide_eq_true h4
         refine cT hA ?_
         refine sr 6 ?_
         refine Ka 2 [(33,pt cb),(34,pt pb)] hA fun fr hA=>?_
         refine wpOps_cons' (mP (d:=(some 35)) hA Tryd.func84 ((word_any pb sv (nx sv n) _ (by omega) (by omega) (Ow.self (A:=[_]) (hO.tt))).mono ?_))
         rintro en w2 (⟨ea,ee,hr,rfl,hW⟩ | ⟨vv,mm,hr,rfl,hW⟩)
         · refine .inr ⟨_,rfl,?_⟩
           show _/\_
           exact ⟨hA.dfr,Or.inl ⟨_,_,(by unfold redirP; rw [if_neg (by omega),hr]),rfl,Ow.pan (A:=[_]) (hO.tt:Ow Tryd.prog (inT (TR cb p k c pb sv n)) w _ ([(cb,66,[.slice p c.words.length k,str c.inp,str c.out,bl c.app])]++(TP pb sv (nx sv n)++(([]++([])))))) hW⟩⟩
         refine .inl ⟨_,rfl,?_⟩
         clear hA fr; intro fr hA
         obtain ⟨rfl,rfl,hq11,hq12,hq13,hq14,hq15⟩:=wordP_ok (by omega) hr
         replace hO:=Ow.pass (A:=[_]) hO hW; clear hW
         refine Ka 2 [(37,pf cb 1)] hA fun fr hA=>?_
         refine Ms 1 [str (tk sv (nx sv n))] 0 hA hO fun w3 hO=>?_
         refine end_ops ?_
         refine then_normal ?_
         refine wp_ret ?_
         refine then_ret ?_
         refine cv [] hA ?_
         exact Or.inr ⟨⟨c.words,(tk sv (nx sv n)),c.out,c.app⟩,_,by unfold redirP; rw [if_neg (by omega),hr]; simp only [if_pos (show kd sv n=2 by omega)],rfl,hO⟩
       rw [h4] at hA
       have h4p:=of_decide_eq_false h4
       refine cF hA ?_
       refine wp_skip ?_
       refine then_normal ?_
       refine rr 12 ?_
       refine Ka 3 [(38,pt cb),(39,pt cb),(40,pt pb)] hA fun fr hA=>?_
       refine wpOps_cons' (mP (d:=(some 41)) hA Tryd.func84 ((word_any pb sv (nx sv n) _ (by omega) (by omega) (Ow.self (A:=[_]) (hO.tt))).mono ?_))
       rintro en w4 (⟨ea,ee,hr,rfl,hW⟩ | ⟨vv,mm,hr,rfl,hW⟩)
       · refine .inr ⟨_,rfl,?_⟩
         show _/\_
         exact ⟨hA.dfr,Or.inl ⟨_,_,(by unfold redirP; rw [if_neg (by omega),hr]),rfl,Ow.pan (A:=[_]) (hO.tt:Ow Tryd.prog (inT (TR cb p k c pb sv n)) w _ ([(cb,66,[.slice p c.words.length k,str c.inp,str c.out,bl c.app])]++(TP pb sv (nx sv n)++(([]++([])))))) hW⟩⟩
       refine .inl ⟨_,rfl,?_⟩
       clear hA fr; intro fr hA
       obtain ⟨rfl,rfl,hq21,hq22,hq23,hq24,hq25⟩:=wordP_ok (by omega) hr
       replace hO:=Ow.pass (A:=[_]) hO hW; clear hW
       refine Ka 4 [(43,bl ((tk sv n).toList == (⟨#[62,62]⟩:ByteArray).toList)),(45,pf cb 2)] hA fun fr hA=>?_
       rw [(tk_app sv n:((tk sv n).toList == (⟨#[62,62]⟩:ByteArray).toList)=(decide (kd sv n=4)))] at hA
       refine Ms 2 [str (tk sv (nx sv n))] 0 hA hO fun w5 hO=>?_
       refine Ka 2 [(43,bl (decide (kd sv n=4))),(47,pf cb 3)] hA fun fr hA=>?_
       refine Ms 3 [bl (decide (kd sv n=4))] 0 hA hO fun w6 hO=>?_
       refine end_ops ?_
       refine c_end ?_
       refine cv [] hA ?_
       exact Or.inr ⟨⟨c.words,c.inp,(tk sv (nx sv n)),(decide (kd sv n=4))⟩,_,by unfold redirP; rw [if_neg (by omega),hr]; simp only [if_neg (show ¬ kd sv n=2 by omega)],rfl,hO⟩
     rw [h3] at hA
     have h3p:=of_decide_eq_false h3
     refine Kb 7 [(25,bl (!(c.out.toList == (⟨#[]⟩:ByteArray).toList)))] hA [str c.out] (cc (hO.l1 0 2 9 (str c.out)) c0) fun fr hA=>?_
     rw [(str_empty c.out:(c.out.toList == (⟨#[]⟩:ByteArray).toList)=(decide (c.out.size=0)))] at hA
     refine end_ops ?_
     refine then_normal ?_
     rcases Bool.eq_false_or_eq_true (decide (c.out.size=0)) with h5 | h5
     · rw [h5] at hA
       have h5p:=of_decide_eq_true h5
       refine cF hA ?_
       refine wp_skip ?_
       refine then_normal ?_
       refine sr 3 ?_
       refine Ka 2 [(28,pt pb),(29,str (tk sv n))] hA fun fr hA=>?_
       refine wpOps_cons' (mC (d:=(some 30)) hA Tryd.func70 ((takek_any pb sv n _ (by omega) (by omega) (Ow.self (A:=[_]) (hO.tt))).mono ?_))
       rintro en w7 ⟨rfl,hW⟩
       refine ⟨_,rfl,?_⟩
       clear hA fr; intro fr hA
       replace hO:=Ow.pass (A:=[_]) hO hW; clear hW
       refine end_ops ?_
       refine then_normal ?_
       refine wp_seq ?_
       refine Sa [(32,bl ((tk sv n).toList == (⟨#[60]⟩:ByteArray).toList))] hA fun fr hA=>?_
       rw [(tk_lt sv n:((tk sv n).toList == (⟨#[60]⟩:ByteArray).toList)=(decide (kd sv n=2)))] at hA
       rcases Bool.eq_false_or_eq_true (decide (kd sv n=2)) with h6 | h6
       · rw [h6] at hA
         have h6p:=of_decide_eq_true h6
         refine cT hA ?_
         refine sr 6 ?_
         refine Ka 2 [(33,pt cb),(34,pt pb)] hA fun fr hA=>?_
         refine wpOps_cons' (mP (d:=(some 35)) hA Tryd.func84 ((word_any pb sv (nx sv n) _ (by omega) (by omega) (Ow.self (A:=[_]) (hO.tt))).mono ?_))
         rintro en w8 (⟨ea,ee,hr,rfl,hW⟩ | ⟨vv,mm,hr,rfl,hW⟩)
         · refine .inr ⟨_,rfl,?_⟩
           show _/\_
           exact ⟨hA.dfr,Or.inl ⟨_,_,(by unfold redirP; rw [if_neg (by omega),hr]),rfl,Ow.pan (A:=[_]) (hO.tt:Ow Tryd.prog (inT (TR cb p k c pb sv n)) w _ ([(cb,66,[.slice p c.words.length k,str c.inp,str c.out,bl c.app])]++(TP pb sv (nx sv n)++(([]++([])))))) hW⟩⟩
         refine .inl ⟨_,rfl,?_⟩
         clear hA fr; intro fr hA
         obtain ⟨rfl,rfl,hq31,hq32,hq33,hq34,hq35⟩:=wordP_ok (by omega) hr
         replace hO:=Ow.pass (A:=[_]) hO hW; clear hW
         refine Ka 2 [(37,pf cb 1)] hA fun fr hA=>?_
         refine Ms 1 [str (tk sv (nx sv n))] 0 hA hO fun w9 hO=>?_
         refine end_ops ?_
         refine then_normal ?_
         refine wp_ret ?_
         refine then_ret ?_
         refine cv [] hA ?_
         exact Or.inr ⟨⟨c.words,(tk sv (nx sv n)),c.out,c.app⟩,_,by unfold redirP; rw [if_neg (by omega),hr]; simp only [if_pos (show kd sv n=2 by omega)],rfl,hO⟩
       rw [h6] at hA
       have h6p:=of_decide_eq_false h6
       refine cF hA ?_
       refine wp_skip ?_
       refine then_normal ?_
       refine rr 12 ?_
       refine Ka 3 [(38,pt cb),(39,pt cb),(40,pt pb)] hA fun fr hA=>?_
       refine wpOps_cons' (mP (d:=(some 41)) hA Tryd.func84 ((word_any pb sv (nx sv n) _ (by omega) (by omega) (Ow.self (A:=[_]) (hO.tt))).mono ?_))
       rintro en w10 (⟨ea,ee,hr,rfl,hW⟩ | ⟨vv,mm,hr,rfl,hW⟩)
       · refine .inr ⟨_,rfl,?_⟩
         show _/\_
         exact ⟨hA.dfr,Or.inl ⟨_,_,(by unfold redirP; rw [if_neg (by omega),hr]),rfl,Ow.pan (A:=[_]) (hO.tt:Ow Tryd.prog (inT (TR cb p k c pb sv n)) w _ ([(cb,66,[.slice p c.words.length k,str c.inp,str c.out,bl c.app])]++(TP pb sv (nx sv n)++(([]++([])))))) hW⟩⟩
       refine .inl ⟨_,rfl,?_⟩
       clear hA fr; intro fr hA
       obtain ⟨rfl,rfl,hq41,hq42,hq43,hq44,hq45⟩:=wordP_ok (by omega) hr
       replace hO:=Ow.pass (A:=[_]) hO hW; clear hW
       refine Ka 4 [(43,bl ((tk sv n).toList == (⟨#[62,62]⟩:ByteArray).toList)),(45,pf cb 2)] hA fun fr hA=>?_
       rw [(tk_app sv n:((tk sv n).toList == (⟨#[62,62]⟩:ByteArray).toList)=(decide (kd sv n=4)))] at hA
       refine Ms 2 [str (tk sv (nx sv n))] 0 hA hO fun w11 hO=>?_
       refine Ka 2 [(43,bl (decide (kd sv n=4))),(47,pf cb 3)] hA fun fr hA=>?_
       refine Ms 3 [bl (decide (kd sv n=4))] 0 hA hO fun w12 hO=>?_
       refine end_ops ?_
       refine c_end ?_
       refine cv [] hA ?_
       exact Or.inr ⟨⟨c.words,c.inp,(tk sv (nx sv n)),(decide (kd sv n=4))⟩,_,by unfold redirP; rw [if_neg (by omega),hr]; simp only [if_neg (show ¬ kd sv n=2 by omega)],rfl,hO⟩
     rw [h5] at hA
     have h5p:=of_decide_eq_false h5
     refine cT hA ?_
     refine rr 2 ?_
     refine Ka 1 [(26,pt pb)] hA fun fr hA=>?_
     refine wpOps_cons' (mP (d:=(some 27)) hA Tryd.func68 ((fail_any pb sv n _ (by omega) (by omega) 3 (hO.b 1)).mono ?_))
     rintro en w13 ⟨rfl,hW⟩
     refine .inr ⟨_,rfl,?_⟩
     show _/\_
     exact ⟨hA.dfr,Or.inl ⟨_,_,(by unfold redirP; rw [if_pos (by omega)]),rfl,Ow.pan0 hO hW⟩⟩
   rw [h2] at hA
   have h2p:=of_decide_eq_false h2
   refine Ka 10 [(25,bl true)] hA fun fr hA=>?_
   refine end_ops ?_
   refine then_normal ?_
   refine cT hA ?_
   refine rr 2 ?_
   refine Ka 1 [(26,pt pb)] hA fun fr hA=>?_
   refine wpOps_cons' (mP (d:=(some 27)) hA Tryd.func68 ((fail_any pb sv n _ (by omega) (by omega) 3 (hO.b 1)).mono ?_))
   rintro en w14 ⟨rfl,hW⟩
   refine .inr ⟨_,rfl,?_⟩
   show _/\_
   exact ⟨hA.dfr,Or.inl ⟨_,_,(by unfold redirP; rw [if_pos (by omega)]),rfl,Ow.pan0 hO hW⟩⟩
 rw [h1] at hA
 have h1p:=of_decide_eq_false h1
 refine Ka 10 [(15,bl false),(17,bl (!((tk sv n).toList == (⟨#[60]⟩:ByteArray).toList))),(18,bl (!((tk sv n).toList == (⟨#[60]⟩:ByteArray).toList)))] hA fun fr hA=>?_
 rw [(tk_lt sv n:((tk sv n).toList == (⟨#[60]⟩:ByteArray).toList)=(decide (kd sv n=2)))] at hA
 rcases Bool.eq_false_or_eq_true (decide (kd sv n=2)) with h7 | h7
 · rw [h7] at hA
   have h7p:=of_decide_eq_true h7
   refine Ka 7 [(25,bl false)] hA fun fr hA=>?_
   refine end_ops ?_
   refine then_normal ?_
   refine cF hA ?_
   refine wp_skip ?_
   refine then_normal ?_
   refine sr 3 ?_
   refine Ka 2 [(28,pt pb),(29,str (tk sv n))] hA fun fr hA=>?_
   refine wpOps_cons' (mC (d:=(some 30)) hA Tryd.func70 ((takek_any pb sv n _ (by omega) (by omega) (Ow.self (A:=[_]) (hO.tt))).mono ?_))
   rintro en w15 ⟨rfl,hW⟩
   refine ⟨_,rfl,?_⟩
   clear hA fr; intro fr hA
   replace hO:=Ow.pass (A:=[_]) hO hW; clear hW
   refine end_ops ?_
   refine then_normal ?_
   refine wp_seq ?_
   refine Sa [(32,bl ((tk sv n).toList == (⟨#[60]⟩:ByteArray).toList))] hA fun fr hA=>?_
   rw [(tk_lt sv n:((tk sv n).toList == (⟨#[60]⟩:ByteArray).toList)=(decide (kd sv n=2)))] at hA
   rcases Bool.eq_false_or_eq_true (decide (kd sv n=2)) with h8 | h8
   · rw [h8] at hA
     have h8p:=of_decide_eq_true h8
     refine cT hA ?_
     refine sr 6 ?_
     refine Ka 2 [(33,pt cb),(34,pt pb)] hA fun fr hA=>?_
     refine wpOps_cons' (mP (d:=(some 35)) hA Tryd.func84 ((word_any pb sv (nx sv n) _ (by omega) (by omega) (Ow.self (A:=[_]) (hO.tt))).mono ?_))
     rintro en w16 (⟨ea,ee,hr,rfl,hW⟩ | ⟨vv,mm,hr,rfl,hW⟩)
     · refine .inr ⟨_,rfl,?_⟩
       show _/\_
       exact ⟨hA.dfr,Or.inl ⟨_,_,(by unfold redirP; rw [if_neg (by omega),hr]),rfl,Ow.pan (A:=[_]) (hO.tt:Ow Tryd.prog (inT (TR cb p k c pb sv n)) w _ ([(cb,66,[.slice p c.words.length k,str c.inp,str c.out,bl c.app])]++(TP pb sv (nx sv n)++(([]++([])))))) hW⟩⟩
     refine .inl ⟨_,rfl,?_⟩
     clear hA fr; intro fr hA
     obtain ⟨rfl,rfl,hq51,hq52,hq53,hq54,hq55⟩:=wordP_ok (by omega) hr
     replace hO:=Ow.pass (A:=[_]) hO hW; clear hW
     refine Ka 2 [(37,pf cb 1)] hA fun fr hA=>?_
     refine Ms 1 [str (tk sv (nx sv n))] 0 hA hO fun w17 hO=>?_
     refine end_ops ?_
     refine then_normal ?_
     refine wp_ret ?_
     refine then_ret ?_
     refine cv [] hA ?_
     exact Or.inr ⟨⟨c.words,(tk sv (nx sv n)),c.out,c.app⟩,_,by unfold redirP; rw [if_neg (by omega),hr]; simp only [if_pos (show kd sv n=2 by omega)],rfl,hO⟩
   rw [h8] at hA
   have h8p:=of_decide_eq_false h8
   refine cF hA ?_
   refine wp_skip ?_
   refine then_normal ?_
   refine rr 12 ?_
   refine Ka 3 [(38,pt cb),(39,pt cb),(40,pt pb)] hA fun fr hA=>?_
   refine wpOps_cons' (mP (d:=(some 41)) hA Tryd.func84 ((word_any pb sv (nx sv n) _ (by omega) (by omega) (Ow.self (A:=[_]) (hO.tt))).mono ?_))
   rintro en w18 (⟨ea,ee,hr,rfl,hW⟩ | ⟨vv,mm,hr,rfl,hW⟩)
   · refine .inr ⟨_,rfl,?_⟩
     show _/\_
     exact ⟨hA.dfr,Or.inl ⟨_,_,(by unfold redirP; rw [if_neg (by omega),hr]),rfl,Ow.pan (A:=[_]) (hO.tt:Ow Tryd.prog (inT (TR cb p k c pb sv n)) w _ ([(cb,66,[.slice p c.words.length k,str c.inp,str c.out,bl c.app])]++(TP pb sv (nx sv n)++(([]++([])))))) hW⟩⟩
   refine .inl ⟨_,rfl,?_⟩
   clear hA fr; intro fr hA
   obtain ⟨rfl,rfl,hq61,hq62,hq63,hq64,hq65⟩:=wordP_ok (by omega) hr
   replace hO:=Ow.pass (A:=[_]) hO hW; clear hW
   refine Ka 4 [(43,bl ((tk sv n).toList == (⟨#[62,62]⟩:ByteArray).toList)),(45,pf cb 2)] hA fun fr hA=>?_
   rw [(tk_app sv n:((tk sv n).toList == (⟨#[62,62]⟩:ByteArray).toList)=(decide (kd sv n=4)))] at hA
   refine Ms 2 [str (tk sv (nx sv n))] 0 hA hO fun w19 hO=>?_
   refine Ka 2 [(43,bl (decide (kd sv n=4))),(47,pf cb 3)] hA fun fr hA=>?_
   refine Ms 3 [bl (decide (kd sv n=4))] 0 hA hO fun w20 hO=>?_
   refine end_ops ?_
   refine c_end ?_
   refine cv [] hA ?_
   exact Or.inr ⟨⟨c.words,c.inp,(tk sv (nx sv n)),(decide (kd sv n=4))⟩,_,by unfold redirP; rw [if_neg (by omega),hr]; simp only [if_neg (show ¬ kd sv n=2 by omega)],rfl,hO⟩
 rw [h7] at hA
 have h7p:=of_decide_eq_false h7
 refine Kb 7 [(25,bl (!(c.out.toList == (⟨#[]⟩:ByteArray).toList)))] hA [str c.out] (cc (hO.l1 0 2 9 (str c.out)) c0) fun fr hA=>?_
 rw [(str_empty c.out:(c.out.toList == (⟨#[]⟩:ByteArray).toList)=(decide (c.out.size=0)))] at hA
 refine end_ops ?_
 refine then_normal ?_
 rcases Bool.eq_false_or_eq_true (decide (c.out.size=0)) with h9 | h9
 · rw [h9] at hA
   have h9p:=of_decide_eq_true h9
   refine cF hA ?_
   refine wp_skip ?_
   refine then_normal ?_
   refine sr 3 ?_
   refine Ka 2 [(28,pt pb),(29,str (tk sv n))] hA fun fr hA=>?_
   refine wpOps_cons' (mC (d:=(some 30)) hA Tryd.func70 ((takek_any pb sv n _ (by omega) (by omega) (Ow.self (A:=[_]) (hO.tt))).mono ?_))
   rintro en w21 ⟨rfl,hW⟩
   refine ⟨_,rfl,?_⟩
   clear hA fr; intro fr hA
   replace hO:=Ow.pass (A:=[_]) hO hW; clear hW
   refine end_ops ?_
   refine then_normal ?_
   refine wp_seq ?_
   refine Sa [(32,bl ((tk sv n).toList == (⟨#[60]⟩:ByteArray).toList))] hA fun fr hA=>?_
   rw [(tk_lt sv n:((tk sv n).toList == (⟨#[60]⟩:ByteArray).toList)=(decide (kd sv n=2)))] at hA
   rcases Bool.eq_false_or_eq_true (decide (kd sv n=2)) with h10 | h10
   · rw [h10] at hA
     have h10p:=of_decide_eq_true h10
     refine cT hA ?_
     refine sr 6 ?_
     refine Ka 2 [(33,pt cb),(34,pt pb)] hA fun fr hA=>?_
     refine wpOps_cons' (mP (d:=(some 35)) hA Tryd.func84 ((word_any pb sv (nx sv n) _ (by omega) (by omega) (Ow.self (A:=[_]) (hO.tt))).mono ?_))
     rintro en w22 (⟨ea,ee,hr,rfl,hW⟩ | ⟨vv,mm,hr,rfl,hW⟩)
     · refine .inr ⟨_,rfl,?_⟩
       show _/\_
       exact ⟨hA.dfr,Or.inl ⟨_,_,(by unfold redirP; rw [if_neg (by omega),hr]),rfl,Ow.pan (A:=[_]) (hO.tt:Ow Tryd.prog (inT (TR cb p k c pb sv n)) w _ ([(cb,66,[.slice p c.words.length k,str c.inp,str c.out,bl c.app])]++(TP pb sv (nx sv n)++(([]++([])))))) hW⟩⟩
     refine .inl ⟨_,rfl,?_⟩
     clear hA fr; intro fr hA
     obtain ⟨rfl,rfl,hq71,hq72,hq73,hq74,hq75⟩:=wordP_ok (by omega) hr
     replace hO:=Ow.pass (A:=[_]) hO hW; clear hW
     refine Ka 2 [(37,pf cb 1)] hA fun fr hA=>?_
     refine Ms 1 [str (tk sv (nx sv n))] 0 hA hO fun w23 hO=>?_
     refine end_ops ?_
     refine then_normal ?_
     refine wp_ret ?_
     refine then_ret ?_
     refine cv [] hA ?_
     exact Or.inr ⟨⟨c.words,(tk sv (nx sv n)),c.out,c.app⟩,_,by unfold redirP; rw [if_neg (by omega),hr]; simp only [if_pos (show kd sv n=2 by omega)],rfl,hO⟩
   rw [h10] at hA
   have h10p:=of_decide_eq_false h10
   refine cF hA ?_
   refine wp_skip ?_
   refine then_normal ?_
   refine rr 12 ?_
   refine Ka 3 [(38,pt cb),(39,pt cb),(40,pt pb)] hA fun fr hA=>?_
   refine wpOps_cons' (mP (d:=(some 41)) hA Tryd.func84 ((word_any pb sv (nx sv n) _ (by omega) (by omega) (Ow.self (A:=[_]) (hO.tt))).mono ?_))
   rintro en w24 (⟨ea,ee,hr,rfl,hW⟩ | ⟨vv,mm,hr,rfl,hW⟩)
   · refine .inr ⟨_,rfl,?_⟩
     show _/\_
     exact ⟨hA.dfr,Or.inl ⟨_,_,(by unfold redirP; rw [if_neg (by omega),hr]),rfl,Ow.pan (A:=[_]) (hO.tt:Ow Tryd.prog (inT (TR cb p k c pb sv n)) w _ ([(cb,66,[.slice p c.words.length k,str c.inp,str c.out,bl c.app])]++(TP pb sv (nx sv n)++(([]++([])))))) hW⟩⟩
   refine .inl ⟨_,rfl,?_⟩
   clear hA fr; intro fr hA
   obtain ⟨rfl,rfl,hq81,hq82,hq83,hq84,hq85⟩:=wordP_ok (by omega) hr
   replace hO:=Ow.pass (A:=[_]) hO hW; clear hW
   refine Ka 4 [(43,bl ((tk sv n).toList == (⟨#[62,62]⟩:ByteArray).toList)),(45,pf cb 2)] hA fun fr hA=>?_
   rw [(tk_app sv n:((tk sv n).toList == (⟨#[62,62]⟩:ByteArray).toList)=(decide (kd sv n=4)))] at hA
   refine Ms 2 [str (tk sv (nx sv n))] 0 hA hO fun w25 hO=>?_
   refine Ka 2 [(43,bl (decide (kd sv n=4))),(47,pf cb 3)] hA fun fr hA=>?_
   refine Ms 3 [bl (decide (kd sv n=4))] 0 hA hO fun w26 hO=>?_
   refine end_ops ?_
   refine c_end ?_
   refine cv [] hA ?_
   exact Or.inr ⟨⟨c.words,c.inp,(tk sv (nx sv n)),(decide (kd sv n=4))⟩,_,by unfold redirP; rw [if_neg (by omega),hr]; simp only [if_neg (show ¬ kd sv n=2 by omega)],rfl,hO⟩
 rw [h9] at hA
 have h9p:=of_decide_eq_false h9
 refine cT hA ?_
 refine rr 2 ?_
 refine Ka 1 [(26,pt pb)] hA fun fr hA=>?_
 refine wpOps_cons' (mP (d:=(some 27)) hA Tryd.func68 ((fail_any pb sv n _ (by omega) (by omega) 3 (hO.b 1)).mono ?_))
 rintro en w27 ⟨rfl,hW⟩
 refine .inr ⟨_,rfl,?_⟩
 show _/\_
 exact ⟨hA.dfr,Or.inl ⟨_,_,(by unfold redirP; rw [if_pos (by omega)]),rfl,Ow.pan0 hO hW⟩⟩
end Go.Proofs.YtdljjajjonfjbaaDoor
