import Derived.Test.YtdljjajjonfjbaaDoorParsf
import Derived.Test.YtdljjajjonfjbaaDoorSn
set_option linter.unusedVariables false
set_option linter.unusedSimpArgs false
set_option maxRecDepth 10000
namespace Go.Proofs.YtdljjajjonfjbaaDoor
open Go Go.Shelf Go.RowKit Go.Proofs Go.Proofs.Sx
def optB (s:ByteArray):Bool:=decide (s.size=0) || isWordB s
def validC (d:CmdL):Bool:=d.words.all isWordB && (decide (1<=d.words.length/\d.words.length<=4) && (optB d.inp && (optB d.out && (!d.app || !decide (d.out.size=0)))))
def validJ (x:JobL):Bool:=decide (1<=x.cmds.length/\x.cmds.length<=4) && x.cmds.all validC
def validL (l:List JobL):Bool:=l.all validJ && decide (l.length<=8)
def smC (N:Nat) (d:CmdL):Prop:=(∀ u∈d.words,u.size<=N)/\d.inp.size<=N/\d.out.size<=N/\d.words.length<=N
def smJ (N:Nat) (x:JobL):Prop:=x.cmds.length<=N/\∀ c∈x.cmds,smC N c
def smL (N:Nat) (l:List JobL):Prop:=l.length<=N/\∀ x∈l,smJ N x
section
variable {N:Nat}
theorem smL.at {l:List JV} {i:Nat} {x:JV} (h:smL N (l.map JV.d)) (hx:l[i]? = some x):smJ N x.d:=h.2 _ (List.mem_map.2 ⟨x,List.mem_of_getElem? hx,rfl⟩)
theorem smL.len {l:List JV} (h:smL N (l.map JV.d)):l.length<=N:=by have:=h.1; rwa [List.length_map] at this
theorem smJ.len {x:JV} (h:smJ N x.d):x.cmds.length<=N:=by have:=h.1; unfold JV.d at this; rwa [List.length_map] at this
theorem smJ.at {x:JV} {k:Nat} {c:CV} (h:smJ N x.d) (hx:x.cmds[k]? = some c):smC N c.d:=h.2 _ (List.mem_map.2 ⟨c,List.mem_of_getElem? hx,rfl⟩)
theorem smC.at {d:CmdL} {j:Nat} {z:ByteArray} (h:smC N d) (hz:d.words[j]? = some z):z.size<=N:=h.1 _ (List.mem_of_getElem? hz)
end
theorem validC_words {d:CmdL} {j:Nat} {z:ByteArray} (hz:d.words[j]? = some z) (h:isWordB z=false):validC d=false:=by unfold validC; rw [all_no hz h]; rfl
section
variable {xp:Option Addr} {xc:Nat} {xl:List CV} {xb:Bool}
theorem validJ_yes (h1 : 1<=xl.length/\xl.length<=4) (h:xl.all (fun y=>validC y.d)=true):validJ (JV.d ⟨xp,xc,xl,xb⟩)=true:=by
 unfold validJ JV.d
 simp only [List.length_map,List.all_map]
 rw [decide_eq_true h1,Bool.true_and]; exact h
theorem validJ_bad (h : ¬ (1<=xl.length/\xl.length<=4)):validJ (JV.d ⟨xp,xc,xl,xb⟩)=false:=by
 unfold validJ JV.d
 simp only [List.length_map]
 rw [decide_eq_false h]; rfl
theorem validJ_no {k:Nat} {y:CV} (hy:xl[k]? = some y) (h:validC y.d=false):validJ (JV.d ⟨xp,xc,xl,xb⟩)=false:=by
 unfold validJ JV.d
 simp only [List.all_map]
 rw [all_no (p:=validC ∘ CV.d) hy h,Bool.and_false]
theorem validL_yes {l:List JV} (h:l.all (fun x=>validJ x.d)=true):validL (l.map JV.d)=decide (l.length<=8):=by
 unfold validL
 rw [List.all_map,List.length_map,show l.all (validJ ∘ JV.d)=true from h,Bool.true_and]
theorem validL_no {l:List JV} {i:Nat} {x:JV} (hx:l[i]? = some x) (h:validJ x.d=false):validL (l.map JV.d)=false:=by
 unfold validL
 rw [List.all_map,all_no (p:=validJ ∘ JV.d) hx h]; rfl
end
theorem valid_any (p:Option Addr) (c:Nat) (d:CmdL) (w:World) (hv:Vw fT w (.slice p d.words.length c) d.words) (hsm:smC 1000000 d) :
    Calls Tryd.prog 34 #[.agg #[.slice p d.words.length c,str d.inp,str d.out,bl d.app]] w fun e w'=>e = .returned (.bool (validC d))/\Only none' w w':=by
 refine c_enter (args:=[.agg #[.slice p d.words.length c,str d.inp,str d.out,bl d.app]]) (m:=55) (n:=56) Tryd.func34 rfl (by kernel_rfl) (by kernel_rfl) fun fr hA=>?_
 have hO:=Ow.nil Tryd.prog none' w
 obtain ⟨smw_,smi_,smo_,sml_⟩:=id hsm
 refine sr 2 ?_
 refine Mn [.slice p d.words.length c,str d.inp,str d.out,bl d.app] 66 1 hA hO fun fr w1 b1 hA hO=>?_
 refine Ka 1 [(2,bl false)] hA fun fr hA=>?_
 refine end_ops ?_
 refine then_normal ?_
 refine wp_seq ?_
 refine Sb [(7,.slice p d.words.length c),(8,i64 ((d.words.length:Nat):Int)),(9,i64 0)] hA [.slice p d.words.length c] (cc (hO.l1 0 0 25 (.slice p d.words.length c)) c0) fun fr hA=>?_
 refine wp_block ?_
 refine c_loop (fun mm fr W=>∃ (i:Nat),mm=d.words.length - i/\Holds 56 [] fr [(1,pt b1),(2,bl false),(7,.slice p d.words.length c),(8,i64 ((d.words.length:Nat):Int)),(9,i64 ((i:Nat):Int))]/\Ow Tryd.prog none' w W [(b1,66,[.slice p d.words.length c,str d.inp,str d.out,bl d.app])]/\i<=d.words.length/\(d.words.take i).all isWordB=true/\True) ?_ ?_
 · exact ⟨_,0,rfl,hA.ss,hO.to,(Nat.zero_le _),rfl,trivial⟩
 rintro _ fr w2 ⟨i,rfl,hA,hO,hi,ho,-⟩
 refine Sa [(10,bl (decide (((i:Nat):Int) < ((d.words.length:Nat):Int))))] hA fun fr hA=>?_
 refine wp_seq ?_
 rcases Bool.eq_false_or_eq_true (decide (((i:Nat):Int) < ((d.words.length:Nat):Int))) with h1 | h1
 · rw [h1] at hA
   have h1p:=of_decide_eq_true h1
   obtain ⟨ad1,rfl⟩:=(hv).pos (by omega)
   obtain ⟨z1,hz1⟩ : ∃ x,d.words[i]? = some x:=⟨_,getD_at _ ⟨#[]⟩ (by omega)⟩
   refine cT hA ?_
   refine wp_skip ?_
   refine then_normal ?_
   refine wp_seq ?_
   refine wp_block ?_
   refine Sb [(4,str z1),(7,.slice (some ad1) d.words.length c)] hA [str z1] (cc (⟨by omega,by omega⟩:(0:Int)<=((i:Nat):Int)/\((i:Nat):Int) < ((d.words.length:Nat):Int)) (cc (((hv.keep hO.only).ldT hz1):Ld Tryd.prog w2 (ad1.add i) 9 (str z1)) c0)) fun fr hA=>?_
   refine sr 3 ?_
   refine Ka 1 [(13,str z1)] hA fun fr hA=>?_
   refine Mk 14 hA hO Tryd.func48 (isword_any z1 _ (by first | omega | exact hsm.at (by assumption))) fun fr w3 hA hO=>?_
   refine Ka 1 [(15,bl (!(isWordB z1)))] hA fun fr hA=>?_
   refine end_ops ?_
   refine then_normal ?_
   rcases Bool.eq_false_or_eq_true (isWordB z1) with h2 | h2
   · rw [h2] at hA
     refine cF hA ?_
     refine wp_skip ?_
     refine inBlock_normal ?_
     refine then_normal ?_
     refine Rc [(9,i64 (((i:Nat):Int)+1))] hA [bl true] (cc ((inK_i64 (by omega) (by omega)):inK .i64 (((i:Nat):Int)+1)) c0) fun fr hA=>?_
     refine then_normal ?_
     exact ⟨_,by omega,i+1,rfl,hA.ss,hO.to,(by omega),(all_step ho (by assumption) (by assumption)),trivial⟩
   rw [h2] at hA
   refine cT hA ?_
   refine Sa [] hA fun fr hA=>?_
   refine wp_ret ?_
   refine inBlock_ret ?_
   refine then_ret ?_
   refine then_ret ?_
   refine inBlock_ret ?_
   refine then_ret ?_
   refine cv [bl false] hA ?_
   have hF:=hO.only; clear hA hO
   exact ⟨congrArg (fun b=>Ending.returned (.bool b)) (validC_words (by assumption) (by assumption)).symm,hF⟩
 rw [h1] at hA
 have h1p:=of_decide_eq_false h1
 refine cF hA ?_
 refine wp_exit ?_
 refine then_exit ?_
 refine then_exit ?_
 refine inBlock_exit ?_
 refine then_normal ?_
 refine Sb [(5,i64 ((d.words.length:Nat):Int))] hA [.slice p d.words.length c] (cc (hO.l1 0 0 25 (.slice p d.words.length c)) c0) fun fr hA=>?_
 refine sr 37 ?_
 refine Ka 3 [(21,bl (decide (((d.words.length:Nat):Int) ≥ 1))),(22,bl (decide (((d.words.length:Nat):Int) ≥ 1)))] hA fun fr hA=>?_
 rcases Bool.eq_false_or_eq_true (decide (((d.words.length:Nat):Int) ≥ 1)) with h3 | h3
 · rw [h3] at hA
   have h3p:=of_decide_eq_true h3
   refine Ka 4 [(24,bl (decide (((d.words.length:Nat):Int)<=4))),(25,bl (decide (((d.words.length:Nat):Int)<=4))),(26,bl (decide (((d.words.length:Nat):Int)<=4)))] hA fun fr hA=>?_
   rcases Bool.eq_false_or_eq_true (decide (((d.words.length:Nat):Int)<=4)) with h4 | h4
   · rw [h4] at hA
     have h4p:=of_decide_eq_true h4
     refine Kb 4 [(26,bl true),(29,bl (d.inp.toList == (⟨#[]⟩:ByteArray).toList)),(30,bl (d.inp.toList == (⟨#[]⟩:ByteArray).toList))] hA [str d.inp] (cc (hO.l1 0 1 9 (str d.inp)) c0) fun fr hA=>?_
     rw [(str_empty d.inp:(d.inp.toList == (⟨#[]⟩:ByteArray).toList)=(decide (d.inp.size=0)))] at hA
     rcases Bool.eq_false_or_eq_true (decide (d.inp.size=0)) with h5 | h5
     · rw [h5] at hA
       have h5p:=of_decide_eq_true h5
       refine Kb 10 [(36,bl true),(39,bl (d.out.toList == (⟨#[]⟩:ByteArray).toList)),(40,bl (d.out.toList == (⟨#[]⟩:ByteArray).toList))] hA [str d.out] (cc (hO.l1 0 2 9 (str d.out)) c0) fun fr hA=>?_
       rw [(str_empty d.out:(d.out.toList == (⟨#[]⟩:ByteArray).toList)=(decide (d.out.size=0)))] at hA
       rcases Bool.eq_false_or_eq_true (decide (d.out.size=0)) with h6 | h6
       · rw [h6] at hA
         have h6p:=of_decide_eq_true h6
         refine Kb 10 [(46,bl true),(49,bl (!d.app)),(50,bl (!d.app))] hA [bl d.app] (cc (hO.l1 0 3 4 (bl d.app)) c0) fun fr hA=>?_
         rcases Bool.eq_false_or_eq_true (d.app) with h7 | h7
         · rw [h7] at hA
           refine Kb 6 [(2,bl (!(d.out.toList == (⟨#[]⟩:ByteArray).toList)))] hA [str d.out] (cc (hO.l1 0 2 9 (str d.out)) c0) fun fr hA=>?_
           rw [(str_empty d.out:(d.out.toList == (⟨#[]⟩:ByteArray).toList)=(decide (d.out.size=0)))] at hA
           refine end_ops ?_
           refine then_normal ?_
           refine wp_ret ?_
           refine cv [bl (!(decide (d.out.size=0)))] hA ?_
           have hF:=hO.only; clear hA hO
           have hall:=all_end ho (by omega)
           refine ⟨congrArg (fun b=>Ending.returned (.bool b)) ?_,hF⟩
           unfold validC
           rw [hall]
           first | rw [decide_eq_true (show 1<=d.words.length/\d.words.length<=4 by omega)] | (rw [decide_eq_false (show ¬ (1<=d.words.length/\d.words.length<=4) by omega)])
           try simp_all [optB]
         rw [h7] at hA
         refine Ka 6 [(2,bl true)] hA fun fr hA=>?_
         refine end_ops ?_
         refine then_normal ?_
         refine wp_ret ?_
         refine cv [bl true] hA ?_
         have hF:=hO.only; clear hA hO
         have hall:=all_end ho (by omega)
         refine ⟨congrArg (fun b=>Ending.returned (.bool b)) ?_,hF⟩
         unfold validC
         rw [hall]
         first | rw [decide_eq_true (show 1<=d.words.length/\d.words.length<=4 by omega)] | (rw [decide_eq_false (show ¬ (1<=d.words.length/\d.words.length<=4) by omega)])
         try simp_all [optB]
       rw [h6] at hA
       have h6p:=of_decide_eq_false h6
       refine Kb 2 [(40,bl false),(42,str d.out)] hA [str d.out] (cc (hO.l1 0 2 9 (str d.out)) c0) fun fr hA=>?_
       refine Mk 43 hA hO Tryd.func48 (isword_any d.out _ (by first | omega | exact hsm.at (by assumption))) fun fr w4 hA hO=>?_
       refine Ka 3 [(44,bl (isWordB d.out)),(45,bl (isWordB d.out)),(46,bl (isWordB d.out))] hA fun fr hA=>?_
       rcases Bool.eq_false_or_eq_true (isWordB d.out) with h8 | h8
       · rw [h8] at hA
         refine Kb 4 [(46,bl true),(49,bl (!d.app)),(50,bl (!d.app))] hA [bl d.app] (cc (hO.l1 0 3 4 (bl d.app)) c0) fun fr hA=>?_
         rcases Bool.eq_false_or_eq_true (d.app) with h9 | h9
         · rw [h9] at hA
           refine Kb 6 [(2,bl (!(d.out.toList == (⟨#[]⟩:ByteArray).toList)))] hA [str d.out] (cc (hO.l1 0 2 9 (str d.out)) c0) fun fr hA=>?_
           rw [(str_empty d.out:(d.out.toList == (⟨#[]⟩:ByteArray).toList)=(decide (d.out.size=0)))] at hA
           refine end_ops ?_
           refine then_normal ?_
           refine wp_ret ?_
           refine cv [bl (!(decide (d.out.size=0)))] hA ?_
           have hF:=hO.only; clear hA hO
           have hall:=all_end ho (by omega)
           refine ⟨congrArg (fun b=>Ending.returned (.bool b)) ?_,hF⟩
           unfold validC
           rw [hall]
           first | rw [decide_eq_true (show 1<=d.words.length/\d.words.length<=4 by omega)] | (rw [decide_eq_false (show ¬ (1<=d.words.length/\d.words.length<=4) by omega)])
           try simp_all [optB]
         rw [h9] at hA
         refine Ka 6 [(2,bl true)] hA fun fr hA=>?_
         refine end_ops ?_
         refine then_normal ?_
         refine wp_ret ?_
         refine cv [bl true] hA ?_
         have hF:=hO.only; clear hA hO
         have hall:=all_end ho (by omega)
         refine ⟨congrArg (fun b=>Ending.returned (.bool b)) ?_,hF⟩
         unfold validC
         rw [hall]
         first | rw [decide_eq_true (show 1<=d.words.length/\d.words.length<=4 by omega)] | (rw [decide_eq_false (show ¬ (1<=d.words.length/\d.words.length<=4) by omega)])
         try simp_all [optB]
       rw [h8] at hA
       refine Ka 10 [] hA fun fr hA=>?_
       refine end_ops ?_
       refine then_normal ?_
       refine wp_ret ?_
       refine cv [bl false] hA ?_
       have hF:=hO.only; clear hA hO
       have hall:=all_end ho (by omega)
       refine ⟨congrArg (fun b=>Ending.returned (.bool b)) ?_,hF⟩
       unfold validC
       rw [hall]
       first | rw [decide_eq_true (show 1<=d.words.length/\d.words.length<=4 by omega)] | (rw [decide_eq_false (show ¬ (1<=d.words.length/\d.words.length<=4) by omega)])
       try simp_all [optB]
     rw [h5] at hA
     have h5p:=of_decide_eq_false h5
     refine Kb 2 [(30,bl false),(32,str d.inp)] hA [str d.inp] (cc (hO.l1 0 1 9 (str d.inp)) c0) fun fr hA=>?_
     refine Mk 33 hA hO Tryd.func48 (isword_any d.inp _ (by first | omega | exact hsm.at (by assumption))) fun fr w5 hA hO=>?_
     refine Ka 3 [(34,bl (isWordB d.inp)),(35,bl (isWordB d.inp)),(36,bl (isWordB d.inp))] hA fun fr hA=>?_
     rcases Bool.eq_false_or_eq_true (isWordB d.inp) with h10 | h10
     · rw [h10] at hA
       refine Kb 4 [(36,bl true),(39,bl (d.out.toList == (⟨#[]⟩:ByteArray).toList)),(40,bl (d.out.toList == (⟨#[]⟩:ByteArray).toList))] hA [str d.out] (cc (hO.l1 0 2 9 (str d.out)) c0) fun fr hA=>?_
       rw [(str_empty d.out:(d.out.toList == (⟨#[]⟩:ByteArray).toList)=(decide (d.out.size=0)))] at hA
       rcases Bool.eq_false_or_eq_true (decide (d.out.size=0)) with h11 | h11
       · rw [h11] at hA
         have h11p:=of_decide_eq_true h11
         refine Kb 10 [(46,bl true),(49,bl (!d.app)),(50,bl (!d.app))] hA [bl d.app] (cc (hO.l1 0 3 4 (bl d.app)) c0) fun fr hA=>?_
         rcases Bool.eq_false_or_eq_true (d.app) with h12 | h12
         · rw [h12] at hA
           refine Kb 6 [(2,bl (!(d.out.toList == (⟨#[]⟩:ByteArray).toList)))] hA [str d.out] (cc (hO.l1 0 2 9 (str d.out)) c0) fun fr hA=>?_
           rw [(str_empty d.out:(d.out.toList == (⟨#[]⟩:ByteArray).toList)=(decide (d.out.size=0)))] at hA
           refine end_ops ?_
           refine then_normal ?_
           refine wp_ret ?_
           refine cv [bl (!(decide (d.out.size=0)))] hA ?_
           have hF:=hO.only; clear hA hO
           have hall:=all_end ho (by omega)
           refine ⟨congrArg (fun b=>Ending.returned (.bool b)) ?_,hF⟩
           unfold validC
           rw [hall]
           first | rw [decide_eq_true (show 1<=d.words.length/\d.words.length<=4 by omega)] | (rw [decide_eq_false (show ¬ (1<=d.words.length/\d.words.length<=4) by omega)])
           try simp_all [optB]
         rw [h12] at hA
         refine Ka 6 [(2,bl true)] hA fun fr hA=>?_
         refine end_ops ?_
         refine then_normal ?_
         refine wp_ret ?_
         refine cv [bl true] hA ?_
         have hF:=hO.only; clear hA hO
         have hall:=all_end ho (by omega)
         refine ⟨congrArg (fun b=>Ending.returned (.bool b)) ?_,hF⟩
         unfold validC
         rw [hall]
         first | rw [decide_eq_true (show 1<=d.words.length/\d.words.length<=4 by omega)] | (rw [decide_eq_false (show ¬ (1<=d.words.length/\d.words.length<=4) by omega)])
         try simp_all [optB]
       rw [h11] at hA
       have h11p:=of_decide_eq_false h11
       refine Kb 2 [(40,bl false),(42,str d.out)] hA [str d.out] (cc (hO.l1 0 2 9 (str d.out)) c0) fun fr hA=>?_
       refine Mk 43 hA hO Tryd.func48 (isword_any d.out _ (by first | omega | exact hsm.at (by assumption))) fun fr w6 hA hO=>?_
       refine Ka 3 [(44,bl (isWordB d.out)),(45,bl (isWordB d.out)),(46,bl (isWordB d.out))] hA fun fr hA=>?_
       rcases Bool.eq_false_or_eq_true (isWordB d.out) with h13 | h13
       · rw [h13] at hA
         refine Kb 4 [(46,bl true),(49,bl (!d.app)),(50,bl (!d.app))] hA [bl d.app] (cc (hO.l1 0 3 4 (bl d.app)) c0) fun fr hA=>?_
         rcases Bool.eq_false_or_eq_true (d.app) with h14 | h14
         · rw [h14] at hA
           refine Kb 6 [(2,bl (!(d.out.toList == (⟨#[]⟩:ByteArray).toList)))] hA [str d.out] (cc (hO.l1 0 2 9 (str d.out)) c0) fun fr hA=>?_
           rw [(str_empty d.out:(d.out.toList == (⟨#[]⟩:ByteArray).toList)=(decide (d.out.size=0)))] at hA
           refine end_ops ?_
           refine then_normal ?_
           refine wp_ret ?_
           refine cv [bl (!(decide (d.out.size=0)))] hA ?_
           have hF:=hO.only; clear hA hO
           have hall:=all_end ho (by omega)
           refine ⟨congrArg (fun b=>Ending.returned (.bool b)) ?_,hF⟩
           unfold validC
           rw [hall]
           first | rw [decide_eq_true (show 1<=d.words.length/\d.words.length<=4 by omega)] | (rw [decide_eq_false (show ¬ (1<=d.words.length/\d.words.length<=4) by omega)])
           try simp_all [optB]
         rw [h14] at hA
         refine Ka 6 [(2,bl true)] hA fun fr hA=>?_
         refine end_ops ?_
         refine then_normal ?_
         refine wp_ret ?_
         refine cv [bl true] hA ?_
         have hF:=hO.only; clear hA hO
         have hall:=all_end ho (by omega)
         refine ⟨congrArg (fun b=>Ending.returned (.bool b)) ?_,hF⟩
         unfold validC
         rw [hall]
         first | rw [decide_eq_true (show 1<=d.words.length/\d.words.length<=4 by omega)] | (rw [decide_eq_false (show ¬ (1<=d.words.length/\d.words.length<=4) by omega)])
         try simp_all [optB]
       rw [h13] at hA
       refine Ka 10 [] hA fun fr hA=>?_
       refine end_ops ?_
       refine then_normal ?_
       refine wp_ret ?_
       refine cv [bl false] hA ?_
       have hF:=hO.only; clear hA hO
       have hall:=all_end ho (by omega)
       refine ⟨congrArg (fun b=>Ending.returned (.bool b)) ?_,hF⟩
       unfold validC
       rw [hall]
       first | rw [decide_eq_true (show 1<=d.words.length/\d.words.length<=4 by omega)] | (rw [decide_eq_false (show ¬ (1<=d.words.length/\d.words.length<=4) by omega)])
       try simp_all [optB]
     rw [h10] at hA
     refine Ka 20 [] hA fun fr hA=>?_
     refine end_ops ?_
     refine then_normal ?_
     refine wp_ret ?_
     refine cv [bl false] hA ?_
     have hF:=hO.only; clear hA hO
     have hall:=all_end ho (by omega)
     refine ⟨congrArg (fun b=>Ending.returned (.bool b)) ?_,hF⟩
     unfold validC
     rw [hall]
     first | rw [decide_eq_true (show 1<=d.words.length/\d.words.length<=4 by omega)] | (rw [decide_eq_false (show ¬ (1<=d.words.length/\d.words.length<=4) by omega)])
     try simp_all [optB]
   rw [h4] at hA
   have h4p:=of_decide_eq_false h4
   refine Ka 30 [] hA fun fr hA=>?_
   refine end_ops ?_
   refine then_normal ?_
   refine wp_ret ?_
   refine cv [bl false] hA ?_
   have hF:=hO.only; clear hA hO
   have hall:=all_end ho (by omega)
   refine ⟨congrArg (fun b=>Ending.returned (.bool b)) ?_,hF⟩
   unfold validC
   rw [hall]
   first | rw [decide_eq_true (show 1<=d.words.length/\d.words.length<=4 by omega)] | (rw [decide_eq_false (show ¬ (1<=d.words.length/\d.words.length<=4) by omega)])
   try simp_all [optB]
 rw [h3] at hA
 have h3p:=of_decide_eq_false h3
 refine Ka 34 [] hA fun fr hA=>?_
 refine end_ops ?_
 refine then_normal ?_
 refine wp_ret ?_
 refine cv [bl false] hA ?_
 have hF:=hO.only; clear hA hO
 have hall:=all_end ho (by omega)
 refine ⟨congrArg (fun b=>Ending.returned (.bool b)) ?_,hF⟩
 unfold validC
 rw [hall]
 first | rw [decide_eq_true (show 1<=d.words.length/\d.words.length<=4 by omega)] | (rw [decide_eq_false (show ¬ (1<=d.words.length/\d.words.length<=4) by omega)])
 try simp_all [optB]
theorem Valid_any (p:Option Addr) (c:Nat) (l:List JV) (w:World) (hv:VL w (.slice p l.length c) l) (hsm:smL 1000000 (l.map JV.d)) :
    Calls Tryd.prog 16 #[.slice p l.length c] w fun e w'=>e = .returned (.bool (validL (l.map JV.d)))/\Only none' w w':=by
 refine c_enter (args:=[.slice p l.length c]) (m:=37) (n:=38) Tryd.func16 rfl (by kernel_rfl) (by kernel_rfl) fun fr hA=>?_
 have hO:=Ow.nil Tryd.prog none' w
 have hsl:=hsm.len
 refine Sa [(2,bl false)] hA fun fr hA=>?_
 refine wp_seq ?_
 refine Sa [(8,.slice p l.length c),(9,i64 ((l.length:Nat):Int)),(10,i64 0)] hA fun fr hA=>?_
 refine wp_block ?_
 refine c_loop (fun mm fr W=>∃ (i:Nat),mm=l.length - i/\Holds 38 [] fr [(0,.slice p l.length c),(2,bl false),(8,.slice p l.length c),(9,i64 ((l.length:Nat):Int)),(10,i64 ((i:Nat):Int))]/\Ow Tryd.prog none' w W []/\i<=l.length/\(l.take i).all (fun x=>validJ x.d)=true/\True) ?_ ?_
 · exact ⟨_,0,rfl,hA.ss,hO.to,(Nat.zero_le _),rfl,trivial⟩
 rintro _ fr w1 ⟨i,rfl,hA,hO,hi,ho,-⟩
 refine Sa [(11,bl (decide (((i:Nat):Int) < ((l.length:Nat):Int))))] hA fun fr hA=>?_
 refine wp_seq ?_
 rcases Bool.eq_false_or_eq_true (decide (((i:Nat):Int) < ((l.length:Nat):Int))) with h1 | h1
 · rw [h1] at hA
   have h1p:=of_decide_eq_true h1
   obtain ⟨ad1,rfl⟩:=(hv.1).pos (by omega)
   obtain ⟨⟨xp1,xc1,xl1,xb1⟩,hx1⟩ : ∃ x,l[i]? = some x:=⟨_,getD_at _ JV0 (by omega)⟩
   have hvx1:Vw fC _ (.slice xp1 xl1.length xc1) xl1/\∀ y∈xl1,VC _ y:=hv.2 _ (List.mem_of_getElem? hx1)
   have hsj1:smJ _ (JV.d ⟨xp1,xc1,xl1,xb1⟩):=hsm.at hx1
   have hsjl1:xl1.length<=_:=smJ.len (x:=⟨xp1,xc1,xl1,xb1⟩) hsj1
   refine cT hA ?_
   refine wp_skip ?_
   refine then_normal ?_
   refine wp_seq ?_
   refine wp_block ?_
   refine sr 4 ?_
   refine Kb 2 [(0,.slice (some ad1) l.length c),(8,.slice (some ad1) l.length c),(13,.agg #[.slice xp1 xl1.length xc1,bl xb1])] hA [.agg #[.slice xp1 xl1.length xc1,bl xb1]] (cc (⟨by omega,by omega⟩:(0:Int)<=((i:Nat):Int)/\((i:Nat):Int) < ((l.length:Nat):Int)) (cc (((hv.1.keep hO.only).ldn encJ hx1):Ld Tryd.prog w1 (ad1.add (i*2)) 64 (.agg #[.slice xp1 xl1.length xc1,bl xb1])) c0)) fun fr hA=>?_
   refine Mn [.slice none 0 0,bl false] 64 4 hA hO fun fr w2 b1 hA hO=>?_
   refine Ms 0 [.slice xp1 xl1.length xc1,bl xb1] 0 hA hO fun w3 hO=>?_
   refine end_ops ?_
   refine then_normal ?_
   refine wp_seq ?_
   refine Sb [(5,i64 ((xl1.length:Nat):Int))] hA [.slice xp1 xl1.length xc1] (cc (hO.l1 0 0 62 (.slice xp1 xl1.length xc1)) c0) fun fr hA=>?_
   refine sr 6 ?_
   refine Ka 3 [(18,bl (decide (((xl1.length:Nat):Int) < 1))),(19,bl (decide (((xl1.length:Nat):Int) < 1)))] hA fun fr hA=>?_
   rcases Bool.eq_false_or_eq_true (decide (((xl1.length:Nat):Int) < 1)) with h2 | h2
   · rw [h2] at hA
     have h2p:=of_decide_eq_true h2
     refine Ka 3 [(22,bl true)] hA fun fr hA=>?_
     refine end_ops ?_
     refine then_normal ?_
     refine cT hA ?_
     refine Sa [] hA fun fr hA=>?_
     refine wp_ret ?_
     refine then_ret ?_
     refine inBlock_ret ?_
     refine then_ret ?_
     refine then_ret ?_
     refine inBlock_ret ?_
     refine then_ret ?_
     refine cv [bl false] hA ?_
     have hF:=hO.only; clear hA hO
     refine ⟨congrArg (fun b=>Ending.returned (.bool b)) ?_,hF⟩
     first | (rw [validL_yes (all_end ho (by omega))]; exact decide_eq_decide.2 (by omega)) | exact (validL_no hx1 (validJ_bad (by omega))).symm | exact (validL_no hx1 (validJ_no hy1 (by assumption))).symm
   rw [h2] at hA
   have h2p:=of_decide_eq_false h2
   refine Ka 3 [(22,bl (decide (((xl1.length:Nat):Int) > 4)))] hA fun fr hA=>?_
   refine end_ops ?_
   refine then_normal ?_
   rcases Bool.eq_false_or_eq_true (decide (((xl1.length:Nat):Int) > 4)) with h3 | h3
   · rw [h3] at hA
     have h3p:=of_decide_eq_true h3
     refine cT hA ?_
     refine Sa [] hA fun fr hA=>?_
     refine wp_ret ?_
     refine then_ret ?_
     refine inBlock_ret ?_
     refine then_ret ?_
     refine then_ret ?_
     refine inBlock_ret ?_
     refine then_ret ?_
     refine cv [bl false] hA ?_
     have hF:=hO.only; clear hA hO
     refine ⟨congrArg (fun b=>Ending.returned (.bool b)) ?_,hF⟩
     first | (rw [validL_yes (all_end ho (by omega))]; exact decide_eq_decide.2 (by omega)) | exact (validL_no hx1 (validJ_bad (by omega))).symm | exact (validL_no hx1 (validJ_no hy1 (by assumption))).symm
   rw [h3] at hA
   have h3p:=of_decide_eq_false h3
   refine cF hA ?_
   refine wp_skip ?_
   refine then_normal ?_
   refine Sb [(24,.slice xp1 xl1.length xc1),(25,i64 ((xl1.length:Nat):Int)),(26,i64 0)] hA [.slice xp1 xl1.length xc1] (cc (hO.l1 0 0 62 (.slice xp1 xl1.length xc1)) c0) fun fr hA=>?_
   refine wp_block ?_
   refine c_loop (fun mm fr W=>∃ (k:Nat),mm=xl1.length - k/\Holds 38 [] fr [(0,.slice (some ad1) l.length c),(2,bl false),(8,.slice (some ad1) l.length c),(9,i64 ((l.length:Nat):Int)),(10,i64 ((i:Nat):Int)),(24,.slice xp1 xl1.length xc1),(25,i64 ((xl1.length:Nat):Int)),(26,i64 ((k:Nat):Int))]/\Ow Tryd.prog none' w W [(b1,64,[.slice xp1 xl1.length xc1,bl xb1])]/\k<=xl1.length/\(xl1.take k).all (fun y=>validC y.d)=true/\True) ?_ ?_
   · exact ⟨_,0,rfl,hA.ss,hO.to,(Nat.zero_le _),rfl,trivial⟩
   rintro _ fr w4 ⟨k,rfl,hA,hO,hk,hok,-⟩
   refine Sa [(27,bl (decide (((k:Nat):Int) < ((xl1.length:Nat):Int))))] hA fun fr hA=>?_
   refine wp_seq ?_
   rcases Bool.eq_false_or_eq_true (decide (((k:Nat):Int) < ((xl1.length:Nat):Int))) with h4 | h4
   · rw [h4] at hA
     have h4p:=of_decide_eq_true h4
     obtain ⟨ad2,rfl⟩:=(hvx1.1).pos (by omega)
     obtain ⟨⟨yp1,yc1,yd1⟩,hy1⟩ : ∃ x,xl1[k]? = some x:=⟨_,getD_at _ CV0 (by omega)⟩
     have hvy1:Vw fT _ (.slice yp1 yd1.words.length yc1) yd1.words:=hvx1.2 _ (List.mem_of_getElem? hy1)
     have hsc1:smC _ yd1:=smJ.at (x:=⟨_,_,xl1,_⟩) hsj1 hy1
     obtain ⟨-,smi1,smo1,sml1⟩:=id hsc1
     refine cT hA ?_
     refine wp_skip ?_
     refine then_normal ?_
     refine wp_seq ?_
     refine wp_block ?_
     refine sr 4 ?_
     refine Kb 2 [(24,.slice (some ad2) xl1.length xc1),(29,.agg #[.slice yp1 yd1.words.length yc1,str yd1.inp,str yd1.out,bl yd1.app])] hA [.agg #[.slice yp1 yd1.words.length yc1,str yd1.inp,str yd1.out,bl yd1.app]] (cc (⟨by omega,by omega⟩:(0:Int)<=((k:Nat):Int)/\((k:Nat):Int) < ((xl1.length:Nat):Int)) (cc (((hvx1.1.keep hO.only).ldn encC hy1):Ld Tryd.prog w4 (ad2.add (k*4)) 66 (.agg #[.slice yp1 yd1.words.length yc1,str yd1.inp,str yd1.out,bl yd1.app])) c0)) fun fr hA=>?_
     refine Mn [.slice none 0 0,str (⟨#[]⟩),str (⟨#[]⟩),bl false] 66 7 hA hO fun fr w5 b2 hA hO=>?_
     refine Ms 0 [.slice yp1 yd1.words.length yc1,str yd1.inp,str yd1.out,bl yd1.app] 0 hA hO fun w6 hO=>?_
     refine end_ops ?_
     refine then_normal ?_
     refine sr 3 ?_
     refine Kb 1 [(30,.agg #[.slice yp1 yd1.words.length yc1,str yd1.inp,str yd1.out,bl yd1.app])] hA [.agg #[.slice yp1 yd1.words.length yc1,str yd1.inp,str yd1.out,bl yd1.app]] (cc (hO.ln 0 0 66 [.slice yp1 yd1.words.length yc1,str yd1.inp,str yd1.out,bl yd1.app]) c0) fun fr hA=>?_
     refine Mk 31 hA hO Tryd.func34 (valid_any yp1 yc1 yd1 _ (hvy1.keep hO.only) hsc1) fun fr w7 hA hO=>?_
     refine Ka 1 [(32,bl (!(validC yd1)))] hA fun fr hA=>?_
     refine end_ops ?_
     refine then_normal ?_
     rcases Bool.eq_false_or_eq_true (validC yd1) with h5 | h5
     · rw [h5] at hA
       refine cF hA ?_
       refine wp_skip ?_
       refine inBlock_normal ?_
       refine then_normal ?_
       refine Rc [(26,i64 (((k:Nat):Int)+1))] hA [bl true] (cc ((inK_i64 (by omega) (by omega)):inK .i64 (((k:Nat):Int)+1)) c0) fun fr hA=>?_
       refine then_normal ?_
       exact ⟨_,by omega,k+1,rfl,hA.ss,(hO.sub [1]),(by omega),(all_step hok (by assumption) (by assumption)),trivial⟩
     rw [h5] at hA
     refine cT hA ?_
     refine Sa [] hA fun fr hA=>?_
     refine wp_ret ?_
     refine inBlock_ret ?_
     refine then_ret ?_
     refine then_ret ?_
     refine inBlock_ret ?_
     refine inBlock_ret ?_
     refine then_ret ?_
     refine then_ret ?_
     refine inBlock_ret ?_
     refine then_ret ?_
     refine cv [bl false] hA ?_
     have hF:=hO.only; clear hA hO
     refine ⟨congrArg (fun b=>Ending.returned (.bool b)) ?_,hF⟩
     first | (rw [validL_yes (all_end ho (by omega))]; exact decide_eq_decide.2 (by omega)) | exact (validL_no hx1 (validJ_bad (by omega))).symm | exact (validL_no hx1 (validJ_no hy1 (by assumption))).symm
   rw [h4] at hA
   have h4p:=of_decide_eq_false h4
   refine cF hA ?_
   refine wp_exit ?_
   refine then_exit ?_
   refine then_exit ?_
   refine inBlock_exit ?_
   refine inBlock_normal ?_
   refine then_normal ?_
   refine Rc [(10,i64 (((i:Nat):Int)+1))] hA [bl true] (cc ((inK_i64 (by omega) (by omega)):inK .i64 (((i:Nat):Int)+1)) c0) fun fr hA=>?_
   refine then_normal ?_
   exact ⟨_,by omega,i+1,rfl,hA.ss,(hO.sub []),(by omega),(all_step ho hx1 (validJ_yes (by omega) (all_end hok (by omega)))),trivial⟩
 rw [h1] at hA
 have h1p:=of_decide_eq_false h1
 refine cF hA ?_
 refine wp_exit ?_
 refine then_exit ?_
 refine then_exit ?_
 refine inBlock_exit ?_
 refine then_normal ?_
 refine Sa [(2,bl (decide (((l.length:Nat):Int)<=8)))] hA fun fr hA=>?_
 refine wp_ret ?_
 refine cv [bl (decide (((l.length:Nat):Int)<=8))] hA ?_
 have hF:=hO.only; clear hA hO
 refine ⟨congrArg (fun b=>Ending.returned (.bool b)) ?_,hF⟩
 first | (rw [validL_yes (all_end ho (by omega))]; exact decide_eq_decide.2 (by omega)) | exact (validL_no hx1 (validJ_bad (by omega))).symm | exact (validL_no hx1 (validJ_no hy1 (by assumption))).symm
end Go.Proofs.YtdljjajjonfjbaaDoor
