import Derived.Test.YtdljjajjonfjbaaDoorChecked
import Derived.Test.YtdljjajjonfjbaaDoorSn
set_option linter.unusedVariables false
set_option linter.unusedSimpArgs false
set_option maxRecDepth 10000
namespace Go.Proofs.YtdljjajjonfjbaaDoor
open Go Go.Shelf Go.RowKit Go.Proofs Go.Proofs.Sx
def ixI (c:Int):Int:=if c=46 then 0 else if c=45 then 1 else if c=95 then 2 else if c=47 then 3 else -1
theorem ixI_pos (c:Int):ixI c ≥ 0↔c=46\/c=45\/c=95\/c=47:=by unfold ixI; (repeat' split) <;> omega
theorem ix_part {c:Int} (h0 : 0<=c) (h1:c<=255):Lib.indexByte [46,45,95,47] c.toNat.toUInt8=ixI c:=by
 obtain ⟨k,rfl⟩:=Int.eq_ofNat_of_zero_le h0
 have h2:k < 256:=by omega
 have : ∀ k:Fin 256,Lib.indexByte [46,45,95,47] (((k.val:Nat):Int).toNat.toUInt8)=ixI ((k.val:Nat):Int):=by decide +kernel
 exact this ⟨k,h2⟩
theorem part_any (c:Int) (w:World) (lo : 0<=c) (hi:c<=255) :
    Calls Tryd.prog 57 #[u8 c] w fun e w'=>e = .returned (.bool (partI c))/\Only none' w w':=by
 refine c_enter (args:=[u8 c]) (m:=21) (n:=22) Tryd.func57 rfl (by kernel_rfl) (by kernel_rfl) fun fr hA=>?_
 have hO:=Ow.nil Tryd.prog none' w
 refine Sa [(2,bl false)] hA fun fr hA=>?_
 refine sr 20 ?_
 refine Ka 3 [(4,bl (decide (c ≥ 97))),(5,bl (decide (c ≥ 97)))] hA fun fr hA=>?_
 rcases Bool.eq_false_or_eq_true (decide (c ≥ 97)) with h1 | h1
 · rw [h1] at hA
   have h1p:=of_decide_eq_true h1
   refine Ka 4 [(7,bl (decide (c<=122))),(8,bl (decide (c<=122))),(9,bl (decide (c<=122)))] hA fun fr hA=>?_
   rcases Bool.eq_false_or_eq_true (decide (c<=122)) with h2 | h2
   · rw [h2] at hA
     have h2p:=of_decide_eq_true h2
     refine Ka 13 [(2,bl true)] hA fun fr hA=>?_
     refine end_ops ?_
     refine then_normal ?_
     refine wp_ret ?_
     refine cv [bl true] hA ?_
     have hF:=hO.only; clear hA hO
     exact ⟨congrArg (fun b=>Ending.returned (.bool b)) (by have hx_:=ixI_pos c; unfold partI; first | exact (decide_eq_true (by omega)).symm | exact (decide_eq_false (by omega)).symm | exact decide_eq_decide.2 (by omega) | (rw [Bool.eq_iff_iff]; simp only [decide_eq_true_eq,beq_iff_eq]; omega)),hF⟩
   rw [h2] at hA
   have h2p:=of_decide_eq_false h2
   refine Ka 3 [(9,bl false),(11,bl (decide (c ≥ 48))),(12,bl (decide (c ≥ 48)))] hA fun fr hA=>?_
   rcases Bool.eq_false_or_eq_true (decide (c ≥ 48)) with h3 | h3
   · rw [h3] at hA
     have h3p:=of_decide_eq_true h3
     refine Ka 5 [(14,bl (decide (c<=57))),(15,bl (decide (c<=57))),(16,bl (decide (c<=57))),(17,bl (decide (c<=57)))] hA fun fr hA=>?_
     rcases Bool.eq_false_or_eq_true (decide (c<=57)) with h4 | h4
     · rw [h4] at hA
       have h4p:=of_decide_eq_true h4
       refine Ka 5 [(2,bl true)] hA fun fr hA=>?_
       refine end_ops ?_
       refine then_normal ?_
       refine wp_ret ?_
       refine cv [bl true] hA ?_
       have hF:=hO.only; clear hA hO
       exact ⟨congrArg (fun b=>Ending.returned (.bool b)) (by have hx_:=ixI_pos c; unfold partI; first | exact (decide_eq_true (by omega)).symm | exact (decide_eq_false (by omega)).symm | exact decide_eq_decide.2 (by omega) | (rw [Bool.eq_iff_iff]; simp only [decide_eq_true_eq,beq_iff_eq]; omega)),hF⟩
     rw [h4] at hA
     have h4p:=of_decide_eq_false h4
     refine Ka 1 [(17,bl false),(18,u8 c)] hA fun fr hA=>?_
     refine Mk 19 hA hO Tryd.func40 (rs (indexByte_any (⟨#[46,45,95,47]⟩) c _) (congrArg (Value.int .i64) (ix_part lo hi))) fun fr w1 hA hO=>?_
     refine Ka 3 [(2,bl (decide ((ixI c) ≥ 0)))] hA fun fr hA=>?_
     refine end_ops ?_
     refine then_normal ?_
     refine wp_ret ?_
     refine cv [bl (decide ((ixI c) ≥ 0))] hA ?_
     have hF:=hO.only; clear hA hO
     exact ⟨congrArg (fun b=>Ending.returned (.bool b)) (by have hx_:=ixI_pos c; unfold partI; first | exact (decide_eq_true (by omega)).symm | exact (decide_eq_false (by omega)).symm | exact decide_eq_decide.2 (by omega) | (rw [Bool.eq_iff_iff]; simp only [decide_eq_true_eq,beq_iff_eq]; omega)),hF⟩
   rw [h3] at hA
   have h3p:=of_decide_eq_false h3
   refine Ka 6 [(17,bl false),(18,u8 c)] hA fun fr hA=>?_
   refine Mk 19 hA hO Tryd.func40 (rs (indexByte_any (⟨#[46,45,95,47]⟩) c _) (congrArg (Value.int .i64) (ix_part lo hi))) fun fr w2 hA hO=>?_
   refine Ka 3 [(2,bl (decide ((ixI c) ≥ 0)))] hA fun fr hA=>?_
   refine end_ops ?_
   refine then_normal ?_
   refine wp_ret ?_
   refine cv [bl (decide ((ixI c) ≥ 0))] hA ?_
   have hF:=hO.only; clear hA hO
   exact ⟨congrArg (fun b=>Ending.returned (.bool b)) (by have hx_:=ixI_pos c; unfold partI; first | exact (decide_eq_true (by omega)).symm | exact (decide_eq_false (by omega)).symm | exact decide_eq_decide.2 (by omega) | (rw [Bool.eq_iff_iff]; simp only [decide_eq_true_eq,beq_iff_eq]; omega)),hF⟩
 rw [h1] at hA
 have h1p:=of_decide_eq_false h1
 refine Ka 7 [(9,bl false),(11,bl (decide (c ≥ 48))),(12,bl (decide (c ≥ 48)))] hA fun fr hA=>?_
 rcases Bool.eq_false_or_eq_true (decide (c ≥ 48)) with h5 | h5
 · rw [h5] at hA
   have h5p:=of_decide_eq_true h5
   refine Ka 5 [(14,bl (decide (c<=57))),(15,bl (decide (c<=57))),(16,bl (decide (c<=57))),(17,bl (decide (c<=57)))] hA fun fr hA=>?_
   rcases Bool.eq_false_or_eq_true (decide (c<=57)) with h6 | h6
   · rw [h6] at hA
     have h6p:=of_decide_eq_true h6
     refine Ka 5 [(2,bl true)] hA fun fr hA=>?_
     refine end_ops ?_
     refine then_normal ?_
     refine wp_ret ?_
     refine cv [bl true] hA ?_
     have hF:=hO.only; clear hA hO
     exact ⟨congrArg (fun b=>Ending.returned (.bool b)) (by have hx_:=ixI_pos c; unfold partI; first | exact (decide_eq_true (by omega)).symm | exact (decide_eq_false (by omega)).symm | exact decide_eq_decide.2 (by omega) | (rw [Bool.eq_iff_iff]; simp only [decide_eq_true_eq,beq_iff_eq]; omega)),hF⟩
   rw [h6] at hA
   have h6p:=of_decide_eq_false h6
   refine Ka 1 [(17,bl false),(18,u8 c)] hA fun fr hA=>?_
   refine Mk 19 hA hO Tryd.func40 (rs (indexByte_any (⟨#[46,45,95,47]⟩) c _) (congrArg (Value.int .i64) (ix_part lo hi))) fun fr w3 hA hO=>?_
   refine Ka 3 [(2,bl (decide ((ixI c) ≥ 0)))] hA fun fr hA=>?_
   refine end_ops ?_
   refine then_normal ?_
   refine wp_ret ?_
   refine cv [bl (decide ((ixI c) ≥ 0))] hA ?_
   have hF:=hO.only; clear hA hO
   exact ⟨congrArg (fun b=>Ending.returned (.bool b)) (by have hx_:=ixI_pos c; unfold partI; first | exact (decide_eq_true (by omega)).symm | exact (decide_eq_false (by omega)).symm | exact decide_eq_decide.2 (by omega) | (rw [Bool.eq_iff_iff]; simp only [decide_eq_true_eq,beq_iff_eq]; omega)),hF⟩
 rw [h5] at hA
 have h5p:=of_decide_eq_false h5
 refine Ka 6 [(17,bl false),(18,u8 c)] hA fun fr hA=>?_
 refine Mk 19 hA hO Tryd.func40 (rs (indexByte_any (⟨#[46,45,95,47]⟩) c _) (congrArg (Value.int .i64) (ix_part lo hi))) fun fr w4 hA hO=>?_
 refine Ka 3 [(2,bl (decide ((ixI c) ≥ 0)))] hA fun fr hA=>?_
 refine end_ops ?_
 refine then_normal ?_
 refine wp_ret ?_
 refine cv [bl (decide ((ixI c) ≥ 0))] hA ?_
 have hF:=hO.only; clear hA hO
 exact ⟨congrArg (fun b=>Ending.returned (.bool b)) (by have hx_:=ixI_pos c; unfold partI; first | exact (decide_eq_true (by omega)).symm | exact (decide_eq_false (by omega)).symm | exact decide_eq_decide.2 (by omega) | (rw [Bool.eq_iff_iff]; simp only [decide_eq_true_eq,beq_iff_eq]; omega)),hF⟩
end Go.Proofs.YtdljjajjonfjbaaDoor
namespace Go.Proofs.YtdljjajjonfjbaaDoor
open Go Go.Shelf Go.RowKit Go.Proofs Go.Proofs.Sx
theorem isword_any (sv:ByteArray) (w:World) (hl:sv.size<=1000000) :
    Calls Tryd.prog 48 #[str sv] w fun e w'=>e = .returned (.bool (isWordB sv))/\Only none' w w':=by
 refine c_enter (args:=[str sv]) (m:=21) (n:=22) Tryd.func48 rfl (by kernel_rfl) (by kernel_rfl) fun fr hA=>?_
 have hO:=Ow.nil Tryd.prog none' w
 refine Sa [(2,bl false)] hA fun fr hA=>?_
 refine wp_seq ?_
 refine Sa [(5,i64 ((sv.size:Nat):Int)),(6,i64 0)] hA fun fr hA=>?_
 refine wp_block ?_
 refine c_loop (fun mm fr W=>∃ (i:Nat),mm=sv.size - i/\Holds 22 [] fr [(0,str sv),(2,bl false),(5,i64 ((sv.size:Nat):Int)),(6,i64 ((i:Nat):Int))]/\Ow Tryd.prog none' w W []/\i<=sv.size/\okW sv i=true/\True) ?_ ?_
 · exact ⟨_,0,rfl,hA.ss,hO.to,(by omega),rfl,trivial⟩
 rintro _ fr w1 ⟨i,rfl,hA,hO,hi,ho,-⟩
 have hsb:=sb_b sv i
 refine Sa [(7,bl (decide (((i:Nat):Int) < ((sv.size:Nat):Int))))] hA fun fr hA=>?_
 refine wp_seq ?_
 rcases Bool.eq_false_or_eq_true (decide (((i:Nat):Int) < ((sv.size:Nat):Int))) with h1 | h1
 · rw [h1] at hA
   have h1p:=of_decide_eq_true h1
   refine cT hA ?_
   refine wp_skip ?_
   refine then_normal ?_
   refine wp_seq ?_
   refine wp_block ?_
   refine Sa [(3,i64 ((i:Nat):Int))] hA fun fr hA=>?_
   refine sr 5 ?_
   refine Kb 3 [(11,u8 (sb sv i))] hA [] (cc (⟨by omega,by omega⟩:(0:Int)<=((i:Nat):Int)/\((i:Nat):Int) < ((sv.size:Nat):Int)) c0) fun fr hA=>?_
   refine Mk 12 hA hO Tryd.func57 (part_any (sb sv i) _ (by omega) (by omega)) fun fr w2 hA hO=>?_
   refine Ka 1 [(13,bl (!(partI (sb sv i))))] hA fun fr hA=>?_
   refine end_ops ?_
   refine then_normal ?_
   rcases Bool.eq_false_or_eq_true (partI (sb sv i)) with h2 | h2
   · rw [h2] at hA
     refine cF hA ?_
     refine wp_skip ?_
     refine inBlock_normal ?_
     refine then_normal ?_
     refine Rc [(6,i64 (((i:Nat):Int)+1))] hA [bl true] (cc ((inK_i64 (by omega) (by omega)):inK .i64 (((i:Nat):Int)+1)) c0) fun fr hA=>?_
     refine then_normal ?_
     exact ⟨_,by omega,i+1,rfl,hA.ss,hO.to,(by omega),(by simp only [okW,ho,Bool.true_and]; assumption),trivial⟩
   rw [h2] at hA
   refine cT hA ?_
   refine Sa [] hA fun fr hA=>?_
   refine wp_ret ?_
   refine inBlock_ret ?_
   refine then_ret ?_
   refine then_ret ?_
   refine inBlock_ret ?_
   refine then_ret ?_
   refine cv [bl false] hA ?_
   have hF:=hO.only; clear hA hO
   first | exact ⟨congrArg (fun b=>Ending.returned (.bool b)) (isw_no (by assumption) (by omega)).symm,hF⟩ | skip
   all_goals (have ei:i=sv.size:=(by omega))
   all_goals (rw [ei] at ho)
   all_goals (refine ⟨congrArg (fun b=>Ending.returned (.bool b)) ?_,hF⟩)
   all_goals (rw [isw_len ho])
   all_goals (have hem:=str_empty sv)
   all_goals (by_cases hz:sv.size=0)
   all_goals (first | rw [decide_eq_true hz] at hem | rw [decide_eq_false hz] at hem)
   all_goals (first | (exfalso; simp_all; done) | exact (decide_eq_true (by omega)).symm | exact (decide_eq_false (by omega)).symm | exact decide_eq_decide.2 (by omega))
 rw [h1] at hA
 have h1p:=of_decide_eq_false h1
 refine cF hA ?_
 refine wp_exit ?_
 refine then_exit ?_
 refine then_exit ?_
 refine inBlock_exit ?_
 refine then_normal ?_
 refine sr 8 ?_
 refine Ka 3 [(16,bl (!(sv.toList == (⟨#[]⟩:ByteArray).toList))),(17,bl (!(sv.toList == (⟨#[]⟩:ByteArray).toList)))] hA fun fr hA=>?_
 rcases Bool.eq_false_or_eq_true (sv.toList == (⟨#[]⟩:ByteArray).toList) with h3 | h3
 · rw [h3] at hA
   refine Ka 5 [] hA fun fr hA=>?_
   refine end_ops ?_
   refine then_normal ?_
   refine wp_ret ?_
   refine cv [bl false] hA ?_
   have hF:=hO.only; clear hA hO
   first | exact ⟨congrArg (fun b=>Ending.returned (.bool b)) (isw_no (by assumption) (by omega)).symm,hF⟩ | skip
   all_goals (have ei:i=sv.size:=(by omega))
   all_goals (rw [ei] at ho)
   all_goals (refine ⟨congrArg (fun b=>Ending.returned (.bool b)) ?_,hF⟩)
   all_goals (rw [isw_len ho])
   all_goals (have hem:=str_empty sv)
   all_goals (by_cases hz:sv.size=0)
   all_goals (first | rw [decide_eq_true hz] at hem | rw [decide_eq_false hz] at hem)
   all_goals (first | (exfalso; simp_all; done) | exact (decide_eq_true (by omega)).symm | exact (decide_eq_false (by omega)).symm | exact decide_eq_decide.2 (by omega))
 rw [h3] at hA
 refine Ka 5 [(2,bl (decide (((sv.size:Nat):Int)<=60)))] hA fun fr hA=>?_
 refine end_ops ?_
 refine then_normal ?_
 refine wp_ret ?_
 refine cv [bl (decide (((sv.size:Nat):Int)<=60))] hA ?_
 have hF:=hO.only; clear hA hO
 first | exact ⟨congrArg (fun b=>Ending.returned (.bool b)) (isw_no (by assumption) (by omega)).symm,hF⟩ | skip
 all_goals (have ei:i=sv.size:=(by omega))
 all_goals (rw [ei] at ho)
 all_goals (refine ⟨congrArg (fun b=>Ending.returned (.bool b)) ?_,hF⟩)
 all_goals (rw [isw_len ho])
 all_goals (have hem:=str_empty sv)
 all_goals (by_cases hz:sv.size=0)
 all_goals (first | rw [decide_eq_true hz] at hem | rw [decide_eq_false hz] at hem)
 all_goals (first | (exfalso; simp_all; done) | exact (decide_eq_true (by omega)).symm | exact (decide_eq_false (by omega)).symm | exact decide_eq_decide.2 (by omega))
end Go.Proofs.YtdljjajjonfjbaaDoor
