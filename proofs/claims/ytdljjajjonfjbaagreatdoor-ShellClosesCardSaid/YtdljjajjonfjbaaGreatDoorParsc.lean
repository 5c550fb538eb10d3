import Derived.Test.YtdljjajjonfjbaaGreatDoorChecked
import Derived.Test.YtdljjajjonfjbaaGreatDoorSn
set_option linter.unusedVariables false
set_option linter.unusedSimpArgs false
set_option maxRecDepth 10000
namespace Go.Proofs.YtdljjajjonfjbaaGreatDoor
open Go Go.Shelf Go.RowKit Go.Proofs Go.Proofs.Sx
def ixI (c:Int):Int:=if c=46 then 0 else if c=45 then 1 else if c=95 then 2 else if c=47 then 3 else -1
theorem Bp (c:Int):ixI c ≥ 0↔c=46\/c=45\/c=95\/c=47:=by unfold ixI; (repeat' split) <;> omega
theorem M2 {c:Int} (h0 : 0<=c) (h1:c<=255):Lib.indexByte [46,45,95,47] c.toNat.toUInt8=ixI c:=by
 obtain ⟨k,rfl⟩:=Int.eq_ofNat_of_zero_le h0;have h2:k < 256:=by omega
 have : ∀ k:Fin 256,Lib.indexByte [46,45,95,47] (((k.val:Nat):Int).toNat.toUInt8)=ixI ((k.val:Nat):Int):=by decide +kernel
 exact this ⟨k,h2⟩
theorem aX (c:Int) (w:World) (lo : 0<=c) (hi:c<=255) :
 Calls Tryz.prog 88 #[u8 c] w fun e w'=>e = .returned (.bool (Ba c))/\Only Ai w w':=by
 refine An (args:=[u8 c]) (m:=32) (n:=33) Tryz.func88 rfl (by kernel_rfl) (by kernel_rfl) fun fr hA=>?_;have hO:=Ow.nil Tryz.prog Ai w;refine Sa [(2,bl false)] hA fun fr hA=>sr 31 (Ka 3 [(4,bl (decide (c ≥ 97))),(5,bl (decide (c ≥ 97)))] hA fun fr hA=>?_);rcases qV (decide (c ≥ 97)) with h1 | h1
 · rw [h1] at hA;have h1p:=qX h1;refine Ka 4 [(7,bl (decide (c<=122))),(8,bl (decide (c<=122))),(9,bl (decide (c<=122)))] hA fun fr hA=>?_;rcases qV (decide (c<=122)) with h2 | h2
   · rw [h2] at hA;have h2p:=qX h2;refine Ka 24 [(2,bl true)] hA fun fr hA=>Ab (Aa (wp_ret (cv [bl true] hA ?_)));have hF:=hO.only; clear hA hO;exact ⟨congrArg (fun b=>Ending.returned (.bool b)) (by have hx_:=Bp c; unfold Ba; first | exact (qZ (by omega)).symm | exact (rA (by omega)).symm | exact decide_eq_decide.2 (by omega) | (rw [Bool.eq_iff_iff]; simp only [decide_eq_true_eq,beq_iff_eq]; omega)),hF⟩
   rw [h2] at hA;have h2p:=qY h2;refine Ka 3 [(9,bl false),(11,bl (decide (c ≥ 48))),(12,bl (decide (c ≥ 48)))] hA fun fr hA=>?_;rcases qV (decide (c ≥ 48)) with h3 | h3
   · rw [h3] at hA;have h3p:=qX h3;refine Ka 5 [(14,bl (decide (c<=57))),(15,bl (decide (c<=57))),(16,bl (decide (c<=57))),(17,bl (decide (c<=57)))] hA fun fr hA=>?_;rcases qV (decide (c<=57)) with h4 | h4
     · rw [h4] at hA;have h4p:=qX h4;refine Ka 16 [(2,bl true)] hA fun fr hA=>Ab (Aa (wp_ret (cv [bl true] hA ?_)));have hF:=hO.only; clear hA hO;exact ⟨congrArg (fun b=>Ending.returned (.bool b)) (by have hx_:=Bp c; unfold Ba; first | exact (qZ (by omega)).symm | exact (rA (by omega)).symm | exact decide_eq_decide.2 (by omega) | (rw [Bool.eq_iff_iff]; simp only [decide_eq_true_eq,beq_iff_eq]; omega)),hF⟩
     rw [h4] at hA;have h4p:=qY h4;refine Ka 4 [(19,bl (c == 46)),(20,bl (c == 46)),(21,bl (c == 46))] hA fun fr hA=>?_;rcases qV (c == 46) with h5 | h5
     · rw [h5] at hA;have h5p:=eq_of_beq h5;refine Ka 12 [(2,bl true)] hA fun fr hA=>Ab (Aa (wp_ret (cv [bl true] hA ?_)));have hF:=hO.only; clear hA hO;exact ⟨congrArg (fun b=>Ending.returned (.bool b)) (by have hx_:=Bp c; unfold Ba; first | exact (qZ (by omega)).symm | exact (rA (by omega)).symm | exact decide_eq_decide.2 (by omega) | (rw [Bool.eq_iff_iff]; simp only [decide_eq_true_eq,beq_iff_eq]; omega)),hF⟩
     rw [h5] at hA;have h5p:=ne_of_beq_false h5;refine Ka 4 [(23,bl (c == 45)),(24,bl (c == 45)),(25,bl (c == 45))] hA fun fr hA=>?_;rcases qV (c == 45) with h6 | h6
     · rw [h6] at hA;have h6p:=eq_of_beq h6;refine Ka 8 [(2,bl true)] hA fun fr hA=>Ab (Aa (wp_ret (cv [bl true] hA ?_)));have hF:=hO.only; clear hA hO;exact ⟨congrArg (fun b=>Ending.returned (.bool b)) (by have hx_:=Bp c; unfold Ba; first | exact (qZ (by omega)).symm | exact (rA (by omega)).symm | exact decide_eq_decide.2 (by omega) | (rw [Bool.eq_iff_iff]; simp only [decide_eq_true_eq,beq_iff_eq]; omega)),hF⟩
     rw [h6] at hA;have h6p:=ne_of_beq_false h6;refine Ka 4 [(27,bl (c == 95)),(28,bl (c == 95)),(29,bl (c == 95))] hA fun fr hA=>?_;rcases qV (c == 95) with h7 | h7
     · rw [h7] at hA;have h7p:=eq_of_beq h7;refine Ka 4 [(2,bl true)] hA fun fr hA=>Ab (Aa (wp_ret (cv [bl true] hA ?_)));have hF:=hO.only; clear hA hO;exact ⟨congrArg (fun b=>Ending.returned (.bool b)) (by have hx_:=Bp c; unfold Ba; first | exact (qZ (by omega)).symm | exact (rA (by omega)).symm | exact decide_eq_decide.2 (by omega) | (rw [Bool.eq_iff_iff]; simp only [decide_eq_true_eq,beq_iff_eq]; omega)),hF⟩
     rw [h7] at hA;have h7p:=ne_of_beq_false h7;refine Ka 4 [(2,bl (c == 47))] hA fun fr hA=>Ab (Aa (wp_ret (cv [bl (c == 47)] hA ?_)));have hF:=hO.only; clear hA hO;exact ⟨congrArg (fun b=>Ending.returned (.bool b)) (by have hx_:=Bp c; unfold Ba; first | exact (qZ (by omega)).symm | exact (rA (by omega)).symm | exact decide_eq_decide.2 (by omega) | (rw [Bool.eq_iff_iff]; simp only [decide_eq_true_eq,beq_iff_eq]; omega)),hF⟩
   rw [h3] at hA;have h3p:=qY h3;refine Ka 9 [(19,bl (c == 46)),(20,bl (c == 46)),(21,bl (c == 46))] hA fun fr hA=>?_;rcases qV (c == 46) with h8 | h8
   · rw [h8] at hA;have h8p:=eq_of_beq h8;refine Ka 12 [(2,bl true)] hA fun fr hA=>Ab (Aa (wp_ret (cv [bl true] hA ?_)));have hF:=hO.only; clear hA hO;exact ⟨congrArg (fun b=>Ending.returned (.bool b)) (by have hx_:=Bp c; unfold Ba; first | exact (qZ (by omega)).symm | exact (rA (by omega)).symm | exact decide_eq_decide.2 (by omega) | (rw [Bool.eq_iff_iff]; simp only [decide_eq_true_eq,beq_iff_eq]; omega)),hF⟩
   rw [h8] at hA;have h8p:=ne_of_beq_false h8;refine Ka 4 [(23,bl (c == 45)),(24,bl (c == 45)),(25,bl (c == 45))] hA fun fr hA=>?_;rcases qV (c == 45) with h9 | h9
   · rw [h9] at hA;have h9p:=eq_of_beq h9;refine Ka 8 [(2,bl true)] hA fun fr hA=>Ab (Aa (wp_ret (cv [bl true] hA ?_)));have hF:=hO.only; clear hA hO;exact ⟨congrArg (fun b=>Ending.returned (.bool b)) (by have hx_:=Bp c; unfold Ba; first | exact (qZ (by omega)).symm | exact (rA (by omega)).symm | exact decide_eq_decide.2 (by omega) | (rw [Bool.eq_iff_iff]; simp only [decide_eq_true_eq,beq_iff_eq]; omega)),hF⟩
   rw [h9] at hA;have h9p:=ne_of_beq_false h9;refine Ka 4 [(27,bl (c == 95)),(28,bl (c == 95)),(29,bl (c == 95))] hA fun fr hA=>?_;rcases qV (c == 95) with h10 | h10
   · rw [h10] at hA;have h10p:=eq_of_beq h10;refine Ka 4 [(2,bl true)] hA fun fr hA=>Ab (Aa (wp_ret (cv [bl true] hA ?_)));have hF:=hO.only; clear hA hO;exact ⟨congrArg (fun b=>Ending.returned (.bool b)) (by have hx_:=Bp c; unfold Ba; first | exact (qZ (by omega)).symm | exact (rA (by omega)).symm | exact decide_eq_decide.2 (by omega) | (rw [Bool.eq_iff_iff]; simp only [decide_eq_true_eq,beq_iff_eq]; omega)),hF⟩
   rw [h10] at hA;have h10p:=ne_of_beq_false h10;refine Ka 4 [(2,bl (c == 47))] hA fun fr hA=>Ab (Aa (wp_ret (cv [bl (c == 47)] hA ?_)));have hF:=hO.only; clear hA hO;exact ⟨congrArg (fun b=>Ending.returned (.bool b)) (by have hx_:=Bp c; unfold Ba; first | exact (qZ (by omega)).symm | exact (rA (by omega)).symm | exact decide_eq_decide.2 (by omega) | (rw [Bool.eq_iff_iff]; simp only [decide_eq_true_eq,beq_iff_eq]; omega)),hF⟩
 rw [h1] at hA;have h1p:=qY h1;refine Ka 7 [(9,bl false),(11,bl (decide (c ≥ 48))),(12,bl (decide (c ≥ 48)))] hA fun fr hA=>?_;rcases qV (decide (c ≥ 48)) with h11 | h11
 · rw [h11] at hA;have h11p:=qX h11;refine Ka 5 [(14,bl (decide (c<=57))),(15,bl (decide (c<=57))),(16,bl (decide (c<=57))),(17,bl (decide (c<=57)))] hA fun fr hA=>?_;rcases qV (decide (c<=57)) with h12 | h12
   · rw [h12] at hA;have h12p:=qX h12;refine Ka 16 [(2,bl true)] hA fun fr hA=>Ab (Aa (wp_ret (cv [bl true] hA ?_)));have hF:=hO.only; clear hA hO;exact ⟨congrArg (fun b=>Ending.returned (.bool b)) (by have hx_:=Bp c; unfold Ba; first | exact (qZ (by omega)).symm | exact (rA (by omega)).symm | exact decide_eq_decide.2 (by omega) | (rw [Bool.eq_iff_iff]; simp only [decide_eq_true_eq,beq_iff_eq]; omega)),hF⟩
   rw [h12] at hA;have h12p:=qY h12;refine Ka 4 [(19,bl (c == 46)),(20,bl (c == 46)),(21,bl (c == 46))] hA fun fr hA=>?_;rcases qV (c == 46) with h13 | h13
   · rw [h13] at hA;have h13p:=eq_of_beq h13;refine Ka 12 [(2,bl true)] hA fun fr hA=>Ab (Aa (wp_ret (cv [bl true] hA ?_)));have hF:=hO.only; clear hA hO;exact ⟨congrArg (fun b=>Ending.returned (.bool b)) (by have hx_:=Bp c; unfold Ba; first | exact (qZ (by omega)).symm | exact (rA (by omega)).symm | exact decide_eq_decide.2 (by omega) | (rw [Bool.eq_iff_iff]; simp only [decide_eq_true_eq,beq_iff_eq]; omega)),hF⟩
   rw [h13] at hA;have h13p:=ne_of_beq_false h13;refine Ka 4 [(23,bl (c == 45)),(24,bl (c == 45)),(25,bl (c == 45))] hA fun fr hA=>?_;rcases qV (c == 45) with h14 | h14
   · rw [h14] at hA;have h14p:=eq_of_beq h14;refine Ka 8 [(2,bl true)] hA fun fr hA=>Ab (Aa (wp_ret (cv [bl true] hA ?_)));have hF:=hO.only; clear hA hO;exact ⟨congrArg (fun b=>Ending.returned (.bool b)) (by have hx_:=Bp c; unfold Ba; first | exact (qZ (by omega)).symm | exact (rA (by omega)).symm | exact decide_eq_decide.2 (by omega) | (rw [Bool.eq_iff_iff]; simp only [decide_eq_true_eq,beq_iff_eq]; omega)),hF⟩
   rw [h14] at hA;have h14p:=ne_of_beq_false h14;refine Ka 4 [(27,bl (c == 95)),(28,bl (c == 95)),(29,bl (c == 95))] hA fun fr hA=>?_;rcases qV (c == 95) with h15 | h15
   · rw [h15] at hA;have h15p:=eq_of_beq h15;refine Ka 4 [(2,bl true)] hA fun fr hA=>Ab (Aa (wp_ret (cv [bl true] hA ?_)));have hF:=hO.only; clear hA hO;exact ⟨congrArg (fun b=>Ending.returned (.bool b)) (by have hx_:=Bp c; unfold Ba; first | exact (qZ (by omega)).symm | exact (rA (by omega)).symm | exact decide_eq_decide.2 (by omega) | (rw [Bool.eq_iff_iff]; simp only [decide_eq_true_eq,beq_iff_eq]; omega)),hF⟩
   rw [h15] at hA;have h15p:=ne_of_beq_false h15;refine Ka 4 [(2,bl (c == 47))] hA fun fr hA=>Ab (Aa (wp_ret (cv [bl (c == 47)] hA ?_)));have hF:=hO.only; clear hA hO;exact ⟨congrArg (fun b=>Ending.returned (.bool b)) (by have hx_:=Bp c; unfold Ba; first | exact (qZ (by omega)).symm | exact (rA (by omega)).symm | exact decide_eq_decide.2 (by omega) | (rw [Bool.eq_iff_iff]; simp only [decide_eq_true_eq,beq_iff_eq]; omega)),hF⟩
 rw [h11] at hA;have h11p:=qY h11;refine Ka 9 [(19,bl (c == 46)),(20,bl (c == 46)),(21,bl (c == 46))] hA fun fr hA=>?_;rcases qV (c == 46) with h16 | h16
 · rw [h16] at hA;have h16p:=eq_of_beq h16;refine Ka 12 [(2,bl true)] hA fun fr hA=>Ab (Aa (wp_ret (cv [bl true] hA ?_)));have hF:=hO.only; clear hA hO;exact ⟨congrArg (fun b=>Ending.returned (.bool b)) (by have hx_:=Bp c; unfold Ba; first | exact (qZ (by omega)).symm | exact (rA (by omega)).symm | exact decide_eq_decide.2 (by omega) | (rw [Bool.eq_iff_iff]; simp only [decide_eq_true_eq,beq_iff_eq]; omega)),hF⟩
 rw [h16] at hA;have h16p:=ne_of_beq_false h16;refine Ka 4 [(23,bl (c == 45)),(24,bl (c == 45)),(25,bl (c == 45))] hA fun fr hA=>?_;rcases qV (c == 45) with h17 | h17
 · rw [h17] at hA;have h17p:=eq_of_beq h17;refine Ka 8 [(2,bl true)] hA fun fr hA=>Ab (Aa (wp_ret (cv [bl true] hA ?_)));have hF:=hO.only; clear hA hO;exact ⟨congrArg (fun b=>Ending.returned (.bool b)) (by have hx_:=Bp c; unfold Ba; first | exact (qZ (by omega)).symm | exact (rA (by omega)).symm | exact decide_eq_decide.2 (by omega) | (rw [Bool.eq_iff_iff]; simp only [decide_eq_true_eq,beq_iff_eq]; omega)),hF⟩
 rw [h17] at hA;have h17p:=ne_of_beq_false h17;refine Ka 4 [(27,bl (c == 95)),(28,bl (c == 95)),(29,bl (c == 95))] hA fun fr hA=>?_;rcases qV (c == 95) with h18 | h18
 · rw [h18] at hA;have h18p:=eq_of_beq h18;refine Ka 4 [(2,bl true)] hA fun fr hA=>Ab (Aa (wp_ret (cv [bl true] hA ?_)));have hF:=hO.only; clear hA hO;exact ⟨congrArg (fun b=>Ending.returned (.bool b)) (by have hx_:=Bp c; unfold Ba; first | exact (qZ (by omega)).symm | exact (rA (by omega)).symm | exact decide_eq_decide.2 (by omega) | (rw [Bool.eq_iff_iff]; simp only [decide_eq_true_eq,beq_iff_eq]; omega)),hF⟩
 rw [h18] at hA;have h18p:=ne_of_beq_false h18;refine Ka 4 [(2,bl (c == 47))] hA fun fr hA=>Ab (Aa (wp_ret (cv [bl (c == 47)] hA ?_)));have hF:=hO.only; clear hA hO;exact ⟨congrArg (fun b=>Ending.returned (.bool b)) (by have hx_:=Bp c; unfold Ba; first | exact (qZ (by omega)).symm | exact (rA (by omega)).symm | exact decide_eq_decide.2 (by omega) | (rw [Bool.eq_iff_iff]; simp only [decide_eq_true_eq,beq_iff_eq]; omega)),hF⟩
theorem Hq (c:Int) (w:World) (lo : 0<=c) (hi:c<=255) :
 Calls Tryz.prog 115 #[u8 c] w fun e w'=>e = .returned (.bool (Ba c))/\Only Ai w w':=by
 refine An (args:=[u8 c]) (m:=21) (n:=22) Tryz.func115 rfl (by kernel_rfl) (by kernel_rfl) fun fr hA=>?_;have hO:=Ow.nil Tryz.prog Ai w;refine Sa [(2,bl false)] hA fun fr hA=>sr 20 (Ka 3 [(4,bl (decide (c ≥ 97))),(5,bl (decide (c ≥ 97)))] hA fun fr hA=>?_);rcases qV (decide (c ≥ 97)) with h1 | h1
 · rw [h1] at hA;have h1p:=qX h1;refine Ka 4 [(7,bl (decide (c<=122))),(8,bl (decide (c<=122))),(9,bl (decide (c<=122)))] hA fun fr hA=>?_;rcases qV (decide (c<=122)) with h2 | h2
   · rw [h2] at hA;have h2p:=qX h2;refine Ka 13 [(2,bl true)] hA fun fr hA=>Ab (Aa (wp_ret (cv [bl true] hA ?_)));have hF:=hO.only; clear hA hO;exact ⟨congrArg (fun b=>Ending.returned (.bool b)) (by have hx_:=Bp c; unfold Ba; first | exact (qZ (by omega)).symm | exact (rA (by omega)).symm | exact decide_eq_decide.2 (by omega) | (rw [Bool.eq_iff_iff]; simp only [decide_eq_true_eq,beq_iff_eq]; omega)),hF⟩
   rw [h2] at hA;have h2p:=qY h2;refine Ka 3 [(9,bl false),(11,bl (decide (c ≥ 48))),(12,bl (decide (c ≥ 48)))] hA fun fr hA=>?_;rcases qV (decide (c ≥ 48)) with h3 | h3
   · rw [h3] at hA;have h3p:=qX h3;refine Ka 5 [(14,bl (decide (c<=57))),(15,bl (decide (c<=57))),(16,bl (decide (c<=57))),(17,bl (decide (c<=57)))] hA fun fr hA=>?_;rcases qV (decide (c<=57)) with h4 | h4
     · rw [h4] at hA;have h4p:=qX h4;refine Ka 5 [(2,bl true)] hA fun fr hA=>Ab (Aa (wp_ret (cv [bl true] hA ?_)));have hF:=hO.only; clear hA hO;exact ⟨congrArg (fun b=>Ending.returned (.bool b)) (by have hx_:=Bp c; unfold Ba; first | exact (qZ (by omega)).symm | exact (rA (by omega)).symm | exact decide_eq_decide.2 (by omega) | (rw [Bool.eq_iff_iff]; simp only [decide_eq_true_eq,beq_iff_eq]; omega)),hF⟩
     rw [h4] at hA;have h4p:=qY h4;refine Ka 1 [(17,bl false),(18,u8 c)] hA fun fr hA=>Mk 19 hA hO Tryz.func91 (rs (Cq (⟨#[46,45,95,47]⟩) c _) (congrArg (Value.int .i64) (M2 lo hi))) fun fr w1 hA hO=>Ka 3 [(2,bl (decide ((ixI c) ≥ 0)))] hA fun fr hA=>Ab (Aa (wp_ret (cv [bl (decide ((ixI c) ≥ 0))] hA ?_)));have hF:=hO.only; clear hA hO;exact ⟨congrArg (fun b=>Ending.returned (.bool b)) (by have hx_:=Bp c; unfold Ba; first | exact (qZ (by omega)).symm | exact (rA (by omega)).symm | exact decide_eq_decide.2 (by omega) | (rw [Bool.eq_iff_iff]; simp only [decide_eq_true_eq,beq_iff_eq]; omega)),hF⟩
   rw [h3] at hA;have h3p:=qY h3;refine Ka 6 [(17,bl false),(18,u8 c)] hA fun fr hA=>Mk 19 hA hO Tryz.func91 (rs (Cq (⟨#[46,45,95,47]⟩) c _) (congrArg (Value.int .i64) (M2 lo hi))) fun fr w2 hA hO=>Ka 3 [(2,bl (decide ((ixI c) ≥ 0)))] hA fun fr hA=>Ab (Aa (wp_ret (cv [bl (decide ((ixI c) ≥ 0))] hA ?_)));have hF:=hO.only; clear hA hO;exact ⟨congrArg (fun b=>Ending.returned (.bool b)) (by have hx_:=Bp c; unfold Ba; first | exact (qZ (by omega)).symm | exact (rA (by omega)).symm | exact decide_eq_decide.2 (by omega) | (rw [Bool.eq_iff_iff]; simp only [decide_eq_true_eq,beq_iff_eq]; omega)),hF⟩
 rw [h1] at hA;have h1p:=qY h1;refine Ka 7 [(9,bl false),(11,bl (decide (c ≥ 48))),(12,bl (decide (c ≥ 48)))] hA fun fr hA=>?_;rcases qV (decide (c ≥ 48)) with h5 | h5
 · rw [h5] at hA;have h5p:=qX h5;refine Ka 5 [(14,bl (decide (c<=57))),(15,bl (decide (c<=57))),(16,bl (decide (c<=57))),(17,bl (decide (c<=57)))] hA fun fr hA=>?_;rcases qV (decide (c<=57)) with h6 | h6
   · rw [h6] at hA;have h6p:=qX h6;refine Ka 5 [(2,bl true)] hA fun fr hA=>Ab (Aa (wp_ret (cv [bl true] hA ?_)));have hF:=hO.only; clear hA hO;exact ⟨congrArg (fun b=>Ending.returned (.bool b)) (by have hx_:=Bp c; unfold Ba; first | exact (qZ (by omega)).symm | exact (rA (by omega)).symm | exact decide_eq_decide.2 (by omega) | (rw [Bool.eq_iff_iff]; simp only [decide_eq_true_eq,beq_iff_eq]; omega)),hF⟩
   rw [h6] at hA;have h6p:=qY h6;refine Ka 1 [(17,bl false),(18,u8 c)] hA fun fr hA=>Mk 19 hA hO Tryz.func91 (rs (Cq (⟨#[46,45,95,47]⟩) c _) (congrArg (Value.int .i64) (M2 lo hi))) fun fr w3 hA hO=>Ka 3 [(2,bl (decide ((ixI c) ≥ 0)))] hA fun fr hA=>Ab (Aa (wp_ret (cv [bl (decide ((ixI c) ≥ 0))] hA ?_)));have hF:=hO.only; clear hA hO;exact ⟨congrArg (fun b=>Ending.returned (.bool b)) (by have hx_:=Bp c; unfold Ba; first | exact (qZ (by omega)).symm | exact (rA (by omega)).symm | exact decide_eq_decide.2 (by omega) | (rw [Bool.eq_iff_iff]; simp only [decide_eq_true_eq,beq_iff_eq]; omega)),hF⟩
 rw [h5] at hA;have h5p:=qY h5;refine Ka 6 [(17,bl false),(18,u8 c)] hA fun fr hA=>Mk 19 hA hO Tryz.func91 (rs (Cq (⟨#[46,45,95,47]⟩) c _) (congrArg (Value.int .i64) (M2 lo hi))) fun fr w4 hA hO=>Ka 3 [(2,bl (decide ((ixI c) ≥ 0)))] hA fun fr hA=>Ab (Aa (wp_ret (cv [bl (decide ((ixI c) ≥ 0))] hA ?_)));have hF:=hO.only; clear hA hO;exact ⟨congrArg (fun b=>Ending.returned (.bool b)) (by have hx_:=Bp c; unfold Ba; first | exact (qZ (by omega)).symm | exact (rA (by omega)).symm | exact decide_eq_decide.2 (by omega) | (rw [Bool.eq_iff_iff]; simp only [decide_eq_true_eq,beq_iff_eq]; omega)),hF⟩
theorem G5 (sv:ByteArray) (w:World) (hl:sv.size<=1000000) :
 Calls Tryz.prog 104 #[str sv] w fun e w'=>e = .returned (.bool (A0 sv))/\Only Ai w w':=by
 refine An (args:=[str sv]) (m:=21) (n:=22) Tryz.func104 rfl (by kernel_rfl) (by kernel_rfl) fun fr hA=>?_;have hO:=Ow.nil Tryz.prog Ai w;refine Sa [(2,bl false)] hA fun fr hA=>wp_seq (Sa [(5,i64 ((sv.size:Nat):Int)),(6,i64 0)] hA fun fr hA=>wp_block (Bg (fun mm fr W=>∃ (i:Nat),mm=sv.size - i/\Holds 22 [] fr [(0,str sv),(2,bl false),(5,i64 ((sv.size:Nat):Int)),(6,i64 ((i:Nat):Int))]/\Ow Tryz.prog Ai w W []/\i<=sv.size/\okW sv i=true/\True) ?_ ?_))
 · exact ⟨_,0,rfl,hA.ss,hO.to,(by omega),rfl,trivial⟩
 rintro _ fr w1 ⟨i,rfl,hA,hO,hi,ho,-⟩;have hsb:=Ni sv i;refine Sa [(7,bl (decide (((i:Nat):Int) < ((sv.size:Nat):Int))))] hA fun fr hA=>wp_seq ?_;rcases qV (decide (((i:Nat):Int) < ((sv.size:Nat):Int))) with h1 | h1
 · rw [h1] at hA;have h1p:=qX h1;refine cT hA (wp_skip (Aa (wp_seq (wp_block (Sa [(3,i64 ((i:Nat):Int))] hA fun fr hA=>sr 5 (Kb 3 [(11,u8 (sb sv i))] hA [] (cc (⟨by omega,by omega⟩:(0:Int)<=((i:Nat):Int)/\((i:Nat):Int) < ((sv.size:Nat):Int)) c0) fun fr hA=>Mk 12 hA hO Tryz.func115 (Hq (sb sv i) _ (by omega) (by omega)) fun fr w2 hA hO=>Ka 1 [(13,bl (!(Ba (sb sv i))))] hA fun fr hA=>Ab (Aa ?_)))))));rcases qV (Ba (sb sv i)) with h2 | h2
   · rw [h2] at hA;exact cF hA (wp_skip (Ad (Aa (Rc [(6,i64 (((i:Nat):Int)+1))] hA [bl true] (cc ((Am (by omega) (by omega)):inK .i64 (((i:Nat):Int)+1)) c0) fun fr hA=>Aa (⟨_,by omega,i+1,rfl,hA.ss,hO.to,(by omega),(by simp only [okW,ho,Bool.true_and]; assumption),trivial⟩)))))
   rw [h2] at hA;refine cT hA (Sa [] hA fun fr hA=>wp_ret (Ae (Ac (Ac (Ae (Ac (cv [bl false] hA ?_)))))));have hF:=hO.only; clear hA hO;first | exact ⟨congrArg (fun b=>Ending.returned (.bool b)) (Ls (by assumption) (by omega)).symm,hF⟩ | skip
   all_goals (have ei:i=sv.size:=(by omega))
   all_goals (rw [ei] at ho)
   all_goals (refine ⟨congrArg (fun b=>Ending.returned (.bool b)) ?_,hF⟩)
   all_goals (rw [G6 ho])
   all_goals (have hem:=As sv)
   all_goals (by_cases hz:sv.size=0)
   all_goals (first | rw [qZ hz] at hem | rw [rA hz] at hem)
   all_goals (first | (exfalso; simp_all; done) | exact (qZ (by omega)).symm | exact (rA (by omega)).symm | exact decide_eq_decide.2 (by omega))
 rw [h1] at hA;have h1p:=qY h1;refine cF hA (wp_exit (Aj (Aj (Ap (Aa (sr 8 (Ka 3 [(16,bl (!(sv.toList == (⟨#[]⟩:ByteArray).toList))),(17,bl (!(sv.toList == (⟨#[]⟩:ByteArray).toList)))] hA fun fr hA=>?_)))))));rcases qV (sv.toList == (⟨#[]⟩:ByteArray).toList) with h3 | h3
 · rw [h3] at hA;refine Ka 5 [] hA fun fr hA=>Ab (Aa (wp_ret (cv [bl false] hA ?_)));have hF:=hO.only; clear hA hO;first | exact ⟨congrArg (fun b=>Ending.returned (.bool b)) (Ls (by assumption) (by omega)).symm,hF⟩ | skip
   all_goals (have ei:i=sv.size:=(by omega))
   all_goals (rw [ei] at ho)
   all_goals (refine ⟨congrArg (fun b=>Ending.returned (.bool b)) ?_,hF⟩)
   all_goals (rw [G6 ho])
   all_goals (have hem:=As sv)
   all_goals (by_cases hz:sv.size=0)
   all_goals (first | rw [qZ hz] at hem | rw [rA hz] at hem)
   all_goals (first | (exfalso; simp_all; done) | exact (qZ (by omega)).symm | exact (rA (by omega)).symm | exact decide_eq_decide.2 (by omega))
 rw [h3] at hA;refine Ka 5 [(2,bl (decide (((sv.size:Nat):Int)<=60)))] hA fun fr hA=>Ab (Aa (wp_ret (cv [bl (decide (((sv.size:Nat):Int)<=60))] hA ?_)));have hF:=hO.only; clear hA hO;first | exact ⟨congrArg (fun b=>Ending.returned (.bool b)) (Ls (by assumption) (by omega)).symm,hF⟩ | skip
 all_goals (have ei:i=sv.size:=(by omega))
 all_goals (rw [ei] at ho)
 all_goals (refine ⟨congrArg (fun b=>Ending.returned (.bool b)) ?_,hF⟩)
 all_goals (rw [G6 ho])
 all_goals (have hem:=As sv)
 all_goals (by_cases hz:sv.size=0)
 all_goals (first | rw [qZ hz] at hem | rw [rA hz] at hem)
 all_goals (first | (exfalso; simp_all; done) | exact (qZ (by omega)).symm | exact (rA (by omega)).symm | exact decide_eq_decide.2 (by omega))
abbrev TP (pb:Nat) (s:ByteArray) (n:Nat):OwL:=[(pb,164,[str s,i64 ((n:Nat):Int),.slice none 0 0])]
abbrev pnc (n:Nat) (e:Int):List PanicEntry:=[{v:= .iface 160 (.agg #[i64 ((n:Nat):Int),i64 e]),recovered:=false}]
theorem Ow.pan {P:Program} {X:Nat->Prop} {w₀ w w':World} {A T B:OwL} (h:Ow P X w₀ w (A++(T++B))) (k:Only (inT T) w w'):Only X w₀ w' :=
 h.only.step k fun i hi hx=>by
  obtain ⟨x,hx,e⟩:=hx;rcases h.m.new x (List.mem_append_right _ (List.mem_append_left _ hx)) with hn | hX
  · omega
  · exact e ▸ hX
theorem Ow.pan0 {P:Program} {X:Nat->Prop} {w₀ w w':World} {L:OwL} (h:Ow P X w₀ w L) (k:Only Ai w w'):Only X w₀ w':=h.only.step k fun i hi hx=>hx.elim
theorem Rx (pb:Nat) (sv:ByteArray) (n:Nat) (w:World) (hn:n<=sv.size) (hs:sv.size<=1000000) (h0:Ow Tryz.prog (inT (TP pb sv n)) w w (TP pb sv n)) :
 Calls Tryz.prog 124 #[pt pb] w fun e w'=>e = .returned (.tuple #[])/\Ow Tryz.prog (inT (TP pb sv n)) w w' (TP pb sv (sk sv n)):=by
 refine An (args:=[pt pb]) (m:=42) (n:=43) Tryz.func124 rfl (by kernel_rfl) (by kernel_rfl) fun fr hA=>?_;have hO:Ow Tryz.prog (inT (TP pb sv n)) w w [(pb,164,[str sv,i64 ((n:Nat):Int),.slice none 0 0])]:=h0;refine wp_block (Bg (fun mm fr W=>∃ (m:Nat),mm=sv.size - m/\Holds 43 [] fr [(0,pt pb)]/\Ow Tryz.prog (inT (TP pb sv n)) w W [(pb,164,[str sv,i64 ((m:Nat):Int),.slice none 0 0])]/\m<=sv.size/\sk sv m=sk sv n/\True) ?_ ?_)
 · exact ⟨_,n,rfl,hA.ss,hO.to,hn,rfl,trivial⟩
 rintro _ fr w1 ⟨m,rfl,hA,hO,hm,hk,-⟩;have hsb:=Ni sv m;refine wp_seq (wp_seq ?_);have hS:=hO;refine rP [(0,true),(1,true),(2,true),(3,true),(4,true),(5,true),(6,true),(7,true),(8,true),(9,true),(10,true),(11,true),(12,true),(13,true),(14,true),(15,true),(16,true),(17,true),(18,true),(19,true),(20,true),(21,true),(22,true),(23,true),(24,true),(25,true),(26,true),(27,true),(28,true),(29,true),(30,true),(31,true),(32,true),(33,true)] hS ?_;intro w2 ho; replace hO:=hO.st ho; clear ho;refine Ke 11 [(11,bl (decide (((m:Nat):Int) < ((sv.size:Nat):Int)))),(12,bl (decide (((m:Nat):Int) < ((sv.size:Nat):Int))))] hA [i64 ((m:Nat):Int),str sv] (cc (hS.s1 0 1 3 (i64 ((m:Nat):Int))) (cc (hS.s1 0 0 9 (str sv)) c0)) fun fr hA=>?_;rcases qV (decide (((m:Nat):Int) < ((sv.size:Nat):Int))) with h1 | h1
 · rw [h1] at hA;have h1p:=qX h1;refine Ke 11 [(12,bl true),(22,bl ((sb sv m) == 32)),(23,bl ((sb sv m) == 32))] hA [str sv,i64 ((m:Nat):Int)] (cc (hS.s1 0 0 9 (str sv)) (cc (hS.s1 0 1 3 (i64 ((m:Nat):Int))) (cc (⟨by omega,by omega⟩:(0:Int)<=((m:Nat):Int)/\((m:Nat):Int) < ((sv.size:Nat):Int)) c0))) fun fr hA=>?_;rcases qV ((sb sv m) == 32) with h2 | h2
   · rw [h2] at hA;have h2p:=eq_of_beq h2;exact Kd 12 [(35,bl true)] hA fun fr hA=>Az (Aa (cT hA (wp_skip (Aa (wp_block (rr 8 (Kb 7 [(40,i64 (((m:Nat):Int)+1)),(42,pf pb 1)] hA [i64 ((m:Nat):Int),bl true] (cc (hO.l1 0 1 3 (i64 ((m:Nat):Int))) (cc ((Am (by omega) (by omega)):inK .i64 (((m:Nat):Int)+1)) c0)) fun fr hA=>Ms 1 [i64 (((m:Nat):Int)+1)] 0 hA hO fun w3 hO=>Ab (Ad (Aa (⟨_,by omega,m+1,rfl,hA.ss,hO.to,(by omega),(by rw [← hk]; refine (Mx (by omega) ?_).symm; unfold De; refine qZ ?_; omega),trivial⟩))))))))))
   rw [h2] at hA;have h2p:=ne_of_beq_false h2;refine Ke 12 [(35,bl ((sb sv m) == 9))] hA [str sv,i64 ((m:Nat):Int)] (cc (hS.s1 0 0 9 (str sv)) (cc (hS.s1 0 1 3 (i64 ((m:Nat):Int))) (cc (⟨by omega,by omega⟩:(0:Int)<=((m:Nat):Int)/\((m:Nat):Int) < ((sv.size:Nat):Int)) c0))) fun fr hA=>Az (Aa ?_);rcases qV ((sb sv m) == 9) with h3 | h3
   · rw [h3] at hA;have h3p:=eq_of_beq h3;exact cT hA (wp_skip (Aa (wp_block (rr 8 (Kb 7 [(40,i64 (((m:Nat):Int)+1)),(42,pf pb 1)] hA [i64 ((m:Nat):Int),bl true] (cc (hO.l1 0 1 3 (i64 ((m:Nat):Int))) (cc ((Am (by omega) (by omega)):inK .i64 (((m:Nat):Int)+1)) c0)) fun fr hA=>Ms 1 [i64 (((m:Nat):Int)+1)] 0 hA hO fun w4 hO=>Ab (Ad (Aa (⟨_,by omega,m+1,rfl,hA.ss,hO.to,(by omega),(by rw [← hk]; refine (Mx (by omega) ?_).symm; unfold De; refine qZ ?_; omega),trivial⟩))))))))
   rw [h3] at hA;have h3p:=ne_of_beq_false h3;refine cF hA (wp_exit (Aj (Aj (Ap (Ff (cv [] hA ?_))))));have e_:sk sv m=m:=H4 (by unfold De; rintro ⟨q1,q2⟩; have q3:=qX q2; omega);rw [← hk,e_];exact ⟨rfl,hO.tt⟩
 rw [h1] at hA;have h1p:=qY h1;refine Kd 23 [(35,bl false)] hA fun fr hA=>Az (Aa (cF hA (wp_exit (Aj (Aj (Ap (Ff (cv [] hA ?_))))))));have e_:sk sv m=m:=H4 (by unfold De; rintro ⟨q1,q2⟩; have q3:=qX q2; omega);rw [← hk,e_];exact ⟨rfl,hO.tt⟩
theorem H7 {s:ByteArray} {n:Nat} (hn:n<=s.size):(s.extract n s.size).size=s.size - n:=by rw [ByteArray.size_extract]; omega
theorem Cd {s:ByteArray} {n i:Nat} (h:i < s.size - n):sb (s.extract n s.size) i=sb s (n+i):=Qq h
theorem Et {a b:ByteArray} (h:a.data.toList=b.data.toList):a=b:=by
 cases a; cases b; simp only at h; exact congrArg ByteArray.mk (Array.toList_inj.1 h)
theorem X9 {s:ByteArray} {n k:Nat} (h:k<=s.size - n):(s.extract n s.size).extract 0 k=s.extract n (n+k):=by
 apply Et;rw [Cy,Cy,Cy];simp only [List.drop_zero,List.take_take];congr 1
 omega
theorem X4 {s:ByteArray} {n k:Nat} (h:wl s n=k) (hk : 0 < k):(s.extract n s.size).extract 0 k=tk s n:=by
 have h1:=nD s n;rw [X9 (by omega)];have h2:=Js.1 (by omega : 0 < wl s n);have h3:=Dh s n;have h4:=Dn s n;unfold tk;rw [show tl s n=k by rcases h3 with h | h | ⟨_,hp,_⟩; {omega}; {omega}; {rw [h2.2] at hp; cases hp}]
theorem Z1 {s:ByteArray} {n:Nat} {x y:UInt8} (h:n+1 < s.size) (hx:sb s n=(x.toNat:Int)) (hy:sb s (n+1)=(y.toNat:Int)):s.extract n (n+2)=⟨#[x,y]⟩:=by
 have h1:=Ya (s.extract n (n+2)) x y;exact Rv (eq_of_beq (h1.trans (qZ ⟨by rw [ByteArray.size_extract]; omega,by rw [Qq (by omega),Nat.add_zero,hx],by rw [Qq (by omega),hy]⟩)))
theorem hasp (s:ByteArray) (x y:UInt8):Lib.hasPrefix s.data.toList [x,y]=decide (2<=s.size/\sb s 0=(x.toNat:Int)/\sb s 1=(y.toNat:Int)):=by
 have hs:=Ar s;have hb:=R0 s 0 x;have hc:=R0 s 1 y;rw [Bool.eq_iff_iff,decide_eq_true_eq];unfold Lib.hasPrefix;match hl:s.data.toList with
 | []=>rw [hl] at hs; simp only [List.length_nil] at hs; simp [List.isPrefixOf]; omega
 | [y']=>rw [hl] at hs; simp only [List.length_cons,List.length_nil] at hs; simp [List.isPrefixOf]; omega
 | x'::y'::r =>
  rw [hl] at hs hb hc;simp only [List.length_cons] at hs;have h1:=hb (by omega);have h2:=hc (by omega);simp only [List.getElem?_cons_zero,List.getElem?_cons_succ,Option.some.injEq] at h1 h2;rw [h1,h2];simp only [List.isPrefixOf,Bool.and_true,Bool.and_eq_true,beq_iff_eq];constructor
  · rintro ⟨rfl,rfl⟩; exact ⟨by omega,rfl,rfl⟩
  · rintro ⟨_,rfl,rfl⟩; exact ⟨rfl,rfl⟩
def Jp (c:Int):Int:=if c=60 then 0 else if c=62 then 1 else if c=59 then 2 else if c=38 then 3 else if c=124 then 4 else -1
theorem Pz (c:Int):Jp c ≥ 0↔c=60\/c=62\/c=59\/c=38\/c=124:=by unfold Jp; (repeat' split) <;> omega
theorem Za {c:Int} (h0 : 0<=c) (h1:c<=255):Lib.indexByte [60,62,59,38,124] c.toNat.toUInt8=Jp c:=by
 obtain ⟨k,rfl⟩:=Int.eq_ofNat_of_zero_le h0;have h2:k < 256:=by omega
 have : ∀ k:Fin 256,Lib.indexByte [60,62,59,38,124] (((k.val:Nat):Int).toNat.toUInt8)=Jp ((k.val:Nat):Int):=by decide +kernel
 exact this ⟨k,h2⟩
theorem fA {s:ByteArray} {n:Nat} (hw:wl s n=0) (h:n < s.size):kd s n≠1:=fun e=>by
 have:=Dn s n;omega
theorem Sy {s:ByteArray} {n:Nat} (hn:n<=s.size) (hw:wl s n=0) (h : 2<=(s.extract n s.size).size/\sb (s.extract n s.size) 0=(62:Int)/\sb (s.extract n s.size) 1=(62:Int)):(⟨#[62,62]⟩:ByteArray)=tk s n:=by
 rw [H7 hn] at h;rw [Cd (by omega),Cd (by omega),Nat.add_zero] at h;have h1:=Dh s n;have h2:=fA hw (by omega);have h3:=Dn s n;unfold tk;rw [show tl s n=2 by omega];exact (Z1 (by omega) (show sb s n=62 by omega) (show sb s (n+1)=62 by omega)).symm
theorem Py {s:ByteArray} {n:Nat} (hn:n<=s.size) (hw:wl s n=0) (h : ¬ (2<=(s.extract n s.size).size/\sb (s.extract n s.size) 0=(62:Int)/\sb (s.extract n s.size) 1=(62:Int))) (h0 : ¬ (s.extract n s.size).size=0) (hm:Jp (sb (s.extract n s.size) 0) ≥ 0):(s.extract n s.size).extract 0 1=tk s n:=by
 rw [H7 hn] at h h0;have hq : 2<=s.size - n->sb (s.extract n s.size) 1=sb s (n+1):=fun q=>Cd (by omega);rw [Cd (by omega),Nat.add_zero] at h hm;have h1:=Dh s n;have h2:=fA hw (by omega);have h3:=Dn s n;have h4:=(Pz _).1 hm;unfold tk;rw [show tl s n=1 by omega];exact X9 (by omega)
theorem H9 {s:ByteArray} {n:Nat} (hn:n<=s.size) (hw:wl s n=0) (h : ¬ (2<=(s.extract n s.size).size/\sb (s.extract n s.size) 0=(62:Int)/\sb (s.extract n s.size) 1=(62:Int))) (hm : ¬ (s.extract n s.size).size=0->¬ Jp (sb (s.extract n s.size) 0) ≥ 0):(⟨#[]⟩:ByteArray)=tk s n:=by
 rw [H7 hn] at h hm;have h1:=Dh s n;have h3:=Dn s n
 have ht:tl s n=0:=by
  by_cases hlt:n < s.size
  · have h2:=fA hw hlt;have hq0:sb (s.extract n s.size) 0=sb s n:=by rw [Cd (by omega),Nat.add_zero]
    have hq1 : 2<=s.size - n->sb (s.extract n s.size) 1=sb s (n+1):=fun q=>Cd (by omega);rw [hq0] at hm;have h4 : ¬ (sb s n=60\/sb s n=62\/sb s n=59\/sb s n=38\/sb s n=124):=fun q=>hm (by omega) ((Pz _).2 q);by_cases h5 : 2<=s.size - n
    · have h6:=hq1 h5;omega
    · omega
  · omega
 unfold tk;rw [ht];exact (Et (by rw [Cy]; simp))
theorem Db (pb:Nat) (sv:ByteArray) (n:Nat) (w:World) (hn:n<=sv.size) (hs:sv.size<=1000000) (hB:Blk w pb 164 [str sv,i64 ((n:Nat):Int),.slice none 0 0]) :
 Calls Tryz.prog 126 #[pt pb] w fun e w'=>e = .returned (str (tk sv n))/\Only Ai w w':=by
 refine An (args:=[pt pb]) (m:=45) (n:=46) Tryz.func126 rfl (by kernel_rfl) (by kernel_rfl) fun fr hA=>?_;have hO:=Ow.nil Tryz.prog Ai w;have hrs:=H7 hn;refine Sa [(2,str (⟨#[]⟩))] hA fun fr hA=>wp_seq ?_;have hS:=hO;refine rP [(0,true),(1,true),(2,true),(3,true),(4,true),(5,true),(6,true),(7,true),(8,true),(9,true)] hS ?_;intro w1 ho; replace hO:=hO.st ho; clear ho;refine Ke 10 [(3,str (sv.extract n sv.size))] hA [str sv,i64 ((n:Nat):Int)] (cc (hS.sx ⟨pb,0,none⟩ 9 (str sv) fun _ hO=>((hB.keep hO.only (fun h=>h)).ld1 (i:=0) (by kernel_rfl) (by kernel_rfl))) (cc (hS.sx ⟨pb,1,none⟩ 3 (i64 ((n:Nat):Int)) fun _ hO=>((hB.keep hO.only (fun h=>h)).ld1 (i:=1) (by kernel_rfl) (by kernel_rfl))) (cc (⟨by omega,by omega,by omega⟩:(0:Int)<=((n:Nat):Int)/\(((n:Nat):Int):Int)<=((sv.size:Nat):Int)/\(((sv.size:Nat):Int):Int)<=((sv.size:Nat):Int)) c0))) fun fr hA=>Az (Aa (Sa [(4,i64 0)] hA fun fr hA=>wp_seq (wp_block (Bg (fun mm fr W=>∃ (i:Nat),mm=sv.size - n - i/\Holds 46 [] fr [(2,str (⟨#[]⟩)),(3,str (sv.extract n sv.size)),(4,i64 ((i:Nat):Int))]/\Ow Tryz.prog Ai w W []/\n+i<=sv.size/\wl sv (n+i)+i=wl sv n/\True) ?_ ?_))))
 · exact ⟨_,0,rfl,hA.ss,hO.to,(by omega),rfl,trivial⟩
 rintro _ fr w2 ⟨i,rfl,hA,hO,hi,hk,-⟩;have hsb:=Ni (sv.extract n sv.size) i;refine wp_seq (sr 10 (Ka 5 [(17,bl (decide (((i:Nat):Int) < (((sv.extract n sv.size).size:Nat):Int)))),(18,bl (decide (((i:Nat):Int) < (((sv.extract n sv.size).size:Nat):Int))))] hA fun fr hA=>?_));rcases qV (decide (((i:Nat):Int) < (((sv.extract n sv.size).size:Nat):Int))) with h1 | h1
 · rw [h1] at hA;have h1p:=qX h1;refine Kb 3 [(18,bl true),(21,u8 (sb (sv.extract n sv.size) i))] hA [] (cc (⟨by omega,by omega⟩:(0:Int)<=((i:Nat):Int)/\((i:Nat):Int) < (((sv.extract n sv.size).size:Nat):Int)) c0) fun fr hA=>Mk 22 hA hO Tryz.func115 (Hq (sb (sv.extract n sv.size) i) _ (by omega) (by omega)) fun fr w3 hA hO=>Ka 1 [(23,bl (Ba (sb (sv.extract n sv.size) i)))] hA fun fr hA=>Ab (Aa ?_);rcases qV (Ba (sb (sv.extract n sv.size) i)) with h2 | h2
   · rw [h2] at hA;exact cT hA (wp_skip (Aa (wp_block (Rc [(4,i64 (((i:Nat):Int)+1))] hA [bl true] (cc ((Am (by omega) (by omega)):inK .i64 (((i:Nat):Int)+1)) c0) fun fr hA=>Ad (Aa (⟨_,by omega,i+1,rfl,hA.ss,hO.to,(by omega),(by rw [← hk,Mr (n:=n+i) (by omega) (by rw [← Cd (by omega)]; assumption)]; rw [Nat.add_assoc n i 1]; omega),trivial⟩))))))
   rw [h2] at hA;refine cF hA (wp_exit (Aj (Aj (Ap (Aa (wp_seq (wp_block (Sa [(26,bl (decide (((i:Nat):Int) > 0)))] hA fun fr hA=>?_))))))));rcases qV (decide (((i:Nat):Int) > 0)) with h3 | h3
   · rw [h3] at hA;have h3p:=qX h3;refine cT hA (Sb [(2,str ((sv.extract n sv.size).extract 0 i))] hA [] (cc (⟨by omega,by omega,by omega⟩:(0:Int)<=0/\(0:Int)<=((i:Nat):Int)/\(((i:Nat):Int):Int)<=(((sv.extract n sv.size).size:Nat):Int)) c0) fun fr hA=>wp_ret (Ae (Ac (cv [str ((sv.extract n sv.size).extract 0 i)] hA ?_))));have hF:=hO.only; clear hA hO;refine ⟨congrArg (fun b=>Ending.returned (str b)) ?_,hF⟩;have hw:wl sv (n+i)=0:=Ev (by rintro ⟨q1,q2⟩; have q3:i < sv.size - n:=(by omega); rw [← Cd q3] at q2; simp_all);have hki:wl sv n=i:=(by omega);exact X4 hki (by omega)
   rw [h3] at hA;have h3p:=qY h3;refine cF hA (sr 3 (Ka 1 [(33,str (sv.extract n sv.size))] hA fun fr hA=>Mk 34 hA hO Tryz.func136 (rs (Jq (sv.extract n sv.size) (⟨#[62,62]⟩:ByteArray) _) (congrArg Value.bool (hasp _ 62 62))) fun fr w4 hA hO=>Ka 1 [(32,bl (decide (2<=(sv.extract n sv.size).size/\sb (sv.extract n sv.size) 0=(62:Int)/\sb (sv.extract n sv.size) 1=(62:Int))))] hA fun fr hA=>Ab (Aa ?_)));rcases qV (decide (2<=(sv.extract n sv.size).size/\sb (sv.extract n sv.size) 0=(62:Int)/\sb (sv.extract n sv.size) 1=(62:Int))) with h4 | h4
   · rw [h4] at hA;have h4p:=qX h4;refine cT hA (Sa [(2,str (⟨#[62,62]⟩))] hA fun fr hA=>wp_ret (Ae (Ac (cv [str (⟨#[62,62]⟩)] hA ?_))));have hF:=hO.only; clear hA hO;refine ⟨congrArg (fun b=>Ending.returned (str b)) ?_,hF⟩;have hw:wl sv (n+i)=0:=Ev (by rintro ⟨q1,q2⟩; have q3:i < sv.size - n:=(by omega); rw [← Cd q3] at q2; simp_all);have hki:wl sv n=i:=(by omega);have hw0:wl sv n=0:=(by omega);exact Sy hn hw0 (by assumption)
   rw [h4] at hA;have h4p:=qY h4;refine cF hA (sr 9 (Ka 3 [(37,bl (!((sv.extract n sv.size).toList == (⟨#[]⟩:ByteArray).toList))),(38,bl (!((sv.extract n sv.size).toList == (⟨#[]⟩:ByteArray).toList)))] hA fun fr hA=>?_));rw [(As (sv.extract n sv.size):((sv.extract n sv.size).toList == (⟨#[]⟩:ByteArray).toList)=(decide ((sv.extract n sv.size).size=0)))] at hA;rcases qV (decide ((sv.extract n sv.size).size=0)) with h5 | h5
   · rw [h5] at hA;have h5p:=qX h5;refine Ka 6 [(35,bl false)] hA fun fr hA=>Ab (Aa (cF hA (wp_skip (Ad (Aa (Sa [] hA fun fr hA=>wp_ret (cv [str (⟨#[]⟩)] hA ?_)))))));have hF:=hO.only; clear hA hO;refine ⟨congrArg (fun b=>Ending.returned (str b)) ?_,hF⟩;have hw:wl sv (n+i)=0:=Ev (by rintro ⟨q1,q2⟩; have q3:i < sv.size - n:=(by omega); rw [← Cd q3] at q2; simp_all);have hki:wl sv n=i:=(by omega);have hw0:wl sv n=0:=(by omega);exact H9 hn hw0 (by assumption) (fun h=>by first | assumption | exact absurd (by assumption) h)
   rw [h5] at hA;have h5p:=qY h5;refine Kb 2 [(38,bl true),(40,u8 (sb (sv.extract n sv.size) 0))] hA [] (cc (⟨by omega,by omega⟩:(0:Int)<=0/\0 < (((sv.extract n sv.size).size:Nat):Int)) c0) fun fr hA=>Mk 41 hA hO Tryz.func91 (rs (Cq (⟨#[60,62,59,38,124]⟩:ByteArray) (sb (sv.extract n sv.size) 0) _) (congrArg (Value.int .i64) (Za (by have:=Ni (sv.extract n sv.size) 0; omega) (by have:=Ni (sv.extract n sv.size) 0; omega)))) fun fr w5 hA hO=>Ka 3 [(35,bl (decide ((Jp (sb (sv.extract n sv.size) 0)) ≥ 0)))] hA fun fr hA=>Ab (Aa ?_);rcases qV (decide ((Jp (sb (sv.extract n sv.size) 0)) ≥ 0)) with h6 | h6
   · rw [h6] at hA;have h6p:=qX h6;refine cT hA (Sb [(2,str ((sv.extract n sv.size).extract 0 1))] hA [] (cc (⟨by omega,by omega,by omega⟩:(0:Int)<=0/\(0:Int)<=1/\(1:Int)<=(((sv.extract n sv.size).size:Nat):Int)) c0) fun fr hA=>wp_ret (Ae (Ac (cv [str ((sv.extract n sv.size).extract 0 1)] hA ?_))));have hF:=hO.only; clear hA hO;refine ⟨congrArg (fun b=>Ending.returned (str b)) ?_,hF⟩;have hw:wl sv (n+i)=0:=Ev (by rintro ⟨q1,q2⟩; have q3:i < sv.size - n:=(by omega); rw [← Cd q3] at q2; simp_all);have hki:wl sv n=i:=(by omega);have hw0:wl sv n=0:=(by omega);exact Py hn hw0 (by assumption) (by assumption) (by assumption)
   rw [h6] at hA;have h6p:=qY h6;refine cF hA (wp_skip (Ad (Aa (Sa [] hA fun fr hA=>wp_ret (cv [str (⟨#[]⟩)] hA ?_)))));have hF:=hO.only; clear hA hO;refine ⟨congrArg (fun b=>Ending.returned (str b)) ?_,hF⟩;have hw:wl sv (n+i)=0:=Ev (by rintro ⟨q1,q2⟩; have q3:i < sv.size - n:=(by omega); rw [← Cd q3] at q2; simp_all);have hki:wl sv n=i:=(by omega);have hw0:wl sv n=0:=(by omega);exact H9 hn hw0 (by assumption) (fun h=>by first | assumption | exact absurd (by assumption) h)
 rw [h1] at hA;have h1p:=qY h1;refine Ka 5 [(23,bl false)] hA fun fr hA=>Ab (Aa (cF hA (wp_exit (Aj (Aj (Ap (Aa (wp_seq (wp_block (Sa [(26,bl (decide (((i:Nat):Int) > 0)))] hA fun fr hA=>?_))))))))));rcases qV (decide (((i:Nat):Int) > 0)) with h7 | h7
 · rw [h7] at hA;have h7p:=qX h7;refine cT hA (Sb [(2,str ((sv.extract n sv.size).extract 0 i))] hA [] (cc (⟨by omega,by omega,by omega⟩:(0:Int)<=0/\(0:Int)<=((i:Nat):Int)/\(((i:Nat):Int):Int)<=(((sv.extract n sv.size).size:Nat):Int)) c0) fun fr hA=>wp_ret (Ae (Ac (cv [str ((sv.extract n sv.size).extract 0 i)] hA ?_))));have hF:=hO.only; clear hA hO;refine ⟨congrArg (fun b=>Ending.returned (str b)) ?_,hF⟩;have hw:wl sv (n+i)=0:=Ev (by rintro ⟨q1,q2⟩; have q3:i < sv.size - n:=(by omega); rw [← Cd q3] at q2; simp_all);have hki:wl sv n=i:=(by omega);exact X4 hki (by omega)
 rw [h7] at hA;have h7p:=qY h7;refine cF hA (sr 3 (Ka 1 [(33,str (sv.extract n sv.size))] hA fun fr hA=>Mk 34 hA hO Tryz.func136 (rs (Jq (sv.extract n sv.size) (⟨#[62,62]⟩:ByteArray) _) (congrArg Value.bool (hasp _ 62 62))) fun fr w6 hA hO=>Ka 1 [(32,bl (decide (2<=(sv.extract n sv.size).size/\sb (sv.extract n sv.size) 0=(62:Int)/\sb (sv.extract n sv.size) 1=(62:Int))))] hA fun fr hA=>Ab (Aa ?_)));rcases qV (decide (2<=(sv.extract n sv.size).size/\sb (sv.extract n sv.size) 0=(62:Int)/\sb (sv.extract n sv.size) 1=(62:Int))) with h8 | h8
 · rw [h8] at hA;have h8p:=qX h8;refine cT hA (Sa [(2,str (⟨#[62,62]⟩))] hA fun fr hA=>wp_ret (Ae (Ac (cv [str (⟨#[62,62]⟩)] hA ?_))));have hF:=hO.only; clear hA hO;refine ⟨congrArg (fun b=>Ending.returned (str b)) ?_,hF⟩;have hw:wl sv (n+i)=0:=Ev (by rintro ⟨q1,q2⟩; have q3:i < sv.size - n:=(by omega); rw [← Cd q3] at q2; simp_all);have hki:wl sv n=i:=(by omega);have hw0:wl sv n=0:=(by omega);exact Sy hn hw0 (by assumption)
 rw [h8] at hA;have h8p:=qY h8;refine cF hA (sr 9 (Ka 3 [(37,bl (!((sv.extract n sv.size).toList == (⟨#[]⟩:ByteArray).toList))),(38,bl (!((sv.extract n sv.size).toList == (⟨#[]⟩:ByteArray).toList)))] hA fun fr hA=>?_));rw [(As (sv.extract n sv.size):((sv.extract n sv.size).toList == (⟨#[]⟩:ByteArray).toList)=(decide ((sv.extract n sv.size).size=0)))] at hA;rcases qV (decide ((sv.extract n sv.size).size=0)) with h9 | h9
 · rw [h9] at hA;have h9p:=qX h9;refine Ka 6 [(35,bl false)] hA fun fr hA=>Ab (Aa (cF hA (wp_skip (Ad (Aa (Sa [] hA fun fr hA=>wp_ret (cv [str (⟨#[]⟩)] hA ?_)))))));have hF:=hO.only; clear hA hO;refine ⟨congrArg (fun b=>Ending.returned (str b)) ?_,hF⟩;have hw:wl sv (n+i)=0:=Ev (by rintro ⟨q1,q2⟩; have q3:i < sv.size - n:=(by omega); rw [← Cd q3] at q2; simp_all);have hki:wl sv n=i:=(by omega);have hw0:wl sv n=0:=(by omega);exact H9 hn hw0 (by assumption) (fun h=>by first | assumption | exact absurd (by assumption) h)
 rw [h9] at hA;have h9p:=qY h9;refine Kb 2 [(38,bl true),(40,u8 (sb (sv.extract n sv.size) 0))] hA [] (cc (⟨by omega,by omega⟩:(0:Int)<=0/\0 < (((sv.extract n sv.size).size:Nat):Int)) c0) fun fr hA=>Mk 41 hA hO Tryz.func91 (rs (Cq (⟨#[60,62,59,38,124]⟩:ByteArray) (sb (sv.extract n sv.size) 0) _) (congrArg (Value.int .i64) (Za (by have:=Ni (sv.extract n sv.size) 0; omega) (by have:=Ni (sv.extract n sv.size) 0; omega)))) fun fr w7 hA hO=>Ka 3 [(35,bl (decide ((Jp (sb (sv.extract n sv.size) 0)) ≥ 0)))] hA fun fr hA=>Ab (Aa ?_);rcases qV (decide ((Jp (sb (sv.extract n sv.size) 0)) ≥ 0)) with h10 | h10
 · rw [h10] at hA;have h10p:=qX h10;refine cT hA (Sb [(2,str ((sv.extract n sv.size).extract 0 1))] hA [] (cc (⟨by omega,by omega,by omega⟩:(0:Int)<=0/\(0:Int)<=1/\(1:Int)<=(((sv.extract n sv.size).size:Nat):Int)) c0) fun fr hA=>wp_ret (Ae (Ac (cv [str ((sv.extract n sv.size).extract 0 1)] hA ?_))));have hF:=hO.only; clear hA hO;refine ⟨congrArg (fun b=>Ending.returned (str b)) ?_,hF⟩;have hw:wl sv (n+i)=0:=Ev (by rintro ⟨q1,q2⟩; have q3:i < sv.size - n:=(by omega); rw [← Cd q3] at q2; simp_all);have hki:wl sv n=i:=(by omega);have hw0:wl sv n=0:=(by omega);exact Py hn hw0 (by assumption) (by assumption) (by assumption)
 rw [h10] at hA;have h10p:=qY h10;refine cF hA (wp_skip (Ad (Aa (Sa [] hA fun fr hA=>wp_ret (cv [str (⟨#[]⟩)] hA ?_)))));have hF:=hO.only; clear hA hO;refine ⟨congrArg (fun b=>Ending.returned (str b)) ?_,hF⟩;have hw:wl sv (n+i)=0:=Ev (by rintro ⟨q1,q2⟩; have q3:i < sv.size - n:=(by omega); rw [← Cd q3] at q2; simp_all);have hki:wl sv n=i:=(by omega);have hw0:wl sv n=0:=(by omega);exact H9 hn hw0 (by assumption) (fun h=>by first | assumption | exact absurd (by assumption) h)
theorem Nc (pb:Nat) (sv:ByteArray) (n:Nat) (w:World) (hn:n<=sv.size) (hs:sv.size<=1000000) (t:ByteArray) (ht:n+t.size<=sv.size) (h0:Ow Tryz.prog (inT (TP pb sv n)) w w (TP pb sv n)) :
 Calls Tryz.prog 129 #[pt pb,str t] w fun e w'=>e = .returned (.tuple #[])/\Ow Tryz.prog (inT (TP pb sv n)) w w' (TP pb sv (sk sv (n+t.size))):=by
 refine An (args:=[pt pb,str t]) (m:=13) (n:=15) Tryz.func129 rfl (by kernel_rfl) (by kernel_rfl) fun fr hA=>?_;have hO:Ow Tryz.prog (inT (TP pb sv n)) w w [(pb,164,[str sv,i64 ((n:Nat):Int),.slice none 0 0])]:=h0;refine sr 10 (Kb 9 [(10,i64 (((n:Nat):Int)+((t.size:Nat):Int))),(12,pf pb 1)] hA [i64 ((n:Nat):Int),bl true] (cc (hO.l1 0 1 3 (i64 ((n:Nat):Int))) (cc ((Am (by omega) (by omega)):inK .i64 (((n:Nat):Int)+((t.size:Nat):Int))) c0)) fun fr hA=>Ms 1 [i64 (((n:Nat):Int)+((t.size:Nat):Int))] 0 hA hO fun w1 hO=>Ab (Aa (rr 2 (Ka 1 [(13,pt pb)] hA fun fr hA=>Ag (mC (d:=(some 14)) hA Tryz.func124 ((Rx pb sv (n+t.size) _ (by omega) (by omega) (Ow.self (A:=[]) (hO.tt))).mono ?_))))));rintro en w2 ⟨rfl,hW⟩;refine ⟨_,rfl,?_⟩;clear hA fr; intro fr hA;replace hO:=Ow.pass (A:=[]) hO hW; clear hW;exact Ab (Ff (cv [] hA (⟨rfl,hO.tt⟩)))
theorem Q4 {s:ByteArray} {n:Nat} (h : ¬ (kd s n=0\/kd s n=8)):Ba (sb (tk s n) 0)=decide (kd s n=1):=by
 have h1:=Dh s n;have h2:=Dn s n;rw [L4 (by omega),Nat.add_zero];rcases h1 with h1 | ⟨h1,_,h3⟩ | ⟨h1,h3,h4⟩
 · omega
 · rw [h3]; exact (qZ h1).symm
 rw [h3]; exact (rA (by omega)).symm
theorem mM {s:ByteArray} {n:Nat} (h : ¬ (kd s n=0\/kd s n=8)) (h1:kd s n≠1):(sb (tk s n) 0=60↔kd s n=2)/\(sb (tk s n) 0=62↔kd s n=3\/kd s n=4):=by
 have h3:=Dh s n;have h2:=Dn s n;rw [L4 (by omega),Nat.add_zero];omega
theorem J8 (sv:ByteArray) (n:Nat) (w:World) :
 Calls Tryz.prog 125 #[str (tk sv n)] w fun e w'=>e = .returned (.bool (C4 (kd sv n)))/\Only Ai w w':=by
 refine An (args:=[str (tk sv n)]) (m:=19) (n:=20) Tryz.func125 rfl (by kernel_rfl) (by kernel_rfl) fun fr hA=>?_;have hO:=Ow.nil Tryz.prog Ai w;have htl:=Dn sv n;have htz:=D6 sv n;have hsb:=Ni (tk sv n) 0;have hby:=fun (q1 : ¬ (kd sv n=0\/kd sv n=8)) (q2:kd sv n≠1)=>mM q1 q2;refine Sa [(2,bl false)] hA fun fr hA=>sr 18 (Ka 3 [(4,bl (!((tk sv n).toList == (⟨#[]⟩:ByteArray).toList))),(5,bl (!((tk sv n).toList == (⟨#[]⟩:ByteArray).toList)))] hA fun fr hA=>?_);rw [(X6 sv n:((tk sv n).toList == (⟨#[]⟩:ByteArray).toList)=(decide (kd sv n=0\/kd sv n=8)))] at hA;rcases qV (decide (kd sv n=0\/kd sv n=8)) with h1 | h1
 · rw [h1] at hA;have h1p:=qX h1;refine Ka 15 [] hA fun fr hA=>Ab (Aa (wp_ret (cv [bl false] hA ?_)));have hF:=hO.only; clear hA hO;refine ⟨congrArg (fun b=>Ending.returned (.bool b)) ?_,hF⟩;unfold C4;by_cases q1:kd sv n=0\/kd sv n=8
   · first | exact (rA (by omega)).symm | (exfalso; omega)
   by_cases q2:kd sv n=1
   · first | exact (qZ (by omega)).symm | (exfalso; omega)
   have q3:=hby q1 q2;first | exact (qZ (by omega)).symm | exact (rA (by omega)).symm | (rw [Bool.eq_iff_iff]; simp only [beq_iff_eq,decide_eq_true_eq]; omega)
 rw [h1] at hA;have h1p:=qY h1;refine Kb 2 [(5,bl true),(7,u8 (sb (tk sv n) 0))] hA [] (cc (⟨by omega,by omega⟩:(0:Int)<=0/\0 < (((tk sv n).size:Nat):Int)) c0) fun fr hA=>Mk 8 hA hO Tryz.func115 (Hq (sb (tk sv n) 0) _ (by omega) (by omega)) fun fr w1 hA hO=>Ka 1 [(9,bl (Ba (sb (tk sv n) 0)))] hA fun fr hA=>?_;rw [(Q4 (by omega):(Ba (sb (tk sv n) 0))=(decide (kd sv n=1)))] at hA;rcases qV (decide (kd sv n=1)) with h2 | h2
 · rw [h2] at hA;have h2p:=qX h2;refine Ka 11 [(2,bl true)] hA fun fr hA=>Ab (Aa (wp_ret (cv [bl true] hA ?_)));have hF:=hO.only; clear hA hO;refine ⟨congrArg (fun b=>Ending.returned (.bool b)) ?_,hF⟩;unfold C4;by_cases q1:kd sv n=0\/kd sv n=8
   · first | exact (rA (by omega)).symm | (exfalso; omega)
   by_cases q2:kd sv n=1
   · first | exact (qZ (by omega)).symm | (exfalso; omega)
   have q3:=hby q1 q2;first | exact (qZ (by omega)).symm | exact (rA (by omega)).symm | (rw [Bool.eq_iff_iff]; simp only [beq_iff_eq,decide_eq_true_eq]; omega)
 rw [h2] at hA;have h2p:=qY h2;refine Kb 5 [(12,bl ((sb (tk sv n) 0) == 60)),(13,bl ((sb (tk sv n) 0) == 60)),(14,bl ((sb (tk sv n) 0) == 60))] hA [] (cc (⟨by omega,by omega⟩:(0:Int)<=0/\0 < (((tk sv n).size:Nat):Int)) c0) fun fr hA=>?_;rcases qV ((sb (tk sv n) 0) == 60) with h3 | h3
 · rw [h3] at hA;have h3p:=eq_of_beq h3;refine Ka 6 [(2,bl true)] hA fun fr hA=>Ab (Aa (wp_ret (cv [bl true] hA ?_)));have hF:=hO.only; clear hA hO;refine ⟨congrArg (fun b=>Ending.returned (.bool b)) ?_,hF⟩;unfold C4;by_cases q1:kd sv n=0\/kd sv n=8
   · first | exact (rA (by omega)).symm | (exfalso; omega)
   by_cases q2:kd sv n=1
   · first | exact (qZ (by omega)).symm | (exfalso; omega)
   have q3:=hby q1 q2;first | exact (qZ (by omega)).symm | exact (rA (by omega)).symm | (rw [Bool.eq_iff_iff]; simp only [beq_iff_eq,decide_eq_true_eq]; omega)
 rw [h3] at hA;have h3p:=ne_of_beq_false h3;refine Kb 6 [(2,bl ((sb (tk sv n) 0) == 62))] hA [] (cc (⟨by omega,by omega⟩:(0:Int)<=0/\0 < (((tk sv n).size:Nat):Int)) c0) fun fr hA=>Ab (Aa (wp_ret (cv [bl ((sb (tk sv n) 0) == 62)] hA ?_)));have hF:=hO.only; clear hA hO;refine ⟨congrArg (fun b=>Ending.returned (.bool b)) ?_,hF⟩;unfold C4;by_cases q1:kd sv n=0\/kd sv n=8
 · first | exact (rA (by omega)).symm | (exfalso; omega)
 by_cases q2:kd sv n=1
 · first | exact (qZ (by omega)).symm | (exfalso; omega)
 have q3:=hby q1 q2;first | exact (qZ (by omega)).symm | exact (rA (by omega)).symm | (rw [Bool.eq_iff_iff]; simp only [beq_iff_eq,decide_eq_true_eq]; omega)
theorem C2 (pb:Nat) (sv:ByteArray) (n:Nat) (w:World) (hn:n<=sv.size) (hs:sv.size<=1000000) (er:Int) (hB:Blk w pb 164 [str sv,i64 ((n:Nat):Int),.slice none 0 0]) :
 Calls Tryz.prog 127 #[pt pb,i64 er] w fun e w'=>e = .panicked (pnc n er)/\Only Ai w w':=by
 refine An (args:=[pt pb,i64 er]) (m:=9) (n:=11) Tryz.func127 rfl (by kernel_rfl) (by kernel_rfl) fun fr hA=>?_;have hO:=Ow.nil Tryz.prog Ai w;refine rr 8 (Kb 7 [(10,.iface 160 (.agg #[i64 ((n:Nat):Int),i64 er]))] hA [i64 ((n:Nat):Int)] (cc (((hB.keep hO.only (fun h=>h)).ld1 (i:=1) (by kernel_rfl) (by kernel_rfl)):Ld Tryz.prog w ⟨pb,1,none⟩ 3 (i64 ((n:Nat):Int))) c0) fun fr hA=>Ag (kD (t:=160) (v:=(.agg #[i64 ((n:Nat):Int),i64 er])) hA ?_));show _/\_;exact ⟨hA.dfr,rfl,hO.only⟩
abbrev PP {α:Type} (r:PR α) (T:OwL) (w w':World) (e:Ending) (ok : α->Nat->Prop):Prop :=
 (∃ a b,r = .error (a,b)/\e = .panicked (pnc a b)/\Only (inT T) w w')\/∃ v m,r = .ok (v,m)/\ok v m
theorem Cx {s:ByteArray} {n m:Nat} {v:ByteArray} (hn:n<=s.size) (h:Ct s n = .ok (v,m)):v=tk s n/\m=nx s n/\m<=s.size/\n < m/\kd s n=1/\v.size<=60/\1<=v.size:=by
 unfold Ct at h;split at h
 · cases h
 rename_i h1
 split at h
 · cases h
 rename_i h2
 cases h;have h3:=D6 s n;have h4:=Dn s n;exact ⟨rfl,rfl,Hg hn,Px (by omega),by omega,by omega,by omega⟩
theorem Dm (pb:Nat) (sv:ByteArray) (n:Nat) (w:World) (hn:n<=sv.size) (hs:sv.size<=1000000) (h0:Ow Tryz.prog (inT (TP pb sv n)) w w (TP pb sv n)) :
 Calls Tryz.prog 143 #[pt pb] w fun e w'=>PP (Ct sv n) (TP pb sv n) w w' e fun v m=>e = .returned (str v)/\Ow Tryz.prog (inT (TP pb sv n)) w w' (TP pb sv m):=by
 refine An (args:=[pt pb]) (m:=26) (n:=27) Tryz.func143 rfl (by kernel_rfl) (by kernel_rfl) fun fr hA=>?_;have hO:Ow Tryz.prog (inT (TP pb sv n)) w w [(pb,164,[str sv,i64 ((n:Nat):Int),.slice none 0 0])]:=h0;have htl:=Dn sv n;have htz:=D6 sv n;have hsb:=Ni (tk sv n) 0;refine Sa [(2,str (⟨#[]⟩))] hA fun fr hA=>sr 3 (Ka 1 [(4,pt pb)] hA fun fr hA=>Mk 5 hA hO Tryz.func126 (Db pb sv n _ (by omega) (by omega) (hO.b 0)) fun fr w1 hA hO=>Ka 1 [(3,str (tk sv n))] hA fun fr hA=>Ab (Aa (wp_seq (wp_block (sr 9 (Ka 3 [(8,bl ((tk sv n).toList == (⟨#[]⟩:ByteArray).toList)),(9,bl ((tk sv n).toList == (⟨#[]⟩:ByteArray).toList))] hA fun fr hA=>?_))))));rw [(X6 sv n:((tk sv n).toList == (⟨#[]⟩:ByteArray).toList)=(decide (kd sv n=0\/kd sv n=8)))] at hA;rcases qV (decide (kd sv n=0\/kd sv n=8)) with h1 | h1
 · rw [h1] at hA;have h1p:=qX h1;refine Ka 6 [(6,bl true)] hA fun fr hA=>Ab (Aa (cT hA (rr 2 (Ka 1 [(15,pt pb)] hA fun fr hA=>Ag (mP (d:=(some 16)) hA Tryz.func127 ((C2 pb sv n _ (by omega) (by omega) 3 (hO.b 0)).mono ?_))))));rintro en w2 ⟨rfl,hW⟩;refine .inr ⟨_,rfl,?_⟩;show _/\_;exact ⟨hA.dfr,Or.inl ⟨_,_,(by unfold Ct; rw [if_pos (by omega)]),rfl,Ow.pan0 hO hW⟩⟩
 rw [h1] at hA;have h1p:=qY h1;refine Kb 2 [(9,bl false),(11,u8 (sb (tk sv n) 0))] hA [] (cc (⟨by omega,by omega⟩:(0:Int)<=0/\0 < (((tk sv n).size:Nat):Int)) c0) fun fr hA=>Mk 12 hA hO Tryz.func115 (Hq (sb (tk sv n) 0) _ (by omega) (by omega)) fun fr w3 hA hO=>Ka 3 [(6,bl (!(Ba (sb (tk sv n) 0))))] hA fun fr hA=>?_;rw [(Q4 (by omega):(Ba (sb (tk sv n) 0))=(decide (kd sv n=1)))] at hA;refine Ab (Aa ?_);rcases qV (decide (kd sv n=1)) with h2 | h2
 · rw [h2] at hA;have h2p:=qX h2;refine cF hA (Sa [(17,bl (decide ((((tk sv n).size:Nat):Int) > 60)))] hA fun fr hA=>?_);rcases qV (decide ((((tk sv n).size:Nat):Int) > 60)) with h3 | h3
   · rw [h3] at hA;have h3p:=qX h3;refine cT hA (rr 2 (Ka 1 [(21,pt pb)] hA fun fr hA=>Ag (mP (d:=(some 22)) hA Tryz.func127 ((C2 pb sv n _ (by omega) (by omega) 6 (hO.b 0)).mono ?_))));rintro en w4 ⟨rfl,hW⟩;refine .inr ⟨_,rfl,?_⟩;show _/\_;exact ⟨hA.dfr,Or.inl ⟨_,_,(by unfold Ct; rw [if_neg (by omega),if_pos (by omega)]),rfl,Ow.pan0 hO hW⟩⟩
   rw [h3] at hA;have h3p:=qY h3;refine cF hA (wp_skip (Ad (Aa (sr 3 (Ka 2 [(23,pt pb),(24,str (tk sv n))] hA fun fr hA=>Ag (mC (d:=(some 25)) hA Tryz.func129 ((Nc pb sv n _ (by omega) (by omega) (tk sv n) (by first | omega | (have:=D6 sv n; have:=Rw sv n; omega)) (Ow.self (A:=[]) (hO.tt))).mono ?_)))))));rintro en w5 ⟨rfl,hW⟩;refine ⟨_,rfl,?_⟩;clear hA fr; intro fr hA;replace hO:=Ow.pass (A:=[]) hO hW; clear hW;exact Ab (Aa (Sa [(2,str (tk sv n))] hA fun fr hA=>wp_ret (cv [str (tk sv n)] hA (Or.inr ⟨_,_,by unfold Ct; rw [if_neg (by omega),if_neg (by omega)],rfl,by unfold nx; rw [← htz]; exact hO⟩))))
 rw [h2] at hA;have h2p:=qY h2;refine cT hA (rr 2 (Ka 1 [(15,pt pb)] hA fun fr hA=>Ag (mP (d:=(some 16)) hA Tryz.func127 ((C2 pb sv n _ (by omega) (by omega) 3 (hO.b 0)).mono ?_))));rintro en w6 ⟨rfl,hW⟩;refine .inr ⟨_,rfl,?_⟩;show _/\_;exact ⟨hA.dfr,Or.inl ⟨_,_,(by unfold Ct; rw [if_pos (by omega)]),rfl,Ow.pan0 hO hW⟩⟩
open Go Go.RowKit Go.Proofs.Sx
structure CV where
 p:Option Addr
 c:Nat
 d:CmdL
structure JV where
 p:Option Addr
 c:Nat
 cmds:List CV
 bg:Bool
def CV0:CV:=⟨none,0,E7⟩
def JV0:JV:=⟨none,0,[],false⟩
def JV.d (x:JV):JobL:=⟨x.cmds.map (·.d),x.bg⟩
def fC (x:CV):List Value:=[.slice x.p x.d.words.length x.c,.string x.d.inp,.string x.d.out,.bool x.d.app]
def fJ (x:JV):List Value:=[.slice x.p x.cmds.length x.c,.bool x.bg]
theorem Fj:Enc fC 4:=⟨fun _=>rfl,fun x v hv=>by
 simp only [fC,List.mem_cons,List.not_mem_nil,or_false] at hv
 rcases hv with rfl | rfl | rfl | rfl <;> rfl⟩
theorem Eb:Enc fJ 2:=⟨fun _=>rfl,fun x v hv=>by
 simp only [fJ,List.mem_cons,List.not_mem_nil,or_false] at hv
 rcases hv with rfl | rfl <;> rfl⟩
def VC (w:World) (x:CV):Prop:=Vw fT w (.slice x.p x.d.words.length x.c) x.d.words
def VJ (w:World) (x:JV):Prop:=Vw fC w (.slice x.p x.cmds.length x.c) x.cmds/\∀ y∈x.cmds,VC w y
def VL (w:World) (v:Value) (l:List JV):Prop:=Vw fJ w v l/\∀ x∈l,VJ w x
section
variable {w w':World}
theorem VC.keep {x:CV} (h:VC w x) (k:Only Ai w w'):VC w' x:=Vw.keep h k
theorem VJ.keep {x:JV} (h:VJ w x) (k:Only Ai w w'):VJ w' x:=⟨h.1.keep k,fun y hy=>(h.2 y hy).keep k⟩
theorem VL.keep {v:Value} {l:List JV} (h:VL w v l) (k:Only Ai w w'):VL w' v l:=⟨h.1.keep k,fun y hy=>(h.2 y hy).keep k⟩
end
def InC (eT:TypeId):List CV->OwL->Prop
 | [],T=>T=[]
 | x::r,T=>∃ Tx Tr,One fT eT 1 x.p x.c x.d.words Tx/\InC eT r Tr/\T=Tx++Tr
def InJ (eC eT:TypeId):List JV->OwL->Prop
 | [],T=>T=[]
 | x::r,T=>∃ T0 Tc Tr,One fC eC 4 x.p x.c x.cmds T0/\InC eT x.cmds Tc/\InJ eC eT r Tr/\T=T0++(Tc++Tr)
def InW (eC:TypeId):List JV->OwL->Prop
 | [],T=>T=[]
 | x::r,T=>∃ T0 Tr,One fC eC 4 x.p x.c x.cmds T0/\InW eC r Tr/\T=T0++Tr
section
variable {eC eT:TypeId}
theorem InC.snoc {x:CV} {Tw:OwL} (h1:One fT eT 1 x.p x.c x.d.words Tw) : ∀ {l:List CV} {T:OwL},InC eT l T->InC eT (l++[x]) (T++Tw)
 | [],T,h=>by subst h; exact ⟨Tw,[],h1,rfl,by simp⟩
 | y::r,T,h=>by
  obtain ⟨Tx,Tr,a,b,rfl⟩:=h
  exact ⟨Tx,Tr++Tw,a,InC.snoc h1 b,by simp⟩
theorem InJ.snoc {x:JV} {T0 Tc:OwL} (h1:One fC eC 4 x.p x.c x.cmds T0) (h2:InC eT x.cmds Tc) : ∀ {l:List JV} {T:OwL},InJ eC eT l T->InJ eC eT (l++[x]) (T++(T0++Tc))
 | [],T,h=>by subst h; exact ⟨T0,Tc,[],h1,h2,rfl,by simp⟩
 | y::r,T,h=>by
  obtain ⟨Ta,Tb,Tr,a,b,c,rfl⟩:=h
  exact ⟨Ta,Tb,Tr++(T0++Tc),a,b,InJ.snoc h1 h2 c,by simp⟩
theorem InW.snoc {x:JV} {T0:OwL} (h1:One fC eC 4 x.p x.c x.cmds T0) : ∀ {l:List JV} {T:OwL},InW eC l T->InW eC (l++[x]) (T++T0)
 | [],T,h=>by subst h; exact ⟨T0,[],h1,rfl,by simp⟩
 | y::r,T,h=>by
  obtain ⟨Ta,Tr,a,c,rfl⟩:=h
  exact ⟨Ta,Tr++T0,a,InW.snoc h1 c,by simp⟩
variable {X:Nat->Prop} {w₀ w:World}
theorem InC.view : ∀ {l:List CV} {T A B:OwL},InC eT l T->OwM X w₀ w (A++(T++B))->∀ y∈l,VC w y
 | [],T,A,B,_,_,y,hy=>absurd hy List.not_mem_nil
 | x::r,T,A,B,h,hO,y,hy=>by
  obtain ⟨Tx,Tr,h1,h2,rfl⟩:=h
  rcases List.mem_cons.1 hy with rfl | hy
  · exact One.vw (A:=A) (B:=Tr++B) h1 (by simpa using hO)
  · exact InC.view (A:=A++Tx) (B:=B) h2 (by simpa using hO) y hy
theorem InJ.view : ∀ {l:List JV} {T A B:OwL},InJ eC eT l T->OwM X w₀ w (A++(T++B))->∀ y∈l,VJ w y
 | [],T,A,B,_,_,y,hy=>absurd hy List.not_mem_nil
 | x::r,T,A,B,h,hO,y,hy=>by
  obtain ⟨T0,Tc,Tr,h1,h2,h3,rfl⟩:=h
  rcases List.mem_cons.1 hy with rfl | hy
  · exact ⟨One.vw (A:=A) (B:=Tc++(Tr++B)) h1 (by simpa using hO),InC.view (A:=A++T0) (B:=Tr++B) h2 (by simpa using hO)⟩
  · exact InJ.view (A:=A++(T0++Tc)) (B:=B) h3 (by simpa using hO) y hy
theorem InW.view : ∀ {l:List JV} {T A B:OwL},InW eC l T->OwM X w₀ w (A++(T++B))->(∀ x∈l,∀ y∈x.cmds,VC w y)->∀ y∈l,VJ w y
 | [],T,A,B,_,_,_,y,hy=>absurd hy List.not_mem_nil
 | x::r,T,A,B,h,hO,hv,y,hy=>by
  obtain ⟨T0,Tr,h1,h3,rfl⟩:=h
  rcases List.mem_cons.1 hy with rfl | hy
  · exact ⟨One.vw (A:=A) (B:=Tr++B) h1 (by simpa using hO),fun z hz=>hv _ List.mem_cons_self z hz⟩
  · exact InW.view (A:=A++T0) (B:=B) h3 (by simpa using hO) (fun a ha=>hv a (List.mem_cons_of_mem _ ha)) y hy
end
theorem Dz (pb:Nat) (sv:ByteArray) (n:Nat) (w:World) (hn:n<=sv.size) (hs:sv.size<=1000000) (h0:Ow Tryz.prog (inT (TP pb sv n)) w w (TP pb sv n)) :
 Calls Tryz.prog 129 #[pt pb,str (tk sv n)] w fun e w'=>e = .returned (.tuple #[])/\Ow Tryz.prog (inT (TP pb sv n)) w w' (TP pb sv (nx sv n)):=by
 have h1:=D6 sv n;have h2:=Rw sv n;have h:=Nc pb sv n w hn hs (tk sv n) (by omega) h0;rw [h1] at h;exact h
abbrev TC (cb:Nat) (p:Option Addr) (k:Nat) (c:CmdL):Nat×TypeId×List Value:=(cb,104,[.slice p c.words.length k,str c.inp,str c.out,bl c.app])
abbrev TR (cb:Nat) (p:Option Addr) (k:Nat) (c:CmdL) (pb:Nat) (s:ByteArray) (n:Nat):OwL:=TC cb p k c::TP pb s n
theorem Lb {s:ByteArray} {n m:Nat} {c v:CmdL} (hn:n<=s.size) (h:Bj s c n = .ok (v,m)):v.words=c.words/\m<=s.size/\n < m:=by
 unfold Bj at h;split at h
 · cases h
 · cases hw:Ct s (nx s n) with
   | error e=>rw [hw] at h; cases h
   | ok q =>
    obtain ⟨u,k⟩:=q;rw [hw] at h;have h1:=Hg hn;obtain ⟨_,_,h2,h3,_⟩:=Cx h1 hw;have h4:n<=nx s n:=by unfold nx; have:=nP s (n+tl s n); omega
    cases h;refine ⟨?_,h2,by omega⟩;split <;> rfl
theorem Qu (cb:Nat) (p:Option Addr) (k:Nat) (c:CmdL) (pb:Nat) (sv:ByteArray) (n:Nat) (w:World) (hn:n<=sv.size) (hs:sv.size<=1000000) (hk:kd sv n=2\/kd sv n=3\/kd sv n=4) (h0:Ow Tryz.prog (inT (TR cb p k c pb sv n)) w w (TR cb p k c pb sv n)) :
 Calls Tryz.prog 142 #[pt pb,pt cb,str (tk sv n)] w fun e w'=>PP (Bj sv c n) (TR cb p k c pb sv n) w w' e fun v m=>e = .returned (.tuple #[])/\Ow Tryz.prog (inT (TR cb p k c pb sv n)) w w' (TR cb p k v pb sv m):=by
 refine An (args:=[pt pb,pt cb,str (tk sv n)]) (m:=45) (n:=48) Tryz.func142 rfl (by kernel_rfl) (by kernel_rfl) fun fr hA=>?_;have hO:Ow Tryz.prog (inT (TR cb p k c pb sv n)) w w [(cb,104,[.slice p c.words.length k,str c.inp,str c.out,bl c.app]),(pb,164,[str sv,i64 ((n:Nat):Int),.slice none 0 0])]:=h0;have hnx:=Hg hn;refine wp_seq (sr 20 (Ka 3 [(7,bl ((tk sv n).toList == (⟨#[60]⟩:ByteArray).toList)),(8,bl ((tk sv n).toList == (⟨#[60]⟩:ByteArray).toList))] hA fun fr hA=>?_));rw [(Nb sv n:((tk sv n).toList == (⟨#[60]⟩:ByteArray).toList)=(decide (kd sv n=2)))] at hA;rcases qV (decide (kd sv n=2)) with h1 | h1
 · rw [h1] at hA;have h1p:=qX h1;refine Kb 7 [(13,bl (!(c.inp.toList == (⟨#[]⟩:ByteArray).toList))),(14,bl (!(c.inp.toList == (⟨#[]⟩:ByteArray).toList))),(15,bl (!(c.inp.toList == (⟨#[]⟩:ByteArray).toList)))] hA [str c.inp] (cc (hO.l1 0 1 9 (str c.inp)) c0) fun fr hA=>?_;rw [(As c.inp:(c.inp.toList == (⟨#[]⟩:ByteArray).toList)=(decide (c.inp.size=0)))] at hA;rcases qV (decide (c.inp.size=0)) with h2 | h2
   · rw [h2] at hA;have h2p:=qX h2;refine Ka 3 [(15,bl false),(17,bl (!((tk sv n).toList == (⟨#[60]⟩:ByteArray).toList))),(18,bl (!((tk sv n).toList == (⟨#[60]⟩:ByteArray).toList)))] hA fun fr hA=>?_;rw [(Nb sv n:((tk sv n).toList == (⟨#[60]⟩:ByteArray).toList)=(decide (kd sv n=2)))] at hA;rcases qV (decide (kd sv n=2)) with h3 | h3
     · rw [h3] at hA;have h3p:=qX h3;refine Ka 7 [(25,bl false)] hA fun fr hA=>Ab (Aa (cF hA (wp_skip (Aa (sr 3 (Ka 2 [(28,pt pb),(29,str (tk sv n))] hA fun fr hA=>Ag (mC (d:=(some 30)) hA Tryz.func129 ((Dz pb sv n _ (by omega) (by omega) (Ow.self (A:=[_]) (hO.tt))).mono ?_))))))));rintro en w1 ⟨rfl,hW⟩;refine ⟨_,rfl,?_⟩;clear hA fr; intro fr hA;replace hO:=Ow.pass (A:=[_]) hO hW; clear hW;refine Ab (Aa (wp_seq (Sa [(32,bl ((tk sv n).toList == (⟨#[60]⟩:ByteArray).toList))] hA fun fr hA=>?_)));rw [(Nb sv n:((tk sv n).toList == (⟨#[60]⟩:ByteArray).toList)=(decide (kd sv n=2)))] at hA;rcases qV (decide (kd sv n=2)) with h4 | h4
       · rw [h4] at hA;have h4p:=qX h4;refine cT hA (sr 6 (Ka 2 [(33,pt cb),(34,pt pb)] hA fun fr hA=>Ag (mP (d:=(some 35)) hA Tryz.func143 ((Dm pb sv (nx sv n) _ (by omega) (by omega) (Ow.self (A:=[_]) (hO.tt))).mono ?_))));rintro en w2 (⟨ea,ee,hr,rfl,hW⟩ | ⟨vv,mm,hr,rfl,hW⟩)
         · refine .inr ⟨_,rfl,?_⟩;show _/\_;exact ⟨hA.dfr,Or.inl ⟨_,_,(by unfold Bj; rw [if_neg (by omega),hr]),rfl,Ow.pan (A:=[_]) (hO.tt:Ow Tryz.prog (inT (TR cb p k c pb sv n)) w _ ([(cb,104,[.slice p c.words.length k,str c.inp,str c.out,bl c.app])]++(TP pb sv (nx sv n)++(([]++([])))))) hW⟩⟩
         refine .inl ⟨_,rfl,?_⟩;clear hA fr; intro fr hA;obtain ⟨rfl,rfl,hq11,hq12,hq13,hq14,hq15⟩:=Cx (by omega) hr;replace hO:=Ow.pass (A:=[_]) hO hW; clear hW;exact Ka 2 [(37,pf cb 1)] hA fun fr hA=>Ms 1 [str (tk sv (nx sv n))] 0 hA hO fun w3 hO=>Ab (Aa (wp_ret (Ac (cv [] hA (Or.inr ⟨⟨c.words,(tk sv (nx sv n)),c.out,c.app⟩,_,by unfold Bj; rw [if_neg (by omega),hr]; simp only [if_pos (show kd sv n=2 by omega)],rfl,hO⟩)))))
       rw [h4] at hA;have h4p:=qY h4;refine cF hA (wp_skip (Aa (rr 12 (Ka 3 [(38,pt cb),(39,pt cb),(40,pt pb)] hA fun fr hA=>Ag (mP (d:=(some 41)) hA Tryz.func143 ((Dm pb sv (nx sv n) _ (by omega) (by omega) (Ow.self (A:=[_]) (hO.tt))).mono ?_))))));rintro en w4 (⟨ea,ee,hr,rfl,hW⟩ | ⟨vv,mm,hr,rfl,hW⟩)
       · refine .inr ⟨_,rfl,?_⟩;show _/\_;exact ⟨hA.dfr,Or.inl ⟨_,_,(by unfold Bj; rw [if_neg (by omega),hr]),rfl,Ow.pan (A:=[_]) (hO.tt:Ow Tryz.prog (inT (TR cb p k c pb sv n)) w _ ([(cb,104,[.slice p c.words.length k,str c.inp,str c.out,bl c.app])]++(TP pb sv (nx sv n)++(([]++([])))))) hW⟩⟩
       refine .inl ⟨_,rfl,?_⟩;clear hA fr; intro fr hA;obtain ⟨rfl,rfl,hq21,hq22,hq23,hq24,hq25⟩:=Cx (by omega) hr;replace hO:=Ow.pass (A:=[_]) hO hW; clear hW;refine Ka 4 [(43,bl ((tk sv n).toList == (⟨#[62,62]⟩:ByteArray).toList)),(45,pf cb 2)] hA fun fr hA=>?_;rw [(Qm sv n:((tk sv n).toList == (⟨#[62,62]⟩:ByteArray).toList)=(decide (kd sv n=4)))] at hA;exact Ms 2 [str (tk sv (nx sv n))] 0 hA hO fun w5 hO=>Ka 2 [(43,bl (decide (kd sv n=4))),(47,pf cb 3)] hA fun fr hA=>Ms 3 [bl (decide (kd sv n=4))] 0 hA hO fun w6 hO=>Ab (Ff (cv [] hA (Or.inr ⟨⟨c.words,c.inp,(tk sv (nx sv n)),(decide (kd sv n=4))⟩,_,by unfold Bj; rw [if_neg (by omega),hr]; simp only [if_neg (show ¬ kd sv n=2 by omega)],rfl,hO⟩)))
     rw [h3] at hA;have h3p:=qY h3;refine Kb 7 [(25,bl (!(c.out.toList == (⟨#[]⟩:ByteArray).toList)))] hA [str c.out] (cc (hO.l1 0 2 9 (str c.out)) c0) fun fr hA=>?_;rw [(As c.out:(c.out.toList == (⟨#[]⟩:ByteArray).toList)=(decide (c.out.size=0)))] at hA;refine Ab (Aa ?_);rcases qV (decide (c.out.size=0)) with h5 | h5
     · rw [h5] at hA;have h5p:=qX h5;refine cF hA (wp_skip (Aa (sr 3 (Ka 2 [(28,pt pb),(29,str (tk sv n))] hA fun fr hA=>Ag (mC (d:=(some 30)) hA Tryz.func129 ((Dz pb sv n _ (by omega) (by omega) (Ow.self (A:=[_]) (hO.tt))).mono ?_))))));rintro en w7 ⟨rfl,hW⟩;refine ⟨_,rfl,?_⟩;clear hA fr; intro fr hA;replace hO:=Ow.pass (A:=[_]) hO hW; clear hW;refine Ab (Aa (wp_seq (Sa [(32,bl ((tk sv n).toList == (⟨#[60]⟩:ByteArray).toList))] hA fun fr hA=>?_)));rw [(Nb sv n:((tk sv n).toList == (⟨#[60]⟩:ByteArray).toList)=(decide (kd sv n=2)))] at hA;rcases qV (decide (kd sv n=2)) with h6 | h6
       · rw [h6] at hA;have h6p:=qX h6;refine cT hA (sr 6 (Ka 2 [(33,pt cb),(34,pt pb)] hA fun fr hA=>Ag (mP (d:=(some 35)) hA Tryz.func143 ((Dm pb sv (nx sv n) _ (by omega) (by omega) (Ow.self (A:=[_]) (hO.tt))).mono ?_))));rintro en w8 (⟨ea,ee,hr,rfl,hW⟩ | ⟨vv,mm,hr,rfl,hW⟩)
         · refine .inr ⟨_,rfl,?_⟩;show _/\_;exact ⟨hA.dfr,Or.inl ⟨_,_,(by unfold Bj; rw [if_neg (by omega),hr]),rfl,Ow.pan (A:=[_]) (hO.tt:Ow Tryz.prog (inT (TR cb p k c pb sv n)) w _ ([(cb,104,[.slice p c.words.length k,str c.inp,str c.out,bl c.app])]++(TP pb sv (nx sv n)++(([]++([])))))) hW⟩⟩
         refine .inl ⟨_,rfl,?_⟩;clear hA fr; intro fr hA;obtain ⟨rfl,rfl,hq31,hq32,hq33,hq34,hq35⟩:=Cx (by omega) hr;replace hO:=Ow.pass (A:=[_]) hO hW; clear hW;exact Ka 2 [(37,pf cb 1)] hA fun fr hA=>Ms 1 [str (tk sv (nx sv n))] 0 hA hO fun w9 hO=>Ab (Aa (wp_ret (Ac (cv [] hA (Or.inr ⟨⟨c.words,(tk sv (nx sv n)),c.out,c.app⟩,_,by unfold Bj; rw [if_neg (by omega),hr]; simp only [if_pos (show kd sv n=2 by omega)],rfl,hO⟩)))))
       rw [h6] at hA;have h6p:=qY h6;refine cF hA (wp_skip (Aa (rr 12 (Ka 3 [(38,pt cb),(39,pt cb),(40,pt pb)] hA fun fr hA=>Ag (mP (d:=(some 41)) hA Tryz.func143 ((Dm pb sv (nx sv n) _ (by omega) (by omega) (Ow.self (A:=[_]) (hO.tt))).mono ?_))))));rintro en w10 (⟨ea,ee,hr,rfl,hW⟩ | ⟨vv,mm,hr,rfl,hW⟩)
       · refine .inr ⟨_,rfl,?_⟩;show _/\_;exact ⟨hA.dfr,Or.inl ⟨_,_,(by unfold Bj; rw [if_neg (by omega),hr]),rfl,Ow.pan (A:=[_]) (hO.tt:Ow Tryz.prog (inT (TR cb p k c pb sv n)) w _ ([(cb,104,[.slice p c.words.length k,str c.inp,str c.out,bl c.app])]++(TP pb sv (nx sv n)++(([]++([])))))) hW⟩⟩
       refine .inl ⟨_,rfl,?_⟩;clear hA fr; intro fr hA;obtain ⟨rfl,rfl,hq41,hq42,hq43,hq44,hq45⟩:=Cx (by omega) hr;replace hO:=Ow.pass (A:=[_]) hO hW; clear hW;refine Ka 4 [(43,bl ((tk sv n).toList == (⟨#[62,62]⟩:ByteArray).toList)),(45,pf cb 2)] hA fun fr hA=>?_;rw [(Qm sv n:((tk sv n).toList == (⟨#[62,62]⟩:ByteArray).toList)=(decide (kd sv n=4)))] at hA;exact Ms 2 [str (tk sv (nx sv n))] 0 hA hO fun w11 hO=>Ka 2 [(43,bl (decide (kd sv n=4))),(47,pf cb 3)] hA fun fr hA=>Ms 3 [bl (decide (kd sv n=4))] 0 hA hO fun w12 hO=>Ab (Ff (cv [] hA (Or.inr ⟨⟨c.words,c.inp,(tk sv (nx sv n)),(decide (kd sv n=4))⟩,_,by unfold Bj; rw [if_neg (by omega),hr]; simp only [if_neg (show ¬ kd sv n=2 by omega)],rfl,hO⟩)))
     rw [h5] at hA;have h5p:=qY h5;refine cT hA (rr 2 (Ka 1 [(26,pt pb)] hA fun fr hA=>Ag (mP (d:=(some 27)) hA Tryz.func127 ((C2 pb sv n _ (by omega) (by omega) 3 (hO.b 1)).mono ?_))));rintro en w13 ⟨rfl,hW⟩;refine .inr ⟨_,rfl,?_⟩;show _/\_;exact ⟨hA.dfr,Or.inl ⟨_,_,(by unfold Bj; rw [if_pos (by omega)]),rfl,Ow.pan0 hO hW⟩⟩
   rw [h2] at hA;have h2p:=qY h2;refine Ka 10 [(25,bl true)] hA fun fr hA=>Ab (Aa (cT hA (rr 2 (Ka 1 [(26,pt pb)] hA fun fr hA=>Ag (mP (d:=(some 27)) hA Tryz.func127 ((C2 pb sv n _ (by omega) (by omega) 3 (hO.b 1)).mono ?_))))));rintro en w14 ⟨rfl,hW⟩;refine .inr ⟨_,rfl,?_⟩;show _/\_;exact ⟨hA.dfr,Or.inl ⟨_,_,(by unfold Bj; rw [if_pos (by omega)]),rfl,Ow.pan0 hO hW⟩⟩
 rw [h1] at hA;have h1p:=qY h1;refine Ka 10 [(15,bl false),(17,bl (!((tk sv n).toList == (⟨#[60]⟩:ByteArray).toList))),(18,bl (!((tk sv n).toList == (⟨#[60]⟩:ByteArray).toList)))] hA fun fr hA=>?_;rw [(Nb sv n:((tk sv n).toList == (⟨#[60]⟩:ByteArray).toList)=(decide (kd sv n=2)))] at hA;rcases qV (decide (kd sv n=2)) with h7 | h7
 · rw [h7] at hA;have h7p:=qX h7;refine Ka 7 [(25,bl false)] hA fun fr hA=>Ab (Aa (cF hA (wp_skip (Aa (sr 3 (Ka 2 [(28,pt pb),(29,str (tk sv n))] hA fun fr hA=>Ag (mC (d:=(some 30)) hA Tryz.func129 ((Dz pb sv n _ (by omega) (by omega) (Ow.self (A:=[_]) (hO.tt))).mono ?_))))))));rintro en w15 ⟨rfl,hW⟩;refine ⟨_,rfl,?_⟩;clear hA fr; intro fr hA;replace hO:=Ow.pass (A:=[_]) hO hW; clear hW;refine Ab (Aa (wp_seq (Sa [(32,bl ((tk sv n).toList == (⟨#[60]⟩:ByteArray).toList))] hA fun fr hA=>?_)));rw [(Nb sv n:((tk sv n).toList == (⟨#[60]⟩:ByteArray).toList)=(decide (kd sv n=2)))] at hA;rcases qV (decide (kd sv n=2)) with h8 | h8
   · rw [h8] at hA;have h8p:=qX h8;refine cT hA (sr 6 (Ka 2 [(33,pt cb),(34,pt pb)] hA fun fr hA=>Ag (mP (d:=(some 35)) hA Tryz.func143 ((Dm pb sv (nx sv n) _ (by omega) (by omega) (Ow.self (A:=[_]) (hO.tt))).mono ?_))));rintro en w16 (⟨ea,ee,hr,rfl,hW⟩ | ⟨vv,mm,hr,rfl,hW⟩)
     · refine .inr ⟨_,rfl,?_⟩;show _/\_;exact ⟨hA.dfr,Or.inl ⟨_,_,(by unfold Bj; rw [if_neg (by omega),hr]),rfl,Ow.pan (A:=[_]) (hO.tt:Ow Tryz.prog (inT (TR cb p k c pb sv n)) w _ ([(cb,104,[.slice p c.words.length k,str c.inp,str c.out,bl c.app])]++(TP pb sv (nx sv n)++(([]++([])))))) hW⟩⟩
     refine .inl ⟨_,rfl,?_⟩;clear hA fr; intro fr hA;obtain ⟨rfl,rfl,hq51,hq52,hq53,hq54,hq55⟩:=Cx (by omega) hr;replace hO:=Ow.pass (A:=[_]) hO hW; clear hW;exact Ka 2 [(37,pf cb 1)] hA fun fr hA=>Ms 1 [str (tk sv (nx sv n))] 0 hA hO fun w17 hO=>Ab (Aa (wp_ret (Ac (cv [] hA (Or.inr ⟨⟨c.words,(tk sv (nx sv n)),c.out,c.app⟩,_,by unfold Bj; rw [if_neg (by omega),hr]; simp only [if_pos (show kd sv n=2 by omega)],rfl,hO⟩)))))
   rw [h8] at hA;have h8p:=qY h8;refine cF hA (wp_skip (Aa (rr 12 (Ka 3 [(38,pt cb),(39,pt cb),(40,pt pb)] hA fun fr hA=>Ag (mP (d:=(some 41)) hA Tryz.func143 ((Dm pb sv (nx sv n) _ (by omega) (by omega) (Ow.self (A:=[_]) (hO.tt))).mono ?_))))));rintro en w18 (⟨ea,ee,hr,rfl,hW⟩ | ⟨vv,mm,hr,rfl,hW⟩)
   · refine .inr ⟨_,rfl,?_⟩;show _/\_;exact ⟨hA.dfr,Or.inl ⟨_,_,(by unfold Bj; rw [if_neg (by omega),hr]),rfl,Ow.pan (A:=[_]) (hO.tt:Ow Tryz.prog (inT (TR cb p k c pb sv n)) w _ ([(cb,104,[.slice p c.words.length k,str c.inp,str c.out,bl c.app])]++(TP pb sv (nx sv n)++(([]++([])))))) hW⟩⟩
   refine .inl ⟨_,rfl,?_⟩;clear hA fr; intro fr hA;obtain ⟨rfl,rfl,hq61,hq62,hq63,hq64,hq65⟩:=Cx (by omega) hr;replace hO:=Ow.pass (A:=[_]) hO hW; clear hW;refine Ka 4 [(43,bl ((tk sv n).toList == (⟨#[62,62]⟩:ByteArray).toList)),(45,pf cb 2)] hA fun fr hA=>?_;rw [(Qm sv n:((tk sv n).toList == (⟨#[62,62]⟩:ByteArray).toList)=(decide (kd sv n=4)))] at hA;exact Ms 2 [str (tk sv (nx sv n))] 0 hA hO fun w19 hO=>Ka 2 [(43,bl (decide (kd sv n=4))),(47,pf cb 3)] hA fun fr hA=>Ms 3 [bl (decide (kd sv n=4))] 0 hA hO fun w20 hO=>Ab (Ff (cv [] hA (Or.inr ⟨⟨c.words,c.inp,(tk sv (nx sv n)),(decide (kd sv n=4))⟩,_,by unfold Bj; rw [if_neg (by omega),hr]; simp only [if_neg (show ¬ kd sv n=2 by omega)],rfl,hO⟩)))
 rw [h7] at hA;have h7p:=qY h7;refine Kb 7 [(25,bl (!(c.out.toList == (⟨#[]⟩:ByteArray).toList)))] hA [str c.out] (cc (hO.l1 0 2 9 (str c.out)) c0) fun fr hA=>?_;rw [(As c.out:(c.out.toList == (⟨#[]⟩:ByteArray).toList)=(decide (c.out.size=0)))] at hA;refine Ab (Aa ?_);rcases qV (decide (c.out.size=0)) with h9 | h9
 · rw [h9] at hA;have h9p:=qX h9;refine cF hA (wp_skip (Aa (sr 3 (Ka 2 [(28,pt pb),(29,str (tk sv n))] hA fun fr hA=>Ag (mC (d:=(some 30)) hA Tryz.func129 ((Dz pb sv n _ (by omega) (by omega) (Ow.self (A:=[_]) (hO.tt))).mono ?_))))));rintro en w21 ⟨rfl,hW⟩;refine ⟨_,rfl,?_⟩;clear hA fr; intro fr hA;replace hO:=Ow.pass (A:=[_]) hO hW; clear hW;refine Ab (Aa (wp_seq (Sa [(32,bl ((tk sv n).toList == (⟨#[60]⟩:ByteArray).toList))] hA fun fr hA=>?_)));rw [(Nb sv n:((tk sv n).toList == (⟨#[60]⟩:ByteArray).toList)=(decide (kd sv n=2)))] at hA;rcases qV (decide (kd sv n=2)) with h10 | h10
   · rw [h10] at hA;have h10p:=qX h10;refine cT hA (sr 6 (Ka 2 [(33,pt cb),(34,pt pb)] hA fun fr hA=>Ag (mP (d:=(some 35)) hA Tryz.func143 ((Dm pb sv (nx sv n) _ (by omega) (by omega) (Ow.self (A:=[_]) (hO.tt))).mono ?_))));rintro en w22 (⟨ea,ee,hr,rfl,hW⟩ | ⟨vv,mm,hr,rfl,hW⟩)
     · refine .inr ⟨_,rfl,?_⟩;show _/\_;exact ⟨hA.dfr,Or.inl ⟨_,_,(by unfold Bj; rw [if_neg (by omega),hr]),rfl,Ow.pan (A:=[_]) (hO.tt:Ow Tryz.prog (inT (TR cb p k c pb sv n)) w _ ([(cb,104,[.slice p c.words.length k,str c.inp,str c.out,bl c.app])]++(TP pb sv (nx sv n)++(([]++([])))))) hW⟩⟩
     refine .inl ⟨_,rfl,?_⟩;clear hA fr; intro fr hA;obtain ⟨rfl,rfl,hq71,hq72,hq73,hq74,hq75⟩:=Cx (by omega) hr;replace hO:=Ow.pass (A:=[_]) hO hW; clear hW;exact Ka 2 [(37,pf cb 1)] hA fun fr hA=>Ms 1 [str (tk sv (nx sv n))] 0 hA hO fun w23 hO=>Ab (Aa (wp_ret (Ac (cv [] hA (Or.inr ⟨⟨c.words,(tk sv (nx sv n)),c.out,c.app⟩,_,by unfold Bj; rw [if_neg (by omega),hr]; simp only [if_pos (show kd sv n=2 by omega)],rfl,hO⟩)))))
   rw [h10] at hA;have h10p:=qY h10;refine cF hA (wp_skip (Aa (rr 12 (Ka 3 [(38,pt cb),(39,pt cb),(40,pt pb)] hA fun fr hA=>Ag (mP (d:=(some 41)) hA Tryz.func143 ((Dm pb sv (nx sv n) _ (by omega) (by omega) (Ow.self (A:=[_]) (hO.tt))).mono ?_))))));rintro en w24 (⟨ea,ee,hr,rfl,hW⟩ | ⟨vv,mm,hr,rfl,hW⟩)
   · refine .inr ⟨_,rfl,?_⟩;show _/\_;exact ⟨hA.dfr,Or.inl ⟨_,_,(by unfold Bj; rw [if_neg (by omega),hr]),rfl,Ow.pan (A:=[_]) (hO.tt:Ow Tryz.prog (inT (TR cb p k c pb sv n)) w _ ([(cb,104,[.slice p c.words.length k,str c.inp,str c.out,bl c.app])]++(TP pb sv (nx sv n)++(([]++([])))))) hW⟩⟩
   refine .inl ⟨_,rfl,?_⟩;clear hA fr; intro fr hA;obtain ⟨rfl,rfl,hq81,hq82,hq83,hq84,hq85⟩:=Cx (by omega) hr;replace hO:=Ow.pass (A:=[_]) hO hW; clear hW;refine Ka 4 [(43,bl ((tk sv n).toList == (⟨#[62,62]⟩:ByteArray).toList)),(45,pf cb 2)] hA fun fr hA=>?_;rw [(Qm sv n:((tk sv n).toList == (⟨#[62,62]⟩:ByteArray).toList)=(decide (kd sv n=4)))] at hA;exact Ms 2 [str (tk sv (nx sv n))] 0 hA hO fun w25 hO=>Ka 2 [(43,bl (decide (kd sv n=4))),(47,pf cb 3)] hA fun fr hA=>Ms 3 [bl (decide (kd sv n=4))] 0 hA hO fun w26 hO=>Ab (Ff (cv [] hA (Or.inr ⟨⟨c.words,c.inp,(tk sv (nx sv n)),(decide (kd sv n=4))⟩,_,by unfold Bj; rw [if_neg (by omega),hr]; simp only [if_neg (show ¬ kd sv n=2 by omega)],rfl,hO⟩)))
 rw [h9] at hA;have h9p:=qY h9;refine cT hA (rr 2 (Ka 1 [(26,pt pb)] hA fun fr hA=>Ag (mP (d:=(some 27)) hA Tryz.func127 ((C2 pb sv n _ (by omega) (by omega) 3 (hO.b 1)).mono ?_))));rintro en w27 ⟨rfl,hW⟩;refine .inr ⟨_,rfl,?_⟩;show _/\_;exact ⟨hA.dfr,Or.inl ⟨_,_,(by unfold Bj; rw [if_pos (by omega)]),rfl,Ow.pan0 hO hW⟩⟩
end Go.Proofs.YtdljjajjonfjbaaGreatDoor
