import Derived.Test.YtdljjajjonfjbaaGreatDoorChecked
import Derived.Test.YtdljjajjonfjbaaGreatDoorSn
set_option linter.unusedVariables false
set_option linter.unusedSimpArgs false
set_option maxRecDepth 10000
open Go.Proofs.Tryz renaming prog->sA
open Go.Ending renaming returned->sB
open List renaming length_cons->sE,length_nil->sF,not_mem_nil->sL
open ByteArray renaming size_extract->sT
namespace Go.Proofs.YtdljjajjonfjbaaGreatDoor
open Go Go.Shelf Go.RowKit Go.Proofs Go.Proofs.Sx
def ixI (c:Int):Int:=if c=46 then 0 else if c=45 then 1 else if c=95 then 2 else if c=47 then 3 else -1
theorem Bt (c:Int):ixI c ≥ 0↔c=46\/c=45\/c=95\/c=47:=by unfold ixI; (repeat' split) <;> omega
theorem Nb {c:Int} (h0 : 0<=c) (h1:c<=255):Lib.indexByte [46,45,95,47] c.toNat.toUInt8=ixI c:=by
 obtain ⟨k,rfl⟩:=Int.eq_ofNat_of_zero_le h0;have h2:k < 256:=by omega
 have : ∀ k:Fin 256,Lib.indexByte [46,45,95,47] (((k.val:Nat):Int).toNat.toUInt8)=ixI ((k.val:Nat):Int):=by decide +kernel
 exact this ⟨k,h2⟩
theorem bU (c:Int) (w:World) (lo : 0<=c) (hi:c<=255) :
 Calls sA 88 #[u8 c] w fun e w'=>e = .returned (.bool (Bd c))/\Only Ai w w':=by
 refine Ao (args:=[u8 c]) (m:=32) (n:=33) Tryz.func88 rfl (by kernel_rfl) (by kernel_rfl) fun J V=>?_;have O:=Ow.nil sA Ai w;refine Sa [(2,I false)] V fun J V=>sr 31 (Ka 3 [(4,I (decide (c ≥ 97))),(5,I (decide (c ≥ 97)))] V fun J V=>?_);rcases rU (decide (c ≥ 97)) with h1 | h1
 · rw [h1] at V;have h1p:=rV h1;refine Ka 4 [(7,I (decide (c<=122))),(8,I (decide (c<=122))),(9,I (decide (c<=122)))] V fun J V=>?_;rcases rU (decide (c<=122)) with h2 | h2
   · rw [h2] at V;have h2p:=rV h2;refine Ka 24 [(2,I true)] V fun J V=>Ab (Aa (wp_ret (cv [I true] V ?_)));have hF:=O.only; clear V O;exact ⟨congrArg (fun b=>sB (.bool b)) (by have hx_:=Bt c; unfold Bd; first | exact (rY (by omega)).symm | exact (rZ (by omega)).symm | exact decide_eq_decide.2 (by omega) | (rw [Bool.eq_iff_iff]; simp only [decide_eq_true_eq,beq_iff_eq]; omega)),hF⟩
   rw [h2] at V;have h2p:=rX h2;refine Ka 3 [(9,I false),(11,I (decide (c ≥ 48))),(12,I (decide (c ≥ 48)))] V fun J V=>?_;rcases rU (decide (c ≥ 48)) with h3 | h3
   · rw [h3] at V;have h3p:=rV h3;refine Ka 5 [(14,I (decide (c<=57))),(15,I (decide (c<=57))),(16,I (decide (c<=57))),(17,I (decide (c<=57)))] V fun J V=>?_;rcases rU (decide (c<=57)) with h4 | h4
     · rw [h4] at V;have h4p:=rV h4;refine Ka 16 [(2,I true)] V fun J V=>Ab (Aa (wp_ret (cv [I true] V ?_)));have hF:=O.only; clear V O;exact ⟨congrArg (fun b=>sB (.bool b)) (by have hx_:=Bt c; unfold Bd; first | exact (rY (by omega)).symm | exact (rZ (by omega)).symm | exact decide_eq_decide.2 (by omega) | (rw [Bool.eq_iff_iff]; simp only [decide_eq_true_eq,beq_iff_eq]; omega)),hF⟩
     rw [h4] at V;have h4p:=rX h4;refine Ka 4 [(19,I (c == 46)),(20,I (c == 46)),(21,I (c == 46))] V fun J V=>?_;rcases rU (c == 46) with h5 | h5
     · rw [h5] at V;have h5p:=eq_of_beq h5;refine Ka 12 [(2,I true)] V fun J V=>Ab (Aa (wp_ret (cv [I true] V ?_)));have hF:=O.only; clear V O;exact ⟨congrArg (fun b=>sB (.bool b)) (by have hx_:=Bt c; unfold Bd; first | exact (rY (by omega)).symm | exact (rZ (by omega)).symm | exact decide_eq_decide.2 (by omega) | (rw [Bool.eq_iff_iff]; simp only [decide_eq_true_eq,beq_iff_eq]; omega)),hF⟩
     rw [h5] at V;have h5p:=ne_of_beq_false h5;refine Ka 4 [(23,I (c == 45)),(24,I (c == 45)),(25,I (c == 45))] V fun J V=>?_;rcases rU (c == 45) with h6 | h6
     · rw [h6] at V;have h6p:=eq_of_beq h6;refine Ka 8 [(2,I true)] V fun J V=>Ab (Aa (wp_ret (cv [I true] V ?_)));have hF:=O.only; clear V O;exact ⟨congrArg (fun b=>sB (.bool b)) (by have hx_:=Bt c; unfold Bd; first | exact (rY (by omega)).symm | exact (rZ (by omega)).symm | exact decide_eq_decide.2 (by omega) | (rw [Bool.eq_iff_iff]; simp only [decide_eq_true_eq,beq_iff_eq]; omega)),hF⟩
     rw [h6] at V;have h6p:=ne_of_beq_false h6;refine Ka 4 [(27,I (c == 95)),(28,I (c == 95)),(29,I (c == 95))] V fun J V=>?_;rcases rU (c == 95) with h7 | h7
     · rw [h7] at V;have h7p:=eq_of_beq h7;refine Ka 4 [(2,I true)] V fun J V=>Ab (Aa (wp_ret (cv [I true] V ?_)));have hF:=O.only; clear V O;exact ⟨congrArg (fun b=>sB (.bool b)) (by have hx_:=Bt c; unfold Bd; first | exact (rY (by omega)).symm | exact (rZ (by omega)).symm | exact decide_eq_decide.2 (by omega) | (rw [Bool.eq_iff_iff]; simp only [decide_eq_true_eq,beq_iff_eq]; omega)),hF⟩
     rw [h7] at V;have h7p:=ne_of_beq_false h7;refine Ka 4 [(2,I (c == 47))] V fun J V=>Ab (Aa (wp_ret (cv [I (c == 47)] V ?_)));have hF:=O.only; clear V O;exact ⟨congrArg (fun b=>sB (.bool b)) (by have hx_:=Bt c; unfold Bd; first | exact (rY (by omega)).symm | exact (rZ (by omega)).symm | exact decide_eq_decide.2 (by omega) | (rw [Bool.eq_iff_iff]; simp only [decide_eq_true_eq,beq_iff_eq]; omega)),hF⟩
   rw [h3] at V;have h3p:=rX h3;refine Ka 9 [(19,I (c == 46)),(20,I (c == 46)),(21,I (c == 46))] V fun J V=>?_;rcases rU (c == 46) with h8 | h8
   · rw [h8] at V;have h8p:=eq_of_beq h8;refine Ka 12 [(2,I true)] V fun J V=>Ab (Aa (wp_ret (cv [I true] V ?_)));have hF:=O.only; clear V O;exact ⟨congrArg (fun b=>sB (.bool b)) (by have hx_:=Bt c; unfold Bd; first | exact (rY (by omega)).symm | exact (rZ (by omega)).symm | exact decide_eq_decide.2 (by omega) | (rw [Bool.eq_iff_iff]; simp only [decide_eq_true_eq,beq_iff_eq]; omega)),hF⟩
   rw [h8] at V;have h8p:=ne_of_beq_false h8;refine Ka 4 [(23,I (c == 45)),(24,I (c == 45)),(25,I (c == 45))] V fun J V=>?_;rcases rU (c == 45) with h9 | h9
   · rw [h9] at V;have h9p:=eq_of_beq h9;refine Ka 8 [(2,I true)] V fun J V=>Ab (Aa (wp_ret (cv [I true] V ?_)));have hF:=O.only; clear V O;exact ⟨congrArg (fun b=>sB (.bool b)) (by have hx_:=Bt c; unfold Bd; first | exact (rY (by omega)).symm | exact (rZ (by omega)).symm | exact decide_eq_decide.2 (by omega) | (rw [Bool.eq_iff_iff]; simp only [decide_eq_true_eq,beq_iff_eq]; omega)),hF⟩
   rw [h9] at V;have h9p:=ne_of_beq_false h9;refine Ka 4 [(27,I (c == 95)),(28,I (c == 95)),(29,I (c == 95))] V fun J V=>?_;rcases rU (c == 95) with h10 | h10
   · rw [h10] at V;have h10p:=eq_of_beq h10;refine Ka 4 [(2,I true)] V fun J V=>Ab (Aa (wp_ret (cv [I true] V ?_)));have hF:=O.only; clear V O;exact ⟨congrArg (fun b=>sB (.bool b)) (by have hx_:=Bt c; unfold Bd; first | exact (rY (by omega)).symm | exact (rZ (by omega)).symm | exact decide_eq_decide.2 (by omega) | (rw [Bool.eq_iff_iff]; simp only [decide_eq_true_eq,beq_iff_eq]; omega)),hF⟩
   rw [h10] at V;have h10p:=ne_of_beq_false h10;refine Ka 4 [(2,I (c == 47))] V fun J V=>Ab (Aa (wp_ret (cv [I (c == 47)] V ?_)));have hF:=O.only; clear V O;exact ⟨congrArg (fun b=>sB (.bool b)) (by have hx_:=Bt c; unfold Bd; first | exact (rY (by omega)).symm | exact (rZ (by omega)).symm | exact decide_eq_decide.2 (by omega) | (rw [Bool.eq_iff_iff]; simp only [decide_eq_true_eq,beq_iff_eq]; omega)),hF⟩
 rw [h1] at V;have h1p:=rX h1;refine Ka 7 [(9,I false),(11,I (decide (c ≥ 48))),(12,I (decide (c ≥ 48)))] V fun J V=>?_;rcases rU (decide (c ≥ 48)) with h11 | h11
 · rw [h11] at V;have h11p:=rV h11;refine Ka 5 [(14,I (decide (c<=57))),(15,I (decide (c<=57))),(16,I (decide (c<=57))),(17,I (decide (c<=57)))] V fun J V=>?_;rcases rU (decide (c<=57)) with h12 | h12
   · rw [h12] at V;have h12p:=rV h12;refine Ka 16 [(2,I true)] V fun J V=>Ab (Aa (wp_ret (cv [I true] V ?_)));have hF:=O.only; clear V O;exact ⟨congrArg (fun b=>sB (.bool b)) (by have hx_:=Bt c; unfold Bd; first | exact (rY (by omega)).symm | exact (rZ (by omega)).symm | exact decide_eq_decide.2 (by omega) | (rw [Bool.eq_iff_iff]; simp only [decide_eq_true_eq,beq_iff_eq]; omega)),hF⟩
   rw [h12] at V;have h12p:=rX h12;refine Ka 4 [(19,I (c == 46)),(20,I (c == 46)),(21,I (c == 46))] V fun J V=>?_;rcases rU (c == 46) with h13 | h13
   · rw [h13] at V;have h13p:=eq_of_beq h13;refine Ka 12 [(2,I true)] V fun J V=>Ab (Aa (wp_ret (cv [I true] V ?_)));have hF:=O.only; clear V O;exact ⟨congrArg (fun b=>sB (.bool b)) (by have hx_:=Bt c; unfold Bd; first | exact (rY (by omega)).symm | exact (rZ (by omega)).symm | exact decide_eq_decide.2 (by omega) | (rw [Bool.eq_iff_iff]; simp only [decide_eq_true_eq,beq_iff_eq]; omega)),hF⟩
   rw [h13] at V;have h13p:=ne_of_beq_false h13;refine Ka 4 [(23,I (c == 45)),(24,I (c == 45)),(25,I (c == 45))] V fun J V=>?_;rcases rU (c == 45) with h14 | h14
   · rw [h14] at V;have h14p:=eq_of_beq h14;refine Ka 8 [(2,I true)] V fun J V=>Ab (Aa (wp_ret (cv [I true] V ?_)));have hF:=O.only; clear V O;exact ⟨congrArg (fun b=>sB (.bool b)) (by have hx_:=Bt c; unfold Bd; first | exact (rY (by omega)).symm | exact (rZ (by omega)).symm | exact decide_eq_decide.2 (by omega) | (rw [Bool.eq_iff_iff]; simp only [decide_eq_true_eq,beq_iff_eq]; omega)),hF⟩
   rw [h14] at V;have h14p:=ne_of_beq_false h14;refine Ka 4 [(27,I (c == 95)),(28,I (c == 95)),(29,I (c == 95))] V fun J V=>?_;rcases rU (c == 95) with h15 | h15
   · rw [h15] at V;have h15p:=eq_of_beq h15;refine Ka 4 [(2,I true)] V fun J V=>Ab (Aa (wp_ret (cv [I true] V ?_)));have hF:=O.only; clear V O;exact ⟨congrArg (fun b=>sB (.bool b)) (by have hx_:=Bt c; unfold Bd; first | exact (rY (by omega)).symm | exact (rZ (by omega)).symm | exact decide_eq_decide.2 (by omega) | (rw [Bool.eq_iff_iff]; simp only [decide_eq_true_eq,beq_iff_eq]; omega)),hF⟩
   rw [h15] at V;have h15p:=ne_of_beq_false h15;refine Ka 4 [(2,I (c == 47))] V fun J V=>Ab (Aa (wp_ret (cv [I (c == 47)] V ?_)));have hF:=O.only; clear V O;exact ⟨congrArg (fun b=>sB (.bool b)) (by have hx_:=Bt c; unfold Bd; first | exact (rY (by omega)).symm | exact (rZ (by omega)).symm | exact decide_eq_decide.2 (by omega) | (rw [Bool.eq_iff_iff]; simp only [decide_eq_true_eq,beq_iff_eq]; omega)),hF⟩
 rw [h11] at V;have h11p:=rX h11;refine Ka 9 [(19,I (c == 46)),(20,I (c == 46)),(21,I (c == 46))] V fun J V=>?_;rcases rU (c == 46) with h16 | h16
 · rw [h16] at V;have h16p:=eq_of_beq h16;refine Ka 12 [(2,I true)] V fun J V=>Ab (Aa (wp_ret (cv [I true] V ?_)));have hF:=O.only; clear V O;exact ⟨congrArg (fun b=>sB (.bool b)) (by have hx_:=Bt c; unfold Bd; first | exact (rY (by omega)).symm | exact (rZ (by omega)).symm | exact decide_eq_decide.2 (by omega) | (rw [Bool.eq_iff_iff]; simp only [decide_eq_true_eq,beq_iff_eq]; omega)),hF⟩
 rw [h16] at V;have h16p:=ne_of_beq_false h16;refine Ka 4 [(23,I (c == 45)),(24,I (c == 45)),(25,I (c == 45))] V fun J V=>?_;rcases rU (c == 45) with h17 | h17
 · rw [h17] at V;have h17p:=eq_of_beq h17;refine Ka 8 [(2,I true)] V fun J V=>Ab (Aa (wp_ret (cv [I true] V ?_)));have hF:=O.only; clear V O;exact ⟨congrArg (fun b=>sB (.bool b)) (by have hx_:=Bt c; unfold Bd; first | exact (rY (by omega)).symm | exact (rZ (by omega)).symm | exact decide_eq_decide.2 (by omega) | (rw [Bool.eq_iff_iff]; simp only [decide_eq_true_eq,beq_iff_eq]; omega)),hF⟩
 rw [h17] at V;have h17p:=ne_of_beq_false h17;refine Ka 4 [(27,I (c == 95)),(28,I (c == 95)),(29,I (c == 95))] V fun J V=>?_;rcases rU (c == 95) with h18 | h18
 · rw [h18] at V;have h18p:=eq_of_beq h18;refine Ka 4 [(2,I true)] V fun J V=>Ab (Aa (wp_ret (cv [I true] V ?_)));have hF:=O.only; clear V O;exact ⟨congrArg (fun b=>sB (.bool b)) (by have hx_:=Bt c; unfold Bd; first | exact (rY (by omega)).symm | exact (rZ (by omega)).symm | exact decide_eq_decide.2 (by omega) | (rw [Bool.eq_iff_iff]; simp only [decide_eq_true_eq,beq_iff_eq]; omega)),hF⟩
 rw [h18] at V;have h18p:=ne_of_beq_false h18;refine Ka 4 [(2,I (c == 47))] V fun J V=>Ab (Aa (wp_ret (cv [I (c == 47)] V ?_)));have hF:=O.only; clear V O;exact ⟨congrArg (fun b=>sB (.bool b)) (by have hx_:=Bt c; unfold Bd; first | exact (rY (by omega)).symm | exact (rZ (by omega)).symm | exact decide_eq_decide.2 (by omega) | (rw [Bool.eq_iff_iff]; simp only [decide_eq_true_eq,beq_iff_eq]; omega)),hF⟩
theorem Hx (c:Int) (w:World) (lo : 0<=c) (hi:c<=255) :
 Calls sA 115 #[u8 c] w fun e w'=>e = .returned (.bool (Bd c))/\Only Ai w w':=by
 refine Ao (args:=[u8 c]) (m:=21) (n:=22) Tryz.func115 rfl (by kernel_rfl) (by kernel_rfl) fun J V=>?_;have O:=Ow.nil sA Ai w;refine Sa [(2,I false)] V fun J V=>sr 20 (Ka 3 [(4,I (decide (c ≥ 97))),(5,I (decide (c ≥ 97)))] V fun J V=>?_);rcases rU (decide (c ≥ 97)) with h1 | h1
 · rw [h1] at V;have h1p:=rV h1;refine Ka 4 [(7,I (decide (c<=122))),(8,I (decide (c<=122))),(9,I (decide (c<=122)))] V fun J V=>?_;rcases rU (decide (c<=122)) with h2 | h2
   · rw [h2] at V;have h2p:=rV h2;refine Ka 13 [(2,I true)] V fun J V=>Ab (Aa (wp_ret (cv [I true] V ?_)));have hF:=O.only; clear V O;exact ⟨congrArg (fun b=>sB (.bool b)) (by have hx_:=Bt c; unfold Bd; first | exact (rY (by omega)).symm | exact (rZ (by omega)).symm | exact decide_eq_decide.2 (by omega) | (rw [Bool.eq_iff_iff]; simp only [decide_eq_true_eq,beq_iff_eq]; omega)),hF⟩
   rw [h2] at V;have h2p:=rX h2;refine Ka 3 [(9,I false),(11,I (decide (c ≥ 48))),(12,I (decide (c ≥ 48)))] V fun J V=>?_;rcases rU (decide (c ≥ 48)) with h3 | h3
   · rw [h3] at V;have h3p:=rV h3;refine Ka 5 [(14,I (decide (c<=57))),(15,I (decide (c<=57))),(16,I (decide (c<=57))),(17,I (decide (c<=57)))] V fun J V=>?_;rcases rU (decide (c<=57)) with h4 | h4
     · rw [h4] at V;have h4p:=rV h4;refine Ka 5 [(2,I true)] V fun J V=>Ab (Aa (wp_ret (cv [I true] V ?_)));have hF:=O.only; clear V O;exact ⟨congrArg (fun b=>sB (.bool b)) (by have hx_:=Bt c; unfold Bd; first | exact (rY (by omega)).symm | exact (rZ (by omega)).symm | exact decide_eq_decide.2 (by omega) | (rw [Bool.eq_iff_iff]; simp only [decide_eq_true_eq,beq_iff_eq]; omega)),hF⟩
     rw [h4] at V;have h4p:=rX h4;refine Ka 1 [(17,I false),(18,u8 c)] V fun J V=>Mk 19 V O Tryz.func91 (rs (Cu (⟨#[46,45,95,47]⟩) c _) (congrArg (Value.int .i64) (Nb lo hi))) fun J w1 V O=>Ka 3 [(2,I (decide ((ixI c) ≥ 0)))] V fun J V=>Ab (Aa (wp_ret (cv [I (decide ((ixI c) ≥ 0))] V ?_)));have hF:=O.only; clear V O;exact ⟨congrArg (fun b=>sB (.bool b)) (by have hx_:=Bt c; unfold Bd; first | exact (rY (by omega)).symm | exact (rZ (by omega)).symm | exact decide_eq_decide.2 (by omega) | (rw [Bool.eq_iff_iff]; simp only [decide_eq_true_eq,beq_iff_eq]; omega)),hF⟩
   rw [h3] at V;have h3p:=rX h3;refine Ka 6 [(17,I false),(18,u8 c)] V fun J V=>Mk 19 V O Tryz.func91 (rs (Cu (⟨#[46,45,95,47]⟩) c _) (congrArg (Value.int .i64) (Nb lo hi))) fun J w2 V O=>Ka 3 [(2,I (decide ((ixI c) ≥ 0)))] V fun J V=>Ab (Aa (wp_ret (cv [I (decide ((ixI c) ≥ 0))] V ?_)));have hF:=O.only; clear V O;exact ⟨congrArg (fun b=>sB (.bool b)) (by have hx_:=Bt c; unfold Bd; first | exact (rY (by omega)).symm | exact (rZ (by omega)).symm | exact decide_eq_decide.2 (by omega) | (rw [Bool.eq_iff_iff]; simp only [decide_eq_true_eq,beq_iff_eq]; omega)),hF⟩
 rw [h1] at V;have h1p:=rX h1;refine Ka 7 [(9,I false),(11,I (decide (c ≥ 48))),(12,I (decide (c ≥ 48)))] V fun J V=>?_;rcases rU (decide (c ≥ 48)) with h5 | h5
 · rw [h5] at V;have h5p:=rV h5;refine Ka 5 [(14,I (decide (c<=57))),(15,I (decide (c<=57))),(16,I (decide (c<=57))),(17,I (decide (c<=57)))] V fun J V=>?_;rcases rU (decide (c<=57)) with h6 | h6
   · rw [h6] at V;have h6p:=rV h6;refine Ka 5 [(2,I true)] V fun J V=>Ab (Aa (wp_ret (cv [I true] V ?_)));have hF:=O.only; clear V O;exact ⟨congrArg (fun b=>sB (.bool b)) (by have hx_:=Bt c; unfold Bd; first | exact (rY (by omega)).symm | exact (rZ (by omega)).symm | exact decide_eq_decide.2 (by omega) | (rw [Bool.eq_iff_iff]; simp only [decide_eq_true_eq,beq_iff_eq]; omega)),hF⟩
   rw [h6] at V;have h6p:=rX h6;refine Ka 1 [(17,I false),(18,u8 c)] V fun J V=>Mk 19 V O Tryz.func91 (rs (Cu (⟨#[46,45,95,47]⟩) c _) (congrArg (Value.int .i64) (Nb lo hi))) fun J w3 V O=>Ka 3 [(2,I (decide ((ixI c) ≥ 0)))] V fun J V=>Ab (Aa (wp_ret (cv [I (decide ((ixI c) ≥ 0))] V ?_)));have hF:=O.only; clear V O;exact ⟨congrArg (fun b=>sB (.bool b)) (by have hx_:=Bt c; unfold Bd; first | exact (rY (by omega)).symm | exact (rZ (by omega)).symm | exact decide_eq_decide.2 (by omega) | (rw [Bool.eq_iff_iff]; simp only [decide_eq_true_eq,beq_iff_eq]; omega)),hF⟩
 rw [h5] at V;have h5p:=rX h5;refine Ka 6 [(17,I false),(18,u8 c)] V fun J V=>Mk 19 V O Tryz.func91 (rs (Cu (⟨#[46,45,95,47]⟩) c _) (congrArg (Value.int .i64) (Nb lo hi))) fun J w4 V O=>Ka 3 [(2,I (decide ((ixI c) ≥ 0)))] V fun J V=>Ab (Aa (wp_ret (cv [I (decide ((ixI c) ≥ 0))] V ?_)));have hF:=O.only; clear V O;exact ⟨congrArg (fun b=>sB (.bool b)) (by have hx_:=Bt c; unfold Bd; first | exact (rY (by omega)).symm | exact (rZ (by omega)).symm | exact decide_eq_decide.2 (by omega) | (rw [Bool.eq_iff_iff]; simp only [decide_eq_true_eq,beq_iff_eq]; omega)),hF⟩
theorem Ha (sv:ByteArray) (w:World) (hl:sv.size<=1000000) :
 Calls sA 104 #[Y sv] w fun e w'=>e = .returned (.bool (A3 sv))/\Only Ai w w':=by
 refine Ao (args:=[Y sv]) (m:=21) (n:=22) Tryz.func104 rfl (by kernel_rfl) (by kernel_rfl) fun J V=>?_;have O:=Ow.nil sA Ai w;refine Sa [(2,I false)] V fun J V=>wp_seq (Sa [(5,Z ((sv.size:Nat):Int)),(6,Z 0)] V fun J V=>wp_block (Bc (fun mm J W=>∃ (i:Nat),mm=sv.size - i/\Holds 22 [] J [(0,Y sv),(2,I false),(5,Z ((sv.size:Nat):Int)),(6,Z ((i:Nat):Int))]/\Ow sA Ai w W []/\i<=sv.size/\okW sv i=true/\True) ?_ ?_))
 · exact ⟨_,0,rfl,V.ss,O.to,(by omega),rfl,trivial⟩
 rintro _ J w1 ⟨i,rfl,V,O,hi,ho,-⟩;have hsb:=Ns sv i;refine Sa [(7,I (decide (((i:Nat):Int) < ((sv.size:Nat):Int))))] V fun J V=>wp_seq ?_;rcases rU (decide (((i:Nat):Int) < ((sv.size:Nat):Int))) with h1 | h1
 · rw [h1] at V;have h1p:=rV h1;refine cT V (wp_skip (Aa (wp_seq (wp_block (Sa [(3,Z ((i:Nat):Int))] V fun J V=>sr 5 (Kb 3 [(11,u8 (sb sv i))] V [] (cc (⟨by omega,by omega⟩:(0:Int)<=((i:Nat):Int)/\((i:Nat):Int) < ((sv.size:Nat):Int)) c0) fun J V=>Mk 12 V O Tryz.func115 (Hx (sb sv i) _ (by omega) (by omega)) fun J w2 V O=>Ka 1 [(13,I (!(Bd (sb sv i))))] V fun J V=>Ab (Aa ?_)))))));rcases rU (Bd (sb sv i)) with h2 | h2
   · rw [h2] at V;exact cF V (wp_skip (Ac (Aa (Rc [(6,Z (((i:Nat):Int)+1))] V [I true] (cc ((Am (by omega) (by omega)):inK .i64 (((i:Nat):Int)+1)) c0) fun J V=>Aa (⟨_,by omega,i+1,rfl,V.ss,O.to,(by omega),(by simp only [okW,ho,Bool.true_and]; assumption),trivial⟩)))))
   rw [h2] at V;refine cT V (Sa [] V fun J V=>wp_ret (Ae (Ad (Ad (Ae (Ad (cv [I false] V ?_)))))));have hF:=O.only; clear V O;first | exact ⟨congrArg (fun b=>sB (.bool b)) (L0 (by assumption) (by omega)).symm,hF⟩ | skip
   all_goals (have ei:i=sv.size:=(by omega))
   all_goals (rw [ei] at ho)
   all_goals (refine ⟨congrArg (fun b=>sB (.bool b)) ?_,hF⟩)
   all_goals (rw [Hb ho])
   all_goals (have hem:=As sv)
   all_goals (by_cases hz:sv.size=0)
   all_goals (first | rw [rY hz] at hem | rw [rZ hz] at hem)
   all_goals (first | (exfalso; simp_all; done) | exact (rY (by omega)).symm | exact (rZ (by omega)).symm | exact decide_eq_decide.2 (by omega))
 rw [h1] at V;have h1p:=rX h1;refine cF V (wp_exit (Aj (Aj (An (Aa (sr 8 (Ka 3 [(16,I (!(sv.toList == (⟨#[]⟩:ByteArray).toList))),(17,I (!(sv.toList == (⟨#[]⟩:ByteArray).toList)))] V fun J V=>?_)))))));rcases rU (sv.toList == (⟨#[]⟩:ByteArray).toList) with h3 | h3
 · rw [h3] at V;refine Ka 5 [] V fun J V=>Ab (Aa (wp_ret (cv [I false] V ?_)));have hF:=O.only; clear V O;first | exact ⟨congrArg (fun b=>sB (.bool b)) (L0 (by assumption) (by omega)).symm,hF⟩ | skip
   all_goals (have ei:i=sv.size:=(by omega))
   all_goals (rw [ei] at ho)
   all_goals (refine ⟨congrArg (fun b=>sB (.bool b)) ?_,hF⟩)
   all_goals (rw [Hb ho])
   all_goals (have hem:=As sv)
   all_goals (by_cases hz:sv.size=0)
   all_goals (first | rw [rY hz] at hem | rw [rZ hz] at hem)
   all_goals (first | (exfalso; simp_all; done) | exact (rY (by omega)).symm | exact (rZ (by omega)).symm | exact decide_eq_decide.2 (by omega))
 rw [h3] at V;refine Ka 5 [(2,I (decide (((sv.size:Nat):Int)<=60)))] V fun J V=>Ab (Aa (wp_ret (cv [I (decide (((sv.size:Nat):Int)<=60))] V ?_)));have hF:=O.only; clear V O;first | exact ⟨congrArg (fun b=>sB (.bool b)) (L0 (by assumption) (by omega)).symm,hF⟩ | skip
 all_goals (have ei:i=sv.size:=(by omega))
 all_goals (rw [ei] at ho)
 all_goals (refine ⟨congrArg (fun b=>sB (.bool b)) ?_,hF⟩)
 all_goals (rw [Hb ho])
 all_goals (have hem:=As sv)
 all_goals (by_cases hz:sv.size=0)
 all_goals (first | rw [rY hz] at hem | rw [rZ hz] at hem)
 all_goals (first | (exfalso; simp_all; done) | exact (rY (by omega)).symm | exact (rZ (by omega)).symm | exact decide_eq_decide.2 (by omega))
abbrev TP (pb:Nat) (s:ByteArray) (n:Nat):OwL:=[(pb,164,[Y s,Z ((n:Nat):Int),.slice none 0 0])]
abbrev pnc (n:Nat) (e:Int):List PanicEntry:=[{v:= .iface 160 (.agg #[Z ((n:Nat):Int),Z e]),recovered:=false}]
theorem Ow.pan {P:Program} {X:Nat->Prop} {w₀ w w':World} {A T B:OwL} (h:Ow P X w₀ w (A++(T++B))) (k:Only (inT T) w w'):Only X w₀ w' :=
 h.only.step k fun i hi hx=>by
  obtain ⟨x,hx,e⟩:=hx;rcases h.m.new x (List.mem_append_right _ (List.mem_append_left _ hx)) with hn | hX
  · omega
  · exact e ▸ hX
theorem Ow.pan0 {P:Program} {X:Nat->Prop} {w₀ w w':World} {L:OwL} (h:Ow P X w₀ w L) (k:Only Ai w w'):Only X w₀ w':=h.only.step k fun i hi hx=>hx.elim
theorem Sd (pb:Nat) (sv:ByteArray) (n:Nat) (w:World) (hn:n<=sv.size) (hs:sv.size<=1000000) (h0:Ow sA (inT (TP pb sv n)) w w (TP pb sv n)) :
 Calls sA 124 #[pt pb] w fun e w'=>e = .returned (.tuple #[])/\Ow sA (inT (TP pb sv n)) w w' (TP pb sv (sk sv n)):=by
 refine Ao (args:=[pt pb]) (m:=42) (n:=43) Tryz.func124 rfl (by kernel_rfl) (by kernel_rfl) fun J V=>?_;have O:Ow sA (inT (TP pb sv n)) w w [(pb,164,[Y sv,Z ((n:Nat):Int),.slice none 0 0])]:=h0;refine wp_block (Bc (fun mm J W=>∃ (m:Nat),mm=sv.size - m/\Holds 43 [] J [(0,pt pb)]/\Ow sA (inT (TP pb sv n)) w W [(pb,164,[Y sv,Z ((m:Nat):Int),.slice none 0 0])]/\m<=sv.size/\sk sv m=sk sv n/\True) ?_ ?_)
 · exact ⟨_,n,rfl,V.ss,O.to,hn,rfl,trivial⟩
 rintro _ J w1 ⟨m,rfl,V,O,hm,hk,-⟩;have hsb:=Ns sv m;refine wp_seq (wp_seq ?_);have hS:=O;refine rP [(0,true),(1,true),(2,true),(3,true),(4,true),(5,true),(6,true),(7,true),(8,true),(9,true),(10,true),(11,true),(12,true),(13,true),(14,true),(15,true),(16,true),(17,true),(18,true),(19,true),(20,true),(21,true),(22,true),(23,true),(24,true),(25,true),(26,true),(27,true),(28,true),(29,true),(30,true),(31,true),(32,true),(33,true)] hS ?_;intro w2 ho; replace O:=O.st ho; clear ho;refine Ke 11 [(11,I (decide (((m:Nat):Int) < ((sv.size:Nat):Int)))),(12,I (decide (((m:Nat):Int) < ((sv.size:Nat):Int))))] V [Z ((m:Nat):Int),Y sv] (cc (hS.s1 0 1 3 (Z ((m:Nat):Int))) (cc (hS.s1 0 0 9 (Y sv)) c0)) fun J V=>?_;rcases rU (decide (((m:Nat):Int) < ((sv.size:Nat):Int))) with h1 | h1
 · rw [h1] at V;have h1p:=rV h1;refine Ke 11 [(12,I true),(22,I ((sb sv m) == 32)),(23,I ((sb sv m) == 32))] V [Y sv,Z ((m:Nat):Int)] (cc (hS.s1 0 0 9 (Y sv)) (cc (hS.s1 0 1 3 (Z ((m:Nat):Int))) (cc (⟨by omega,by omega⟩:(0:Int)<=((m:Nat):Int)/\((m:Nat):Int) < ((sv.size:Nat):Int)) c0))) fun J V=>?_;rcases rU ((sb sv m) == 32) with h2 | h2
   · rw [h2] at V;have h2p:=eq_of_beq h2;exact Kd 12 [(35,I true)] V fun J V=>Ax (Aa (cT V (wp_skip (Aa (wp_block (rr 8 (Kb 7 [(40,Z (((m:Nat):Int)+1)),(42,pf pb 1)] V [Z ((m:Nat):Int),I true] (cc (O.l1 0 1 3 (Z ((m:Nat):Int))) (cc ((Am (by omega) (by omega)):inK .i64 (((m:Nat):Int)+1)) c0)) fun J V=>Ms 1 [Z (((m:Nat):Int)+1)] 0 V O fun w3 O=>Ab (Ac (Aa (⟨_,by omega,m+1,rfl,V.ss,O.to,(by omega),(by rw [← hk]; refine (M6 (by omega) ?_).symm; unfold Dk; refine rY ?_; omega),trivial⟩))))))))))
   rw [h2] at V;have h2p:=ne_of_beq_false h2;refine Ke 12 [(35,I ((sb sv m) == 9))] V [Y sv,Z ((m:Nat):Int)] (cc (hS.s1 0 0 9 (Y sv)) (cc (hS.s1 0 1 3 (Z ((m:Nat):Int))) (cc (⟨by omega,by omega⟩:(0:Int)<=((m:Nat):Int)/\((m:Nat):Int) < ((sv.size:Nat):Int)) c0))) fun J V=>Ax (Aa ?_);rcases rU ((sb sv m) == 9) with h3 | h3
   · rw [h3] at V;have h3p:=eq_of_beq h3;exact cT V (wp_skip (Aa (wp_block (rr 8 (Kb 7 [(40,Z (((m:Nat):Int)+1)),(42,pf pb 1)] V [Z ((m:Nat):Int),I true] (cc (O.l1 0 1 3 (Z ((m:Nat):Int))) (cc ((Am (by omega) (by omega)):inK .i64 (((m:Nat):Int)+1)) c0)) fun J V=>Ms 1 [Z (((m:Nat):Int)+1)] 0 V O fun w4 O=>Ab (Ac (Aa (⟨_,by omega,m+1,rfl,V.ss,O.to,(by omega),(by rw [← hk]; refine (M6 (by omega) ?_).symm; unfold Dk; refine rY ?_; omega),trivial⟩))))))))
   rw [h3] at V;have h3p:=ne_of_beq_false h3;refine cF V (wp_exit (Aj (Aj (An (Fq (cv [] V ?_))))));have e_:sk sv m=m:=Jb (by unfold Dk; rintro ⟨q1,q2⟩; have q3:=rV q2; omega);rw [← hk,e_];exact ⟨rfl,O.tt⟩
 rw [h1] at V;have h1p:=rX h1;refine Kd 23 [(35,I false)] V fun J V=>Ax (Aa (cF V (wp_exit (Aj (Aj (An (Fq (cv [] V ?_))))))));have e_:sk sv m=m:=Jb (by unfold Dk; rintro ⟨q1,q2⟩; have q3:=rV q2; omega);rw [← hk,e_];exact ⟨rfl,O.tt⟩
theorem Je {s:ByteArray} {n:Nat} (hn:n<=s.size):(s.extract n s.size).size=s.size - n:=by rw [sT]; omega
theorem Ci {s:ByteArray} {n i:Nat} (h:i < s.size - n):sb (s.extract n s.size) i=sb s (n+i):=Q3 h
theorem Dm {a b:ByteArray} (h:a.data.toList=b.data.toList):a=b:=by
 cases a; cases b; simp only at h; exact congrArg ByteArray.mk (Array.toList_inj.1 h)
theorem Yp {s:ByteArray} {n k:Nat} (h:k<=s.size - n):(s.extract n s.size).extract 0 k=s.extract n (n+k):=by
 apply Dm;rw [C2,C2,C2];simp only [List.drop_zero,List.take_take];congr 1
 omega
theorem Yj {s:ByteArray} {n k:Nat} (h:wl s n=k) (hk : 0 < k):(s.extract n s.size).extract 0 k=tk s n:=by
 have h1:=oE s n;rw [Yp (by omega)];have h2:=Jx.1 (by omega : 0 < wl s n);have h3:=Dq s n;have h4:=Dv s n;unfold tk;rw [show tl s n=k by rcases h3 with h | h | ⟨_,hp,_⟩; {omega}; {omega}; {rw [h2.2] at hp; cases hp}]
theorem aG {s:ByteArray} {n:Nat} {x y:UInt8} (h:n+1 < s.size) (hx:sb s n=(x.toNat:Int)) (hy:sb s (n+1)=(y.toNat:Int)):s.extract n (n+2)=⟨#[x,y]⟩:=by
 have h1:=Yq (s.extract n (n+2)) x y;exact R9 (eq_of_beq (h1.trans (rY ⟨by rw [sT]; omega,by rw [Q3 (by omega),Nat.add_zero,hx],by rw [Q3 (by omega),hy]⟩)))
theorem hasp (s:ByteArray) (x y:UInt8):Lib.hasPrefix s.data.toList [x,y]=decide (2<=s.size/\sb s 0=(x.toNat:Int)/\sb s 1=(y.toNat:Int)):=by
 have hs:=Ar s;have hb:=Sg s 0 x;have hc:=Sg s 1 y;rw [Bool.eq_iff_iff,decide_eq_true_eq];unfold Lib.hasPrefix;match hl:s.data.toList with
 | []=>rw [hl] at hs; simp only [sF] at hs; simp [List.isPrefixOf]; omega
 | [y']=>rw [hl] at hs; simp only [sE,sF] at hs; simp [List.isPrefixOf]; omega
 | x'::y'::r =>
  rw [hl] at hs hb hc;simp only [sE] at hs;have h1:=hb (by omega);have h2:=hc (by omega);simp only [List.getElem?_cons_zero,List.getElem?_cons_succ,Option.some.injEq] at h1 h2;rw [h1,h2];simp only [List.isPrefixOf,Bool.and_true,Bool.and_eq_true,beq_iff_eq];constructor
  · rintro ⟨rfl,rfl⟩; exact ⟨by omega,rfl,rfl⟩
  · rintro ⟨_,rfl,rfl⟩; exact ⟨rfl,rfl⟩
def Ju (c:Int):Int:=if c=60 then 0 else if c=62 then 1 else if c=59 then 2 else if c=38 then 3 else if c=124 then 4 else -1
theorem P9 (c:Int):Ju c ≥ 0↔c=60\/c=62\/c=59\/c=38\/c=124:=by unfold Ju; (repeat' split) <;> omega
theorem Zq {c:Int} (h0 : 0<=c) (h1:c<=255):Lib.indexByte [60,62,59,38,124] c.toNat.toUInt8=Ju c:=by
 obtain ⟨k,rfl⟩:=Int.eq_ofNat_of_zero_le h0;have h2:k < 256:=by omega
 have : ∀ k:Fin 256,Lib.indexByte [60,62,59,38,124] (((k.val:Nat):Int).toNat.toUInt8)=Ju ((k.val:Nat):Int):=by decide +kernel
 exact this ⟨k,h2⟩
theorem gE {s:ByteArray} {n:Nat} (hw:wl s n=0) (h:n < s.size):kd s n≠1:=fun e=>by
 have:=Dv s n;omega
theorem Tg {s:ByteArray} {n:Nat} (hn:n<=s.size) (hw:wl s n=0) (h : 2<=(s.extract n s.size).size/\sb (s.extract n s.size) 0=(62:Int)/\sb (s.extract n s.size) 1=(62:Int)):(⟨#[62,62]⟩:ByteArray)=tk s n:=by
 rw [Je hn] at h;rw [Ci (by omega),Ci (by omega),Nat.add_zero] at h;have h1:=Dq s n;have h2:=gE hw (by omega);have h3:=Dv s n;unfold tk;rw [show tl s n=2 by omega];exact (aG (by omega) (show sb s n=62 by omega) (show sb s (n+1)=62 by omega)).symm
theorem P8 {s:ByteArray} {n:Nat} (hn:n<=s.size) (hw:wl s n=0) (h : ¬ (2<=(s.extract n s.size).size/\sb (s.extract n s.size) 0=(62:Int)/\sb (s.extract n s.size) 1=(62:Int))) (h0 : ¬ (s.extract n s.size).size=0) (hm:Ju (sb (s.extract n s.size) 0) ≥ 0):(s.extract n s.size).extract 0 1=tk s n:=by
 rw [Je hn] at h h0;have hq : 2<=s.size - n->sb (s.extract n s.size) 1=sb s (n+1):=fun q=>Ci (by omega);rw [Ci (by omega),Nat.add_zero] at h hm;have h1:=Dq s n;have h2:=gE hw (by omega);have h3:=Dv s n;have h4:=(P9 _).1 hm;unfold tk;rw [show tl s n=1 by omega];exact Yp (by omega)
theorem Jg {s:ByteArray} {n:Nat} (hn:n<=s.size) (hw:wl s n=0) (h : ¬ (2<=(s.extract n s.size).size/\sb (s.extract n s.size) 0=(62:Int)/\sb (s.extract n s.size) 1=(62:Int))) (hm : ¬ (s.extract n s.size).size=0->¬ Ju (sb (s.extract n s.size) 0) ≥ 0):(⟨#[]⟩:ByteArray)=tk s n:=by
 rw [Je hn] at h hm;have h1:=Dq s n;have h3:=Dv s n
 have ht:tl s n=0:=by
  by_cases hlt:n < s.size
  · have h2:=gE hw hlt;have hq0:sb (s.extract n s.size) 0=sb s n:=by rw [Ci (by omega),Nat.add_zero]
    have hq1 : 2<=s.size - n->sb (s.extract n s.size) 1=sb s (n+1):=fun q=>Ci (by omega);rw [hq0] at hm;have h4 : ¬ (sb s n=60\/sb s n=62\/sb s n=59\/sb s n=38\/sb s n=124):=fun q=>hm (by omega) ((P9 _).2 q);by_cases h5 : 2<=s.size - n
    · have h6:=hq1 h5;omega
    · omega
  · omega
 unfold tk;rw [ht];exact (Dm (by rw [C2]; simp))
theorem Dh (pb:Nat) (sv:ByteArray) (n:Nat) (w:World) (hn:n<=sv.size) (hs:sv.size<=1000000) (hB:Blk w pb 164 [Y sv,Z ((n:Nat):Int),.slice none 0 0]) :
 Calls sA 126 #[pt pb] w fun e w'=>e = .returned (Y (tk sv n))/\Only Ai w w':=by
 refine Ao (args:=[pt pb]) (m:=45) (n:=46) Tryz.func126 rfl (by kernel_rfl) (by kernel_rfl) fun J V=>?_;have O:=Ow.nil sA Ai w;have hrs:=Je hn;refine Sa [(2,Y (⟨#[]⟩))] V fun J V=>wp_seq ?_;have hS:=O;refine rP [(0,true),(1,true),(2,true),(3,true),(4,true),(5,true),(6,true),(7,true),(8,true),(9,true)] hS ?_;intro w1 ho; replace O:=O.st ho; clear ho;refine Ke 10 [(3,Y (sv.extract n sv.size))] V [Y sv,Z ((n:Nat):Int)] (cc (hS.sx ⟨pb,0,none⟩ 9 (Y sv) fun _ O=>((hB.keep O.only (fun h=>h)).ld1 (i:=0) (by kernel_rfl) (by kernel_rfl))) (cc (hS.sx ⟨pb,1,none⟩ 3 (Z ((n:Nat):Int)) fun _ O=>((hB.keep O.only (fun h=>h)).ld1 (i:=1) (by kernel_rfl) (by kernel_rfl))) (cc (⟨by omega,by omega,by omega⟩:(0:Int)<=((n:Nat):Int)/\(((n:Nat):Int):Int)<=((sv.size:Nat):Int)/\(((sv.size:Nat):Int):Int)<=((sv.size:Nat):Int)) c0))) fun J V=>Ax (Aa (Sa [(4,Z 0)] V fun J V=>wp_seq (wp_block (Bc (fun mm J W=>∃ (i:Nat),mm=sv.size - n - i/\Holds 46 [] J [(2,Y (⟨#[]⟩)),(3,Y (sv.extract n sv.size)),(4,Z ((i:Nat):Int))]/\Ow sA Ai w W []/\n+i<=sv.size/\wl sv (n+i)+i=wl sv n/\True) ?_ ?_))))
 · exact ⟨_,0,rfl,V.ss,O.to,(by omega),rfl,trivial⟩
 rintro _ J w2 ⟨i,rfl,V,O,hi,hk,-⟩;have hsb:=Ns (sv.extract n sv.size) i;refine wp_seq (sr 10 (Ka 5 [(17,I (decide (((i:Nat):Int) < (((sv.extract n sv.size).size:Nat):Int)))),(18,I (decide (((i:Nat):Int) < (((sv.extract n sv.size).size:Nat):Int))))] V fun J V=>?_));rcases rU (decide (((i:Nat):Int) < (((sv.extract n sv.size).size:Nat):Int))) with h1 | h1
 · rw [h1] at V;have h1p:=rV h1;refine Kb 3 [(18,I true),(21,u8 (sb (sv.extract n sv.size) i))] V [] (cc (⟨by omega,by omega⟩:(0:Int)<=((i:Nat):Int)/\((i:Nat):Int) < (((sv.extract n sv.size).size:Nat):Int)) c0) fun J V=>Mk 22 V O Tryz.func115 (Hx (sb (sv.extract n sv.size) i) _ (by omega) (by omega)) fun J w3 V O=>Ka 1 [(23,I (Bd (sb (sv.extract n sv.size) i)))] V fun J V=>Ab (Aa ?_);rcases rU (Bd (sb (sv.extract n sv.size) i)) with h2 | h2
   · rw [h2] at V;exact cT V (wp_skip (Aa (wp_block (Rc [(4,Z (((i:Nat):Int)+1))] V [I true] (cc ((Am (by omega) (by omega)):inK .i64 (((i:Nat):Int)+1)) c0) fun J V=>Ac (Aa (⟨_,by omega,i+1,rfl,V.ss,O.to,(by omega),(by rw [← hk,M3 (n:=n+i) (by omega) (by rw [← Ci (by omega)]; assumption)]; rw [Nat.add_assoc n i 1]; omega),trivial⟩))))))
   rw [h2] at V;refine cF V (wp_exit (Aj (Aj (An (Aa (wp_seq (wp_block (Sa [(26,I (decide (((i:Nat):Int) > 0)))] V fun J V=>?_))))))));rcases rU (decide (((i:Nat):Int) > 0)) with h3 | h3
   · rw [h3] at V;have h3p:=rV h3;refine cT V (Sb [(2,Y ((sv.extract n sv.size).extract 0 i))] V [] (cc (⟨by omega,by omega,by omega⟩:(0:Int)<=0/\(0:Int)<=((i:Nat):Int)/\(((i:Nat):Int):Int)<=(((sv.extract n sv.size).size:Nat):Int)) c0) fun J V=>wp_ret (Ae (Ad (cv [Y ((sv.extract n sv.size).extract 0 i)] V ?_))));have hF:=O.only; clear V O;refine ⟨congrArg (fun b=>sB (Y b)) ?_,hF⟩;have hw:wl sv (n+i)=0:=E2 (by rintro ⟨q1,q2⟩; have q3:i < sv.size - n:=(by omega); rw [← Ci q3] at q2; simp_all);have hki:wl sv n=i:=(by omega);exact Yj hki (by omega)
   rw [h3] at V;have h3p:=rX h3;refine cF V (sr 3 (Ka 1 [(33,Y (sv.extract n sv.size))] V fun J V=>Mk 34 V O Tryz.func136 (rs (Jv (sv.extract n sv.size) (⟨#[62,62]⟩:ByteArray) _) (congrArg Value.bool (hasp _ 62 62))) fun J w4 V O=>Ka 1 [(32,I (decide (2<=(sv.extract n sv.size).size/\sb (sv.extract n sv.size) 0=(62:Int)/\sb (sv.extract n sv.size) 1=(62:Int))))] V fun J V=>Ab (Aa ?_)));rcases rU (decide (2<=(sv.extract n sv.size).size/\sb (sv.extract n sv.size) 0=(62:Int)/\sb (sv.extract n sv.size) 1=(62:Int))) with h4 | h4
   · rw [h4] at V;have h4p:=rV h4;refine cT V (Sa [(2,Y (⟨#[62,62]⟩))] V fun J V=>wp_ret (Ae (Ad (cv [Y (⟨#[62,62]⟩)] V ?_))));have hF:=O.only; clear V O;refine ⟨congrArg (fun b=>sB (Y b)) ?_,hF⟩;have hw:wl sv (n+i)=0:=E2 (by rintro ⟨q1,q2⟩; have q3:i < sv.size - n:=(by omega); rw [← Ci q3] at q2; simp_all);have hki:wl sv n=i:=(by omega);have hw0:wl sv n=0:=(by omega);exact Tg hn hw0 (by assumption)
   rw [h4] at V;have h4p:=rX h4;refine cF V (sr 9 (Ka 3 [(37,I (!((sv.extract n sv.size).toList == (⟨#[]⟩:ByteArray).toList))),(38,I (!((sv.extract n sv.size).toList == (⟨#[]⟩:ByteArray).toList)))] V fun J V=>?_));rw [(As (sv.extract n sv.size):((sv.extract n sv.size).toList == (⟨#[]⟩:ByteArray).toList)=(decide ((sv.extract n sv.size).size=0)))] at V;rcases rU (decide ((sv.extract n sv.size).size=0)) with h5 | h5
   · rw [h5] at V;have h5p:=rV h5;refine Ka 6 [(35,I false)] V fun J V=>Ab (Aa (cF V (wp_skip (Ac (Aa (Sa [] V fun J V=>wp_ret (cv [Y (⟨#[]⟩)] V ?_)))))));have hF:=O.only; clear V O;refine ⟨congrArg (fun b=>sB (Y b)) ?_,hF⟩;have hw:wl sv (n+i)=0:=E2 (by rintro ⟨q1,q2⟩; have q3:i < sv.size - n:=(by omega); rw [← Ci q3] at q2; simp_all);have hki:wl sv n=i:=(by omega);have hw0:wl sv n=0:=(by omega);exact Jg hn hw0 (by assumption) (fun h=>by first | assumption | exact absurd (by assumption) h)
   rw [h5] at V;have h5p:=rX h5;refine Kb 2 [(38,I true),(40,u8 (sb (sv.extract n sv.size) 0))] V [] (cc (⟨by omega,by omega⟩:(0:Int)<=0/\0 < (((sv.extract n sv.size).size:Nat):Int)) c0) fun J V=>Mk 41 V O Tryz.func91 (rs (Cu (⟨#[60,62,59,38,124]⟩:ByteArray) (sb (sv.extract n sv.size) 0) _) (congrArg (Value.int .i64) (Zq (by have:=Ns (sv.extract n sv.size) 0; omega) (by have:=Ns (sv.extract n sv.size) 0; omega)))) fun J w5 V O=>Ka 3 [(35,I (decide ((Ju (sb (sv.extract n sv.size) 0)) ≥ 0)))] V fun J V=>Ab (Aa ?_);rcases rU (decide ((Ju (sb (sv.extract n sv.size) 0)) ≥ 0)) with h6 | h6
   · rw [h6] at V;have h6p:=rV h6;refine cT V (Sb [(2,Y ((sv.extract n sv.size).extract 0 1))] V [] (cc (⟨by omega,by omega,by omega⟩:(0:Int)<=0/\(0:Int)<=1/\(1:Int)<=(((sv.extract n sv.size).size:Nat):Int)) c0) fun J V=>wp_ret (Ae (Ad (cv [Y ((sv.extract n sv.size).extract 0 1)] V ?_))));have hF:=O.only; clear V O;refine ⟨congrArg (fun b=>sB (Y b)) ?_,hF⟩;have hw:wl sv (n+i)=0:=E2 (by rintro ⟨q1,q2⟩; have q3:i < sv.size - n:=(by omega); rw [← Ci q3] at q2; simp_all);have hki:wl sv n=i:=(by omega);have hw0:wl sv n=0:=(by omega);exact P8 hn hw0 (by assumption) (by assumption) (by assumption)
   rw [h6] at V;have h6p:=rX h6;refine cF V (wp_skip (Ac (Aa (Sa [] V fun J V=>wp_ret (cv [Y (⟨#[]⟩)] V ?_)))));have hF:=O.only; clear V O;refine ⟨congrArg (fun b=>sB (Y b)) ?_,hF⟩;have hw:wl sv (n+i)=0:=E2 (by rintro ⟨q1,q2⟩; have q3:i < sv.size - n:=(by omega); rw [← Ci q3] at q2; simp_all);have hki:wl sv n=i:=(by omega);have hw0:wl sv n=0:=(by omega);exact Jg hn hw0 (by assumption) (fun h=>by first | assumption | exact absurd (by assumption) h)
 rw [h1] at V;have h1p:=rX h1;refine Ka 5 [(23,I false)] V fun J V=>Ab (Aa (cF V (wp_exit (Aj (Aj (An (Aa (wp_seq (wp_block (Sa [(26,I (decide (((i:Nat):Int) > 0)))] V fun J V=>?_))))))))));rcases rU (decide (((i:Nat):Int) > 0)) with h7 | h7
 · rw [h7] at V;have h7p:=rV h7;refine cT V (Sb [(2,Y ((sv.extract n sv.size).extract 0 i))] V [] (cc (⟨by omega,by omega,by omega⟩:(0:Int)<=0/\(0:Int)<=((i:Nat):Int)/\(((i:Nat):Int):Int)<=(((sv.extract n sv.size).size:Nat):Int)) c0) fun J V=>wp_ret (Ae (Ad (cv [Y ((sv.extract n sv.size).extract 0 i)] V ?_))));have hF:=O.only; clear V O;refine ⟨congrArg (fun b=>sB (Y b)) ?_,hF⟩;have hw:wl sv (n+i)=0:=E2 (by rintro ⟨q1,q2⟩; have q3:i < sv.size - n:=(by omega); rw [← Ci q3] at q2; simp_all);have hki:wl sv n=i:=(by omega);exact Yj hki (by omega)
 rw [h7] at V;have h7p:=rX h7;refine cF V (sr 3 (Ka 1 [(33,Y (sv.extract n sv.size))] V fun J V=>Mk 34 V O Tryz.func136 (rs (Jv (sv.extract n sv.size) (⟨#[62,62]⟩:ByteArray) _) (congrArg Value.bool (hasp _ 62 62))) fun J w6 V O=>Ka 1 [(32,I (decide (2<=(sv.extract n sv.size).size/\sb (sv.extract n sv.size) 0=(62:Int)/\sb (sv.extract n sv.size) 1=(62:Int))))] V fun J V=>Ab (Aa ?_)));rcases rU (decide (2<=(sv.extract n sv.size).size/\sb (sv.extract n sv.size) 0=(62:Int)/\sb (sv.extract n sv.size) 1=(62:Int))) with h8 | h8
 · rw [h8] at V;have h8p:=rV h8;refine cT V (Sa [(2,Y (⟨#[62,62]⟩))] V fun J V=>wp_ret (Ae (Ad (cv [Y (⟨#[62,62]⟩)] V ?_))));have hF:=O.only; clear V O;refine ⟨congrArg (fun b=>sB (Y b)) ?_,hF⟩;have hw:wl sv (n+i)=0:=E2 (by rintro ⟨q1,q2⟩; have q3:i < sv.size - n:=(by omega); rw [← Ci q3] at q2; simp_all);have hki:wl sv n=i:=(by omega);have hw0:wl sv n=0:=(by omega);exact Tg hn hw0 (by assumption)
 rw [h8] at V;have h8p:=rX h8;refine cF V (sr 9 (Ka 3 [(37,I (!((sv.extract n sv.size).toList == (⟨#[]⟩:ByteArray).toList))),(38,I (!((sv.extract n sv.size).toList == (⟨#[]⟩:ByteArray).toList)))] V fun J V=>?_));rw [(As (sv.extract n sv.size):((sv.extract n sv.size).toList == (⟨#[]⟩:ByteArray).toList)=(decide ((sv.extract n sv.size).size=0)))] at V;rcases rU (decide ((sv.extract n sv.size).size=0)) with h9 | h9
 · rw [h9] at V;have h9p:=rV h9;refine Ka 6 [(35,I false)] V fun J V=>Ab (Aa (cF V (wp_skip (Ac (Aa (Sa [] V fun J V=>wp_ret (cv [Y (⟨#[]⟩)] V ?_)))))));have hF:=O.only; clear V O;refine ⟨congrArg (fun b=>sB (Y b)) ?_,hF⟩;have hw:wl sv (n+i)=0:=E2 (by rintro ⟨q1,q2⟩; have q3:i < sv.size - n:=(by omega); rw [← Ci q3] at q2; simp_all);have hki:wl sv n=i:=(by omega);have hw0:wl sv n=0:=(by omega);exact Jg hn hw0 (by assumption) (fun h=>by first | assumption | exact absurd (by assumption) h)
 rw [h9] at V;have h9p:=rX h9;refine Kb 2 [(38,I true),(40,u8 (sb (sv.extract n sv.size) 0))] V [] (cc (⟨by omega,by omega⟩:(0:Int)<=0/\0 < (((sv.extract n sv.size).size:Nat):Int)) c0) fun J V=>Mk 41 V O Tryz.func91 (rs (Cu (⟨#[60,62,59,38,124]⟩:ByteArray) (sb (sv.extract n sv.size) 0) _) (congrArg (Value.int .i64) (Zq (by have:=Ns (sv.extract n sv.size) 0; omega) (by have:=Ns (sv.extract n sv.size) 0; omega)))) fun J w7 V O=>Ka 3 [(35,I (decide ((Ju (sb (sv.extract n sv.size) 0)) ≥ 0)))] V fun J V=>Ab (Aa ?_);rcases rU (decide ((Ju (sb (sv.extract n sv.size) 0)) ≥ 0)) with h10 | h10
 · rw [h10] at V;have h10p:=rV h10;refine cT V (Sb [(2,Y ((sv.extract n sv.size).extract 0 1))] V [] (cc (⟨by omega,by omega,by omega⟩:(0:Int)<=0/\(0:Int)<=1/\(1:Int)<=(((sv.extract n sv.size).size:Nat):Int)) c0) fun J V=>wp_ret (Ae (Ad (cv [Y ((sv.extract n sv.size).extract 0 1)] V ?_))));have hF:=O.only; clear V O;refine ⟨congrArg (fun b=>sB (Y b)) ?_,hF⟩;have hw:wl sv (n+i)=0:=E2 (by rintro ⟨q1,q2⟩; have q3:i < sv.size - n:=(by omega); rw [← Ci q3] at q2; simp_all);have hki:wl sv n=i:=(by omega);have hw0:wl sv n=0:=(by omega);exact P8 hn hw0 (by assumption) (by assumption) (by assumption)
 rw [h10] at V;have h10p:=rX h10;refine cF V (wp_skip (Ac (Aa (Sa [] V fun J V=>wp_ret (cv [Y (⟨#[]⟩)] V ?_)))));have hF:=O.only; clear V O;refine ⟨congrArg (fun b=>sB (Y b)) ?_,hF⟩;have hw:wl sv (n+i)=0:=E2 (by rintro ⟨q1,q2⟩; have q3:i < sv.size - n:=(by omega); rw [← Ci q3] at q2; simp_all);have hki:wl sv n=i:=(by omega);have hw0:wl sv n=0:=(by omega);exact Jg hn hw0 (by assumption) (fun h=>by first | assumption | exact absurd (by assumption) h)
theorem Nn (pb:Nat) (sv:ByteArray) (n:Nat) (w:World) (hn:n<=sv.size) (hs:sv.size<=1000000) (t:ByteArray) (ht:n+t.size<=sv.size) (h0:Ow sA (inT (TP pb sv n)) w w (TP pb sv n)) :
 Calls sA 129 #[pt pb,Y t] w fun e w'=>e = .returned (.tuple #[])/\Ow sA (inT (TP pb sv n)) w w' (TP pb sv (sk sv (n+t.size))):=by
 refine Ao (args:=[pt pb,Y t]) (m:=13) (n:=15) Tryz.func129 rfl (by kernel_rfl) (by kernel_rfl) fun J V=>?_;have O:Ow sA (inT (TP pb sv n)) w w [(pb,164,[Y sv,Z ((n:Nat):Int),.slice none 0 0])]:=h0;refine sr 10 (Kb 9 [(10,Z (((n:Nat):Int)+((t.size:Nat):Int))),(12,pf pb 1)] V [Z ((n:Nat):Int),I true] (cc (O.l1 0 1 3 (Z ((n:Nat):Int))) (cc ((Am (by omega) (by omega)):inK .i64 (((n:Nat):Int)+((t.size:Nat):Int))) c0)) fun J V=>Ms 1 [Z (((n:Nat):Int)+((t.size:Nat):Int))] 0 V O fun w1 O=>Ab (Aa (rr 2 (Ka 1 [(13,pt pb)] V fun J V=>Ag (mC (d:=(some 14)) V Tryz.func124 ((Sd pb sv (n+t.size) _ (by omega) (by omega) (Ow.self (A:=[]) (O.tt))).mono ?_))))));rintro en w2 ⟨rfl,hW⟩;refine ⟨_,rfl,?_⟩;clear V J; intro J V;replace O:=Ow.pass (A:=[]) O hW; clear hW;exact Ab (Fq (cv [] V (⟨rfl,O.tt⟩)))
theorem Ri {s:ByteArray} {n:Nat} (h : ¬ (kd s n=0\/kd s n=8)):Bd (sb (tk s n) 0)=decide (kd s n=1):=by
 have h1:=Dq s n;have h2:=Dv s n;rw [Mc (by omega),Nat.add_zero];rcases h1 with h1 | ⟨h1,_,h3⟩ | ⟨h1,h3,h4⟩
 · omega
 · rw [h3]; exact (rY h1).symm
 rw [h3]; exact (rZ (by omega)).symm
theorem nU {s:ByteArray} {n:Nat} (h : ¬ (kd s n=0\/kd s n=8)) (h1:kd s n≠1):(sb (tk s n) 0=60↔kd s n=2)/\(sb (tk s n) 0=62↔kd s n=3\/kd s n=4):=by
 have h3:=Dq s n;have h2:=Dv s n;rw [Mc (by omega),Nat.add_zero];omega
theorem Ki (sv:ByteArray) (n:Nat) (w:World) :
 Calls sA 125 #[Y (tk sv n)] w fun e w'=>e = .returned (.bool (Da (kd sv n)))/\Only Ai w w':=by
 refine Ao (args:=[Y (tk sv n)]) (m:=19) (n:=20) Tryz.func125 rfl (by kernel_rfl) (by kernel_rfl) fun J V=>?_;have O:=Ow.nil sA Ai w;have htl:=Dv sv n;have htz:=Ef sv n;have hsb:=Ns (tk sv n) 0;have hby:=fun (q1 : ¬ (kd sv n=0\/kd sv n=8)) (q2:kd sv n≠1)=>nU q1 q2;refine Sa [(2,I false)] V fun J V=>sr 18 (Ka 3 [(4,I (!((tk sv n).toList == (⟨#[]⟩:ByteArray).toList))),(5,I (!((tk sv n).toList == (⟨#[]⟩:ByteArray).toList)))] V fun J V=>?_);rw [(Ym sv n:((tk sv n).toList == (⟨#[]⟩:ByteArray).toList)=(decide (kd sv n=0\/kd sv n=8)))] at V;rcases rU (decide (kd sv n=0\/kd sv n=8)) with h1 | h1
 · rw [h1] at V;have h1p:=rV h1;refine Ka 15 [] V fun J V=>Ab (Aa (wp_ret (cv [I false] V ?_)));have hF:=O.only; clear V O;refine ⟨congrArg (fun b=>sB (.bool b)) ?_,hF⟩;unfold Da;by_cases q1:kd sv n=0\/kd sv n=8
   · first | exact (rZ (by omega)).symm | (exfalso; omega)
   by_cases q2:kd sv n=1
   · first | exact (rY (by omega)).symm | (exfalso; omega)
   have q3:=hby q1 q2;first | exact (rY (by omega)).symm | exact (rZ (by omega)).symm | (rw [Bool.eq_iff_iff]; simp only [beq_iff_eq,decide_eq_true_eq]; omega)
 rw [h1] at V;have h1p:=rX h1;refine Kb 2 [(5,I true),(7,u8 (sb (tk sv n) 0))] V [] (cc (⟨by omega,by omega⟩:(0:Int)<=0/\0 < (((tk sv n).size:Nat):Int)) c0) fun J V=>Mk 8 V O Tryz.func115 (Hx (sb (tk sv n) 0) _ (by omega) (by omega)) fun J w1 V O=>Ka 1 [(9,I (Bd (sb (tk sv n) 0)))] V fun J V=>?_;rw [(Ri (by omega):(Bd (sb (tk sv n) 0))=(decide (kd sv n=1)))] at V;rcases rU (decide (kd sv n=1)) with h2 | h2
 · rw [h2] at V;have h2p:=rV h2;refine Ka 11 [(2,I true)] V fun J V=>Ab (Aa (wp_ret (cv [I true] V ?_)));have hF:=O.only; clear V O;refine ⟨congrArg (fun b=>sB (.bool b)) ?_,hF⟩;unfold Da;by_cases q1:kd sv n=0\/kd sv n=8
   · first | exact (rZ (by omega)).symm | (exfalso; omega)
   by_cases q2:kd sv n=1
   · first | exact (rY (by omega)).symm | (exfalso; omega)
   have q3:=hby q1 q2;first | exact (rY (by omega)).symm | exact (rZ (by omega)).symm | (rw [Bool.eq_iff_iff]; simp only [beq_iff_eq,decide_eq_true_eq]; omega)
 rw [h2] at V;have h2p:=rX h2;refine Kb 5 [(12,I ((sb (tk sv n) 0) == 60)),(13,I ((sb (tk sv n) 0) == 60)),(14,I ((sb (tk sv n) 0) == 60))] V [] (cc (⟨by omega,by omega⟩:(0:Int)<=0/\0 < (((tk sv n).size:Nat):Int)) c0) fun J V=>?_;rcases rU ((sb (tk sv n) 0) == 60) with h3 | h3
 · rw [h3] at V;have h3p:=eq_of_beq h3;refine Ka 6 [(2,I true)] V fun J V=>Ab (Aa (wp_ret (cv [I true] V ?_)));have hF:=O.only; clear V O;refine ⟨congrArg (fun b=>sB (.bool b)) ?_,hF⟩;unfold Da;by_cases q1:kd sv n=0\/kd sv n=8
   · first | exact (rZ (by omega)).symm | (exfalso; omega)
   by_cases q2:kd sv n=1
   · first | exact (rY (by omega)).symm | (exfalso; omega)
   have q3:=hby q1 q2;first | exact (rY (by omega)).symm | exact (rZ (by omega)).symm | (rw [Bool.eq_iff_iff]; simp only [beq_iff_eq,decide_eq_true_eq]; omega)
 rw [h3] at V;have h3p:=ne_of_beq_false h3;refine Kb 6 [(2,I ((sb (tk sv n) 0) == 62))] V [] (cc (⟨by omega,by omega⟩:(0:Int)<=0/\0 < (((tk sv n).size:Nat):Int)) c0) fun J V=>Ab (Aa (wp_ret (cv [I ((sb (tk sv n) 0) == 62)] V ?_)));have hF:=O.only; clear V O;refine ⟨congrArg (fun b=>sB (.bool b)) ?_,hF⟩;unfold Da;by_cases q1:kd sv n=0\/kd sv n=8
 · first | exact (rZ (by omega)).symm | (exfalso; omega)
 by_cases q2:kd sv n=1
 · first | exact (rY (by omega)).symm | (exfalso; omega)
 have q3:=hby q1 q2;first | exact (rY (by omega)).symm | exact (rZ (by omega)).symm | (rw [Bool.eq_iff_iff]; simp only [beq_iff_eq,decide_eq_true_eq]; omega)
theorem C8 (pb:Nat) (sv:ByteArray) (n:Nat) (w:World) (hn:n<=sv.size) (hs:sv.size<=1000000) (er:Int) (hB:Blk w pb 164 [Y sv,Z ((n:Nat):Int),.slice none 0 0]) :
 Calls sA 127 #[pt pb,Z er] w fun e w'=>e = .panicked (pnc n er)/\Only Ai w w':=by
 refine Ao (args:=[pt pb,Z er]) (m:=9) (n:=11) Tryz.func127 rfl (by kernel_rfl) (by kernel_rfl) fun J V=>?_;have O:=Ow.nil sA Ai w;refine rr 8 (Kb 7 [(10,.iface 160 (.agg #[Z ((n:Nat):Int),Z er]))] V [Z ((n:Nat):Int)] (cc (((hB.keep O.only (fun h=>h)).ld1 (i:=1) (by kernel_rfl) (by kernel_rfl)):Ld sA w ⟨pb,1,none⟩ 3 (Z ((n:Nat):Int))) c0) fun J V=>Ag (kY (t:=160) (v:=(.agg #[Z ((n:Nat):Int),Z er])) V ?_));show _/\_;exact ⟨V.dfr,rfl,O.only⟩
abbrev PP {α:Type} (r:PR α) (T:OwL) (w w':World) (e:Ending) (ok : α->Nat->Prop):Prop :=
 (∃ a b,r = .error (a,b)/\e = .panicked (pnc a b)/\Only (inT T) w w')\/∃ v m,r = .ok (v,m)/\ok v m
theorem C1 {s:ByteArray} {n m:Nat} {v:ByteArray} (hn:n<=s.size) (h:Cw s n = .ok (v,m)):v=tk s n/\m=nx s n/\m<=s.size/\n < m/\kd s n=1/\v.size<=60/\1<=v.size:=by
 unfold Cw at h;split at h
 · cases h
 rename_i h1
 split at h
 · cases h
 rename_i h2
 cases h;have h3:=Ef s n;have h4:=Dv s n;exact ⟨rfl,rfl,Hn hn,P7 (by omega),by omega,by omega,by omega⟩
theorem Du (pb:Nat) (sv:ByteArray) (n:Nat) (w:World) (hn:n<=sv.size) (hs:sv.size<=1000000) (h0:Ow sA (inT (TP pb sv n)) w w (TP pb sv n)) :
 Calls sA 143 #[pt pb] w fun e w'=>PP (Cw sv n) (TP pb sv n) w w' e fun v m=>e = .returned (Y v)/\Ow sA (inT (TP pb sv n)) w w' (TP pb sv m):=by
 refine Ao (args:=[pt pb]) (m:=26) (n:=27) Tryz.func143 rfl (by kernel_rfl) (by kernel_rfl) fun J V=>?_;have O:Ow sA (inT (TP pb sv n)) w w [(pb,164,[Y sv,Z ((n:Nat):Int),.slice none 0 0])]:=h0;have htl:=Dv sv n;have htz:=Ef sv n;have hsb:=Ns (tk sv n) 0;refine Sa [(2,Y (⟨#[]⟩))] V fun J V=>sr 3 (Ka 1 [(4,pt pb)] V fun J V=>Mk 5 V O Tryz.func126 (Dh pb sv n _ (by omega) (by omega) (O.b 0)) fun J w1 V O=>Ka 1 [(3,Y (tk sv n))] V fun J V=>Ab (Aa (wp_seq (wp_block (sr 9 (Ka 3 [(8,I ((tk sv n).toList == (⟨#[]⟩:ByteArray).toList)),(9,I ((tk sv n).toList == (⟨#[]⟩:ByteArray).toList))] V fun J V=>?_))))));rw [(Ym sv n:((tk sv n).toList == (⟨#[]⟩:ByteArray).toList)=(decide (kd sv n=0\/kd sv n=8)))] at V;rcases rU (decide (kd sv n=0\/kd sv n=8)) with h1 | h1
 · rw [h1] at V;have h1p:=rV h1;refine Ka 6 [(6,I true)] V fun J V=>Ab (Aa (cT V (rr 2 (Ka 1 [(15,pt pb)] V fun J V=>Ag (mP (d:=(some 16)) V Tryz.func127 ((C8 pb sv n _ (by omega) (by omega) 3 (O.b 0)).mono ?_))))));rintro en w2 ⟨rfl,hW⟩;refine .inr ⟨_,rfl,?_⟩;show _/\_;exact ⟨V.dfr,Or.inl ⟨_,_,(by unfold Cw; rw [if_pos (by omega)]),rfl,Ow.pan0 O hW⟩⟩
 rw [h1] at V;have h1p:=rX h1;refine Kb 2 [(9,I false),(11,u8 (sb (tk sv n) 0))] V [] (cc (⟨by omega,by omega⟩:(0:Int)<=0/\0 < (((tk sv n).size:Nat):Int)) c0) fun J V=>Mk 12 V O Tryz.func115 (Hx (sb (tk sv n) 0) _ (by omega) (by omega)) fun J w3 V O=>Ka 3 [(6,I (!(Bd (sb (tk sv n) 0))))] V fun J V=>?_;rw [(Ri (by omega):(Bd (sb (tk sv n) 0))=(decide (kd sv n=1)))] at V;refine Ab (Aa ?_);rcases rU (decide (kd sv n=1)) with h2 | h2
 · rw [h2] at V;have h2p:=rV h2;refine cF V (Sa [(17,I (decide ((((tk sv n).size:Nat):Int) > 60)))] V fun J V=>?_);rcases rU (decide ((((tk sv n).size:Nat):Int) > 60)) with h3 | h3
   · rw [h3] at V;have h3p:=rV h3;refine cT V (rr 2 (Ka 1 [(21,pt pb)] V fun J V=>Ag (mP (d:=(some 22)) V Tryz.func127 ((C8 pb sv n _ (by omega) (by omega) 6 (O.b 0)).mono ?_))));rintro en w4 ⟨rfl,hW⟩;refine .inr ⟨_,rfl,?_⟩;show _/\_;exact ⟨V.dfr,Or.inl ⟨_,_,(by unfold Cw; rw [if_neg (by omega),if_pos (by omega)]),rfl,Ow.pan0 O hW⟩⟩
   rw [h3] at V;have h3p:=rX h3;refine cF V (wp_skip (Ac (Aa (sr 3 (Ka 2 [(23,pt pb),(24,Y (tk sv n))] V fun J V=>Ag (mC (d:=(some 25)) V Tryz.func129 ((Nn pb sv n _ (by omega) (by omega) (tk sv n) (by first | omega | (have:=Ef sv n; have:=Sc sv n; omega)) (Ow.self (A:=[]) (O.tt))).mono ?_)))))));rintro en w5 ⟨rfl,hW⟩;refine ⟨_,rfl,?_⟩;clear V J; intro J V;replace O:=Ow.pass (A:=[]) O hW; clear hW;exact Ab (Aa (Sa [(2,Y (tk sv n))] V fun J V=>wp_ret (cv [Y (tk sv n)] V (Or.inr ⟨_,_,by unfold Cw; rw [if_neg (by omega),if_neg (by omega)],rfl,by unfold nx; rw [← htz]; exact O⟩))))
 rw [h2] at V;have h2p:=rX h2;refine cT V (rr 2 (Ka 1 [(15,pt pb)] V fun J V=>Ag (mP (d:=(some 16)) V Tryz.func127 ((C8 pb sv n _ (by omega) (by omega) 3 (O.b 0)).mono ?_))));rintro en w6 ⟨rfl,hW⟩;refine .inr ⟨_,rfl,?_⟩;show _/\_;exact ⟨V.dfr,Or.inl ⟨_,_,(by unfold Cw; rw [if_pos (by omega)]),rfl,Ow.pan0 O hW⟩⟩
open Go Go.RowKit Go.Proofs.Sx
structure CV where
 p:Option Addr
 c:Nat
 d:CmdL
structure JV where
 p:Option Addr
 c:Nat
 cmds:List CV
 bg:Bool
def CV0:CV:=⟨none,0,Fh⟩
def JV0:JV:=⟨none,0,[],false⟩
def JV.d (x:JV):JobL:=⟨x.cmds.map (·.d),x.bg⟩
def fC (x:CV):List Value:=[.slice x.p x.d.words.length x.c,.string x.d.inp,.string x.d.out,.bool x.d.app]
def fJ (x:JV):List Value:=[.slice x.p x.cmds.length x.c,.bool x.bg]
theorem Ey:Enc fC 4:=⟨fun _=>rfl,fun x v hv=>by
 simp only [fC,List.mem_cons,sL,or_false] at hv
 rcases hv with rfl | rfl | rfl | rfl <;> rfl⟩
theorem Ec:Enc fJ 2:=⟨fun _=>rfl,fun x v hv=>by
 simp only [fJ,List.mem_cons,sL,or_false] at hv
 rcases hv with rfl | rfl <;> rfl⟩
def VC (w:World) (x:CV):Prop:=Vw fT w (.slice x.p x.d.words.length x.c) x.d.words
def VJ (w:World) (x:JV):Prop:=Vw fC w (.slice x.p x.cmds.length x.c) x.cmds/\∀ y∈x.cmds,VC w y
def VL (w:World) (v:Value) (l:List JV):Prop:=Vw fJ w v l/\∀ x∈l,VJ w x
section
variable {w w':World}
theorem VC.keep {x:CV} (h:VC w x) (k:Only Ai w w'):VC w' x:=Vw.keep h k
theorem VJ.keep {x:JV} (h:VJ w x) (k:Only Ai w w'):VJ w' x:=⟨h.1.keep k,fun y hy=>(h.2 y hy).keep k⟩
theorem VL.keep {v:Value} {l:List JV} (h:VL w v l) (k:Only Ai w w'):VL w' v l:=⟨h.1.keep k,fun y hy=>(h.2 y hy).keep k⟩
end
def InC (eT:TypeId):List CV->OwL->Prop
 | [],T=>T=[]
 | x::r,T=>∃ Tx Tr,One fT eT 1 x.p x.c x.d.words Tx/\InC eT r Tr/\T=Tx++Tr
def InJ (eC eT:TypeId):List JV->OwL->Prop
 | [],T=>T=[]
 | x::r,T=>∃ T0 Tc Tr,One fC eC 4 x.p x.c x.cmds T0/\InC eT x.cmds Tc/\InJ eC eT r Tr/\T=T0++(Tc++Tr)
def InW (eC:TypeId):List JV->OwL->Prop
 | [],T=>T=[]
 | x::r,T=>∃ T0 Tr,One fC eC 4 x.p x.c x.cmds T0/\InW eC r Tr/\T=T0++Tr
section
variable {eC eT:TypeId}
theorem InC.snoc {x:CV} {Tw:OwL} (h1:One fT eT 1 x.p x.c x.d.words Tw) : ∀ {l:List CV} {T:OwL},InC eT l T->InC eT (l++[x]) (T++Tw)
 | [],T,h=>by subst h; exact ⟨Tw,[],h1,rfl,by simp⟩
 | y::r,T,h=>by
  obtain ⟨Tx,Tr,a,b,rfl⟩:=h
  exact ⟨Tx,Tr++Tw,a,InC.snoc h1 b,by simp⟩
theorem InJ.snoc {x:JV} {T0 Tc:OwL} (h1:One fC eC 4 x.p x.c x.cmds T0) (h2:InC eT x.cmds Tc) : ∀ {l:List JV} {T:OwL},InJ eC eT l T->InJ eC eT (l++[x]) (T++(T0++Tc))
 | [],T,h=>by subst h; exact ⟨T0,Tc,[],h1,h2,rfl,by simp⟩
 | y::r,T,h=>by
  obtain ⟨Ta,Tb,Tr,a,b,c,rfl⟩:=h
  exact ⟨Ta,Tb,Tr++(T0++Tc),a,b,InJ.snoc h1 h2 c,by simp⟩
theorem InW.snoc {x:JV} {T0:OwL} (h1:One fC eC 4 x.p x.c x.cmds T0) : ∀ {l:List JV} {T:OwL},InW eC l T->InW eC (l++[x]) (T++T0)
 | [],T,h=>by subst h; exact ⟨T0,[],h1,rfl,by simp⟩
 | y::r,T,h=>by
  obtain ⟨Ta,Tr,a,c,rfl⟩:=h
  exact ⟨Ta,Tr++T0,a,InW.snoc h1 c,by simp⟩
variable {X:Nat->Prop} {w₀ w:World}
theorem InC.view : ∀ {l:List CV} {T A B:OwL},InC eT l T->OwM X w₀ w (A++(T++B))->∀ y∈l,VC w y
 | [],T,A,B,_,_,y,hy=>absurd hy sL
 | x::r,T,A,B,h,O,y,hy=>by
  obtain ⟨Tx,Tr,h1,h2,rfl⟩:=h
  rcases List.mem_cons.1 hy with rfl | hy
  · exact One.vw (A:=A) (B:=Tr++B) h1 (by simpa using O)
  · exact InC.view (A:=A++Tx) (B:=B) h2 (by simpa using O) y hy
theorem InJ.view : ∀ {l:List JV} {T A B:OwL},InJ eC eT l T->OwM X w₀ w (A++(T++B))->∀ y∈l,VJ w y
 | [],T,A,B,_,_,y,hy=>absurd hy sL
 | x::r,T,A,B,h,O,y,hy=>by
  obtain ⟨T0,Tc,Tr,h1,h2,h3,rfl⟩:=h
  rcases List.mem_cons.1 hy with rfl | hy
  · exact ⟨One.vw (A:=A) (B:=Tc++(Tr++B)) h1 (by simpa using O),InC.view (A:=A++T0) (B:=Tr++B) h2 (by simpa using O)⟩
  · exact InJ.view (A:=A++(T0++Tc)) (B:=B) h3 (by simpa using O) y hy
theorem InW.view : ∀ {l:List JV} {T A B:OwL},InW eC l T->OwM X w₀ w (A++(T++B))->(∀ x∈l,∀ y∈x.cmds,VC w y)->∀ y∈l,VJ w y
 | [],T,A,B,_,_,_,y,hy=>absurd hy sL
 | x::r,T,A,B,h,O,hv,y,hy=>by
  obtain ⟨T0,Tr,h1,h3,rfl⟩:=h
  rcases List.mem_cons.1 hy with rfl | hy
  · exact ⟨One.vw (A:=A) (B:=Tr++B) h1 (by simpa using O),fun z hz=>hv _ List.mem_cons_self z hz⟩
  · exact InW.view (A:=A++T0) (B:=B) h3 (by simpa using O) (fun a ha=>hv a (List.mem_cons_of_mem _ ha)) y hy
end
theorem D6 (pb:Nat) (sv:ByteArray) (n:Nat) (w:World) (hn:n<=sv.size) (hs:sv.size<=1000000) (h0:Ow sA (inT (TP pb sv n)) w w (TP pb sv n)) :
 Calls sA 129 #[pt pb,Y (tk sv n)] w fun e w'=>e = .returned (.tuple #[])/\Ow sA (inT (TP pb sv n)) w w' (TP pb sv (nx sv n)):=by
 have h1:=Ef sv n;have h2:=Sc sv n;have h:=Nn pb sv n w hn hs (tk sv n) (by omega) h0;rw [h1] at h;exact h
abbrev TC (cb:Nat) (p:Option Addr) (k:Nat) (c:CmdL):Nat×TypeId×List Value:=(cb,104,[.slice p c.words.length k,Y c.inp,Y c.out,I c.app])
abbrev TR (cb:Nat) (p:Option Addr) (k:Nat) (c:CmdL) (pb:Nat) (s:ByteArray) (n:Nat):OwL:=TC cb p k c::TP pb s n
theorem Lk {s:ByteArray} {n m:Nat} {c v:CmdL} (hn:n<=s.size) (h:Bo s c n = .ok (v,m)):v.words=c.words/\m<=s.size/\n < m:=by
 unfold Bo at h;split at h
 · cases h
 · cases hw:Cw s (nx s n) with
   | error e=>rw [hw] at h; cases h
   | ok q =>
    obtain ⟨u,k⟩:=q;rw [hw] at h;have h1:=Hn hn;obtain ⟨_,_,h2,h3,_⟩:=C1 h1 hw;have h4:n<=nx s n:=by unfold nx; have:=oP s (n+tl s n); omega
    cases h;refine ⟨?_,h2,by omega⟩;split <;> rfl
theorem Q7 (cb:Nat) (p:Option Addr) (k:Nat) (c:CmdL) (pb:Nat) (sv:ByteArray) (n:Nat) (w:World) (hn:n<=sv.size) (hs:sv.size<=1000000) (hk:kd sv n=2\/kd sv n=3\/kd sv n=4) (h0:Ow sA (inT (TR cb p k c pb sv n)) w w (TR cb p k c pb sv n)) :
 Calls sA 142 #[pt pb,pt cb,Y (tk sv n)] w fun e w'=>PP (Bo sv c n) (TR cb p k c pb sv n) w w' e fun v m=>e = .returned (.tuple #[])/\Ow sA (inT (TR cb p k c pb sv n)) w w' (TR cb p k v pb sv m):=by
 refine Ao (args:=[pt pb,pt cb,Y (tk sv n)]) (m:=45) (n:=48) Tryz.func142 rfl (by kernel_rfl) (by kernel_rfl) fun J V=>?_;have O:Ow sA (inT (TR cb p k c pb sv n)) w w [(cb,104,[.slice p c.words.length k,Y c.inp,Y c.out,I c.app]),(pb,164,[Y sv,Z ((n:Nat):Int),.slice none 0 0])]:=h0;have hnx:=Hn hn;refine wp_seq (sr 20 (Ka 3 [(7,I ((tk sv n).toList == (⟨#[60]⟩:ByteArray).toList)),(8,I ((tk sv n).toList == (⟨#[60]⟩:ByteArray).toList))] V fun J V=>?_));rw [(Nm sv n:((tk sv n).toList == (⟨#[60]⟩:ByteArray).toList)=(decide (kd sv n=2)))] at V;rcases rU (decide (kd sv n=2)) with h1 | h1
 · rw [h1] at V;have h1p:=rV h1;refine Kb 7 [(13,I (!(c.inp.toList == (⟨#[]⟩:ByteArray).toList))),(14,I (!(c.inp.toList == (⟨#[]⟩:ByteArray).toList))),(15,I (!(c.inp.toList == (⟨#[]⟩:ByteArray).toList)))] V [Y c.inp] (cc (O.l1 0 1 9 (Y c.inp)) c0) fun J V=>?_;rw [(As c.inp:(c.inp.toList == (⟨#[]⟩:ByteArray).toList)=(decide (c.inp.size=0)))] at V;rcases rU (decide (c.inp.size=0)) with h2 | h2
   · rw [h2] at V;have h2p:=rV h2;refine Ka 3 [(15,I false),(17,I (!((tk sv n).toList == (⟨#[60]⟩:ByteArray).toList))),(18,I (!((tk sv n).toList == (⟨#[60]⟩:ByteArray).toList)))] V fun J V=>?_;rw [(Nm sv n:((tk sv n).toList == (⟨#[60]⟩:ByteArray).toList)=(decide (kd sv n=2)))] at V;rcases rU (decide (kd sv n=2)) with h3 | h3
     · rw [h3] at V;have h3p:=rV h3;refine Ka 7 [(25,I false)] V fun J V=>Ab (Aa (cF V (wp_skip (Aa (sr 3 (Ka 2 [(28,pt pb),(29,Y (tk sv n))] V fun J V=>Ag (mC (d:=(some 30)) V Tryz.func129 ((D6 pb sv n _ (by omega) (by omega) (Ow.self (A:=[_]) (O.tt))).mono ?_))))))));rintro en w1 ⟨rfl,hW⟩;refine ⟨_,rfl,?_⟩;clear V J; intro J V;replace O:=Ow.pass (A:=[_]) O hW; clear hW;refine Ab (Aa (wp_seq (Sa [(32,I ((tk sv n).toList == (⟨#[60]⟩:ByteArray).toList))] V fun J V=>?_)));rw [(Nm sv n:((tk sv n).toList == (⟨#[60]⟩:ByteArray).toList)=(decide (kd sv n=2)))] at V;rcases rU (decide (kd sv n=2)) with h4 | h4
       · rw [h4] at V;have h4p:=rV h4;refine cT V (sr 6 (Ka 2 [(33,pt cb),(34,pt pb)] V fun J V=>Ag (mP (d:=(some 35)) V Tryz.func143 ((Du pb sv (nx sv n) _ (by omega) (by omega) (Ow.self (A:=[_]) (O.tt))).mono ?_))));rintro en w2 (⟨ea,ee,hr,rfl,hW⟩ | ⟨vv,mm,hr,rfl,hW⟩)
         · refine .inr ⟨_,rfl,?_⟩;show _/\_;exact ⟨V.dfr,Or.inl ⟨_,_,(by unfold Bo; rw [if_neg (by omega),hr]),rfl,Ow.pan (A:=[_]) (O.tt:Ow sA (inT (TR cb p k c pb sv n)) w _ ([(cb,104,[.slice p c.words.length k,Y c.inp,Y c.out,I c.app])]++(TP pb sv (nx sv n)++(([]++([])))))) hW⟩⟩
         refine .inl ⟨_,rfl,?_⟩;clear V J; intro J V;obtain ⟨rfl,rfl,hq11,hq12,hq13,hq14,hq15⟩:=C1 (by omega) hr;replace O:=Ow.pass (A:=[_]) O hW; clear hW;exact Ka 2 [(37,pf cb 1)] V fun J V=>Ms 1 [Y (tk sv (nx sv n))] 0 V O fun w3 O=>Ab (Aa (wp_ret (Ad (cv [] V (Or.inr ⟨⟨c.words,(tk sv (nx sv n)),c.out,c.app⟩,_,by unfold Bo; rw [if_neg (by omega),hr]; simp only [if_pos (show kd sv n=2 by omega)],rfl,O⟩)))))
       rw [h4] at V;have h4p:=rX h4;refine cF V (wp_skip (Aa (rr 12 (Ka 3 [(38,pt cb),(39,pt cb),(40,pt pb)] V fun J V=>Ag (mP (d:=(some 41)) V Tryz.func143 ((Du pb sv (nx sv n) _ (by omega) (by omega) (Ow.self (A:=[_]) (O.tt))).mono ?_))))));rintro en w4 (⟨ea,ee,hr,rfl,hW⟩ | ⟨vv,mm,hr,rfl,hW⟩)
       · refine .inr ⟨_,rfl,?_⟩;show _/\_;exact ⟨V.dfr,Or.inl ⟨_,_,(by unfold Bo; rw [if_neg (by omega),hr]),rfl,Ow.pan (A:=[_]) (O.tt:Ow sA (inT (TR cb p k c pb sv n)) w _ ([(cb,104,[.slice p c.words.length k,Y c.inp,Y c.out,I c.app])]++(TP pb sv (nx sv n)++(([]++([])))))) hW⟩⟩
       refine .inl ⟨_,rfl,?_⟩;clear V J; intro J V;obtain ⟨rfl,rfl,hq21,hq22,hq23,hq24,hq25⟩:=C1 (by omega) hr;replace O:=Ow.pass (A:=[_]) O hW; clear hW;refine Ka 4 [(43,I ((tk sv n).toList == (⟨#[62,62]⟩:ByteArray).toList)),(45,pf cb 2)] V fun J V=>?_;rw [(Qy sv n:((tk sv n).toList == (⟨#[62,62]⟩:ByteArray).toList)=(decide (kd sv n=4)))] at V;exact Ms 2 [Y (tk sv (nx sv n))] 0 V O fun w5 O=>Ka 2 [(43,I (decide (kd sv n=4))),(47,pf cb 3)] V fun J V=>Ms 3 [I (decide (kd sv n=4))] 0 V O fun w6 O=>Ab (Fq (cv [] V (Or.inr ⟨⟨c.words,c.inp,(tk sv (nx sv n)),(decide (kd sv n=4))⟩,_,by unfold Bo; rw [if_neg (by omega),hr]; simp only [if_neg (show ¬ kd sv n=2 by omega)],rfl,O⟩)))
     rw [h3] at V;have h3p:=rX h3;refine Kb 7 [(25,I (!(c.out.toList == (⟨#[]⟩:ByteArray).toList)))] V [Y c.out] (cc (O.l1 0 2 9 (Y c.out)) c0) fun J V=>?_;rw [(As c.out:(c.out.toList == (⟨#[]⟩:ByteArray).toList)=(decide (c.out.size=0)))] at V;refine Ab (Aa ?_);rcases rU (decide (c.out.size=0)) with h5 | h5
     · rw [h5] at V;have h5p:=rV h5;refine cF V (wp_skip (Aa (sr 3 (Ka 2 [(28,pt pb),(29,Y (tk sv n))] V fun J V=>Ag (mC (d:=(some 30)) V Tryz.func129 ((D6 pb sv n _ (by omega) (by omega) (Ow.self (A:=[_]) (O.tt))).mono ?_))))));rintro en w7 ⟨rfl,hW⟩;refine ⟨_,rfl,?_⟩;clear V J; intro J V;replace O:=Ow.pass (A:=[_]) O hW; clear hW;refine Ab (Aa (wp_seq (Sa [(32,I ((tk sv n).toList == (⟨#[60]⟩:ByteArray).toList))] V fun J V=>?_)));rw [(Nm sv n:((tk sv n).toList == (⟨#[60]⟩:ByteArray).toList)=(decide (kd sv n=2)))] at V;rcases rU (decide (kd sv n=2)) with h6 | h6
       · rw [h6] at V;have h6p:=rV h6;refine cT V (sr 6 (Ka 2 [(33,pt cb),(34,pt pb)] V fun J V=>Ag (mP (d:=(some 35)) V Tryz.func143 ((Du pb sv (nx sv n) _ (by omega) (by omega) (Ow.self (A:=[_]) (O.tt))).mono ?_))));rintro en w8 (⟨ea,ee,hr,rfl,hW⟩ | ⟨vv,mm,hr,rfl,hW⟩)
         · refine .inr ⟨_,rfl,?_⟩;show _/\_;exact ⟨V.dfr,Or.inl ⟨_,_,(by unfold Bo; rw [if_neg (by omega),hr]),rfl,Ow.pan (A:=[_]) (O.tt:Ow sA (inT (TR cb p k c pb sv n)) w _ ([(cb,104,[.slice p c.words.length k,Y c.inp,Y c.out,I c.app])]++(TP pb sv (nx sv n)++(([]++([])))))) hW⟩⟩
         refine .inl ⟨_,rfl,?_⟩;clear V J; intro J V;obtain ⟨rfl,rfl,hq31,hq32,hq33,hq34,hq35⟩:=C1 (by omega) hr;replace O:=Ow.pass (A:=[_]) O hW; clear hW;exact Ka 2 [(37,pf cb 1)] V fun J V=>Ms 1 [Y (tk sv (nx sv n))] 0 V O fun w9 O=>Ab (Aa (wp_ret (Ad (cv [] V (Or.inr ⟨⟨c.words,(tk sv (nx sv n)),c.out,c.app⟩,_,by unfold Bo; rw [if_neg (by omega),hr]; simp only [if_pos (show kd sv n=2 by omega)],rfl,O⟩)))))
       rw [h6] at V;have h6p:=rX h6;refine cF V (wp_skip (Aa (rr 12 (Ka 3 [(38,pt cb),(39,pt cb),(40,pt pb)] V fun J V=>Ag (mP (d:=(some 41)) V Tryz.func143 ((Du pb sv (nx sv n) _ (by omega) (by omega) (Ow.self (A:=[_]) (O.tt))).mono ?_))))));rintro en w10 (⟨ea,ee,hr,rfl,hW⟩ | ⟨vv,mm,hr,rfl,hW⟩)
       · refine .inr ⟨_,rfl,?_⟩;show _/\_;exact ⟨V.dfr,Or.inl ⟨_,_,(by unfold Bo; rw [if_neg (by omega),hr]),rfl,Ow.pan (A:=[_]) (O.tt:Ow sA (inT (TR cb p k c pb sv n)) w _ ([(cb,104,[.slice p c.words.length k,Y c.inp,Y c.out,I c.app])]++(TP pb sv (nx sv n)++(([]++([])))))) hW⟩⟩
       refine .inl ⟨_,rfl,?_⟩;clear V J; intro J V;obtain ⟨rfl,rfl,hq41,hq42,hq43,hq44,hq45⟩:=C1 (by omega) hr;replace O:=Ow.pass (A:=[_]) O hW; clear hW;refine Ka 4 [(43,I ((tk sv n).toList == (⟨#[62,62]⟩:ByteArray).toList)),(45,pf cb 2)] V fun J V=>?_;rw [(Qy sv n:((tk sv n).toList == (⟨#[62,62]⟩:ByteArray).toList)=(decide (kd sv n=4)))] at V;exact Ms 2 [Y (tk sv (nx sv n))] 0 V O fun w11 O=>Ka 2 [(43,I (decide (kd sv n=4))),(47,pf cb 3)] V fun J V=>Ms 3 [I (decide (kd sv n=4))] 0 V O fun w12 O=>Ab (Fq (cv [] V (Or.inr ⟨⟨c.words,c.inp,(tk sv (nx sv n)),(decide (kd sv n=4))⟩,_,by unfold Bo; rw [if_neg (by omega),hr]; simp only [if_neg (show ¬ kd sv n=2 by omega)],rfl,O⟩)))
     rw [h5] at V;have h5p:=rX h5;refine cT V (rr 2 (Ka 1 [(26,pt pb)] V fun J V=>Ag (mP (d:=(some 27)) V Tryz.func127 ((C8 pb sv n _ (by omega) (by omega) 3 (O.b 1)).mono ?_))));rintro en w13 ⟨rfl,hW⟩;refine .inr ⟨_,rfl,?_⟩;show _/\_;exact ⟨V.dfr,Or.inl ⟨_,_,(by unfold Bo; rw [if_pos (by omega)]),rfl,Ow.pan0 O hW⟩⟩
   rw [h2] at V;have h2p:=rX h2;refine Ka 10 [(25,I true)] V fun J V=>Ab (Aa (cT V (rr 2 (Ka 1 [(26,pt pb)] V fun J V=>Ag (mP (d:=(some 27)) V Tryz.func127 ((C8 pb sv n _ (by omega) (by omega) 3 (O.b 1)).mono ?_))))));rintro en w14 ⟨rfl,hW⟩;refine .inr ⟨_,rfl,?_⟩;show _/\_;exact ⟨V.dfr,Or.inl ⟨_,_,(by unfold Bo; rw [if_pos (by omega)]),rfl,Ow.pan0 O hW⟩⟩
 rw [h1] at V;have h1p:=rX h1;refine Ka 10 [(15,I false),(17,I (!((tk sv n).toList == (⟨#[60]⟩:ByteArray).toList))),(18,I (!((tk sv n).toList == (⟨#[60]⟩:ByteArray).toList)))] V fun J V=>?_;rw [(Nm sv n:((tk sv n).toList == (⟨#[60]⟩:ByteArray).toList)=(decide (kd sv n=2)))] at V;rcases rU (decide (kd sv n=2)) with h7 | h7
 · rw [h7] at V;have h7p:=rV h7;refine Ka 7 [(25,I false)] V fun J V=>Ab (Aa (cF V (wp_skip (Aa (sr 3 (Ka 2 [(28,pt pb),(29,Y (tk sv n))] V fun J V=>Ag (mC (d:=(some 30)) V Tryz.func129 ((D6 pb sv n _ (by omega) (by omega) (Ow.self (A:=[_]) (O.tt))).mono ?_))))))));rintro en w15 ⟨rfl,hW⟩;refine ⟨_,rfl,?_⟩;clear V J; intro J V;replace O:=Ow.pass (A:=[_]) O hW; clear hW;refine Ab (Aa (wp_seq (Sa [(32,I ((tk sv n).toList == (⟨#[60]⟩:ByteArray).toList))] V fun J V=>?_)));rw [(Nm sv n:((tk sv n).toList == (⟨#[60]⟩:ByteArray).toList)=(decide (kd sv n=2)))] at V;rcases rU (decide (kd sv n=2)) with h8 | h8
   · rw [h8] at V;have h8p:=rV h8;refine cT V (sr 6 (Ka 2 [(33,pt cb),(34,pt pb)] V fun J V=>Ag (mP (d:=(some 35)) V Tryz.func143 ((Du pb sv (nx sv n) _ (by omega) (by omega) (Ow.self (A:=[_]) (O.tt))).mono ?_))));rintro en w16 (⟨ea,ee,hr,rfl,hW⟩ | ⟨vv,mm,hr,rfl,hW⟩)
     · refine .inr ⟨_,rfl,?_⟩;show _/\_;exact ⟨V.dfr,Or.inl ⟨_,_,(by unfold Bo; rw [if_neg (by omega),hr]),rfl,Ow.pan (A:=[_]) (O.tt:Ow sA (inT (TR cb p k c pb sv n)) w _ ([(cb,104,[.slice p c.words.length k,Y c.inp,Y c.out,I c.app])]++(TP pb sv (nx sv n)++(([]++([])))))) hW⟩⟩
     refine .inl ⟨_,rfl,?_⟩;clear V J; intro J V;obtain ⟨rfl,rfl,hq51,hq52,hq53,hq54,hq55⟩:=C1 (by omega) hr;replace O:=Ow.pass (A:=[_]) O hW; clear hW;exact Ka 2 [(37,pf cb 1)] V fun J V=>Ms 1 [Y (tk sv (nx sv n))] 0 V O fun w17 O=>Ab (Aa (wp_ret (Ad (cv [] V (Or.inr ⟨⟨c.words,(tk sv (nx sv n)),c.out,c.app⟩,_,by unfold Bo; rw [if_neg (by omega),hr]; simp only [if_pos (show kd sv n=2 by omega)],rfl,O⟩)))))
   rw [h8] at V;have h8p:=rX h8;refine cF V (wp_skip (Aa (rr 12 (Ka 3 [(38,pt cb),(39,pt cb),(40,pt pb)] V fun J V=>Ag (mP (d:=(some 41)) V Tryz.func143 ((Du pb sv (nx sv n) _ (by omega) (by omega) (Ow.self (A:=[_]) (O.tt))).mono ?_))))));rintro en w18 (⟨ea,ee,hr,rfl,hW⟩ | ⟨vv,mm,hr,rfl,hW⟩)
   · refine .inr ⟨_,rfl,?_⟩;show _/\_;exact ⟨V.dfr,Or.inl ⟨_,_,(by unfold Bo; rw [if_neg (by omega),hr]),rfl,Ow.pan (A:=[_]) (O.tt:Ow sA (inT (TR cb p k c pb sv n)) w _ ([(cb,104,[.slice p c.words.length k,Y c.inp,Y c.out,I c.app])]++(TP pb sv (nx sv n)++(([]++([])))))) hW⟩⟩
   refine .inl ⟨_,rfl,?_⟩;clear V J; intro J V;obtain ⟨rfl,rfl,hq61,hq62,hq63,hq64,hq65⟩:=C1 (by omega) hr;replace O:=Ow.pass (A:=[_]) O hW; clear hW;refine Ka 4 [(43,I ((tk sv n).toList == (⟨#[62,62]⟩:ByteArray).toList)),(45,pf cb 2)] V fun J V=>?_;rw [(Qy sv n:((tk sv n).toList == (⟨#[62,62]⟩:ByteArray).toList)=(decide (kd sv n=4)))] at V;exact Ms 2 [Y (tk sv (nx sv n))] 0 V O fun w19 O=>Ka 2 [(43,I (decide (kd sv n=4))),(47,pf cb 3)] V fun J V=>Ms 3 [I (decide (kd sv n=4))] 0 V O fun w20 O=>Ab (Fq (cv [] V (Or.inr ⟨⟨c.words,c.inp,(tk sv (nx sv n)),(decide (kd sv n=4))⟩,_,by unfold Bo; rw [if_neg (by omega),hr]; simp only [if_neg (show ¬ kd sv n=2 by omega)],rfl,O⟩)))
 rw [h7] at V;have h7p:=rX h7;refine Kb 7 [(25,I (!(c.out.toList == (⟨#[]⟩:ByteArray).toList)))] V [Y c.out] (cc (O.l1 0 2 9 (Y c.out)) c0) fun J V=>?_;rw [(As c.out:(c.out.toList == (⟨#[]⟩:ByteArray).toList)=(decide (c.out.size=0)))] at V;refine Ab (Aa ?_);rcases rU (decide (c.out.size=0)) with h9 | h9
 · rw [h9] at V;have h9p:=rV h9;refine cF V (wp_skip (Aa (sr 3 (Ka 2 [(28,pt pb),(29,Y (tk sv n))] V fun J V=>Ag (mC (d:=(some 30)) V Tryz.func129 ((D6 pb sv n _ (by omega) (by omega) (Ow.self (A:=[_]) (O.tt))).mono ?_))))));rintro en w21 ⟨rfl,hW⟩;refine ⟨_,rfl,?_⟩;clear V J; intro J V;replace O:=Ow.pass (A:=[_]) O hW; clear hW;refine Ab (Aa (wp_seq (Sa [(32,I ((tk sv n).toList == (⟨#[60]⟩:ByteArray).toList))] V fun J V=>?_)));rw [(Nm sv n:((tk sv n).toList == (⟨#[60]⟩:ByteArray).toList)=(decide (kd sv n=2)))] at V;rcases rU (decide (kd sv n=2)) with h10 | h10
   · rw [h10] at V;have h10p:=rV h10;refine cT V (sr 6 (Ka 2 [(33,pt cb),(34,pt pb)] V fun J V=>Ag (mP (d:=(some 35)) V Tryz.func143 ((Du pb sv (nx sv n) _ (by omega) (by omega) (Ow.self (A:=[_]) (O.tt))).mono ?_))));rintro en w22 (⟨ea,ee,hr,rfl,hW⟩ | ⟨vv,mm,hr,rfl,hW⟩)
     · refine .inr ⟨_,rfl,?_⟩;show _/\_;exact ⟨V.dfr,Or.inl ⟨_,_,(by unfold Bo; rw [if_neg (by omega),hr]),rfl,Ow.pan (A:=[_]) (O.tt:Ow sA (inT (TR cb p k c pb sv n)) w _ ([(cb,104,[.slice p c.words.length k,Y c.inp,Y c.out,I c.app])]++(TP pb sv (nx sv n)++(([]++([])))))) hW⟩⟩
     refine .inl ⟨_,rfl,?_⟩;clear V J; intro J V;obtain ⟨rfl,rfl,hq71,hq72,hq73,hq74,hq75⟩:=C1 (by omega) hr;replace O:=Ow.pass (A:=[_]) O hW; clear hW;exact Ka 2 [(37,pf cb 1)] V fun J V=>Ms 1 [Y (tk sv (nx sv n))] 0 V O fun w23 O=>Ab (Aa (wp_ret (Ad (cv [] V (Or.inr ⟨⟨c.words,(tk sv (nx sv n)),c.out,c.app⟩,_,by unfold Bo; rw [if_neg (by omega),hr]; simp only [if_pos (show kd sv n=2 by omega)],rfl,O⟩)))))
   rw [h10] at V;have h10p:=rX h10;refine cF V (wp_skip (Aa (rr 12 (Ka 3 [(38,pt cb),(39,pt cb),(40,pt pb)] V fun J V=>Ag (mP (d:=(some 41)) V Tryz.func143 ((Du pb sv (nx sv n) _ (by omega) (by omega) (Ow.self (A:=[_]) (O.tt))).mono ?_))))));rintro en w24 (⟨ea,ee,hr,rfl,hW⟩ | ⟨vv,mm,hr,rfl,hW⟩)
   · refine .inr ⟨_,rfl,?_⟩;show _/\_;exact ⟨V.dfr,Or.inl ⟨_,_,(by unfold Bo; rw [if_neg (by omega),hr]),rfl,Ow.pan (A:=[_]) (O.tt:Ow sA (inT (TR cb p k c pb sv n)) w _ ([(cb,104,[.slice p c.words.length k,Y c.inp,Y c.out,I c.app])]++(TP pb sv (nx sv n)++(([]++([])))))) hW⟩⟩
   refine .inl ⟨_,rfl,?_⟩;clear V J; intro J V;obtain ⟨rfl,rfl,hq81,hq82,hq83,hq84,hq85⟩:=C1 (by omega) hr;replace O:=Ow.pass (A:=[_]) O hW; clear hW;refine Ka 4 [(43,I ((tk sv n).toList == (⟨#[62,62]⟩:ByteArray).toList)),(45,pf cb 2)] V fun J V=>?_;rw [(Qy sv n:((tk sv n).toList == (⟨#[62,62]⟩:ByteArray).toList)=(decide (kd sv n=4)))] at V;exact Ms 2 [Y (tk sv (nx sv n))] 0 V O fun w25 O=>Ka 2 [(43,I (decide (kd sv n=4))),(47,pf cb 3)] V fun J V=>Ms 3 [I (decide (kd sv n=4))] 0 V O fun w26 O=>Ab (Fq (cv [] V (Or.inr ⟨⟨c.words,c.inp,(tk sv (nx sv n)),(decide (kd sv n=4))⟩,_,by unfold Bo; rw [if_neg (by omega),hr]; simp only [if_neg (show ¬ kd sv n=2 by omega)],rfl,O⟩)))
 rw [h9] at V;have h9p:=rX h9;refine cT V (rr 2 (Ka 1 [(26,pt pb)] V fun J V=>Ag (mP (d:=(some 27)) V Tryz.func127 ((C8 pb sv n _ (by omega) (by omega) 3 (O.b 1)).mono ?_))));rintro en w27 ⟨rfl,hW⟩;refine .inr ⟨_,rfl,?_⟩;show _/\_;exact ⟨V.dfr,Or.inl ⟨_,_,(by unfold Bo; rw [if_pos (by omega)]),rfl,Ow.pan0 O hW⟩⟩
end Go.Proofs.YtdljjajjonfjbaaGreatDoor
