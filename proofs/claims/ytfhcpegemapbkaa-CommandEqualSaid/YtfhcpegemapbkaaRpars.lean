/- The layer command: the reference: fail, next, word. -/
import Derived.Test.YtfhcpegemapbkaaToksb
set_option linter.unusedVariables false
set_option linter.unusedSimpArgs false
set_option maxRecDepth 10000
namespace Go.Proofs.Ytfhcpegemapbkaa
open Go Go.Shelf Go.RowKit Go.Proofs Go.Proofs.Sx

theorem rfail_any (pb tb : Nat) (toks : List (ByteArray × Nat)) (CT : List Value) (sv : ByteArray) (j k n a : Nat) (er : Int) (w : World) (hv : TV toks CT sv j n k) (hs : sv.size ≤ 1000000) (cd : Int) (h0 : Ow Try.prog (inT (RP pb tb CT sv j k n a er)) w w (RP pb tb CT sv j k n a er)) :
    Calls Try.prog 27 #[pt pb, i64 cd] w fun e w' => ∃ a' er', e = .returned (.tuple #[]) ∧ ((er = 0 ∧ a' = n ∧ er' = cd) ∨ (er ≠ 0 ∧ a' = a ∧ er' = er)) ∧ Ow Try.prog (inT (RP pb tb CT sv j k n a er)) w w' (RP pb tb CT sv j k n a' er') := by
 refine c_enter (args := [pt pb, i64 cd]) (m := 21) (n := 23) Try.func27 rfl (by kernel_rfl) (by kernel_rfl) fun fr hA => ?_
 have hO : Ow Try.prog (inT (RP pb tb CT sv j k n a er)) w w [(pb, 66, [.slice (some (⟨tb, 2 * j, none⟩ : Addr)) ((tks sv n).length) k, i64 ((a : Nat) : Int), i64 er]), (tb, 68, CT)] := h0
 have hp1a := tks_pos sv n
 have hp1b := hv.pos
 have hp1c := kd_spec sv n
 have hp1d := rl_kd sv n
 have hp1e := rt_size sv n
 refine sC (e' := [(0, pt pb), (1, i64 cd), (8, bl (er == 0))]) 5 hA [i64 er] (cc (hO.l1 0 2 24 (i64 er)) c0) ?_
 clear hA fr; intro fr hA
 rcases Bool.eq_false_or_eq_true (er == 0) with h1 | h1
 · rw [h1] at hA
   have h1p := eq_of_beq h1
   refine cT hA ?_
   refine rR (l := (rg 0 16)) ?_
   refine ck (l := (rg 0 12)) (r := [12, 13, 14, 15]) (e' := [(10, pt pb), (17, i64 ((n : Nat) : Int)), (18, i64 cd), (20, pf pb 1)]) hA [.slice (some (⟨tb, 2 * j, none⟩ : Addr)) ((tks sv n).length) k, i64 ((n : Nat) : Int)] (cc (hO.l1 0 0 63 (.slice (some (⟨tb, 2 * j, none⟩ : Addr)) ((tks sv n).length) k)) (cc (⟨by omega, by omega⟩ : (0 : Int) ≤ 0 ∧ 0 < (((tks sv n).length : Nat) : Int)) (cc ((hv.ld1 (hO.b 1)) : Ld Try.prog w (((⟨tb, 2 * j, none⟩ : Addr).add 0).add 1) 3 (i64 ((n : Nat) : Int))) c0))) ?_
   clear hA fr; intro fr hA
   refine wpOps_cons' (mS (off := 1) (vc := [i64 ((n : Nat) : Int)]) 0 hA hO ?_)
   clear hO; intro w1 hO
   replace hA := hA.sb (e' := [(10, pt pb), (18, i64 cd)])
   refine ck (l := [13, 14]) (r := [15]) (e' := [(18, i64 cd), (22, pf pb 2)]) hA [] c0 ?_
   clear hA fr; intro fr hA
   refine wpOps_cons' (mS (off := 2) (vc := [i64 cd]) 0 hA hO ?_)
   clear hO; intro w2 hO
   replace hA := hA.sb (e' := [])
   refine end_ops ?_
   refine c_end ?_
   refine cR (cs := []) (us := []) hA [] trivial ?_
   exact ⟨n, cd, rfl, by first | exact Or.inl ⟨by assumption, rfl, rfl⟩ | exact Or.inr ⟨by assumption, rfl, rfl⟩, hO⟩
 rw [h1] at hA
 have h1p := ne_of_beq_false h1
 refine cF hA ?_
 refine wp_skip ?_
 refine c_end ?_
 refine cR (cs := []) (us := []) hA [] trivial ?_
 exact ⟨a, er, rfl, by first | exact Or.inl ⟨by assumption, rfl, rfl⟩ | exact Or.inr ⟨by assumption, rfl, rfl⟩, hO⟩

theorem rnext_any (pb tb : Nat) (toks : List (ByteArray × Nat)) (CT : List Value) (sv : ByteArray) (j k n a : Nat) (er : Int) (w : World) (hv : TV toks CT sv j n k) (hs : sv.size ≤ 1000000)  (h0 : Ow Try.prog (inT (RP pb tb CT sv j k n a er)) w w (RP pb tb CT sv j k n a er)) :
    Calls Try.prog 29 #[pt pb] w fun e w' => ∃ j' k' n', e = .returned (.agg #[str (rt sv n), i64 ((n : Nat) : Int)]) ∧ ((n < sv.size ∧ n' = rx sv n) ∨ (¬ n < sv.size ∧ n' = n)) ∧ TV toks CT sv j' n' k' ∧ Ow Try.prog (inT (RP pb tb CT sv j k n a er)) w w' (RP pb tb CT sv j' k' n' a er) := by
 refine c_enter (args := [pt pb]) (m := 21) (n := 22) Try.func29 rfl (by kernel_rfl) (by kernel_rfl) fun fr hA => ?_
 have hO : Ow Try.prog (inT (RP pb tb CT sv j k n a er)) w w [(pb, 66, [.slice (some (⟨tb, 2 * j, none⟩ : Addr)) ((tks sv n).length) k, i64 ((a : Nat) : Int), i64 er]), (tb, 68, CT)] := h0
 have hp1a := tks_pos sv n
 have hp1b := hv.pos
 have hp1c := kd_spec sv n
 have hp1d := rl_kd sv n
 have hp1e := rt_size sv n
 refine sR (l := [0]) ?_
 refine wpOps_cons' (mN (l := [str (⟨#[]⟩), i64 0]) (t := 68) (v := pt) (d := 2) hA hO ?_)
 clear hA hO fr; intro fr w1 b1 hA hO
 replace hA := hA.sb (e' := [(0, pt pb), (2, pt b1)])
 refine end_ops ?_
 refine then_normal ?_
 refine sR (l := (rg 0 8)) ?_
 refine ck (l := (rg 0 6)) (r := [6, 7]) (e' := [(0, pt pb), (2, pt b1), (9, .agg #[str (rt sv n), i64 ((n : Nat) : Int)])]) hA [.slice (some (⟨tb, 2 * j, none⟩ : Addr)) ((tks sv n).length) k, .agg #[str (rt sv n), i64 ((n : Nat) : Int)]] (cc (hO.l1 1 0 63 (.slice (some (⟨tb, 2 * j, none⟩ : Addr)) ((tks sv n).length) k)) (cc (⟨by omega, by omega⟩ : (0 : Int) ≤ 0 ∧ 0 < (((tks sv n).length : Nat) : Int)) (cc ((hv.ldn (hO.b 2)) : Ld Try.prog w1 ((⟨tb, 2 * j, none⟩ : Addr).add 0) 68 (.agg #[str (rt sv n), i64 ((n : Nat) : Int)])) c0))) ?_
 clear hA fr; intro fr hA
 refine wpOps_cons' (mN (l := [str (⟨#[]⟩), i64 0]) (t := 68) (v := pt) (d := 3) hA hO ?_)
 clear hA hO fr; intro fr w2 b2 hA hO
 replace hA := hA.sb (e' := [(0, pt pb), (2, pt b1), (3, pt b2), (9, .agg #[str (rt sv n), i64 ((n : Nat) : Int)])])
 refine wpOps_cons' (mS (off := 0) (vc := [str (rt sv n), i64 ((n : Nat) : Int)]) 0 hA hO ?_)
 clear hO; intro w3 hO
 replace hA := hA.sb (e' := [(0, pt pb), (2, pt b1), (3, pt b2)])
 refine end_ops ?_
 refine then_normal ?_
 refine wp_seq ?_
 refine sC (e' := [(0, pt pb), (2, pt b1), (3, pt b2), (12, bl (!((rt sv n).toList == (⟨#[]⟩ : ByteArray).toList)))]) 3 hA [str (rt sv n)] (cc (hO.l1 0 0 9 (str (rt sv n))) c0) ?_
 clear hA fr; intro fr hA
 replace hA := hA.bool (f := fun z_ => [(0, pt pb), (2, pt b1), (3, pt b2), (12, .bool !z_)]) (rt_none sv n : ((rt sv n).toList == (⟨#[]⟩ : ByteArray).toList) = (decide (kd sv n = 0)))
 rcases Bool.eq_false_or_eq_true (decide (kd sv n = 0)) with h1 | h1
 · rw [h1] at hA
   have h1p := of_decide_eq_true h1
   refine cF hA ?_
   refine wp_skip ?_
   refine then_normal ?_
   refine sR (l := [0, 1]) ?_
   refine ck (l := [0]) (r := [1]) (e' := [(2, pt b1), (21, .agg #[str (rt sv n), i64 ((n : Nat) : Int)])]) hA [.agg #[str (rt sv n), i64 ((n : Nat) : Int)]] (cc (hO.ln 0 0 68 [str (rt sv n), i64 ((n : Nat) : Int)]) c0) ?_
   clear hA fr; intro fr hA
   refine wpOps_cons' (mS (off := 0) (vc := [str (rt sv n), i64 ((n : Nat) : Int)]) 1 hA hO ?_)
   clear hO; intro w4 hO
   replace hA := hA.sb (e' := [(2, pt b1)])
   refine end_ops ?_
   refine then_normal ?_
   refine wp_ret ?_
   refine cR (cs := [some (⟨b1, 0, none⟩, 68)]) (us := [.agg #[str (rt sv n), i64 ((n : Nat) : Int)]]) hA [.agg #[str (rt sv n), i64 ((n : Nat) : Int)]] ⟨(hO.ln 1 0 68 [str (rt sv n), i64 ((n : Nat) : Int)]), trivial⟩ ?_
   exact ⟨j, k, n, rfl, Or.inr ⟨by omega, rfl⟩, hv, (hO.sub [2, 3])⟩
 rw [h1] at hA
 have h1p := of_decide_eq_false h1
 refine cT hA ?_
 have h2t := hv.two (by omega)
 have hcp := hv.cap
 refine rR (l := (rg 0 9)) ?_
 refine ck (l := (rg 0 8)) (r := [8]) (e' := [(2, pt b1), (3, pt b2), (18, .slice (some (atIx (⟨tb, 2 * j, none⟩ : Addr) 2 1)) (((tks sv n).length) - (1)) ((k) - (1))), (20, pt pb)]) hA [.slice (some (⟨tb, 2 * j, none⟩ : Addr)) ((tks sv n).length) k, bl true] (cc (hO.l1 2 0 63 (.slice (some (⟨tb, 2 * j, none⟩ : Addr)) ((tks sv n).length) k)) (cc (⟨by omega, by omega, by omega, by omega, by omega⟩ : (0 : Int) ≤ 1 ∧ (1 : Int) ≤ ((((tks sv n).length) : Nat) : Int) ∧ ((((tks sv n).length) : Nat) : Int) ≤ ((k : Nat) : Int) ∧ ((k : Nat) : Int) ≤ ((k : Nat) : Int) ∧ (1 : Int) < ((k : Nat) : Int)) c0)) ?_
 clear hA fr; intro fr hA
 rw [show atIx (⟨tb, 2 * j, none⟩ : Addr) 2 1 = (⟨tb, 2 * (j + 1), none⟩ : Addr) from (by rw [atIx_eq, add_off]; rfl)] at hA
 rw [show (((tks sv n).length) - (1)) = (tks sv (rx sv n)).length from tks_len (by omega)] at hA
 refine wpOps_cons' (mS (off := 0) (vc := [.slice (some ⟨tb, 2 * (j + 1), none⟩) ((tks sv (rx sv n)).length) ((k) - (1))]) 2 hA hO ?_)
 clear hO; intro w5 hO
 replace hA := hA.sb (e' := [(2, pt b1), (3, pt b2)])
 refine end_ops ?_
 refine then_normal ?_
 refine sR (l := [0, 1]) ?_
 refine ck (l := [0]) (r := [1]) (e' := [(2, pt b1), (21, .agg #[str (rt sv n), i64 ((n : Nat) : Int)])]) hA [.agg #[str (rt sv n), i64 ((n : Nat) : Int)]] (cc (hO.ln 0 0 68 [str (rt sv n), i64 ((n : Nat) : Int)]) c0) ?_
 clear hA fr; intro fr hA
 refine wpOps_cons' (mS (off := 0) (vc := [str (rt sv n), i64 ((n : Nat) : Int)]) 1 hA hO ?_)
 clear hO; intro w6 hO
 replace hA := hA.sb (e' := [(2, pt b1)])
 refine end_ops ?_
 refine then_normal ?_
 refine wp_ret ?_
 refine cR (cs := [some (⟨b1, 0, none⟩, 68)]) (us := [.agg #[str (rt sv n), i64 ((n : Nat) : Int)]]) hA [.agg #[str (rt sv n), i64 ((n : Nat) : Int)]] ⟨(hO.ln 1 0 68 [str (rt sv n), i64 ((n : Nat) : Int)]), trivial⟩ ?_
 exact ⟨j + 1, k - 1, rx sv n, rfl, Or.inl ⟨by omega, rfl⟩, hv.next (by omega), (hO.sub [2, 3])⟩

theorem st_fail {α : Type} {r : PR α} {v : α} {n n' a a' : Nat} {er er' c : Int} (hr : r = .error (n, c)) (hc : c ≠ 0) (h : (er = 0 ∧ a' = n ∧ er' = c) ∨ (er ≠ 0 ∧ a' = a ∧ er' = er)) : St (r0 a er r) v n' a' er' := by
 rcases h with ⟨rfl, rfl, rfl⟩ | ⟨h, rfl, rfl⟩
 · exact .inr ⟨hc, hr⟩
 exact .inr ⟨h, r0_no h⟩
theorem st_ok {α : Type} {r : PR α} {v : α} {n' a : Nat} {er : Int} (hr : er = 0 → r = .ok (v, n')) : St (r0 a er r) v n' a er := by
 by_cases h : er = 0
 · subst h; exact .inl ⟨rfl, hr rfl⟩
 exact .inr ⟨h, r0_no h⟩
theorem wordR_ok {s : ByteArray} {n n' : Nat} (h : kd s n = 1) (hl : ¬ 60 < rl s n) (hx : n' = rx s n) : wordP s n = .ok (rt s n, n') := by
 subst hx
 have h8 : kd s n ≠ 8 := by omega
 have ht : rl s n = tl s n := by unfold rl; rw [if_neg h8]
 unfold wordP
 rw [if_neg (by omega), if_neg (by omega), rt_tk h8, rx_nx h8]
theorem wordR_big {s : ByteArray} {n : Nat} (h : kd s n = 1) (hl : 60 < rl s n) : wordP s n = .error (n, 6) := by
 have h8 : kd s n ≠ 8 := by omega
 have ht : rl s n = tl s n := by unfold rl; rw [if_neg h8]
 unfold wordP
 rw [if_neg (by omega), if_pos (by omega)]
theorem wordR_no {s : ByteArray} {n : Nat} (h : kd s n ≠ 1) : wordP s n = .error (n, 3) := by unfold wordP; rw [if_pos h]

theorem rword_any (pb tb : Nat) (toks : List (ByteArray × Nat)) (CT : List Value) (sv : ByteArray) (j k n a : Nat) (er : Int) (w : World) (hv : TV toks CT sv j n k) (hs : sv.size ≤ 1000000)  (h0 : Ow Try.prog (inT (RP pb tb CT sv j k n a er)) w w (RP pb tb CT sv j k n a er)) :
    Calls Try.prog 56 #[pt pb] w fun e w' => ∃ v j' k' n' a' er', e = .returned (str v) ∧ St (r0 a er (wordP sv n)) v n' a' er' ∧ TV toks CT sv j' n' k' ∧ n ≤ n' ∧ Ow Try.prog (inT (RP pb tb CT sv j k n a er)) w w' (RP pb tb CT sv j' k' n' a' er') := by
 refine c_enter (args := [pt pb]) (m := 26) (n := 27) Try.func56 rfl (by kernel_rfl) (by kernel_rfl) fun fr hA => ?_
 have hO : Ow Try.prog (inT (RP pb tb CT sv j k n a er)) w w [(pb, 66, [.slice (some (⟨tb, 2 * j, none⟩ : Addr)) ((tks sv n).length) k, i64 ((a : Nat) : Int), i64 er]), (tb, 68, CT)] := h0
 have hp1a := tks_pos sv n
 have hp1b := hv.pos
 have hp1c := kd_spec sv n
 have hp1d := rl_kd sv n
 have hp1e := rt_size sv n
 refine sC (e' := [(0, pt pb), (2, str (⟨#[]⟩))]) 1 hA [] c0 ?_
 clear hA fr; intro fr hA
 refine wp_seq ?_
 refine sR (l := (rg 0 8)) ?_
 refine ck (l := (rg 0 6)) (r := [6, 7]) (e' := [(0, pt pb), (2, str (⟨#[]⟩)), (8, .agg #[str (rt sv n), i64 ((n : Nat) : Int)])]) hA [.slice (some (⟨tb, 2 * j, none⟩ : Addr)) ((tks sv n).length) k, .agg #[str (rt sv n), i64 ((n : Nat) : Int)]] (cc (hO.l1 0 0 63 (.slice (some (⟨tb, 2 * j, none⟩ : Addr)) ((tks sv n).length) k)) (cc (⟨by omega, by omega⟩ : (0 : Int) ≤ 0 ∧ 0 < (((tks sv n).length : Nat) : Int)) (cc ((hv.ldn (hO.b 1)) : Ld Try.prog w ((⟨tb, 2 * j, none⟩ : Addr).add 0) 68 (.agg #[str (rt sv n), i64 ((n : Nat) : Int)])) c0))) ?_
 clear hA fr; intro fr hA
 refine wpOps_cons' (mK (f := 48) (args := [.agg #[str (rt sv n), i64 ((n : Nat) : Int)]]) (d := (some 9)) (v := bl (decide (kd sv n = 1))) hA hO Try.func48 (tword_any sv n _) ?_)
 clear hA hO fr; intro fr w1 hA hO
 replace hA := hA.sb (e' := [(0, pt pb), (2, str (⟨#[]⟩)), (9, bl (decide (kd sv n = 1)))])
 refine ck (l := [7]) (r := []) (e' := [(0, pt pb), (2, str (⟨#[]⟩)), (10, bl (!(decide (kd sv n = 1))))]) hA [] c0 ?_
 clear hA fr; intro fr hA
 refine end_ops ?_
 refine then_normal ?_
 rcases Bool.eq_false_or_eq_true (decide (kd sv n = 1)) with h1 | h1
 · rw [h1] at hA
   have h1p := of_decide_eq_true h1
   refine cF hA ?_
   refine wp_skip ?_
   refine then_normal ?_
   refine wp_seq ?_
   refine sC (e' := [(0, pt pb), (2, str (⟨#[]⟩)), (21, bl (decide ((((rt sv n).size : Nat) : Int) > 60)))]) 9 hA [.slice (some (⟨tb, 2 * j, none⟩ : Addr)) ((tks sv n).length) k, str (rt sv n)] (cc (hO.l1 0 0 63 (.slice (some (⟨tb, 2 * j, none⟩ : Addr)) ((tks sv n).length) k)) (cc (⟨by omega, by omega⟩ : (0 : Int) ≤ 0 ∧ 0 < (((tks sv n).length : Nat) : Int)) (cc ((hv.ld0 (hO.b 1)) : Ld Try.prog w1 ((⟨tb, 2 * j, none⟩ : Addr).add 0) 9 (str (rt sv n))) c0))) ?_
   clear hA fr; intro fr hA
   rcases Bool.eq_false_or_eq_true (decide ((((rt sv n).size : Nat) : Int) > 60)) with h2 | h2
   · rw [h2] at hA
     have h2p := of_decide_eq_true h2
     refine cT hA ?_
     refine sR (l := [0, 1]) ?_
     refine ck (l := [0]) (r := [1]) (e' := [(2, str (⟨#[]⟩)), (22, pt pb)]) hA [] c0 ?_
     clear hA fr; intro fr hA
     refine wpOps_cons' (mC (f := 27) (args := [pt pb, i64 6]) (d := (some 23)) hA Try.func27 ((rfail_any pb tb toks CT sv j k n a er _ hv hs 6 (Ow.self (A := []) (T := RP pb tb CT sv j k n a er) (B := ([] ++ ([]))) (hO.to (by first | rfl | (simp only [RP, apd])) : Ow Try.prog (inT (RP pb tb CT sv j k n a er)) w _ ([] ++ (RP pb tb CT sv j k n a er ++ (([] ++ ([])))))))).mono ?_))
     rintro en w2 ⟨a1, er1, rfl, hfe1, hW⟩
     refine ⟨_, rfl, ?_⟩
     clear hA fr; intro fr hA
     replace hO := Ow.pass (A := []) (T := RP pb tb CT sv j k n a er) (B := ([] ++ ([]))) (hO.to (by first | rfl | (simp only [RP, apd])) : Ow Try.prog (inT (RP pb tb CT sv j k n a er)) w _ ([] ++ (RP pb tb CT sv j k n a er ++ (([] ++ ([])))))) hW; clear hW
     replace hO : Ow Try.prog (inT (RP pb tb CT sv j k n a er)) w _ [(pb, 66, [.slice (some (⟨tb, 2 * j, none⟩ : Addr)) ((tks sv n).length) k, i64 ((a1 : Nat) : Int), i64 er1]), (tb, 68, CT)] := hO.to (by first | rfl | (simp only [RP, apd]))
     replace hA := hA.sb (e' := [(2, str (⟨#[]⟩))])
     refine end_ops ?_
     refine then_normal ?_
     refine sC (e' := [(2, str (⟨#[]⟩))]) 1 hA [] c0 ?_
     clear hA fr; intro fr hA
     refine wp_ret ?_
     refine then_ret ?_
     refine cR (cs := [none]) (us := [str (⟨#[]⟩)]) hA [] trivial ?_
     first | exact ⟨_, _, _, _, _, _, rfl, st_fail (wordR_no (by omega)) (by decide) hfe1, hv, Nat.le_refl _, hO.to⟩ | exact ⟨_, _, _, _, _, _, rfl, st_fail (wordR_big (by omega) (by omega)) (by decide) hfe1, hv, Nat.le_refl _, hO.to⟩
   rw [h2] at hA
   have h2p := of_decide_eq_false h2
   refine cF hA ?_
   refine wp_skip ?_
   refine then_normal ?_
   refine sR (l := [0, 1, 2, 3]) ?_
   refine ck (l := [0]) (r := [1, 2, 3]) (e' := [(2, str (⟨#[]⟩)), (24, pt pb)]) hA [] c0 ?_
   clear hA fr; intro fr hA
   refine wpOps_cons' (mC (f := 29) (args := [pt pb]) (d := (some 25)) hA Try.func29 ((rnext_any pb tb toks CT sv j k n a er _ hv hs (Ow.self (A := []) (T := RP pb tb CT sv j k n a er) (B := ([] ++ ([]))) (hO.to (by first | rfl | (simp only [RP, apd])) : Ow Try.prog (inT (RP pb tb CT sv j k n a er)) w _ ([] ++ (RP pb tb CT sv j k n a er ++ (([] ++ ([])))))))).mono ?_))
   rintro en w3 ⟨j1, k1, n1, rfl, hnx1, hv1, hW⟩
   refine ⟨_, rfl, ?_⟩
   clear hA fr; intro fr hA
   replace hO := Ow.pass (A := []) (T := RP pb tb CT sv j k n a er) (B := ([] ++ ([]))) (hO.to (by first | rfl | (simp only [RP, apd])) : Ow Try.prog (inT (RP pb tb CT sv j k n a er)) w _ ([] ++ (RP pb tb CT sv j k n a er ++ (([] ++ ([])))))) hW; clear hW
   replace hO : Ow Try.prog (inT (RP pb tb CT sv j k n a er)) w _ [(pb, 66, [.slice (some (⟨tb, 2 * j1, none⟩ : Addr)) ((tks sv n1).length) k1, i64 ((a : Nat) : Int), i64 er]), (tb, 68, CT)] := hO.to (by first | rfl | (simp only [RP, apd]))
   have hp2a := tks_pos sv n1
   have hp2b := hv1.pos
   replace hA := hA.sb (e' := [(2, str (⟨#[]⟩)), (25, .agg #[str (rt sv n), i64 ((n : Nat) : Int)])])
   refine ck (l := [2, 3]) (r := []) (e' := [(2, str (rt sv n))]) hA [] c0 ?_
   clear hA fr; intro fr hA
   refine end_ops ?_
   refine then_normal ?_
   refine wp_ret ?_
   refine cR (cs := [none]) (us := [str (rt sv n)]) hA [] trivial ?_
   have hgt_ := rx_gt (s := sv) (n := n)
   exact ⟨_, _, _, _, _, _, rfl, st_ok (fun _ => wordR_ok (by omega) (by omega) (by omega)), hv1, by omega, hO.to⟩
 rw [h1] at hA
 have h1p := of_decide_eq_false h1
 refine cT hA ?_
 refine sR (l := [0, 1]) ?_
 refine ck (l := [0]) (r := [1]) (e' := [(2, str (⟨#[]⟩)), (11, pt pb)]) hA [] c0 ?_
 clear hA fr; intro fr hA
 refine wpOps_cons' (mC (f := 27) (args := [pt pb, i64 3]) (d := (some 12)) hA Try.func27 ((rfail_any pb tb toks CT sv j k n a er _ hv hs 3 (Ow.self (A := []) (T := RP pb tb CT sv j k n a er) (B := ([] ++ ([]))) (hO.to (by first | rfl | (simp only [RP, apd])) : Ow Try.prog (inT (RP pb tb CT sv j k n a er)) w _ ([] ++ (RP pb tb CT sv j k n a er ++ (([] ++ ([])))))))).mono ?_))
 rintro en w4 ⟨a2, er2, rfl, hfe2, hW⟩
 refine ⟨_, rfl, ?_⟩
 clear hA fr; intro fr hA
 replace hO := Ow.pass (A := []) (T := RP pb tb CT sv j k n a er) (B := ([] ++ ([]))) (hO.to (by first | rfl | (simp only [RP, apd])) : Ow Try.prog (inT (RP pb tb CT sv j k n a er)) w _ ([] ++ (RP pb tb CT sv j k n a er ++ (([] ++ ([])))))) hW; clear hW
 replace hO : Ow Try.prog (inT (RP pb tb CT sv j k n a er)) w _ [(pb, 66, [.slice (some (⟨tb, 2 * j, none⟩ : Addr)) ((tks sv n).length) k, i64 ((a2 : Nat) : Int), i64 er2]), (tb, 68, CT)] := hO.to (by first | rfl | (simp only [RP, apd]))
 replace hA := hA.sb (e' := [(2, str (⟨#[]⟩))])
 refine end_ops ?_
 refine then_normal ?_
 refine sC (e' := [(2, str (⟨#[]⟩))]) 1 hA [] c0 ?_
 clear hA fr; intro fr hA
 refine wp_ret ?_
 refine then_ret ?_
 refine cR (cs := [none]) (us := [str (⟨#[]⟩)]) hA [] trivial ?_
 first | exact ⟨_, _, _, _, _, _, rfl, st_fail (wordR_no (by omega)) (by decide) hfe2, hv, Nat.le_refl _, hO.to⟩ | exact ⟨_, _, _, _, _, _, rfl, st_fail (wordR_big (by omega) (by omega)) (by decide) hfe2, hv, Nat.le_refl _, hO.to⟩

end Go.Proofs.Ytfhcpegemapbkaa
