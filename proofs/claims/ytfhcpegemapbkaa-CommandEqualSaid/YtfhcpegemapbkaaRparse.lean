/- The layer command: the reference: Parse. -/
import Derived.Test.YtfhcpegemapbkaaRjob
set_option linter.unusedVariables false
set_option linter.unusedSimpArgs false
set_option maxRecDepth 10000
namespace Go.Proofs.Ytfhcpegemapbkaa
open Go Go.Shelf Go.RowKit Go.Proofs Go.Proofs.Sx

def lst (s : ByteArray) (R : Except (Nat × Int) (List JobL)) (l : List JobL) (f m a : Nat) (er : Int) : Prop := (er = 0 ∧ lineF true s f l m = R) ∨ (er ≠ 0 ∧ R = .error (a, er))
section
variable {s : ByteArray} {R : Except (Nat × Int) (List JobL)} {l l2 : List JobL} {cs : List CmdL} {f n m m1 m2 a a1 a2 : Nat} {er er1 er2 : Int}
theorem lst_lim (h : lst s R l (f + 1) m a er) (he : er = 0) (hm : m < s.size) (hl : l.length = 8) (hb : begK (kd s m) = true) (hf : (er = 0 ∧ a1 = m ∧ er1 = 6) ∨ (er ≠ 0 ∧ a1 = a ∧ er1 = er)) : er1 ≠ 0 ∧ R = .error (a1, er1) := by
 subst he
 rcases h with ⟨_, h⟩ | ⟨h, _⟩
 · rcases hf with ⟨_, rfl, rfl⟩ | ⟨q, _⟩
   · exact ⟨by decide, by rw [← h]; exact lineF_lim hm hl hb⟩
   exact absurd rfl q
 exact absurd rfl h
theorem lst_good (h : lst s R l (f + 1) m a er) (he : er = 0) (hm : m < s.size) (hl : ¬ (l.length = 8 ∧ begK (kd s m) = true)) (hw : St (r0 a er (jobP true s m)) cs m1 a1 er1) (he1 : er1 = 0) (hm1 : m1 ≤ s.size) (hk : kd s m1 = 0 ∨ kd s m1 = 5 ∨ kd s m1 = 6)
    (h2 : (m1 < s.size ∧ m2 = rx s m1) ∨ (¬ m1 < s.size ∧ m2 = m1)) : lst s R (l ++ [⟨cs, decide (kd s m1 = 6)⟩]) f m2 a1 er1 := by
 subst he
 rcases h with ⟨_, h⟩ | ⟨h, _⟩
 · rcases hw with ⟨_, e2⟩ | ⟨q, _⟩
   · refine .inl ⟨he1, ?_⟩
     have hke := kd_end hm1
     by_cases hk0 : kd s m1 = 0
     · rw [← h, lineF_last hm hl e2 hk0]
       have hz : m2 = m1 := by omega
       subst hz
       exact lineF_done (by omega)
     have hz : m2 = nx s m1 := by rw [← rx_nx (by omega)]; omega
     subst hz
     rw [← h]; exact (lineF_more hm hl e2 (by omega)).symm
   exact absurd he1 q
 exact absurd rfl h
theorem lst_bad (h : lst s R l (f + 1) m a er) (he : er = 0) (hm : m < s.size) (hl : ¬ (l.length = 8 ∧ begK (kd s m) = true)) (hw : St (r0 a er (jobP true s m)) cs m1 a1 er1) (he1 : er1 = 0) (hk : kd s m1 ≠ 0 ∧ kd s m1 ≠ 5 ∧ kd s m1 ≠ 6) (hf : (er1 = 0 ∧ a2 = m1 ∧ er2 = 3) ∨ (er1 ≠ 0 ∧ a2 = a1 ∧ er2 = er1)) : er2 ≠ 0 ∧ lst s R l2 f m2 a2 er2 := by
 subst he
 rcases h with ⟨_, h⟩ | ⟨h, _⟩
 · rcases hf with ⟨_, rfl, rfl⟩ | ⟨q, _⟩
   · rcases hw with ⟨_, e2⟩ | ⟨q, _⟩
     · exact ⟨by decide, .inr ⟨by decide, by rw [← h]; exact lineF_bad hm hl e2 hk⟩⟩
     exact absurd he1 q
   exact absurd he1 q
 exact absurd rfl h
theorem lst_err (h : lst s R l (f + 1) m a er) (he : er = 0) (hm : m < s.size) (hl : ¬ (l.length = 8 ∧ begK (kd s m) = true)) (hw : St (r0 a er (jobP true s m)) cs m1 a1 er1) (he1 : er1 ≠ 0) : lst s R l2 f m2 a1 er1 := by
 subst he
 rcases h with ⟨_, h⟩ | ⟨h, _⟩
 · rcases hw with ⟨q, _⟩ | ⟨_, e2⟩
   · exact absurd q he1
   exact .inr ⟨he1, by rw [← h]; exact lineF_jobE hm hl e2⟩
 exact absurd rfl h
theorem lst_end (h : lst s R l f m a er) (he : er = 0) (hm : ¬ m < s.size) : R = .ok l := by
 rcases h with ⟨_, h⟩ | ⟨h, _⟩
 · rw [← h]; exact lineF_done hm
 exact absurd he h
theorem lst_fin (h : lst s R l f m a er) (he : er ≠ 0) : R = .error (a, er) := by
 rcases h with ⟨q, _⟩ | ⟨_, h⟩
 · exact absurd q he
 exact h
end

set_option maxHeartbeats 4000000 in
theorem rparse_any (sv : ByteArray) (w : World) (hs : sv.size ≤ 1000000) :
    Calls Try.prog 11 #[str sv] w fun e w' => (∃ a b, lineP true sv = .error (a, b) ∧ e = .returned (.tuple #[.slice none 0 0, i64 ((a : Nat) : Int), i64 b]) ∧ Only none' w w') ∨ ∃ p k l T0 T1, lineP true sv = .ok (l.map JV.d) ∧ e = .returned (.tuple #[.slice p l.length k, i64 0, i64 0]) ∧ One fJ 45 2 p k l T0 ∧ InJ 49 9 l T1 ∧ Ow Try.prog none' w w' (T0 ++ T1) ∧ l.length ≤ 1000000 := by
 refine c_enter (args := [str sv]) (m := 97) (n := 98) Try.func11 rfl (by kernel_rfl) (by kernel_rfl) fun fr hA => ?_
 have hO := Ow.nil Try.prog none' w
 refine sC (e' := [(0, str sv), (2, .slice none 0 0), (3, i64 0), (4, i64 0)]) 3 hA [] c0 ?_
 clear hA fr; intro fr hA
 refine sR (l := (rg 0 5)) ?_
 refine ck (l := [0]) (r := [1, 2, 3, 4]) (e' := [(2, .slice none 0 0), (3, i64 0), (4, i64 0), (9, str sv)]) hA [] c0 ?_
 clear hA fr; intro fr hA
 refine wpOps_cons' (mC (f := 25) (args := [str sv]) (d := (some 10)) hA Try.func25 ((tokens_any sv _ hs).mono ?_))
 rintro en w1 ⟨pt_, ct_, Tt, rfl, hTt, hW⟩
 refine ⟨_, rfl, ?_⟩
 clear hA fr; intro fr hA
 replace hO : Ow Try.prog none' w _ ([]) := hO; replace hO := Ow.join hO hW; clear hW
 replace hO : Ow Try.prog none' w w1 ([] ++ (Tt ++ ([]))) := hO.to (by first | rfl | (simp only [TP, apd]))
 have htp_ := tks_pos sv (sk sv 0)
 obtain ⟨tb, rr, rfl, rfl, hle_tb, hcap_tb⟩ := hTt.open (by omega)
 replace hO : Ow Try.prog none' w w1 [(tb, 68, ((tks sv (sk sv 0)).flatMap fK ++ rr))] := hO.to (by first | rfl | (simp only [TP, apd]))
 obtain ⟨CT, hCT⟩ : ∃ z, z = (tks sv (sk sv 0)).flatMap fK ++ rr := ⟨_, rfl⟩
 rw [← hCT] at hO
 have hv0 : TV (tks sv (sk sv 0)) CT sv 0 (sk sv 0) ct_ := ⟨rfl, hle_tb, sk_le (Nat.zero_le _), ⟨rr, hCT⟩⟩
 replace hA := hA.sb (e' := [(2, .slice none 0 0), (3, i64 0), (4, i64 0), (10, .slice (some ⟨tb, 0, none⟩) ((tks sv (sk sv 0)).length) ct_)])
 refine ck (l := [2]) (r := [3, 4]) (e' := [(2, .slice none 0 0), (3, i64 0), (4, i64 0), (11, .agg #[.slice (some ⟨tb, 0, none⟩) ((tks sv (sk sv 0)).length) ct_, i64 0, i64 0])]) hA [] c0 ?_
 clear hA fr; intro fr hA
 refine wpOps_cons' (mN (l := [.slice (some ⟨tb, 0, none⟩) ((tks sv (sk sv 0)).length) ct_, i64 0, i64 0]) (t := 66) (v := pt) (d := 12) hA hO ?_)
 clear hA hO fr; intro fr w2 pb hA hO
 replace hA := hA.sb (e' := [(2, .slice none 0 0), (3, i64 0), (4, i64 0), (12, pt pb)])
 refine ck (l := [4]) (r := []) (e' := [(2, .slice none 0 0), (3, i64 0), (4, i64 0), (5, pt pb)]) hA [] c0 ?_
 clear hA fr; intro fr hA
 refine end_ops ?_
 refine then_normal ?_
 refine sC (e' := [(2, .slice none 0 0), (3, i64 0), (4, i64 0), (5, pt pb), (6, .slice none 0 0)]) 1 hA [] c0 ?_
 clear hA fr; intro fr hA
 refine wp_seq ?_
 refine wp_block ?_
 replace hO : Ow Try.prog none' w w2 [(pb, 66, [.slice (some ⟨tb, 0, none⟩) ((tks sv (sk sv 0)).length) ct_, i64 0, i64 0]), (tb, 68, CT)] := hO
 replace hO : Ow Try.prog none' w w2 [(pb, 66, [.slice (some (⟨tb, 2 * 0, none⟩ : Addr)) ((tks sv (sk sv 0)).length) ct_, i64 0, i64 0]), (tb, 68, CT)] := hO.to (by kernel_rfl)
 have hT1 := One.nil fJ 45 2
 replace hO : Ow Try.prog none' w w2 ([(pb, 66, [.slice (some (⟨tb, 2 * 0, none⟩ : Addr)) ((tks sv (sk sv 0)).length) ct_, i64 0, i64 0]), (tb, 68, CT)] ++ ([] ++ ([]))) := hO.to (by first | rfl | (simp only [TP, apd]))
 have hC0 : InJ 49 9 [] [] := rfl
 replace hO : Ow Try.prog none' w w2 ([(pb, 66, [.slice (some (⟨tb, 2 * 0, none⟩ : Addr)) ((tks sv (sk sv 0)).length) ct_, i64 0, i64 0]), (tb, 68, CT)] ++ ([] ++ ([] ++ ([])))) := hO.to (by first | rfl | (simp only [TP, apd]))
 refine c_loop (fun mm fr W => ∃ (l : List JV) (jl kl m al : Nat) (el : Int) (f g : Nat) (pL1 : Option Addr) (cL1 : Nat) (TL1 : OwL) (TL2 : OwL), mm = 1 + g ∧ Holds 98 [] fr [(2, .slice none 0 0), (3, i64 0), (4, i64 0), (5, pt pb), (6, .slice pL1 l.length cL1)] ∧ Ow Try.prog none' w W ([(pb, 66, [.slice (some (⟨tb, 2 * jl, none⟩ : Addr)) ((tks sv m).length) kl, i64 ((al : Nat) : Int), i64 el]), (tb, 68, CT)] ++ (TL1 ++ (TL2 ++ ([])))) ∧ One fJ 45 2 pL1 cL1 l TL1 ∧ InJ 49 9 l TL2 ∧ m ≤ sv.size ∧ ((el = 0 ∧ g = sv.size - m + 1) ∨ (el ≠ 0 ∧ g = 0)) ∧ (el = 0 → sv.size - m < f) ∧ lst sv (lineP true sv) (l.map JV.d) f m al el ∧ ((el = 0 ∧ l.length ≤ m) ∨ (el ≠ 0 ∧ l.length ≤ m + 1)) ∧ TV (tks sv (sk sv 0)) CT sv jl m kl ∧ True) ?_ ?_
 · exact ⟨_, ([] : List JV), 0, ct_, sk sv 0, 0, 0, sv.size + 1, sv.size - sk sv 0 + 1, none, 0, [], [], rfl, (hA.sub (e' := [(2, .slice none 0 0), (3, i64 0), (4, i64 0), (5, pt pb), (6, .slice none 0 0)]) [2, 3, 4, 5, 6] (by kernel_rfl)).cast (by kernel_rfl), (hO : Ow Try.prog none' w _ ([(pb, 66, [.slice (some (⟨tb, 2 * 0, none⟩ : Addr)) ((tks sv (sk sv 0)).length) ct_, i64 0, i64 0]), (tb, 68, CT)] ++ ([] ++ ([] ++ ([]))))), hT1, hC0, (sk_le (Nat.zero_le _)), (.inl ⟨rfl, rfl⟩), (fun _ => by omega), (.inl ⟨rfl, rfl⟩), (.inl ⟨rfl, Nat.zero_le _⟩), hv0, trivial⟩
 rintro _ fr w3 ⟨l, jl, kl, m, al, el, f, g, pL1, cL1, TL1, TL2, rfl, hA, hO, hTL1, hTL2, hm, hg, hf, hC, hcl, hvl, -⟩
 have hpa := tks_pos sv m
 have hms_ : kd sv m ≠ 0 → m < sv.size := kd_lt
 have hgx := rx_gt (s := sv) (n := m)
 have hml : (l.map JV.d).length = l.length := List.length_map _
 have hke_ := kd_end hm
 refine wp_seq ?_
 refine sR (l := (rg 0 15)) ?_
 refine ck (l := (rg 0 6)) (r := (rg 6 9)) (e' := [(2, .slice none 0 0), (3, i64 0), (4, i64 0), (5, pt pb), (6, .slice pL1 l.length cL1), (17, bl (el == 0)), (18, bl (el == 0))]) hA [i64 el] (cc (hO.l1 0 2 24 (i64 el)) c0) ?_
 clear hA fr; intro fr hA
 rcases Bool.eq_false_or_eq_true (el == 0) with h1 | h1
 · rw [h1] at hA
   have h1p := eq_of_beq h1
   obtain ⟨f, rfl⟩ : ∃ j, f = j + 1 := ⟨f - 1, by have := hf (by omega); omega⟩
   have hf_ := hf (by omega)
   refine ck (l := (rg 6 9)) (r := []) (e' := [(2, .slice none 0 0), (3, i64 0), (4, i64 0), (5, pt pb), (6, .slice pL1 l.length cL1), (27, bl (!((rt sv m).toList == (⟨#[]⟩ : ByteArray).toList)))]) hA [.slice (some (⟨tb, 2 * jl, none⟩ : Addr)) ((tks sv m).length) kl, str (rt sv m)] (cc (hO.l1 0 0 63 (.slice (some (⟨tb, 2 * jl, none⟩ : Addr)) ((tks sv m).length) kl)) (cc (⟨by omega, by omega⟩ : (0 : Int) ≤ 0 ∧ 0 < (((tks sv m).length : Nat) : Int)) (cc ((hvl.ld0 (hO.b 1)) : Ld Try.prog w3 ((⟨tb, 2 * jl, none⟩ : Addr).add 0) 9 (str (rt sv m))) c0))) ?_
   clear hA fr; intro fr hA
   replace hA := hA.bool (f := fun z_ => [(2, .slice none 0 0), (3, i64 0), (4, i64 0), (5, pt pb), (6, .slice pL1 l.length cL1), (27, .bool !z_)]) (rt_none sv m : ((rt sv m).toList == (⟨#[]⟩ : ByteArray).toList) = (decide (kd sv m = 0)))
   refine end_ops ?_
   refine then_normal ?_
   rcases Bool.eq_false_or_eq_true (decide (kd sv m = 0)) with h2 | h2
   · rw [h2] at hA
     have h2p := of_decide_eq_true h2
     refine cF hA ?_
     refine wp_exit ?_
     refine then_exit ?_
     refine then_exit ?_
     refine inBlock_exit ?_
     refine then_normal ?_
     refine wp_seq ?_
     refine sC (e' := [(2, .slice none 0 0), (3, i64 0), (4, i64 0), (5, pt pb), (6, .slice pL1 l.length cL1), (88, bl (el != 0))]) 5 hA [i64 el] (cc (hO.l1 0 2 24 (i64 el)) c0) ?_
     clear hA fr; intro fr hA
     rcases Bool.eq_false_or_eq_true (el != 0) with h3 | h3
     · rw [h3] at hA
       have h3p := ne_of_bne h3
       refine cT hA ?_
       refine wp_seq ?_
       have hS : Ow Try.prog none' w _ [(pb, 66, [.slice (some (⟨tb, 2 * jl, none⟩ : Addr)) ((tks sv m).length) kl, i64 ((al : Nat) : Int), i64 el]), (tb, 68, CT)] := hO.sub [0, 1]
       refine rP [(0, true), (1, true), (2, true), (3, true), (4, true), (5, true), (6, true), (7, true), (8, true), (9, true), (10, true)] hS ?_
       intro w4 ho; replace hO := hO.st ho; clear ho
       refine ckS (l := (rg 0 11)) (r := []) (e' := [(2, .slice none 0 0), (3, i64 ((al : Nat) : Int)), (4, i64 el)]) hA [i64 ((al : Nat) : Int), i64 el] (cc (hS.s1 0 1 3 (i64 ((al : Nat) : Int))) (cc (hS.s1 0 2 24 (i64 el)) c0)) ?_
       clear hA fr; intro fr hA
       refine end_plan ?_
       refine then_normal ?_
       refine wp_ret ?_
       refine then_ret ?_
       refine cR (cs := [none, none, none]) (us := [.slice none 0 0, i64 ((al : Nat) : Int), i64 el]) hA [] trivial ?_
       exact Or.inl ⟨al, el, lst_fin hC (by omega), rfl, hO.only⟩
     rw [h3] at hA
     have h3p := eq_of_bne_false h3
     refine cF hA ?_
     refine wp_skip ?_
     refine then_normal ?_
     refine sC (e' := [(2, .slice pL1 l.length cL1), (3, i64 0), (4, i64 0)]) 4 hA [] c0 ?_
     clear hA fr; intro fr hA
     refine wp_ret ?_
     refine cR (cs := [none, none, none]) (us := [.slice pL1 l.length cL1, i64 0, i64 0]) hA [] trivial ?_
     exact Or.inr ⟨_, _, l, _, _, lst_end hC (by omega) (by omega), rfl, hTL1, hTL2, ((Ow.subP (A := [(pb, 66, [.slice (some (⟨tb, 2 * jl, none⟩ : Addr)) ((tks sv m).length) kl, i64 ((al : Nat) : Int), i64 el]), (tb, 68, CT)]) (A' := []) (B := TL1 ++ (TL2 ++ ([]))) hO (.cons _ (.cons _ .slnil)))).to (by simp only [List.nil_append, List.append_nil]), by omega⟩
   rw [h2] at hA
   have h2p := of_decide_eq_false h2
   refine cT hA ?_
   refine wp_skip ?_
   refine then_normal ?_
   refine wp_block ?_
   refine wp_seq ?_
   refine sR (l := (rg 0 12)) ?_
   refine ck (l := [0, 1, 2, 3]) (r := (rg 4 8)) (e' := [(2, .slice none 0 0), (3, i64 0), (4, i64 0), (5, pt pb), (6, .slice pL1 l.length cL1), (30, bl (((l.length : Nat) : Int) == 8)), (31, bl (((l.length : Nat) : Int) == 8))]) hA [] c0 ?_
   clear hA fr; intro fr hA
   rcases Bool.eq_false_or_eq_true (((l.length : Nat) : Int) == 8) with h4 | h4
   · rw [h4] at hA
     have h4p := eq_of_beq h4
     refine ck (l := (rg 4 6)) (r := [10, 11]) (e' := [(2, .slice none 0 0), (3, i64 0), (4, i64 0), (5, pt pb), (6, .slice pL1 l.length cL1), (31, bl true), (37, .agg #[str (rt sv m), i64 ((m : Nat) : Int)])]) hA [.slice (some (⟨tb, 2 * jl, none⟩ : Addr)) ((tks sv m).length) kl, .agg #[str (rt sv m), i64 ((m : Nat) : Int)]] (cc (hO.l1 0 0 63 (.slice (some (⟨tb, 2 * jl, none⟩ : Addr)) ((tks sv m).length) kl)) (cc (⟨by omega, by omega⟩ : (0 : Int) ≤ 0 ∧ 0 < (((tks sv m).length : Nat) : Int)) (cc ((hvl.ldn (hO.b 1)) : Ld Try.prog w3 ((⟨tb, 2 * jl, none⟩ : Addr).add 0) 68 (.agg #[str (rt sv m), i64 ((m : Nat) : Int)])) c0))) ?_
     clear hA fr; intro fr hA
     refine wpOps_cons' (mK (f := 26) (args := [.agg #[str (rt sv m), i64 ((m : Nat) : Int)]]) (d := (some 38)) (v := bl (begK (kd sv m))) hA hO Try.func26 (rbegins_any sv m _) ?_)
     clear hA hO fr; intro fr w5 hA hO
     replace hA := hA.sb (e' := [(2, .slice none 0 0), (3, i64 0), (4, i64 0), (5, pt pb), (6, .slice pL1 l.length cL1), (31, bl true), (38, bl (begK (kd sv m)))])
     refine ck (l := [11]) (r := []) (e' := [(2, .slice none 0 0), (3, i64 0), (4, i64 0), (5, pt pb), (6, .slice pL1 l.length cL1), (39, bl (begK (kd sv m)))]) hA [] c0 ?_
     clear hA fr; intro fr hA
     refine end_ops ?_
     refine then_normal ?_
     rcases Bool.eq_false_or_eq_true (begK (kd sv m)) with h5 | h5
     · rw [h5] at hA
       have h5p := begK_yes h5
       refine cT hA ?_
       refine sR (l := [0, 1]) ?_
       refine ck (l := [0]) (r := [1]) (e' := [(2, .slice none 0 0), (3, i64 0), (4, i64 0), (5, pt pb), (6, .slice pL1 l.length cL1), (40, pt pb)]) hA [] c0 ?_
       clear hA fr; intro fr hA
       refine wpOps_cons' (mC (f := 27) (args := [pt pb, i64 6]) (d := (some 41)) hA Try.func27 ((rfail_any pb tb (tks sv (sk sv 0)) CT sv jl kl m al el _ hvl hs 6 (Ow.self (A := []) (T := RP pb tb CT sv jl kl m al el) (B := ([] ++ (TL1 ++ (TL2 ++ ([]))))) (hO.to (by first | rfl | (simp only [RP, apd])) : Ow Try.prog none' w _ ([] ++ (RP pb tb CT sv jl kl m al el ++ (([] ++ (TL1 ++ (TL2 ++ ([])))))))))).mono ?_))
       rintro en w6 ⟨a1, er1, rfl, hfe1, hW⟩
       refine ⟨_, rfl, ?_⟩
       clear hA fr; intro fr hA
       replace hO := Ow.pass (A := []) (T := RP pb tb CT sv jl kl m al el) (B := ([] ++ (TL1 ++ (TL2 ++ ([]))))) (hO.to (by first | rfl | (simp only [RP, apd])) : Ow Try.prog none' w _ ([] ++ (RP pb tb CT sv jl kl m al el ++ (([] ++ (TL1 ++ (TL2 ++ ([])))))))) hW; clear hW
       replace hO : Ow Try.prog none' w _ ([(pb, 66, [.slice (some (⟨tb, 2 * jl, none⟩ : Addr)) ((tks sv m).length) kl, i64 ((a1 : Nat) : Int), i64 er1]), (tb, 68, CT)] ++ (TL1 ++ (TL2 ++ ([])))) := hO.to (by first | rfl | (simp only [RP, apd]))
       replace hA := hA.sb (e' := [(2, .slice none 0 0), (3, i64 0), (4, i64 0), (5, pt pb), (6, .slice pL1 l.length cL1)])
       refine end_ops ?_
       refine then_normal ?_
       refine wp_exit ?_
       refine then_exit ?_
       refine inBlock_other (by decide) ?_
       refine then_exit ?_
       refine inBlock_exit ?_
       refine then_normal ?_
       refine wp_seq ?_
       refine sC (e' := [(2, .slice none 0 0), (3, i64 0), (4, i64 0), (5, pt pb), (6, .slice pL1 l.length cL1), (88, bl (er1 != 0))]) 5 hA [i64 er1] (cc (hO.l1 0 2 24 (i64 er1)) c0) ?_
       clear hA fr; intro fr hA
       rcases Bool.eq_false_or_eq_true (er1 != 0) with h6 | h6
       · rw [h6] at hA
         have h6p := ne_of_bne h6
         refine cT hA ?_
         refine wp_seq ?_
         have hS : Ow Try.prog none' w _ [(pb, 66, [.slice (some (⟨tb, 2 * jl, none⟩ : Addr)) ((tks sv m).length) kl, i64 ((a1 : Nat) : Int), i64 er1]), (tb, 68, CT)] := hO.sub [0, 1]
         refine rP [(0, true), (1, true), (2, true), (3, true), (4, true), (5, true), (6, true), (7, true), (8, true), (9, true), (10, true)] hS ?_
         intro w7 ho; replace hO := hO.st ho; clear ho
         refine ckS (l := (rg 0 11)) (r := []) (e' := [(2, .slice none 0 0), (3, i64 ((a1 : Nat) : Int)), (4, i64 er1)]) hA [i64 ((a1 : Nat) : Int), i64 er1] (cc (hS.s1 0 1 3 (i64 ((a1 : Nat) : Int))) (cc (hS.s1 0 2 24 (i64 er1)) c0)) ?_
         clear hA fr; intro fr hA
         refine end_plan ?_
         refine then_normal ?_
         refine wp_ret ?_
         refine then_ret ?_
         refine cR (cs := [none, none, none]) (us := [.slice none 0 0, i64 ((a1 : Nat) : Int), i64 er1]) hA [] trivial ?_
         exact Or.inl ⟨a1, er1, (lst_lim hC (by omega) (by omega) (by rw [List.length_map]; omega) (by assumption) hfe1).2, rfl, hO.only⟩
       rw [h6] at hA
       have h6p := eq_of_bne_false h6
       refine cF hA ?_
       refine wp_skip ?_
       refine then_normal ?_
       refine sC (e' := [(2, .slice pL1 l.length cL1), (3, i64 0), (4, i64 0)]) 4 hA [] c0 ?_
       clear hA fr; intro fr hA
       refine wp_ret ?_
       refine cR (cs := [none, none, none]) (us := [.slice pL1 l.length cL1, i64 0, i64 0]) hA [] trivial ?_
       exact absurd (by omega) (lst_lim hC (by omega) (by omega) (by rw [List.length_map]; omega) (by assumption) hfe1).1
     rw [h5] at hA
     have h5p := begK_no h5
     refine cF hA ?_
     refine wp_skip ?_
     refine then_normal ?_
     refine sR (l := [0, 1, 2, 3]) ?_
     refine ck (l := [0]) (r := [1, 2, 3]) (e' := [(2, .slice none 0 0), (3, i64 0), (4, i64 0), (5, pt pb), (6, .slice pL1 l.length cL1), (42, pt pb)]) hA [] c0 ?_
     clear hA fr; intro fr hA
     refine wpOps_cons' (mC (f := 28) (args := [pt pb]) (d := (some 43)) hA Try.func28 ((rjob_any pb tb (tks sv (sk sv 0)) CT sv jl kl m al el _ hvl hs (Ow.self (A := []) (T := RP pb tb CT sv jl kl m al el) (B := ([] ++ (TL1 ++ (TL2 ++ ([]))))) (hO.to (by first | rfl | (simp only [RP, apd])) : Ow Try.prog none' w _ ([] ++ (RP pb tb CT sv jl kl m al el ++ (([] ++ (TL1 ++ (TL2 ++ ([])))))))))).mono ?_))
     rintro en w8 ⟨lj1, j1, k1, n1, a2, er2, p1, kk1, T2, T3, rfl, hT2, hT3, hst1, hv1, hle1, hgc1, hW⟩
     refine ⟨_, rfl, ?_⟩
     clear hA fr; intro fr hA
     replace hO := Ow.pass2 (A := []) (T := RP pb tb CT sv jl kl m al el) (B := ([] ++ (TL1 ++ (TL2 ++ ([]))))) (T' := RP pb tb CT sv j1 k1 n1 a2 er2) (T2 := T2 ++ T3) (hO.to (by first | rfl | (simp only [RP, apd])) : Ow Try.prog none' w _ ([] ++ (RP pb tb CT sv jl kl m al el ++ (([] ++ (TL1 ++ (TL2 ++ ([])))))))) hW; clear hW
     replace hO : Ow Try.prog none' w _ ([(pb, 66, [.slice (some (⟨tb, 2 * j1, none⟩ : Addr)) ((tks sv n1).length) k1, i64 ((a2 : Nat) : Int), i64 er2]), (tb, 68, CT)] ++ (TL1 ++ (TL2 ++ (T2 ++ (T3 ++ ([])))))) := hO.to (by first | rfl | (simp only [RP, apd]))
     have hp1a := tks_pos sv n1
     have hp1b := hv1.pos
     have hms2_ : kd sv n1 ≠ 0 → n1 < sv.size := kd_lt
     have hke2_ := kd_end (s := sv) (n := n1) (by omega)
     replace hA := hA.sb (e' := [(2, .slice none 0 0), (3, i64 0), (4, i64 0), (5, pt pb), (6, .slice pL1 l.length cL1), (43, .agg #[.slice p1 lj1.length kk1, bl false])])
     refine wpOps_cons' (mN (l := [.slice none 0 0, bl false]) (t := 45) (v := pt) (d := 7) hA hO ?_)
     clear hA hO fr; intro fr w9 b1 hA hO
     replace hA := hA.sb (e' := [(2, .slice none 0 0), (3, i64 0), (4, i64 0), (5, pt pb), (6, .slice pL1 l.length cL1), (7, pt b1), (43, .agg #[.slice p1 lj1.length kk1, bl false])])
     refine wpOps_cons' (mS (off := 0) (vc := [.slice p1 lj1.length kk1, bl false]) 0 hA hO ?_)
     clear hO; intro w10 hO
     replace hA := hA.sb (e' := [(2, .slice none 0 0), (3, i64 0), (4, i64 0), (5, pt pb), (6, .slice pL1 l.length cL1), (7, pt b1)])
     refine end_ops ?_
     refine then_normal ?_
     refine sC (e' := [(2, .slice none 0 0), (3, i64 0), (4, i64 0), (5, pt pb), (6, .slice pL1 l.length cL1), (7, pt b1), (8, str (rt sv n1))]) 8 hA [.slice (some (⟨tb, 2 * j1, none⟩ : Addr)) ((tks sv n1).length) k1, str (rt sv n1)] (cc (hO.l1 1 0 63 (.slice (some (⟨tb, 2 * j1, none⟩ : Addr)) ((tks sv n1).length) k1)) (cc (⟨by omega, by omega⟩ : (0 : Int) ≤ 0 ∧ 0 < (((tks sv n1).length : Nat) : Int)) (cc ((hv1.ld0 (hO.b 2)) : Ld Try.prog w10 ((⟨tb, 2 * j1, none⟩ : Addr).add 0) 9 (str (rt sv n1))) c0))) ?_
     clear hA fr; intro fr hA
     refine wp_seq ?_
     refine sR (l := (rg 0 17)) ?_
     refine ck (l := (rg 0 6)) (r := (rg 6 11)) (e' := [(2, .slice none 0 0), (3, i64 0), (4, i64 0), (5, pt pb), (6, .slice pL1 l.length cL1), (7, pt b1), (8, str (rt sv n1)), (55, bl (er2 == 0)), (56, bl (er2 == 0))]) hA [i64 er2] (cc (hO.l1 1 2 24 (i64 er2)) c0) ?_
     clear hA fr; intro fr hA
     rcases Bool.eq_false_or_eq_true (er2 == 0) with h7 | h7
     · rw [h7] at hA
       have h7p := eq_of_beq h7
       refine ck (l := [6, 7, 8, 9]) (r := (rg 10 7)) (e' := [(2, .slice none 0 0), (3, i64 0), (4, i64 0), (5, pt pb), (6, .slice pL1 l.length cL1), (7, pt b1), (8, str (rt sv n1)), (58, bl (!((rt sv n1).toList == (⟨#[]⟩ : ByteArray).toList))), (59, bl (!((rt sv n1).toList == (⟨#[]⟩ : ByteArray).toList))), (60, bl (!((rt sv n1).toList == (⟨#[]⟩ : ByteArray).toList)))]) hA [] c0 ?_
       clear hA fr; intro fr hA
       replace hA := hA.bool (f := fun z_ => [(2, .slice none 0 0), (3, i64 0), (4, i64 0), (5, pt pb), (6, .slice pL1 l.length cL1), (7, pt b1), (8, str (rt sv n1)), (58, .bool !z_), (59, .bool !z_), (60, .bool !z_)]) (rt_none sv n1 : ((rt sv n1).toList == (⟨#[]⟩ : ByteArray).toList) = (decide (kd sv n1 = 0)))
       rcases Bool.eq_false_or_eq_true (decide (kd sv n1 = 0)) with h8 | h8
       · rw [h8] at hA
         have h8p := of_decide_eq_true h8
         refine ck (l := (rg 10 7)) (r := []) (e' := [(2, .slice none 0 0), (3, i64 0), (4, i64 0), (5, pt pb), (6, .slice pL1 l.length cL1), (7, pt b1), (67, bl false)]) hA [] c0 ?_
         clear hA fr; intro fr hA
         refine end_ops ?_
         refine then_normal ?_
         refine cF hA ?_
         refine wp_skip ?_
         refine then_normal ?_
         refine wp_seq ?_
         refine sC (e' := [(2, .slice none 0 0), (3, i64 0), (4, i64 0), (5, pt pb), (6, .slice pL1 l.length cL1), (7, pt b1), (74, bl (er2 == 0))]) 5 hA [i64 er2] (cc (hO.l1 1 2 24 (i64 er2)) c0) ?_
         clear hA fr; intro fr hA
         rw [(h7 : (er2 == 0) = true)] at hA
         refine cT hA ?_
         refine rR (l := (rg 0 6)) ?_
         refine ck (l := [0]) (r := (rg 1 5)) (e' := [(2, .slice none 0 0), (3, i64 0), (4, i64 0), (5, pt pb), (6, .slice pL1 l.length cL1), (7, pt b1), (75, pt pb)]) hA [] c0 ?_
         clear hA fr; intro fr hA
         refine wpOps_cons' (mC (f := 29) (args := [pt pb]) (d := (some 76)) hA Try.func29 ((rnext_any pb tb (tks sv (sk sv 0)) CT sv j1 k1 n1 a2 er2 _ hv1 hs (Ow.self (A := [(b1, 45, [.slice p1 lj1.length kk1, bl false])]) (T := RP pb tb CT sv j1 k1 n1 a2 er2) (B := ([] ++ (TL1 ++ (TL2 ++ (T2 ++ (T3 ++ ([]))))))) (hO.to (by first | rfl | (simp only [RP, apd])) : Ow Try.prog none' w _ ([(b1, 45, [.slice p1 lj1.length kk1, bl false])] ++ (RP pb tb CT sv j1 k1 n1 a2 er2 ++ (([] ++ (TL1 ++ (TL2 ++ (T2 ++ (T3 ++ ([])))))))))))).mono ?_))
         rintro en w11 ⟨j2, k2, n2, rfl, hnx1, hv2, hW⟩
         refine ⟨_, rfl, ?_⟩
         clear hA fr; intro fr hA
         replace hO := Ow.pass (A := [(b1, 45, [.slice p1 lj1.length kk1, bl false])]) (T := RP pb tb CT sv j1 k1 n1 a2 er2) (B := ([] ++ (TL1 ++ (TL2 ++ (T2 ++ (T3 ++ ([]))))))) (hO.to (by first | rfl | (simp only [RP, apd])) : Ow Try.prog none' w _ ([(b1, 45, [.slice p1 lj1.length kk1, bl false])] ++ (RP pb tb CT sv j1 k1 n1 a2 er2 ++ (([] ++ (TL1 ++ (TL2 ++ (T2 ++ (T3 ++ ([])))))))))) hW; clear hW
         replace hO : Ow Try.prog none' w _ ([(b1, 45, [.slice p1 lj1.length kk1, bl false]), (pb, 66, [.slice (some (⟨tb, 2 * j2, none⟩ : Addr)) ((tks sv n2).length) k2, i64 ((a2 : Nat) : Int), i64 er2]), (tb, 68, CT)] ++ (TL1 ++ (TL2 ++ (T2 ++ (T3 ++ ([])))))) := hO.to (by first | rfl | (simp only [RP, apd]))
         have hp2a := tks_pos sv n2
         have hp2b := hv2.pos
         replace hA := hA.sb (e' := [(2, .slice none 0 0), (3, i64 0), (4, i64 0), (5, pt pb), (6, .slice pL1 l.length cL1), (7, pt b1), (76, .agg #[str (rt sv n1), i64 ((n1 : Nat) : Int)])])
         refine ck (l := [2, 3, 4]) (r := [5]) (e' := [(2, .slice none 0 0), (3, i64 0), (4, i64 0), (5, pt pb), (6, .slice pL1 l.length cL1), (7, pt b1), (78, bl ((rt sv n1).toList == (⟨#[38]⟩ : ByteArray).toList)), (79, pf b1 1)]) hA [] c0 ?_
         clear hA fr; intro fr hA
         replace hA := hA.bool (f := fun z_ => [(2, .slice none 0 0), (3, i64 0), (4, i64 0), (5, pt pb), (6, .slice pL1 l.length cL1), (7, pt b1), (78, .bool z_), (79, pf b1 1)]) (rt_amp sv n1 : ((rt sv n1).toList == (⟨#[38]⟩ : ByteArray).toList) = (decide (kd sv n1 = 6)))
         refine wpOps_cons' (mS (off := 1) (vc := [bl (decide (kd sv n1 = 6))]) 0 hA hO ?_)
         clear hO; intro w12 hO
         replace hA := hA.sb (e' := [(2, .slice none 0 0), (3, i64 0), (4, i64 0), (5, pt pb), (6, .slice pL1 l.length cL1), (7, pt b1)])
         refine end_ops ?_
         refine then_normal ?_
         refine rR (l := (rg 0 5)) ?_
         refine ck (l := [0, 1]) (r := [2, 3, 4]) (e' := [(2, .slice none 0 0), (3, i64 0), (4, i64 0), (5, pt pb), (6, .slice pL1 l.length cL1), (80, .slice pL1 l.length cL1), (81, .agg #[.slice p1 lj1.length kk1, bl (decide (kd sv n1 = 6))])]) hA [.agg #[.slice p1 lj1.length kk1, bl (decide (kd sv n1 = 6))]] (cc (hO.ln 0 0 45 [.slice p1 lj1.length kk1, bl (decide (kd sv n1 = 6))]) c0) ?_
         clear hA fr; intro fr hA
         refine wpOps_cons' (mN (l := [.slice p1 lj1.length kk1, bl (decide (kd sv n1 = 6))]) (t := 45) (v := fun b => .slice (some ⟨b, 0, none⟩) 1 1) (d := 82) hA hO ?_)
         clear hA hO fr; intro fr w13 b2 hA hO
         replace hA := hA.sb (e' := [(2, .slice none 0 0), (3, i64 0), (4, i64 0), (5, pt pb), (6, .slice pL1 l.length cL1), (80, .slice pL1 l.length cL1), (82, .slice (some ⟨b2, 0, none⟩) 1 1)])
         replace hO : Ow Try.prog none' w w13 ([(b2, 45, [.slice p1 lj1.length kk1, bl (decide (kd sv n1 = 6))]), (b1, 45, [.slice p1 lj1.length kk1, bl (decide (kd sv n1 = 6))]), (pb, 66, [.slice (some (⟨tb, 2 * j2, none⟩ : Addr)) ((tks sv n2).length) k2, i64 ((a2 : Nat) : Int), i64 er2]), (tb, 68, CT)] ++ (TL1 ++ (TL2 ++ (T2 ++ (T3 ++ ([])))))) := hO
         refine wpOps_cons' (mA (f := fJ) (el := 45) (sz := 2) (bytes := 32) (p := pL1) (c := cL1) (l := l) (l' := ([⟨p1, kk1, lj1, decide (kd sv n1 = 6)⟩] : List JV)) (T := TL1) (t := 27) (tx := 27) (ty := 27) (x := .slice (some ⟨b2, 0, none⟩) 1 1) (d := 83) [(b2, 45, [.slice p1 lj1.length kk1, bl (decide (kd sv n1 = 6))]), (b1, 45, [.slice p1 lj1.length kk1, bl (decide (kd sv n1 = 6))]), (pb, 66, [.slice (some (⟨tb, 2 * j2, none⟩ : Addr)) ((tks sv n2).length) k2, i64 ((a2 : Nat) : Int), i64 er2]), (tb, 68, CT)] (TL2 ++ (T2 ++ (T3 ++ ([])))) encJ hA hO hTL1 (Vw.src (e' := 45) encJ ((hO.b 0).vw (off := 0) (xs := ([⟨p1, kk1, lj1, decide (kd sv n1 = 6)⟩] : List JV)) (by kernel_rfl)) (by kernel_rfl)) (by first | omega | (simp only [List.length_append, List.length_cons, List.length_nil]; omega)) (by unfold maxLen; first | omega | (simp only [List.length_append, List.length_cons, List.length_nil]; omega)) ?_)
         clear hA hO fr; intro fr w14 p2 c1 T4 hA hO hT4
         replace hA := hA.sb (e' := [(2, .slice none 0 0), (3, i64 0), (4, i64 0), (5, pt pb), (6, .slice pL1 l.length cL1), (83, .slice p2 ((l ++ ([⟨p1, kk1, lj1, decide (kd sv n1 = 6)⟩] : List JV)).length) c1)])
         refine ck (l := [4]) (r := []) (e' := [(2, .slice none 0 0), (3, i64 0), (4, i64 0), (5, pt pb), (6, .slice p2 ((l ++ ([⟨p1, kk1, lj1, decide (kd sv n1 = 6)⟩] : List JV)).length) c1)]) hA [] c0 ?_
         clear hA fr; intro fr hA
         refine end_ops ?_
         refine inBlock_normal ?_
         refine then_normal ?_
         replace hO : Ow Try.prog none' w w14 ([(b2, 45, [.slice p1 lj1.length kk1, bl (decide (kd sv n1 = 6))]), (b1, 45, [.slice p1 lj1.length kk1, bl (decide (kd sv n1 = 6))]), (pb, 66, [.slice (some (⟨tb, 2 * j2, none⟩ : Addr)) ((tks sv n2).length) k2, i64 ((a2 : Nat) : Int), i64 er2]), (tb, 68, CT)] ++ (T4 ++ (TL2 ++ (T2 ++ (T3 ++ ([])))))) := hO
         have hC1 : InJ 49 9 (l ++ ([⟨p1, kk1, lj1, decide (kd sv n1 = 6)⟩] : List JV)) (TL2 ++ (T2 ++ T3)) := InJ.snoc (x := ⟨p1, kk1, lj1, decide (kd sv n1 = 6)⟩) hT2 hT3 hTL2
         replace hO : Ow Try.prog none' w w14 ([(b2, 45, [.slice p1 lj1.length kk1, bl (decide (kd sv n1 = 6))]), (b1, 45, [.slice p1 lj1.length kk1, bl (decide (kd sv n1 = 6))]), (pb, 66, [.slice (some (⟨tb, 2 * j2, none⟩ : Addr)) ((tks sv n2).length) k2, i64 ((a2 : Nat) : Int), i64 er2]), (tb, 68, CT)] ++ (T4 ++ ((TL2 ++ (T2 ++ T3)) ++ ([])))) := hO.to (by first | rfl | (simp only [TP, apd]))
         have hl_ : lst sv (lineP true sv) (List.map JV.d (l ++ ([⟨p1, kk1, lj1, decide (kd sv n1 = 6)⟩] : List JV))) f n2 a2 er2 := by rw [List.map_append]; exact lst_good hC (by omega) (by omega) (by rintro ⟨q1, q2⟩; rw [List.length_map] at q1; first | omega | simp_all) hst1 (by omega) (by omega) (by omega) (by omega)
         have hz_ : er2 = 0 → m < n2 := fun q_ => by have := hgc1 q_; have := rx_gt (s := sv) (n := n1); omega
         obtain ⟨g2, hg2, hlt2⟩ := meas (er := er2) (z := sv.size) (m := n2) (g := g) (fun q_ => by have := hz_ q_; omega) (by omega)
         exact ⟨_, by omega, l ++ ([⟨p1, kk1, lj1, decide (kd sv n1 = 6)⟩] : List JV), j2, k2, n2, a2, er2, f, g2, p2, c1, T4, (TL2 ++ (T2 ++ T3)), rfl, (hA.sub (e' := [(2, .slice none 0 0), (3, i64 0), (4, i64 0), (5, pt pb), (6, .slice p2 ((l ++ ([⟨p1, kk1, lj1, decide (kd sv n1 = 6)⟩] : List JV)).length) c1)]) [2, 3, 4, 5, 6] (by kernel_rfl)).cast (by kernel_rfl), (Ow.subP (A := [(b2, 45, [.slice p1 lj1.length kk1, bl (decide (kd sv n1 = 6))]), (b1, 45, [.slice p1 lj1.length kk1, bl (decide (kd sv n1 = 6))]), (pb, 66, [.slice (some (⟨tb, 2 * j2, none⟩ : Addr)) ((tks sv n2).length) k2, i64 ((a2 : Nat) : Int), i64 er2]), (tb, 68, CT)]) (A' := [(pb, 66, [.slice (some (⟨tb, 2 * j2, none⟩ : Addr)) ((tks sv n2).length) k2, i64 ((a2 : Nat) : Int), i64 er2]), (tb, 68, CT)]) (B := T4 ++ ((TL2 ++ (T2 ++ T3)) ++ ([]))) hO (.cons _ (.cons _ (.cons_cons _ (.cons_cons _ .slnil))))), hT4, hC1, hv2.pos, hg2, (fun q_ => by have := hz_ q_; omega), hl_, (by simp only [List.length_append, List.length_cons, List.length_nil]; by_cases q_ : er2 = 0; { have := hz_ q_; exact .inl ⟨q_, by omega⟩ }; { exact .inr ⟨q_, by omega⟩ }), hv2, trivial⟩
       rw [h8] at hA
       have h8p := of_decide_eq_false h8
       refine ck (l := [10, 11, 12, 13]) (r := [14, 15, 16]) (e' := [(2, .slice none 0 0), (3, i64 0), (4, i64 0), (5, pt pb), (6, .slice pL1 l.length cL1), (7, pt b1), (8, str (rt sv n1)), (62, bl (!((rt sv n1).toList == (⟨#[59]⟩ : ByteArray).toList))), (63, bl (!((rt sv n1).toList == (⟨#[59]⟩ : ByteArray).toList))), (64, bl (!((rt sv n1).toList == (⟨#[59]⟩ : ByteArray).toList)))]) hA [] c0 ?_
       clear hA fr; intro fr hA
       replace hA := hA.bool (f := fun z_ => [(2, .slice none 0 0), (3, i64 0), (4, i64 0), (5, pt pb), (6, .slice pL1 l.length cL1), (7, pt b1), (8, str (rt sv n1)), (62, .bool !z_), (63, .bool !z_), (64, .bool !z_)]) (rt_semi sv n1 : ((rt sv n1).toList == (⟨#[59]⟩ : ByteArray).toList) = (decide (kd sv n1 = 5)))
       rcases Bool.eq_false_or_eq_true (decide (kd sv n1 = 5)) with h9 | h9
       · rw [h9] at hA
         have h9p := of_decide_eq_true h9
         refine ck (l := [14, 15, 16]) (r := []) (e' := [(2, .slice none 0 0), (3, i64 0), (4, i64 0), (5, pt pb), (6, .slice pL1 l.length cL1), (7, pt b1), (67, bl false)]) hA [] c0 ?_
         clear hA fr; intro fr hA
         refine end_ops ?_
         refine then_normal ?_
         refine cF hA ?_
         refine wp_skip ?_
         refine then_normal ?_
         refine wp_seq ?_
         refine sC (e' := [(2, .slice none 0 0), (3, i64 0), (4, i64 0), (5, pt pb), (6, .slice pL1 l.length cL1), (7, pt b1), (74, bl (er2 == 0))]) 5 hA [i64 er2] (cc (hO.l1 1 2 24 (i64 er2)) c0) ?_
         clear hA fr; intro fr hA
         rw [(h7 : (er2 == 0) = true)] at hA
         refine cT hA ?_
         refine rR (l := (rg 0 6)) ?_
         refine ck (l := [0]) (r := (rg 1 5)) (e' := [(2, .slice none 0 0), (3, i64 0), (4, i64 0), (5, pt pb), (6, .slice pL1 l.length cL1), (7, pt b1), (75, pt pb)]) hA [] c0 ?_
         clear hA fr; intro fr hA
         refine wpOps_cons' (mC (f := 29) (args := [pt pb]) (d := (some 76)) hA Try.func29 ((rnext_any pb tb (tks sv (sk sv 0)) CT sv j1 k1 n1 a2 er2 _ hv1 hs (Ow.self (A := [(b1, 45, [.slice p1 lj1.length kk1, bl false])]) (T := RP pb tb CT sv j1 k1 n1 a2 er2) (B := ([] ++ (TL1 ++ (TL2 ++ (T2 ++ (T3 ++ ([]))))))) (hO.to (by first | rfl | (simp only [RP, apd])) : Ow Try.prog none' w _ ([(b1, 45, [.slice p1 lj1.length kk1, bl false])] ++ (RP pb tb CT sv j1 k1 n1 a2 er2 ++ (([] ++ (TL1 ++ (TL2 ++ (T2 ++ (T3 ++ ([])))))))))))).mono ?_))
         rintro en w15 ⟨j3, k3, n3, rfl, hnx2, hv3, hW⟩
         refine ⟨_, rfl, ?_⟩
         clear hA fr; intro fr hA
         replace hO := Ow.pass (A := [(b1, 45, [.slice p1 lj1.length kk1, bl false])]) (T := RP pb tb CT sv j1 k1 n1 a2 er2) (B := ([] ++ (TL1 ++ (TL2 ++ (T2 ++ (T3 ++ ([]))))))) (hO.to (by first | rfl | (simp only [RP, apd])) : Ow Try.prog none' w _ ([(b1, 45, [.slice p1 lj1.length kk1, bl false])] ++ (RP pb tb CT sv j1 k1 n1 a2 er2 ++ (([] ++ (TL1 ++ (TL2 ++ (T2 ++ (T3 ++ ([])))))))))) hW; clear hW
         replace hO : Ow Try.prog none' w _ ([(b1, 45, [.slice p1 lj1.length kk1, bl false]), (pb, 66, [.slice (some (⟨tb, 2 * j3, none⟩ : Addr)) ((tks sv n3).length) k3, i64 ((a2 : Nat) : Int), i64 er2]), (tb, 68, CT)] ++ (TL1 ++ (TL2 ++ (T2 ++ (T3 ++ ([])))))) := hO.to (by first | rfl | (simp only [RP, apd]))
         have hp3a := tks_pos sv n3
         have hp3b := hv3.pos
         replace hA := hA.sb (e' := [(2, .slice none 0 0), (3, i64 0), (4, i64 0), (5, pt pb), (6, .slice pL1 l.length cL1), (7, pt b1), (76, .agg #[str (rt sv n1), i64 ((n1 : Nat) : Int)])])
         refine ck (l := [2, 3, 4]) (r := [5]) (e' := [(2, .slice none 0 0), (3, i64 0), (4, i64 0), (5, pt pb), (6, .slice pL1 l.length cL1), (7, pt b1), (78, bl ((rt sv n1).toList == (⟨#[38]⟩ : ByteArray).toList)), (79, pf b1 1)]) hA [] c0 ?_
         clear hA fr; intro fr hA
         replace hA := hA.bool (f := fun z_ => [(2, .slice none 0 0), (3, i64 0), (4, i64 0), (5, pt pb), (6, .slice pL1 l.length cL1), (7, pt b1), (78, .bool z_), (79, pf b1 1)]) (rt_amp sv n1 : ((rt sv n1).toList == (⟨#[38]⟩ : ByteArray).toList) = (decide (kd sv n1 = 6)))
         refine wpOps_cons' (mS (off := 1) (vc := [bl (decide (kd sv n1 = 6))]) 0 hA hO ?_)
         clear hO; intro w16 hO
         replace hA := hA.sb (e' := [(2, .slice none 0 0), (3, i64 0), (4, i64 0), (5, pt pb), (6, .slice pL1 l.length cL1), (7, pt b1)])
         refine end_ops ?_
         refine then_normal ?_
         refine rR (l := (rg 0 5)) ?_
         refine ck (l := [0, 1]) (r := [2, 3, 4]) (e' := [(2, .slice none 0 0), (3, i64 0), (4, i64 0), (5, pt pb), (6, .slice pL1 l.length cL1), (80, .slice pL1 l.length cL1), (81, .agg #[.slice p1 lj1.length kk1, bl (decide (kd sv n1 = 6))])]) hA [.agg #[.slice p1 lj1.length kk1, bl (decide (kd sv n1 = 6))]] (cc (hO.ln 0 0 45 [.slice p1 lj1.length kk1, bl (decide (kd sv n1 = 6))]) c0) ?_
         clear hA fr; intro fr hA
         refine wpOps_cons' (mN (l := [.slice p1 lj1.length kk1, bl (decide (kd sv n1 = 6))]) (t := 45) (v := fun b => .slice (some ⟨b, 0, none⟩) 1 1) (d := 82) hA hO ?_)
         clear hA hO fr; intro fr w17 b3 hA hO
         replace hA := hA.sb (e' := [(2, .slice none 0 0), (3, i64 0), (4, i64 0), (5, pt pb), (6, .slice pL1 l.length cL1), (80, .slice pL1 l.length cL1), (82, .slice (some ⟨b3, 0, none⟩) 1 1)])
         replace hO : Ow Try.prog none' w w17 ([(b3, 45, [.slice p1 lj1.length kk1, bl (decide (kd sv n1 = 6))]), (b1, 45, [.slice p1 lj1.length kk1, bl (decide (kd sv n1 = 6))]), (pb, 66, [.slice (some (⟨tb, 2 * j3, none⟩ : Addr)) ((tks sv n3).length) k3, i64 ((a2 : Nat) : Int), i64 er2]), (tb, 68, CT)] ++ (TL1 ++ (TL2 ++ (T2 ++ (T3 ++ ([])))))) := hO
         refine wpOps_cons' (mA (f := fJ) (el := 45) (sz := 2) (bytes := 32) (p := pL1) (c := cL1) (l := l) (l' := ([⟨p1, kk1, lj1, decide (kd sv n1 = 6)⟩] : List JV)) (T := TL1) (t := 27) (tx := 27) (ty := 27) (x := .slice (some ⟨b3, 0, none⟩) 1 1) (d := 83) [(b3, 45, [.slice p1 lj1.length kk1, bl (decide (kd sv n1 = 6))]), (b1, 45, [.slice p1 lj1.length kk1, bl (decide (kd sv n1 = 6))]), (pb, 66, [.slice (some (⟨tb, 2 * j3, none⟩ : Addr)) ((tks sv n3).length) k3, i64 ((a2 : Nat) : Int), i64 er2]), (tb, 68, CT)] (TL2 ++ (T2 ++ (T3 ++ ([])))) encJ hA hO hTL1 (Vw.src (e' := 45) encJ ((hO.b 0).vw (off := 0) (xs := ([⟨p1, kk1, lj1, decide (kd sv n1 = 6)⟩] : List JV)) (by kernel_rfl)) (by kernel_rfl)) (by first | omega | (simp only [List.length_append, List.length_cons, List.length_nil]; omega)) (by unfold maxLen; first | omega | (simp only [List.length_append, List.length_cons, List.length_nil]; omega)) ?_)
         clear hA hO fr; intro fr w18 p3 c2 T5 hA hO hT5
         replace hA := hA.sb (e' := [(2, .slice none 0 0), (3, i64 0), (4, i64 0), (5, pt pb), (6, .slice pL1 l.length cL1), (83, .slice p3 ((l ++ ([⟨p1, kk1, lj1, decide (kd sv n1 = 6)⟩] : List JV)).length) c2)])
         refine ck (l := [4]) (r := []) (e' := [(2, .slice none 0 0), (3, i64 0), (4, i64 0), (5, pt pb), (6, .slice p3 ((l ++ ([⟨p1, kk1, lj1, decide (kd sv n1 = 6)⟩] : List JV)).length) c2)]) hA [] c0 ?_
         clear hA fr; intro fr hA
         refine end_ops ?_
         refine inBlock_normal ?_
         refine then_normal ?_
         replace hO : Ow Try.prog none' w w18 ([(b3, 45, [.slice p1 lj1.length kk1, bl (decide (kd sv n1 = 6))]), (b1, 45, [.slice p1 lj1.length kk1, bl (decide (kd sv n1 = 6))]), (pb, 66, [.slice (some (⟨tb, 2 * j3, none⟩ : Addr)) ((tks sv n3).length) k3, i64 ((a2 : Nat) : Int), i64 er2]), (tb, 68, CT)] ++ (T5 ++ (TL2 ++ (T2 ++ (T3 ++ ([])))))) := hO
         have hC1 : InJ 49 9 (l ++ ([⟨p1, kk1, lj1, decide (kd sv n1 = 6)⟩] : List JV)) (TL2 ++ (T2 ++ T3)) := InJ.snoc (x := ⟨p1, kk1, lj1, decide (kd sv n1 = 6)⟩) hT2 hT3 hTL2
         replace hO : Ow Try.prog none' w w18 ([(b3, 45, [.slice p1 lj1.length kk1, bl (decide (kd sv n1 = 6))]), (b1, 45, [.slice p1 lj1.length kk1, bl (decide (kd sv n1 = 6))]), (pb, 66, [.slice (some (⟨tb, 2 * j3, none⟩ : Addr)) ((tks sv n3).length) k3, i64 ((a2 : Nat) : Int), i64 er2]), (tb, 68, CT)] ++ (T5 ++ ((TL2 ++ (T2 ++ T3)) ++ ([])))) := hO.to (by first | rfl | (simp only [TP, apd]))
         have hl_ : lst sv (lineP true sv) (List.map JV.d (l ++ ([⟨p1, kk1, lj1, decide (kd sv n1 = 6)⟩] : List JV))) f n3 a2 er2 := by rw [List.map_append]; exact lst_good hC (by omega) (by omega) (by rintro ⟨q1, q2⟩; rw [List.length_map] at q1; first | omega | simp_all) hst1 (by omega) (by omega) (by omega) (by omega)
         have hz_ : er2 = 0 → m < n3 := fun q_ => by have := hgc1 q_; have := rx_gt (s := sv) (n := n1); omega
         obtain ⟨g2, hg2, hlt2⟩ := meas (er := er2) (z := sv.size) (m := n3) (g := g) (fun q_ => by have := hz_ q_; omega) (by omega)
         exact ⟨_, by omega, l ++ ([⟨p1, kk1, lj1, decide (kd sv n1 = 6)⟩] : List JV), j3, k3, n3, a2, er2, f, g2, p3, c2, T5, (TL2 ++ (T2 ++ T3)), rfl, (hA.sub (e' := [(2, .slice none 0 0), (3, i64 0), (4, i64 0), (5, pt pb), (6, .slice p3 ((l ++ ([⟨p1, kk1, lj1, decide (kd sv n1 = 6)⟩] : List JV)).length) c2)]) [2, 3, 4, 5, 6] (by kernel_rfl)).cast (by kernel_rfl), (Ow.subP (A := [(b3, 45, [.slice p1 lj1.length kk1, bl (decide (kd sv n1 = 6))]), (b1, 45, [.slice p1 lj1.length kk1, bl (decide (kd sv n1 = 6))]), (pb, 66, [.slice (some (⟨tb, 2 * j3, none⟩ : Addr)) ((tks sv n3).length) k3, i64 ((a2 : Nat) : Int), i64 er2]), (tb, 68, CT)]) (A' := [(pb, 66, [.slice (some (⟨tb, 2 * j3, none⟩ : Addr)) ((tks sv n3).length) k3, i64 ((a2 : Nat) : Int), i64 er2]), (tb, 68, CT)]) (B := T5 ++ ((TL2 ++ (T2 ++ T3)) ++ ([]))) hO (.cons _ (.cons _ (.cons_cons _ (.cons_cons _ .slnil))))), hT5, hC1, hv3.pos, hg2, (fun q_ => by have := hz_ q_; omega), hl_, (by simp only [List.length_append, List.length_cons, List.length_nil]; by_cases q_ : er2 = 0; { have := hz_ q_; exact .inl ⟨q_, by omega⟩ }; { exact .inr ⟨q_, by omega⟩ }), hv3, trivial⟩
       rw [h9] at hA
       have h9p := of_decide_eq_false h9
       refine ck (l := [14, 15, 16]) (r := []) (e' := [(2, .slice none 0 0), (3, i64 0), (4, i64 0), (5, pt pb), (6, .slice pL1 l.length cL1), (7, pt b1), (67, bl (!((rt sv n1).toList == (⟨#[38]⟩ : ByteArray).toList)))]) hA [] c0 ?_
       clear hA fr; intro fr hA
       replace hA := hA.bool (f := fun z_ => [(2, .slice none 0 0), (3, i64 0), (4, i64 0), (5, pt pb), (6, .slice pL1 l.length cL1), (7, pt b1), (67, .bool !z_)]) (rt_amp sv n1 : ((rt sv n1).toList == (⟨#[38]⟩ : ByteArray).toList) = (decide (kd sv n1 = 6)))
       refine end_ops ?_
       refine then_normal ?_
       rcases Bool.eq_false_or_eq_true (decide (kd sv n1 = 6)) with h10 | h10
       · rw [h10] at hA
         have h10p := of_decide_eq_true h10
         refine cF hA ?_
         refine wp_skip ?_
         refine then_normal ?_
         refine wp_seq ?_
         refine sC (e' := [(2, .slice none 0 0), (3, i64 0), (4, i64 0), (5, pt pb), (6, .slice pL1 l.length cL1), (7, pt b1), (74, bl (er2 == 0))]) 5 hA [i64 er2] (cc (hO.l1 1 2 24 (i64 er2)) c0) ?_
         clear hA fr; intro fr hA
         rw [(h7 : (er2 == 0) = true)] at hA
         refine cT hA ?_
         refine rR (l := (rg 0 6)) ?_
         refine ck (l := [0]) (r := (rg 1 5)) (e' := [(2, .slice none 0 0), (3, i64 0), (4, i64 0), (5, pt pb), (6, .slice pL1 l.length cL1), (7, pt b1), (75, pt pb)]) hA [] c0 ?_
         clear hA fr; intro fr hA
         refine wpOps_cons' (mC (f := 29) (args := [pt pb]) (d := (some 76)) hA Try.func29 ((rnext_any pb tb (tks sv (sk sv 0)) CT sv j1 k1 n1 a2 er2 _ hv1 hs (Ow.self (A := [(b1, 45, [.slice p1 lj1.length kk1, bl false])]) (T := RP pb tb CT sv j1 k1 n1 a2 er2) (B := ([] ++ (TL1 ++ (TL2 ++ (T2 ++ (T3 ++ ([]))))))) (hO.to (by first | rfl | (simp only [RP, apd])) : Ow Try.prog none' w _ ([(b1, 45, [.slice p1 lj1.length kk1, bl false])] ++ (RP pb tb CT sv j1 k1 n1 a2 er2 ++ (([] ++ (TL1 ++ (TL2 ++ (T2 ++ (T3 ++ ([])))))))))))).mono ?_))
         rintro en w19 ⟨j4, k4, n4, rfl, hnx3, hv4, hW⟩
         refine ⟨_, rfl, ?_⟩
         clear hA fr; intro fr hA
         replace hO := Ow.pass (A := [(b1, 45, [.slice p1 lj1.length kk1, bl false])]) (T := RP pb tb CT sv j1 k1 n1 a2 er2) (B := ([] ++ (TL1 ++ (TL2 ++ (T2 ++ (T3 ++ ([]))))))) (hO.to (by first | rfl | (simp only [RP, apd])) : Ow Try.prog none' w _ ([(b1, 45, [.slice p1 lj1.length kk1, bl false])] ++ (RP pb tb CT sv j1 k1 n1 a2 er2 ++ (([] ++ (TL1 ++ (TL2 ++ (T2 ++ (T3 ++ ([])))))))))) hW; clear hW
         replace hO : Ow Try.prog none' w _ ([(b1, 45, [.slice p1 lj1.length kk1, bl false]), (pb, 66, [.slice (some (⟨tb, 2 * j4, none⟩ : Addr)) ((tks sv n4).length) k4, i64 ((a2 : Nat) : Int), i64 er2]), (tb, 68, CT)] ++ (TL1 ++ (TL2 ++ (T2 ++ (T3 ++ ([])))))) := hO.to (by first | rfl | (simp only [RP, apd]))
         have hp4a := tks_pos sv n4
         have hp4b := hv4.pos
         replace hA := hA.sb (e' := [(2, .slice none 0 0), (3, i64 0), (4, i64 0), (5, pt pb), (6, .slice pL1 l.length cL1), (7, pt b1), (76, .agg #[str (rt sv n1), i64 ((n1 : Nat) : Int)])])
         refine ck (l := [2, 3, 4]) (r := [5]) (e' := [(2, .slice none 0 0), (3, i64 0), (4, i64 0), (5, pt pb), (6, .slice pL1 l.length cL1), (7, pt b1), (78, bl ((rt sv n1).toList == (⟨#[38]⟩ : ByteArray).toList)), (79, pf b1 1)]) hA [] c0 ?_
         clear hA fr; intro fr hA
         replace hA := hA.bool (f := fun z_ => [(2, .slice none 0 0), (3, i64 0), (4, i64 0), (5, pt pb), (6, .slice pL1 l.length cL1), (7, pt b1), (78, .bool z_), (79, pf b1 1)]) (rt_amp sv n1 : ((rt sv n1).toList == (⟨#[38]⟩ : ByteArray).toList) = (decide (kd sv n1 = 6)))
         refine wpOps_cons' (mS (off := 1) (vc := [bl (decide (kd sv n1 = 6))]) 0 hA hO ?_)
         clear hO; intro w20 hO
         replace hA := hA.sb (e' := [(2, .slice none 0 0), (3, i64 0), (4, i64 0), (5, pt pb), (6, .slice pL1 l.length cL1), (7, pt b1)])
         refine end_ops ?_
         refine then_normal ?_
         refine rR (l := (rg 0 5)) ?_
         refine ck (l := [0, 1]) (r := [2, 3, 4]) (e' := [(2, .slice none 0 0), (3, i64 0), (4, i64 0), (5, pt pb), (6, .slice pL1 l.length cL1), (80, .slice pL1 l.length cL1), (81, .agg #[.slice p1 lj1.length kk1, bl (decide (kd sv n1 = 6))])]) hA [.agg #[.slice p1 lj1.length kk1, bl (decide (kd sv n1 = 6))]] (cc (hO.ln 0 0 45 [.slice p1 lj1.length kk1, bl (decide (kd sv n1 = 6))]) c0) ?_
         clear hA fr; intro fr hA
         refine wpOps_cons' (mN (l := [.slice p1 lj1.length kk1, bl (decide (kd sv n1 = 6))]) (t := 45) (v := fun b => .slice (some ⟨b, 0, none⟩) 1 1) (d := 82) hA hO ?_)
         clear hA hO fr; intro fr w21 b4 hA hO
         replace hA := hA.sb (e' := [(2, .slice none 0 0), (3, i64 0), (4, i64 0), (5, pt pb), (6, .slice pL1 l.length cL1), (80, .slice pL1 l.length cL1), (82, .slice (some ⟨b4, 0, none⟩) 1 1)])
         replace hO : Ow Try.prog none' w w21 ([(b4, 45, [.slice p1 lj1.length kk1, bl (decide (kd sv n1 = 6))]), (b1, 45, [.slice p1 lj1.length kk1, bl (decide (kd sv n1 = 6))]), (pb, 66, [.slice (some (⟨tb, 2 * j4, none⟩ : Addr)) ((tks sv n4).length) k4, i64 ((a2 : Nat) : Int), i64 er2]), (tb, 68, CT)] ++ (TL1 ++ (TL2 ++ (T2 ++ (T3 ++ ([])))))) := hO
         refine wpOps_cons' (mA (f := fJ) (el := 45) (sz := 2) (bytes := 32) (p := pL1) (c := cL1) (l := l) (l' := ([⟨p1, kk1, lj1, decide (kd sv n1 = 6)⟩] : List JV)) (T := TL1) (t := 27) (tx := 27) (ty := 27) (x := .slice (some ⟨b4, 0, none⟩) 1 1) (d := 83) [(b4, 45, [.slice p1 lj1.length kk1, bl (decide (kd sv n1 = 6))]), (b1, 45, [.slice p1 lj1.length kk1, bl (decide (kd sv n1 = 6))]), (pb, 66, [.slice (some (⟨tb, 2 * j4, none⟩ : Addr)) ((tks sv n4).length) k4, i64 ((a2 : Nat) : Int), i64 er2]), (tb, 68, CT)] (TL2 ++ (T2 ++ (T3 ++ ([])))) encJ hA hO hTL1 (Vw.src (e' := 45) encJ ((hO.b 0).vw (off := 0) (xs := ([⟨p1, kk1, lj1, decide (kd sv n1 = 6)⟩] : List JV)) (by kernel_rfl)) (by kernel_rfl)) (by first | omega | (simp only [List.length_append, List.length_cons, List.length_nil]; omega)) (by unfold maxLen; first | omega | (simp only [List.length_append, List.length_cons, List.length_nil]; omega)) ?_)
         clear hA hO fr; intro fr w22 p4 c3 T6 hA hO hT6
         replace hA := hA.sb (e' := [(2, .slice none 0 0), (3, i64 0), (4, i64 0), (5, pt pb), (6, .slice pL1 l.length cL1), (83, .slice p4 ((l ++ ([⟨p1, kk1, lj1, decide (kd sv n1 = 6)⟩] : List JV)).length) c3)])
         refine ck (l := [4]) (r := []) (e' := [(2, .slice none 0 0), (3, i64 0), (4, i64 0), (5, pt pb), (6, .slice p4 ((l ++ ([⟨p1, kk1, lj1, decide (kd sv n1 = 6)⟩] : List JV)).length) c3)]) hA [] c0 ?_
         clear hA fr; intro fr hA
         refine end_ops ?_
         refine inBlock_normal ?_
         refine then_normal ?_
         replace hO : Ow Try.prog none' w w22 ([(b4, 45, [.slice p1 lj1.length kk1, bl (decide (kd sv n1 = 6))]), (b1, 45, [.slice p1 lj1.length kk1, bl (decide (kd sv n1 = 6))]), (pb, 66, [.slice (some (⟨tb, 2 * j4, none⟩ : Addr)) ((tks sv n4).length) k4, i64 ((a2 : Nat) : Int), i64 er2]), (tb, 68, CT)] ++ (T6 ++ (TL2 ++ (T2 ++ (T3 ++ ([])))))) := hO
         have hC1 : InJ 49 9 (l ++ ([⟨p1, kk1, lj1, decide (kd sv n1 = 6)⟩] : List JV)) (TL2 ++ (T2 ++ T3)) := InJ.snoc (x := ⟨p1, kk1, lj1, decide (kd sv n1 = 6)⟩) hT2 hT3 hTL2
         replace hO : Ow Try.prog none' w w22 ([(b4, 45, [.slice p1 lj1.length kk1, bl (decide (kd sv n1 = 6))]), (b1, 45, [.slice p1 lj1.length kk1, bl (decide (kd sv n1 = 6))]), (pb, 66, [.slice (some (⟨tb, 2 * j4, none⟩ : Addr)) ((tks sv n4).length) k4, i64 ((a2 : Nat) : Int), i64 er2]), (tb, 68, CT)] ++ (T6 ++ ((TL2 ++ (T2 ++ T3)) ++ ([])))) := hO.to (by first | rfl | (simp only [TP, apd]))
         have hl_ : lst sv (lineP true sv) (List.map JV.d (l ++ ([⟨p1, kk1, lj1, decide (kd sv n1 = 6)⟩] : List JV))) f n4 a2 er2 := by rw [List.map_append]; exact lst_good hC (by omega) (by omega) (by rintro ⟨q1, q2⟩; rw [List.length_map] at q1; first | omega | simp_all) hst1 (by omega) (by omega) (by omega) (by omega)
         have hz_ : er2 = 0 → m < n4 := fun q_ => by have := hgc1 q_; have := rx_gt (s := sv) (n := n1); omega
         obtain ⟨g2, hg2, hlt2⟩ := meas (er := er2) (z := sv.size) (m := n4) (g := g) (fun q_ => by have := hz_ q_; omega) (by omega)
         exact ⟨_, by omega, l ++ ([⟨p1, kk1, lj1, decide (kd sv n1 = 6)⟩] : List JV), j4, k4, n4, a2, er2, f, g2, p4, c3, T6, (TL2 ++ (T2 ++ T3)), rfl, (hA.sub (e' := [(2, .slice none 0 0), (3, i64 0), (4, i64 0), (5, pt pb), (6, .slice p4 ((l ++ ([⟨p1, kk1, lj1, decide (kd sv n1 = 6)⟩] : List JV)).length) c3)]) [2, 3, 4, 5, 6] (by kernel_rfl)).cast (by kernel_rfl), (Ow.subP (A := [(b4, 45, [.slice p1 lj1.length kk1, bl (decide (kd sv n1 = 6))]), (b1, 45, [.slice p1 lj1.length kk1, bl (decide (kd sv n1 = 6))]), (pb, 66, [.slice (some (⟨tb, 2 * j4, none⟩ : Addr)) ((tks sv n4).length) k4, i64 ((a2 : Nat) : Int), i64 er2]), (tb, 68, CT)]) (A' := [(pb, 66, [.slice (some (⟨tb, 2 * j4, none⟩ : Addr)) ((tks sv n4).length) k4, i64 ((a2 : Nat) : Int), i64 er2]), (tb, 68, CT)]) (B := T6 ++ ((TL2 ++ (T2 ++ T3)) ++ ([]))) hO (.cons _ (.cons _ (.cons_cons _ (.cons_cons _ .slnil))))), hT6, hC1, hv4.pos, hg2, (fun q_ => by have := hz_ q_; omega), hl_, (by simp only [List.length_append, List.length_cons, List.length_nil]; by_cases q_ : er2 = 0; { have := hz_ q_; exact .inl ⟨q_, by omega⟩ }; { exact .inr ⟨q_, by omega⟩ }), hv4, trivial⟩
       rw [h10] at hA
       have h10p := of_decide_eq_false h10
       refine cT hA ?_
       refine rR (l := [0, 1]) ?_
       refine ck (l := [0]) (r := [1]) (e' := [(2, .slice none 0 0), (3, i64 0), (4, i64 0), (5, pt pb), (6, .slice pL1 l.length cL1), (7, pt b1), (68, pt pb)]) hA [] c0 ?_
       clear hA fr; intro fr hA
       refine wpOps_cons' (mC (f := 27) (args := [pt pb, i64 3]) (d := (some 69)) hA Try.func27 ((rfail_any pb tb (tks sv (sk sv 0)) CT sv j1 k1 n1 a2 er2 _ hv1 hs 3 (Ow.self (A := [(b1, 45, [.slice p1 lj1.length kk1, bl false])]) (T := RP pb tb CT sv j1 k1 n1 a2 er2) (B := ([] ++ (TL1 ++ (TL2 ++ (T2 ++ (T3 ++ ([]))))))) (hO.to (by first | rfl | (simp only [RP, apd])) : Ow Try.prog none' w _ ([(b1, 45, [.slice p1 lj1.length kk1, bl false])] ++ (RP pb tb CT sv j1 k1 n1 a2 er2 ++ (([] ++ (TL1 ++ (TL2 ++ (T2 ++ (T3 ++ ([])))))))))))).mono ?_))
       rintro en w23 ⟨a3, er3, rfl, hfe2, hW⟩
       refine ⟨_, rfl, ?_⟩
       clear hA fr; intro fr hA
       replace hO := Ow.pass (A := [(b1, 45, [.slice p1 lj1.length kk1, bl false])]) (T := RP pb tb CT sv j1 k1 n1 a2 er2) (B := ([] ++ (TL1 ++ (TL2 ++ (T2 ++ (T3 ++ ([]))))))) (hO.to (by first | rfl | (simp only [RP, apd])) : Ow Try.prog none' w _ ([(b1, 45, [.slice p1 lj1.length kk1, bl false])] ++ (RP pb tb CT sv j1 k1 n1 a2 er2 ++ (([] ++ (TL1 ++ (TL2 ++ (T2 ++ (T3 ++ ([])))))))))) hW; clear hW
       replace hO : Ow Try.prog none' w _ ([(b1, 45, [.slice p1 lj1.length kk1, bl false]), (pb, 66, [.slice (some (⟨tb, 2 * j1, none⟩ : Addr)) ((tks sv n1).length) k1, i64 ((a3 : Nat) : Int), i64 er3]), (tb, 68, CT)] ++ (TL1 ++ (TL2 ++ (T2 ++ (T3 ++ ([])))))) := hO.to (by first | rfl | (simp only [RP, apd]))
       replace hA := hA.sb (e' := [(2, .slice none 0 0), (3, i64 0), (4, i64 0), (5, pt pb), (6, .slice pL1 l.length cL1), (7, pt b1)])
       refine end_ops ?_
       refine then_normal ?_
       refine wp_seq ?_
       refine sC (e' := [(2, .slice none 0 0), (3, i64 0), (4, i64 0), (5, pt pb), (6, .slice pL1 l.length cL1), (7, pt b1), (74, bl (er3 == 0))]) 5 hA [i64 er3] (cc (hO.l1 1 2 24 (i64 er3)) c0) ?_
       clear hA fr; intro fr hA
       rcases Bool.eq_false_or_eq_true (er3 == 0) with h11 | h11
       · rw [h11] at hA
         have h11p := eq_of_beq h11
         refine cT hA ?_
         refine rR (l := (rg 0 6)) ?_
         refine ck (l := [0]) (r := (rg 1 5)) (e' := [(2, .slice none 0 0), (3, i64 0), (4, i64 0), (5, pt pb), (6, .slice pL1 l.length cL1), (7, pt b1), (75, pt pb)]) hA [] c0 ?_
         clear hA fr; intro fr hA
         refine wpOps_cons' (mC (f := 29) (args := [pt pb]) (d := (some 76)) hA Try.func29 ((rnext_any pb tb (tks sv (sk sv 0)) CT sv j1 k1 n1 a3 er3 _ hv1 hs (Ow.self (A := [(b1, 45, [.slice p1 lj1.length kk1, bl false])]) (T := RP pb tb CT sv j1 k1 n1 a3 er3) (B := ([] ++ (TL1 ++ (TL2 ++ (T2 ++ (T3 ++ ([]))))))) (hO.to (by first | rfl | (simp only [RP, apd])) : Ow Try.prog none' w _ ([(b1, 45, [.slice p1 lj1.length kk1, bl false])] ++ (RP pb tb CT sv j1 k1 n1 a3 er3 ++ (([] ++ (TL1 ++ (TL2 ++ (T2 ++ (T3 ++ ([])))))))))))).mono ?_))
         rintro en w24 ⟨j5, k5, n5, rfl, hnx4, hv5, hW⟩
         refine ⟨_, rfl, ?_⟩
         clear hA fr; intro fr hA
         replace hO := Ow.pass (A := [(b1, 45, [.slice p1 lj1.length kk1, bl false])]) (T := RP pb tb CT sv j1 k1 n1 a3 er3) (B := ([] ++ (TL1 ++ (TL2 ++ (T2 ++ (T3 ++ ([]))))))) (hO.to (by first | rfl | (simp only [RP, apd])) : Ow Try.prog none' w _ ([(b1, 45, [.slice p1 lj1.length kk1, bl false])] ++ (RP pb tb CT sv j1 k1 n1 a3 er3 ++ (([] ++ (TL1 ++ (TL2 ++ (T2 ++ (T3 ++ ([])))))))))) hW; clear hW
         replace hO : Ow Try.prog none' w _ ([(b1, 45, [.slice p1 lj1.length kk1, bl false]), (pb, 66, [.slice (some (⟨tb, 2 * j5, none⟩ : Addr)) ((tks sv n5).length) k5, i64 ((a3 : Nat) : Int), i64 er3]), (tb, 68, CT)] ++ (TL1 ++ (TL2 ++ (T2 ++ (T3 ++ ([])))))) := hO.to (by first | rfl | (simp only [RP, apd]))
         have hp5a := tks_pos sv n5
         have hp5b := hv5.pos
         replace hA := hA.sb (e' := [(2, .slice none 0 0), (3, i64 0), (4, i64 0), (5, pt pb), (6, .slice pL1 l.length cL1), (7, pt b1), (76, .agg #[str (rt sv n1), i64 ((n1 : Nat) : Int)])])
         refine ck (l := [2, 3, 4]) (r := [5]) (e' := [(2, .slice none 0 0), (3, i64 0), (4, i64 0), (5, pt pb), (6, .slice pL1 l.length cL1), (7, pt b1), (78, bl ((rt sv n1).toList == (⟨#[38]⟩ : ByteArray).toList)), (79, pf b1 1)]) hA [] c0 ?_
         clear hA fr; intro fr hA
         replace hA := hA.bool (f := fun z_ => [(2, .slice none 0 0), (3, i64 0), (4, i64 0), (5, pt pb), (6, .slice pL1 l.length cL1), (7, pt b1), (78, .bool z_), (79, pf b1 1)]) (rt_amp sv n1 : ((rt sv n1).toList == (⟨#[38]⟩ : ByteArray).toList) = (decide (kd sv n1 = 6)))
         refine wpOps_cons' (mS (off := 1) (vc := [bl (decide (kd sv n1 = 6))]) 0 hA hO ?_)
         clear hO; intro w25 hO
         replace hA := hA.sb (e' := [(2, .slice none 0 0), (3, i64 0), (4, i64 0), (5, pt pb), (6, .slice pL1 l.length cL1), (7, pt b1)])
         refine end_ops ?_
         refine then_normal ?_
         refine rR (l := (rg 0 5)) ?_
         refine ck (l := [0, 1]) (r := [2, 3, 4]) (e' := [(2, .slice none 0 0), (3, i64 0), (4, i64 0), (5, pt pb), (6, .slice pL1 l.length cL1), (80, .slice pL1 l.length cL1), (81, .agg #[.slice p1 lj1.length kk1, bl (decide (kd sv n1 = 6))])]) hA [.agg #[.slice p1 lj1.length kk1, bl (decide (kd sv n1 = 6))]] (cc (hO.ln 0 0 45 [.slice p1 lj1.length kk1, bl (decide (kd sv n1 = 6))]) c0) ?_
         clear hA fr; intro fr hA
         refine wpOps_cons' (mN (l := [.slice p1 lj1.length kk1, bl (decide (kd sv n1 = 6))]) (t := 45) (v := fun b => .slice (some ⟨b, 0, none⟩) 1 1) (d := 82) hA hO ?_)
         clear hA hO fr; intro fr w26 b5 hA hO
         replace hA := hA.sb (e' := [(2, .slice none 0 0), (3, i64 0), (4, i64 0), (5, pt pb), (6, .slice pL1 l.length cL1), (80, .slice pL1 l.length cL1), (82, .slice (some ⟨b5, 0, none⟩) 1 1)])
         replace hO : Ow Try.prog none' w w26 ([(b5, 45, [.slice p1 lj1.length kk1, bl (decide (kd sv n1 = 6))]), (b1, 45, [.slice p1 lj1.length kk1, bl (decide (kd sv n1 = 6))]), (pb, 66, [.slice (some (⟨tb, 2 * j5, none⟩ : Addr)) ((tks sv n5).length) k5, i64 ((a3 : Nat) : Int), i64 er3]), (tb, 68, CT)] ++ (TL1 ++ (TL2 ++ (T2 ++ (T3 ++ ([])))))) := hO
         refine wpOps_cons' (mA (f := fJ) (el := 45) (sz := 2) (bytes := 32) (p := pL1) (c := cL1) (l := l) (l' := ([⟨p1, kk1, lj1, decide (kd sv n1 = 6)⟩] : List JV)) (T := TL1) (t := 27) (tx := 27) (ty := 27) (x := .slice (some ⟨b5, 0, none⟩) 1 1) (d := 83) [(b5, 45, [.slice p1 lj1.length kk1, bl (decide (kd sv n1 = 6))]), (b1, 45, [.slice p1 lj1.length kk1, bl (decide (kd sv n1 = 6))]), (pb, 66, [.slice (some (⟨tb, 2 * j5, none⟩ : Addr)) ((tks sv n5).length) k5, i64 ((a3 : Nat) : Int), i64 er3]), (tb, 68, CT)] (TL2 ++ (T2 ++ (T3 ++ ([])))) encJ hA hO hTL1 (Vw.src (e' := 45) encJ ((hO.b 0).vw (off := 0) (xs := ([⟨p1, kk1, lj1, decide (kd sv n1 = 6)⟩] : List JV)) (by kernel_rfl)) (by kernel_rfl)) (by first | omega | (simp only [List.length_append, List.length_cons, List.length_nil]; omega)) (by unfold maxLen; first | omega | (simp only [List.length_append, List.length_cons, List.length_nil]; omega)) ?_)
         clear hA hO fr; intro fr w27 p5 c4 T7 hA hO hT7
         replace hA := hA.sb (e' := [(2, .slice none 0 0), (3, i64 0), (4, i64 0), (5, pt pb), (6, .slice pL1 l.length cL1), (83, .slice p5 ((l ++ ([⟨p1, kk1, lj1, decide (kd sv n1 = 6)⟩] : List JV)).length) c4)])
         refine ck (l := [4]) (r := []) (e' := [(2, .slice none 0 0), (3, i64 0), (4, i64 0), (5, pt pb), (6, .slice p5 ((l ++ ([⟨p1, kk1, lj1, decide (kd sv n1 = 6)⟩] : List JV)).length) c4)]) hA [] c0 ?_
         clear hA fr; intro fr hA
         refine end_ops ?_
         refine inBlock_normal ?_
         refine then_normal ?_
         replace hO : Ow Try.prog none' w w27 ([(b5, 45, [.slice p1 lj1.length kk1, bl (decide (kd sv n1 = 6))]), (b1, 45, [.slice p1 lj1.length kk1, bl (decide (kd sv n1 = 6))]), (pb, 66, [.slice (some (⟨tb, 2 * j5, none⟩ : Addr)) ((tks sv n5).length) k5, i64 ((a3 : Nat) : Int), i64 er3]), (tb, 68, CT)] ++ (T7 ++ (TL2 ++ (T2 ++ (T3 ++ ([])))))) := hO
         have hC1 : InJ 49 9 (l ++ ([⟨p1, kk1, lj1, decide (kd sv n1 = 6)⟩] : List JV)) (TL2 ++ (T2 ++ T3)) := InJ.snoc (x := ⟨p1, kk1, lj1, decide (kd sv n1 = 6)⟩) hT2 hT3 hTL2
         replace hO : Ow Try.prog none' w w27 ([(b5, 45, [.slice p1 lj1.length kk1, bl (decide (kd sv n1 = 6))]), (b1, 45, [.slice p1 lj1.length kk1, bl (decide (kd sv n1 = 6))]), (pb, 66, [.slice (some (⟨tb, 2 * j5, none⟩ : Addr)) ((tks sv n5).length) k5, i64 ((a3 : Nat) : Int), i64 er3]), (tb, 68, CT)] ++ (T7 ++ ((TL2 ++ (T2 ++ T3)) ++ ([])))) := hO.to (by first | rfl | (simp only [TP, apd]))
         obtain ⟨hne_, hl_⟩ := lst_bad (l2 := List.map JV.d (l ++ ([⟨p1, kk1, lj1, decide (kd sv n1 = 6)⟩] : List JV))) (m2 := n5) hC (by omega) (by omega) (by rintro ⟨q1, q2⟩; rw [List.length_map] at q1; first | omega | simp_all) hst1 (by omega) (by omega) hfe2
         have hz_ : er3 = 0 → m < n5 := fun q_ => absurd q_ hne_
         obtain ⟨g2, hg2, hlt2⟩ := meas (er := er3) (z := sv.size) (m := n5) (g := g) (fun q_ => by have := hz_ q_; omega) (by omega)
         exact ⟨_, by omega, l ++ ([⟨p1, kk1, lj1, decide (kd sv n1 = 6)⟩] : List JV), j5, k5, n5, a3, er3, f, g2, p5, c4, T7, (TL2 ++ (T2 ++ T3)), rfl, (hA.sub (e' := [(2, .slice none 0 0), (3, i64 0), (4, i64 0), (5, pt pb), (6, .slice p5 ((l ++ ([⟨p1, kk1, lj1, decide (kd sv n1 = 6)⟩] : List JV)).length) c4)]) [2, 3, 4, 5, 6] (by kernel_rfl)).cast (by kernel_rfl), (Ow.subP (A := [(b5, 45, [.slice p1 lj1.length kk1, bl (decide (kd sv n1 = 6))]), (b1, 45, [.slice p1 lj1.length kk1, bl (decide (kd sv n1 = 6))]), (pb, 66, [.slice (some (⟨tb, 2 * j5, none⟩ : Addr)) ((tks sv n5).length) k5, i64 ((a3 : Nat) : Int), i64 er3]), (tb, 68, CT)]) (A' := [(pb, 66, [.slice (some (⟨tb, 2 * j5, none⟩ : Addr)) ((tks sv n5).length) k5, i64 ((a3 : Nat) : Int), i64 er3]), (tb, 68, CT)]) (B := T7 ++ ((TL2 ++ (T2 ++ T3)) ++ ([]))) hO (.cons _ (.cons _ (.cons_cons _ (.cons_cons _ .slnil))))), hT7, hC1, hv5.pos, hg2, (fun q_ => by have := hz_ q_; omega), hl_, (by simp only [List.length_append, List.length_cons, List.length_nil]; by_cases q_ : er3 = 0; { have := hz_ q_; exact .inl ⟨q_, by omega⟩ }; { exact .inr ⟨q_, by omega⟩ }), hv5, trivial⟩
       rw [h11] at hA
       have h11p := ne_of_beq_false h11
       refine cF hA ?_
       refine wp_skip ?_
       refine then_normal ?_
       refine rR (l := (rg 0 5)) ?_
       refine ck (l := [0, 1]) (r := [2, 3, 4]) (e' := [(2, .slice none 0 0), (3, i64 0), (4, i64 0), (5, pt pb), (6, .slice pL1 l.length cL1), (80, .slice pL1 l.length cL1), (81, .agg #[.slice p1 lj1.length kk1, bl false])]) hA [.agg #[.slice p1 lj1.length kk1, bl false]] (cc (hO.ln 0 0 45 [.slice p1 lj1.length kk1, bl false]) c0) ?_
       clear hA fr; intro fr hA
       refine wpOps_cons' (mN (l := [.slice p1 lj1.length kk1, bl false]) (t := 45) (v := fun b => .slice (some ⟨b, 0, none⟩) 1 1) (d := 82) hA hO ?_)
       clear hA hO fr; intro fr w28 b6 hA hO
       replace hA := hA.sb (e' := [(2, .slice none 0 0), (3, i64 0), (4, i64 0), (5, pt pb), (6, .slice pL1 l.length cL1), (80, .slice pL1 l.length cL1), (82, .slice (some ⟨b6, 0, none⟩) 1 1)])
       replace hO : Ow Try.prog none' w w28 ([(b6, 45, [.slice p1 lj1.length kk1, bl false]), (b1, 45, [.slice p1 lj1.length kk1, bl false]), (pb, 66, [.slice (some (⟨tb, 2 * j1, none⟩ : Addr)) ((tks sv n1).length) k1, i64 ((a3 : Nat) : Int), i64 er3]), (tb, 68, CT)] ++ (TL1 ++ (TL2 ++ (T2 ++ (T3 ++ ([])))))) := hO
       refine wpOps_cons' (mA (f := fJ) (el := 45) (sz := 2) (bytes := 32) (p := pL1) (c := cL1) (l := l) (l' := ([⟨p1, kk1, lj1, false⟩] : List JV)) (T := TL1) (t := 27) (tx := 27) (ty := 27) (x := .slice (some ⟨b6, 0, none⟩) 1 1) (d := 83) [(b6, 45, [.slice p1 lj1.length kk1, bl false]), (b1, 45, [.slice p1 lj1.length kk1, bl false]), (pb, 66, [.slice (some (⟨tb, 2 * j1, none⟩ : Addr)) ((tks sv n1).length) k1, i64 ((a3 : Nat) : Int), i64 er3]), (tb, 68, CT)] (TL2 ++ (T2 ++ (T3 ++ ([])))) encJ hA hO hTL1 (Vw.src (e' := 45) encJ ((hO.b 0).vw (off := 0) (xs := ([⟨p1, kk1, lj1, false⟩] : List JV)) (by kernel_rfl)) (by kernel_rfl)) (by first | omega | (simp only [List.length_append, List.length_cons, List.length_nil]; omega)) (by unfold maxLen; first | omega | (simp only [List.length_append, List.length_cons, List.length_nil]; omega)) ?_)
       clear hA hO fr; intro fr w29 p6 c5 T8 hA hO hT8
       replace hA := hA.sb (e' := [(2, .slice none 0 0), (3, i64 0), (4, i64 0), (5, pt pb), (6, .slice pL1 l.length cL1), (83, .slice p6 ((l ++ ([⟨p1, kk1, lj1, false⟩] : List JV)).length) c5)])
       refine ck (l := [4]) (r := []) (e' := [(2, .slice none 0 0), (3, i64 0), (4, i64 0), (5, pt pb), (6, .slice p6 ((l ++ ([⟨p1, kk1, lj1, false⟩] : List JV)).length) c5)]) hA [] c0 ?_
       clear hA fr; intro fr hA
       refine end_ops ?_
       refine inBlock_normal ?_
       refine then_normal ?_
       replace hO : Ow Try.prog none' w w29 ([(b6, 45, [.slice p1 lj1.length kk1, bl false]), (b1, 45, [.slice p1 lj1.length kk1, bl false]), (pb, 66, [.slice (some (⟨tb, 2 * j1, none⟩ : Addr)) ((tks sv n1).length) k1, i64 ((a3 : Nat) : Int), i64 er3]), (tb, 68, CT)] ++ (T8 ++ (TL2 ++ (T2 ++ (T3 ++ ([])))))) := hO
       have hC1 : InJ 49 9 (l ++ ([⟨p1, kk1, lj1, false⟩] : List JV)) (TL2 ++ (T2 ++ T3)) := InJ.snoc (x := ⟨p1, kk1, lj1, false⟩) hT2 hT3 hTL2
       replace hO : Ow Try.prog none' w w29 ([(b6, 45, [.slice p1 lj1.length kk1, bl false]), (b1, 45, [.slice p1 lj1.length kk1, bl false]), (pb, 66, [.slice (some (⟨tb, 2 * j1, none⟩ : Addr)) ((tks sv n1).length) k1, i64 ((a3 : Nat) : Int), i64 er3]), (tb, 68, CT)] ++ (T8 ++ ((TL2 ++ (T2 ++ T3)) ++ ([])))) := hO.to (by first | rfl | (simp only [TP, apd]))
       obtain ⟨hne_, hl_⟩ := lst_bad (l2 := List.map JV.d (l ++ ([⟨p1, kk1, lj1, false⟩] : List JV))) (m2 := n1) hC (by omega) (by omega) (by rintro ⟨q1, q2⟩; rw [List.length_map] at q1; first | omega | simp_all) hst1 (by omega) (by omega) hfe2
       have hz_ : er3 = 0 → m < n1 := fun q_ => absurd q_ hne_
       obtain ⟨g2, hg2, hlt2⟩ := meas (er := er3) (z := sv.size) (m := n1) (g := g) (fun q_ => by have := hz_ q_; omega) (by omega)
       exact ⟨_, by omega, l ++ ([⟨p1, kk1, lj1, false⟩] : List JV), j1, k1, n1, a3, er3, f, g2, p6, c5, T8, (TL2 ++ (T2 ++ T3)), rfl, (hA.sub (e' := [(2, .slice none 0 0), (3, i64 0), (4, i64 0), (5, pt pb), (6, .slice p6 ((l ++ ([⟨p1, kk1, lj1, false⟩] : List JV)).length) c5)]) [2, 3, 4, 5, 6] (by kernel_rfl)).cast (by kernel_rfl), (Ow.subP (A := [(b6, 45, [.slice p1 lj1.length kk1, bl false]), (b1, 45, [.slice p1 lj1.length kk1, bl false]), (pb, 66, [.slice (some (⟨tb, 2 * j1, none⟩ : Addr)) ((tks sv n1).length) k1, i64 ((a3 : Nat) : Int), i64 er3]), (tb, 68, CT)]) (A' := [(pb, 66, [.slice (some (⟨tb, 2 * j1, none⟩ : Addr)) ((tks sv n1).length) k1, i64 ((a3 : Nat) : Int), i64 er3]), (tb, 68, CT)]) (B := T8 ++ ((TL2 ++ (T2 ++ T3)) ++ ([]))) hO (.cons _ (.cons _ (.cons_cons _ (.cons_cons _ .slnil))))), hT8, hC1, hv1.pos, hg2, (fun q_ => by have := hz_ q_; omega), hl_, (by simp only [List.length_append, List.length_cons, List.length_nil]; by_cases q_ : er3 = 0; { have := hz_ q_; exact .inl ⟨q_, by omega⟩ }; { exact .inr ⟨q_, by omega⟩ }), hv1, trivial⟩
     rw [h7] at hA
     have h7p := ne_of_beq_false h7
     refine ck (l := (rg 6 11)) (r := []) (e' := [(2, .slice none 0 0), (3, i64 0), (4, i64 0), (5, pt pb), (6, .slice pL1 l.length cL1), (7, pt b1), (67, bl false)]) hA [] c0 ?_
     clear hA fr; intro fr hA
     refine end_ops ?_
     refine then_normal ?_
     refine cF hA ?_
     refine wp_skip ?_
     refine then_normal ?_
     refine wp_seq ?_
     refine sC (e' := [(2, .slice none 0 0), (3, i64 0), (4, i64 0), (5, pt pb), (6, .slice pL1 l.length cL1), (7, pt b1), (74, bl (er2 == 0))]) 5 hA [i64 er2] (cc (hO.l1 1 2 24 (i64 er2)) c0) ?_
     clear hA fr; intro fr hA
     rw [(h7 : (er2 == 0) = false)] at hA
     refine cF hA ?_
     refine wp_skip ?_
     refine then_normal ?_
     refine rR (l := (rg 0 5)) ?_
     refine ck (l := [0, 1]) (r := [2, 3, 4]) (e' := [(2, .slice none 0 0), (3, i64 0), (4, i64 0), (5, pt pb), (6, .slice pL1 l.length cL1), (80, .slice pL1 l.length cL1), (81, .agg #[.slice p1 lj1.length kk1, bl false])]) hA [.agg #[.slice p1 lj1.length kk1, bl false]] (cc (hO.ln 0 0 45 [.slice p1 lj1.length kk1, bl false]) c0) ?_
     clear hA fr; intro fr hA
     refine wpOps_cons' (mN (l := [.slice p1 lj1.length kk1, bl false]) (t := 45) (v := fun b => .slice (some ⟨b, 0, none⟩) 1 1) (d := 82) hA hO ?_)
     clear hA hO fr; intro fr w30 b7 hA hO
     replace hA := hA.sb (e' := [(2, .slice none 0 0), (3, i64 0), (4, i64 0), (5, pt pb), (6, .slice pL1 l.length cL1), (80, .slice pL1 l.length cL1), (82, .slice (some ⟨b7, 0, none⟩) 1 1)])
     replace hO : Ow Try.prog none' w w30 ([(b7, 45, [.slice p1 lj1.length kk1, bl false]), (b1, 45, [.slice p1 lj1.length kk1, bl false]), (pb, 66, [.slice (some (⟨tb, 2 * j1, none⟩ : Addr)) ((tks sv n1).length) k1, i64 ((a2 : Nat) : Int), i64 er2]), (tb, 68, CT)] ++ (TL1 ++ (TL2 ++ (T2 ++ (T3 ++ ([])))))) := hO
     refine wpOps_cons' (mA (f := fJ) (el := 45) (sz := 2) (bytes := 32) (p := pL1) (c := cL1) (l := l) (l' := ([⟨p1, kk1, lj1, false⟩] : List JV)) (T := TL1) (t := 27) (tx := 27) (ty := 27) (x := .slice (some ⟨b7, 0, none⟩) 1 1) (d := 83) [(b7, 45, [.slice p1 lj1.length kk1, bl false]), (b1, 45, [.slice p1 lj1.length kk1, bl false]), (pb, 66, [.slice (some (⟨tb, 2 * j1, none⟩ : Addr)) ((tks sv n1).length) k1, i64 ((a2 : Nat) : Int), i64 er2]), (tb, 68, CT)] (TL2 ++ (T2 ++ (T3 ++ ([])))) encJ hA hO hTL1 (Vw.src (e' := 45) encJ ((hO.b 0).vw (off := 0) (xs := ([⟨p1, kk1, lj1, false⟩] : List JV)) (by kernel_rfl)) (by kernel_rfl)) (by first | omega | (simp only [List.length_append, List.length_cons, List.length_nil]; omega)) (by unfold maxLen; first | omega | (simp only [List.length_append, List.length_cons, List.length_nil]; omega)) ?_)
     clear hA hO fr; intro fr w31 p7 c6 T9 hA hO hT9
     replace hA := hA.sb (e' := [(2, .slice none 0 0), (3, i64 0), (4, i64 0), (5, pt pb), (6, .slice pL1 l.length cL1), (83, .slice p7 ((l ++ ([⟨p1, kk1, lj1, false⟩] : List JV)).length) c6)])
     refine ck (l := [4]) (r := []) (e' := [(2, .slice none 0 0), (3, i64 0), (4, i64 0), (5, pt pb), (6, .slice p7 ((l ++ ([⟨p1, kk1, lj1, false⟩] : List JV)).length) c6)]) hA [] c0 ?_
     clear hA fr; intro fr hA
     refine end_ops ?_
     refine inBlock_normal ?_
     refine then_normal ?_
     replace hO : Ow Try.prog none' w w31 ([(b7, 45, [.slice p1 lj1.length kk1, bl false]), (b1, 45, [.slice p1 lj1.length kk1, bl false]), (pb, 66, [.slice (some (⟨tb, 2 * j1, none⟩ : Addr)) ((tks sv n1).length) k1, i64 ((a2 : Nat) : Int), i64 er2]), (tb, 68, CT)] ++ (T9 ++ (TL2 ++ (T2 ++ (T3 ++ ([])))))) := hO
     have hC1 : InJ 49 9 (l ++ ([⟨p1, kk1, lj1, false⟩] : List JV)) (TL2 ++ (T2 ++ T3)) := InJ.snoc (x := ⟨p1, kk1, lj1, false⟩) hT2 hT3 hTL2
     replace hO : Ow Try.prog none' w w31 ([(b7, 45, [.slice p1 lj1.length kk1, bl false]), (b1, 45, [.slice p1 lj1.length kk1, bl false]), (pb, 66, [.slice (some (⟨tb, 2 * j1, none⟩ : Addr)) ((tks sv n1).length) k1, i64 ((a2 : Nat) : Int), i64 er2]), (tb, 68, CT)] ++ (T9 ++ ((TL2 ++ (T2 ++ T3)) ++ ([])))) := hO.to (by first | rfl | (simp only [TP, apd]))
     have hl_ : lst sv (lineP true sv) (List.map JV.d (l ++ ([⟨p1, kk1, lj1, false⟩] : List JV))) f n1 a2 er2 := lst_err hC (by omega) (by omega) (by rintro ⟨q1, q2⟩; rw [List.length_map] at q1; first | omega | simp_all) hst1 (by omega)
     have hz_ : er2 = 0 → m < n1 := fun q_ => absurd q_ (by omega)
     obtain ⟨g2, hg2, hlt2⟩ := meas (er := er2) (z := sv.size) (m := n1) (g := g) (fun q_ => by have := hz_ q_; omega) (by omega)
     exact ⟨_, by omega, l ++ ([⟨p1, kk1, lj1, false⟩] : List JV), j1, k1, n1, a2, er2, f, g2, p7, c6, T9, (TL2 ++ (T2 ++ T3)), rfl, (hA.sub (e' := [(2, .slice none 0 0), (3, i64 0), (4, i64 0), (5, pt pb), (6, .slice p7 ((l ++ ([⟨p1, kk1, lj1, false⟩] : List JV)).length) c6)]) [2, 3, 4, 5, 6] (by kernel_rfl)).cast (by kernel_rfl), (Ow.subP (A := [(b7, 45, [.slice p1 lj1.length kk1, bl false]), (b1, 45, [.slice p1 lj1.length kk1, bl false]), (pb, 66, [.slice (some (⟨tb, 2 * j1, none⟩ : Addr)) ((tks sv n1).length) k1, i64 ((a2 : Nat) : Int), i64 er2]), (tb, 68, CT)]) (A' := [(pb, 66, [.slice (some (⟨tb, 2 * j1, none⟩ : Addr)) ((tks sv n1).length) k1, i64 ((a2 : Nat) : Int), i64 er2]), (tb, 68, CT)]) (B := T9 ++ ((TL2 ++ (T2 ++ T3)) ++ ([]))) hO (.cons _ (.cons _ (.cons_cons _ (.cons_cons _ .slnil))))), hT9, hC1, hv1.pos, hg2, (fun q_ => by have := hz_ q_; omega), hl_, (by simp only [List.length_append, List.length_cons, List.length_nil]; by_cases q_ : er2 = 0; { have := hz_ q_; exact .inl ⟨q_, by omega⟩ }; { exact .inr ⟨q_, by omega⟩ }), hv1, trivial⟩
   rw [h4] at hA
   have h4p := ne_of_beq_false h4
   refine ck (l := (rg 4 8)) (r := []) (e' := [(2, .slice none 0 0), (3, i64 0), (4, i64 0), (5, pt pb), (6, .slice pL1 l.length cL1), (39, bl false)]) hA [] c0 ?_
   clear hA fr; intro fr hA
   refine end_ops ?_
   refine then_normal ?_
   refine cF hA ?_
   refine wp_skip ?_
   refine then_normal ?_
   refine sR (l := [0, 1, 2, 3]) ?_
   refine ck (l := [0]) (r := [1, 2, 3]) (e' := [(2, .slice none 0 0), (3, i64 0), (4, i64 0), (5, pt pb), (6, .slice pL1 l.length cL1), (42, pt pb)]) hA [] c0 ?_
   clear hA fr; intro fr hA
   refine wpOps_cons' (mC (f := 28) (args := [pt pb]) (d := (some 43)) hA Try.func28 ((rjob_any pb tb (tks sv (sk sv 0)) CT sv jl kl m al el _ hvl hs (Ow.self (A := []) (T := RP pb tb CT sv jl kl m al el) (B := ([] ++ (TL1 ++ (TL2 ++ ([]))))) (hO.to (by first | rfl | (simp only [RP, apd])) : Ow Try.prog none' w _ ([] ++ (RP pb tb CT sv jl kl m al el ++ (([] ++ (TL1 ++ (TL2 ++ ([])))))))))).mono ?_))
   rintro en w32 ⟨lj2, j6, k6, n6, a4, er4, p8, kk2, T10, T11, rfl, hT10, hT11, hst2, hv6, hle2, hgc2, hW⟩
   refine ⟨_, rfl, ?_⟩
   clear hA fr; intro fr hA
   replace hO := Ow.pass2 (A := []) (T := RP pb tb CT sv jl kl m al el) (B := ([] ++ (TL1 ++ (TL2 ++ ([]))))) (T' := RP pb tb CT sv j6 k6 n6 a4 er4) (T2 := T10 ++ T11) (hO.to (by first | rfl | (simp only [RP, apd])) : Ow Try.prog none' w _ ([] ++ (RP pb tb CT sv jl kl m al el ++ (([] ++ (TL1 ++ (TL2 ++ ([])))))))) hW; clear hW
   replace hO : Ow Try.prog none' w _ ([(pb, 66, [.slice (some (⟨tb, 2 * j6, none⟩ : Addr)) ((tks sv n6).length) k6, i64 ((a4 : Nat) : Int), i64 er4]), (tb, 68, CT)] ++ (TL1 ++ (TL2 ++ (T10 ++ (T11 ++ ([])))))) := hO.to (by first | rfl | (simp only [RP, apd]))
   have hp6a := tks_pos sv n6
   have hp6b := hv6.pos
   have hms2_ : kd sv n6 ≠ 0 → n6 < sv.size := kd_lt
   have hke2_ := kd_end (s := sv) (n := n6) (by omega)
   replace hA := hA.sb (e' := [(2, .slice none 0 0), (3, i64 0), (4, i64 0), (5, pt pb), (6, .slice pL1 l.length cL1), (43, .agg #[.slice p8 lj2.length kk2, bl false])])
   refine wpOps_cons' (mN (l := [.slice none 0 0, bl false]) (t := 45) (v := pt) (d := 7) hA hO ?_)
   clear hA hO fr; intro fr w33 b8 hA hO
   replace hA := hA.sb (e' := [(2, .slice none 0 0), (3, i64 0), (4, i64 0), (5, pt pb), (6, .slice pL1 l.length cL1), (7, pt b8), (43, .agg #[.slice p8 lj2.length kk2, bl false])])
   refine wpOps_cons' (mS (off := 0) (vc := [.slice p8 lj2.length kk2, bl false]) 0 hA hO ?_)
   clear hO; intro w34 hO
   replace hA := hA.sb (e' := [(2, .slice none 0 0), (3, i64 0), (4, i64 0), (5, pt pb), (6, .slice pL1 l.length cL1), (7, pt b8)])
   refine end_ops ?_
   refine then_normal ?_
   refine sC (e' := [(2, .slice none 0 0), (3, i64 0), (4, i64 0), (5, pt pb), (6, .slice pL1 l.length cL1), (7, pt b8), (8, str (rt sv n6))]) 8 hA [.slice (some (⟨tb, 2 * j6, none⟩ : Addr)) ((tks sv n6).length) k6, str (rt sv n6)] (cc (hO.l1 1 0 63 (.slice (some (⟨tb, 2 * j6, none⟩ : Addr)) ((tks sv n6).length) k6)) (cc (⟨by omega, by omega⟩ : (0 : Int) ≤ 0 ∧ 0 < (((tks sv n6).length : Nat) : Int)) (cc ((hv6.ld0 (hO.b 2)) : Ld Try.prog w34 ((⟨tb, 2 * j6, none⟩ : Addr).add 0) 9 (str (rt sv n6))) c0))) ?_
   clear hA fr; intro fr hA
   refine wp_seq ?_
   refine sR (l := (rg 0 17)) ?_
   refine ck (l := (rg 0 6)) (r := (rg 6 11)) (e' := [(2, .slice none 0 0), (3, i64 0), (4, i64 0), (5, pt pb), (6, .slice pL1 l.length cL1), (7, pt b8), (8, str (rt sv n6)), (55, bl (er4 == 0)), (56, bl (er4 == 0))]) hA [i64 er4] (cc (hO.l1 1 2 24 (i64 er4)) c0) ?_
   clear hA fr; intro fr hA
   rcases Bool.eq_false_or_eq_true (er4 == 0) with h12 | h12
   · rw [h12] at hA
     have h12p := eq_of_beq h12
     refine ck (l := [6, 7, 8, 9]) (r := (rg 10 7)) (e' := [(2, .slice none 0 0), (3, i64 0), (4, i64 0), (5, pt pb), (6, .slice pL1 l.length cL1), (7, pt b8), (8, str (rt sv n6)), (58, bl (!((rt sv n6).toList == (⟨#[]⟩ : ByteArray).toList))), (59, bl (!((rt sv n6).toList == (⟨#[]⟩ : ByteArray).toList))), (60, bl (!((rt sv n6).toList == (⟨#[]⟩ : ByteArray).toList)))]) hA [] c0 ?_
     clear hA fr; intro fr hA
     replace hA := hA.bool (f := fun z_ => [(2, .slice none 0 0), (3, i64 0), (4, i64 0), (5, pt pb), (6, .slice pL1 l.length cL1), (7, pt b8), (8, str (rt sv n6)), (58, .bool !z_), (59, .bool !z_), (60, .bool !z_)]) (rt_none sv n6 : ((rt sv n6).toList == (⟨#[]⟩ : ByteArray).toList) = (decide (kd sv n6 = 0)))
     rcases Bool.eq_false_or_eq_true (decide (kd sv n6 = 0)) with h13 | h13
     · rw [h13] at hA
       have h13p := of_decide_eq_true h13
       refine ck (l := (rg 10 7)) (r := []) (e' := [(2, .slice none 0 0), (3, i64 0), (4, i64 0), (5, pt pb), (6, .slice pL1 l.length cL1), (7, pt b8), (67, bl false)]) hA [] c0 ?_
       clear hA fr; intro fr hA
       refine end_ops ?_
       refine then_normal ?_
       refine cF hA ?_
       refine wp_skip ?_
       refine then_normal ?_
       refine wp_seq ?_
       refine sC (e' := [(2, .slice none 0 0), (3, i64 0), (4, i64 0), (5, pt pb), (6, .slice pL1 l.length cL1), (7, pt b8), (74, bl (er4 == 0))]) 5 hA [i64 er4] (cc (hO.l1 1 2 24 (i64 er4)) c0) ?_
       clear hA fr; intro fr hA
       rw [(h12 : (er4 == 0) = true)] at hA
       refine cT hA ?_
       refine rR (l := (rg 0 6)) ?_
       refine ck (l := [0]) (r := (rg 1 5)) (e' := [(2, .slice none 0 0), (3, i64 0), (4, i64 0), (5, pt pb), (6, .slice pL1 l.length cL1), (7, pt b8), (75, pt pb)]) hA [] c0 ?_
       clear hA fr; intro fr hA
       refine wpOps_cons' (mC (f := 29) (args := [pt pb]) (d := (some 76)) hA Try.func29 ((rnext_any pb tb (tks sv (sk sv 0)) CT sv j6 k6 n6 a4 er4 _ hv6 hs (Ow.self (A := [(b8, 45, [.slice p8 lj2.length kk2, bl false])]) (T := RP pb tb CT sv j6 k6 n6 a4 er4) (B := ([] ++ (TL1 ++ (TL2 ++ (T10 ++ (T11 ++ ([]))))))) (hO.to (by first | rfl | (simp only [RP, apd])) : Ow Try.prog none' w _ ([(b8, 45, [.slice p8 lj2.length kk2, bl false])] ++ (RP pb tb CT sv j6 k6 n6 a4 er4 ++ (([] ++ (TL1 ++ (TL2 ++ (T10 ++ (T11 ++ ([])))))))))))).mono ?_))
       rintro en w35 ⟨j7, k7, n7, rfl, hnx5, hv7, hW⟩
       refine ⟨_, rfl, ?_⟩
       clear hA fr; intro fr hA
       replace hO := Ow.pass (A := [(b8, 45, [.slice p8 lj2.length kk2, bl false])]) (T := RP pb tb CT sv j6 k6 n6 a4 er4) (B := ([] ++ (TL1 ++ (TL2 ++ (T10 ++ (T11 ++ ([]))))))) (hO.to (by first | rfl | (simp only [RP, apd])) : Ow Try.prog none' w _ ([(b8, 45, [.slice p8 lj2.length kk2, bl false])] ++ (RP pb tb CT sv j6 k6 n6 a4 er4 ++ (([] ++ (TL1 ++ (TL2 ++ (T10 ++ (T11 ++ ([])))))))))) hW; clear hW
       replace hO : Ow Try.prog none' w _ ([(b8, 45, [.slice p8 lj2.length kk2, bl false]), (pb, 66, [.slice (some (⟨tb, 2 * j7, none⟩ : Addr)) ((tks sv n7).length) k7, i64 ((a4 : Nat) : Int), i64 er4]), (tb, 68, CT)] ++ (TL1 ++ (TL2 ++ (T10 ++ (T11 ++ ([])))))) := hO.to (by first | rfl | (simp only [RP, apd]))
       have hp7a := tks_pos sv n7
       have hp7b := hv7.pos
       replace hA := hA.sb (e' := [(2, .slice none 0 0), (3, i64 0), (4, i64 0), (5, pt pb), (6, .slice pL1 l.length cL1), (7, pt b8), (76, .agg #[str (rt sv n6), i64 ((n6 : Nat) : Int)])])
       refine ck (l := [2, 3, 4]) (r := [5]) (e' := [(2, .slice none 0 0), (3, i64 0), (4, i64 0), (5, pt pb), (6, .slice pL1 l.length cL1), (7, pt b8), (78, bl ((rt sv n6).toList == (⟨#[38]⟩ : ByteArray).toList)), (79, pf b8 1)]) hA [] c0 ?_
       clear hA fr; intro fr hA
       replace hA := hA.bool (f := fun z_ => [(2, .slice none 0 0), (3, i64 0), (4, i64 0), (5, pt pb), (6, .slice pL1 l.length cL1), (7, pt b8), (78, .bool z_), (79, pf b8 1)]) (rt_amp sv n6 : ((rt sv n6).toList == (⟨#[38]⟩ : ByteArray).toList) = (decide (kd sv n6 = 6)))
       refine wpOps_cons' (mS (off := 1) (vc := [bl (decide (kd sv n6 = 6))]) 0 hA hO ?_)
       clear hO; intro w36 hO
       replace hA := hA.sb (e' := [(2, .slice none 0 0), (3, i64 0), (4, i64 0), (5, pt pb), (6, .slice pL1 l.length cL1), (7, pt b8)])
       refine end_ops ?_
       refine then_normal ?_
       refine rR (l := (rg 0 5)) ?_
       refine ck (l := [0, 1]) (r := [2, 3, 4]) (e' := [(2, .slice none 0 0), (3, i64 0), (4, i64 0), (5, pt pb), (6, .slice pL1 l.length cL1), (80, .slice pL1 l.length cL1), (81, .agg #[.slice p8 lj2.length kk2, bl (decide (kd sv n6 = 6))])]) hA [.agg #[.slice p8 lj2.length kk2, bl (decide (kd sv n6 = 6))]] (cc (hO.ln 0 0 45 [.slice p8 lj2.length kk2, bl (decide (kd sv n6 = 6))]) c0) ?_
       clear hA fr; intro fr hA
       refine wpOps_cons' (mN (l := [.slice p8 lj2.length kk2, bl (decide (kd sv n6 = 6))]) (t := 45) (v := fun b => .slice (some ⟨b, 0, none⟩) 1 1) (d := 82) hA hO ?_)
       clear hA hO fr; intro fr w37 b9 hA hO
       replace hA := hA.sb (e' := [(2, .slice none 0 0), (3, i64 0), (4, i64 0), (5, pt pb), (6, .slice pL1 l.length cL1), (80, .slice pL1 l.length cL1), (82, .slice (some ⟨b9, 0, none⟩) 1 1)])
       replace hO : Ow Try.prog none' w w37 ([(b9, 45, [.slice p8 lj2.length kk2, bl (decide (kd sv n6 = 6))]), (b8, 45, [.slice p8 lj2.length kk2, bl (decide (kd sv n6 = 6))]), (pb, 66, [.slice (some (⟨tb, 2 * j7, none⟩ : Addr)) ((tks sv n7).length) k7, i64 ((a4 : Nat) : Int), i64 er4]), (tb, 68, CT)] ++ (TL1 ++ (TL2 ++ (T10 ++ (T11 ++ ([])))))) := hO
       refine wpOps_cons' (mA (f := fJ) (el := 45) (sz := 2) (bytes := 32) (p := pL1) (c := cL1) (l := l) (l' := ([⟨p8, kk2, lj2, decide (kd sv n6 = 6)⟩] : List JV)) (T := TL1) (t := 27) (tx := 27) (ty := 27) (x := .slice (some ⟨b9, 0, none⟩) 1 1) (d := 83) [(b9, 45, [.slice p8 lj2.length kk2, bl (decide (kd sv n6 = 6))]), (b8, 45, [.slice p8 lj2.length kk2, bl (decide (kd sv n6 = 6))]), (pb, 66, [.slice (some (⟨tb, 2 * j7, none⟩ : Addr)) ((tks sv n7).length) k7, i64 ((a4 : Nat) : Int), i64 er4]), (tb, 68, CT)] (TL2 ++ (T10 ++ (T11 ++ ([])))) encJ hA hO hTL1 (Vw.src (e' := 45) encJ ((hO.b 0).vw (off := 0) (xs := ([⟨p8, kk2, lj2, decide (kd sv n6 = 6)⟩] : List JV)) (by kernel_rfl)) (by kernel_rfl)) (by first | omega | (simp only [List.length_append, List.length_cons, List.length_nil]; omega)) (by unfold maxLen; first | omega | (simp only [List.length_append, List.length_cons, List.length_nil]; omega)) ?_)
       clear hA hO fr; intro fr w38 p9 c7 T12 hA hO hT12
       replace hA := hA.sb (e' := [(2, .slice none 0 0), (3, i64 0), (4, i64 0), (5, pt pb), (6, .slice pL1 l.length cL1), (83, .slice p9 ((l ++ ([⟨p8, kk2, lj2, decide (kd sv n6 = 6)⟩] : List JV)).length) c7)])
       refine ck (l := [4]) (r := []) (e' := [(2, .slice none 0 0), (3, i64 0), (4, i64 0), (5, pt pb), (6, .slice p9 ((l ++ ([⟨p8, kk2, lj2, decide (kd sv n6 = 6)⟩] : List JV)).length) c7)]) hA [] c0 ?_
       clear hA fr; intro fr hA
       refine end_ops ?_
       refine inBlock_normal ?_
       refine then_normal ?_
       replace hO : Ow Try.prog none' w w38 ([(b9, 45, [.slice p8 lj2.length kk2, bl (decide (kd sv n6 = 6))]), (b8, 45, [.slice p8 lj2.length kk2, bl (decide (kd sv n6 = 6))]), (pb, 66, [.slice (some (⟨tb, 2 * j7, none⟩ : Addr)) ((tks sv n7).length) k7, i64 ((a4 : Nat) : Int), i64 er4]), (tb, 68, CT)] ++ (T12 ++ (TL2 ++ (T10 ++ (T11 ++ ([])))))) := hO
       have hC1 : InJ 49 9 (l ++ ([⟨p8, kk2, lj2, decide (kd sv n6 = 6)⟩] : List JV)) (TL2 ++ (T10 ++ T11)) := InJ.snoc (x := ⟨p8, kk2, lj2, decide (kd sv n6 = 6)⟩) hT10 hT11 hTL2
       replace hO : Ow Try.prog none' w w38 ([(b9, 45, [.slice p8 lj2.length kk2, bl (decide (kd sv n6 = 6))]), (b8, 45, [.slice p8 lj2.length kk2, bl (decide (kd sv n6 = 6))]), (pb, 66, [.slice (some (⟨tb, 2 * j7, none⟩ : Addr)) ((tks sv n7).length) k7, i64 ((a4 : Nat) : Int), i64 er4]), (tb, 68, CT)] ++ (T12 ++ ((TL2 ++ (T10 ++ T11)) ++ ([])))) := hO.to (by first | rfl | (simp only [TP, apd]))
       have hl_ : lst sv (lineP true sv) (List.map JV.d (l ++ ([⟨p8, kk2, lj2, decide (kd sv n6 = 6)⟩] : List JV))) f n7 a4 er4 := by rw [List.map_append]; exact lst_good hC (by omega) (by omega) (by rintro ⟨q1, q2⟩; rw [List.length_map] at q1; first | omega | simp_all) hst2 (by omega) (by omega) (by omega) (by omega)
       have hz_ : er4 = 0 → m < n7 := fun q_ => by have := hgc2 q_; have := rx_gt (s := sv) (n := n6); omega
       obtain ⟨g2, hg2, hlt2⟩ := meas (er := er4) (z := sv.size) (m := n7) (g := g) (fun q_ => by have := hz_ q_; omega) (by omega)
       exact ⟨_, by omega, l ++ ([⟨p8, kk2, lj2, decide (kd sv n6 = 6)⟩] : List JV), j7, k7, n7, a4, er4, f, g2, p9, c7, T12, (TL2 ++ (T10 ++ T11)), rfl, (hA.sub (e' := [(2, .slice none 0 0), (3, i64 0), (4, i64 0), (5, pt pb), (6, .slice p9 ((l ++ ([⟨p8, kk2, lj2, decide (kd sv n6 = 6)⟩] : List JV)).length) c7)]) [2, 3, 4, 5, 6] (by kernel_rfl)).cast (by kernel_rfl), (Ow.subP (A := [(b9, 45, [.slice p8 lj2.length kk2, bl (decide (kd sv n6 = 6))]), (b8, 45, [.slice p8 lj2.length kk2, bl (decide (kd sv n6 = 6))]), (pb, 66, [.slice (some (⟨tb, 2 * j7, none⟩ : Addr)) ((tks sv n7).length) k7, i64 ((a4 : Nat) : Int), i64 er4]), (tb, 68, CT)]) (A' := [(pb, 66, [.slice (some (⟨tb, 2 * j7, none⟩ : Addr)) ((tks sv n7).length) k7, i64 ((a4 : Nat) : Int), i64 er4]), (tb, 68, CT)]) (B := T12 ++ ((TL2 ++ (T10 ++ T11)) ++ ([]))) hO (.cons _ (.cons _ (.cons_cons _ (.cons_cons _ .slnil))))), hT12, hC1, hv7.pos, hg2, (fun q_ => by have := hz_ q_; omega), hl_, (by simp only [List.length_append, List.length_cons, List.length_nil]; by_cases q_ : er4 = 0; { have := hz_ q_; exact .inl ⟨q_, by omega⟩ }; { exact .inr ⟨q_, by omega⟩ }), hv7, trivial⟩
     rw [h13] at hA
     have h13p := of_decide_eq_false h13
     refine ck (l := [10, 11, 12, 13]) (r := [14, 15, 16]) (e' := [(2, .slice none 0 0), (3, i64 0), (4, i64 0), (5, pt pb), (6, .slice pL1 l.length cL1), (7, pt b8), (8, str (rt sv n6)), (62, bl (!((rt sv n6).toList == (⟨#[59]⟩ : ByteArray).toList))), (63, bl (!((rt sv n6).toList == (⟨#[59]⟩ : ByteArray).toList))), (64, bl (!((rt sv n6).toList == (⟨#[59]⟩ : ByteArray).toList)))]) hA [] c0 ?_
     clear hA fr; intro fr hA
     replace hA := hA.bool (f := fun z_ => [(2, .slice none 0 0), (3, i64 0), (4, i64 0), (5, pt pb), (6, .slice pL1 l.length cL1), (7, pt b8), (8, str (rt sv n6)), (62, .bool !z_), (63, .bool !z_), (64, .bool !z_)]) (rt_semi sv n6 : ((rt sv n6).toList == (⟨#[59]⟩ : ByteArray).toList) = (decide (kd sv n6 = 5)))
     rcases Bool.eq_false_or_eq_true (decide (kd sv n6 = 5)) with h14 | h14
     · rw [h14] at hA
       have h14p := of_decide_eq_true h14
       refine ck (l := [14, 15, 16]) (r := []) (e' := [(2, .slice none 0 0), (3, i64 0), (4, i64 0), (5, pt pb), (6, .slice pL1 l.length cL1), (7, pt b8), (67, bl false)]) hA [] c0 ?_
       clear hA fr; intro fr hA
       refine end_ops ?_
       refine then_normal ?_
       refine cF hA ?_
       refine wp_skip ?_
       refine then_normal ?_
       refine wp_seq ?_
       refine sC (e' := [(2, .slice none 0 0), (3, i64 0), (4, i64 0), (5, pt pb), (6, .slice pL1 l.length cL1), (7, pt b8), (74, bl (er4 == 0))]) 5 hA [i64 er4] (cc (hO.l1 1 2 24 (i64 er4)) c0) ?_
       clear hA fr; intro fr hA
       rw [(h12 : (er4 == 0) = true)] at hA
       refine cT hA ?_
       refine rR (l := (rg 0 6)) ?_
       refine ck (l := [0]) (r := (rg 1 5)) (e' := [(2, .slice none 0 0), (3, i64 0), (4, i64 0), (5, pt pb), (6, .slice pL1 l.length cL1), (7, pt b8), (75, pt pb)]) hA [] c0 ?_
       clear hA fr; intro fr hA
       refine wpOps_cons' (mC (f := 29) (args := [pt pb]) (d := (some 76)) hA Try.func29 ((rnext_any pb tb (tks sv (sk sv 0)) CT sv j6 k6 n6 a4 er4 _ hv6 hs (Ow.self (A := [(b8, 45, [.slice p8 lj2.length kk2, bl false])]) (T := RP pb tb CT sv j6 k6 n6 a4 er4) (B := ([] ++ (TL1 ++ (TL2 ++ (T10 ++ (T11 ++ ([]))))))) (hO.to (by first | rfl | (simp only [RP, apd])) : Ow Try.prog none' w _ ([(b8, 45, [.slice p8 lj2.length kk2, bl false])] ++ (RP pb tb CT sv j6 k6 n6 a4 er4 ++ (([] ++ (TL1 ++ (TL2 ++ (T10 ++ (T11 ++ ([])))))))))))).mono ?_))
       rintro en w39 ⟨j8, k8, n8, rfl, hnx6, hv8, hW⟩
       refine ⟨_, rfl, ?_⟩
       clear hA fr; intro fr hA
       replace hO := Ow.pass (A := [(b8, 45, [.slice p8 lj2.length kk2, bl false])]) (T := RP pb tb CT sv j6 k6 n6 a4 er4) (B := ([] ++ (TL1 ++ (TL2 ++ (T10 ++ (T11 ++ ([]))))))) (hO.to (by first | rfl | (simp only [RP, apd])) : Ow Try.prog none' w _ ([(b8, 45, [.slice p8 lj2.length kk2, bl false])] ++ (RP pb tb CT sv j6 k6 n6 a4 er4 ++ (([] ++ (TL1 ++ (TL2 ++ (T10 ++ (T11 ++ ([])))))))))) hW; clear hW
       replace hO : Ow Try.prog none' w _ ([(b8, 45, [.slice p8 lj2.length kk2, bl false]), (pb, 66, [.slice (some (⟨tb, 2 * j8, none⟩ : Addr)) ((tks sv n8).length) k8, i64 ((a4 : Nat) : Int), i64 er4]), (tb, 68, CT)] ++ (TL1 ++ (TL2 ++ (T10 ++ (T11 ++ ([])))))) := hO.to (by first | rfl | (simp only [RP, apd]))
       have hp8a := tks_pos sv n8
       have hp8b := hv8.pos
       replace hA := hA.sb (e' := [(2, .slice none 0 0), (3, i64 0), (4, i64 0), (5, pt pb), (6, .slice pL1 l.length cL1), (7, pt b8), (76, .agg #[str (rt sv n6), i64 ((n6 : Nat) : Int)])])
       refine ck (l := [2, 3, 4]) (r := [5]) (e' := [(2, .slice none 0 0), (3, i64 0), (4, i64 0), (5, pt pb), (6, .slice pL1 l.length cL1), (7, pt b8), (78, bl ((rt sv n6).toList == (⟨#[38]⟩ : ByteArray).toList)), (79, pf b8 1)]) hA [] c0 ?_
       clear hA fr; intro fr hA
       replace hA := hA.bool (f := fun z_ => [(2, .slice none 0 0), (3, i64 0), (4, i64 0), (5, pt pb), (6, .slice pL1 l.length cL1), (7, pt b8), (78, .bool z_), (79, pf b8 1)]) (rt_amp sv n6 : ((rt sv n6).toList == (⟨#[38]⟩ : ByteArray).toList) = (decide (kd sv n6 = 6)))
       refine wpOps_cons' (mS (off := 1) (vc := [bl (decide (kd sv n6 = 6))]) 0 hA hO ?_)
       clear hO; intro w40 hO
       replace hA := hA.sb (e' := [(2, .slice none 0 0), (3, i64 0), (4, i64 0), (5, pt pb), (6, .slice pL1 l.length cL1), (7, pt b8)])
       refine end_ops ?_
       refine then_normal ?_
       refine rR (l := (rg 0 5)) ?_
       refine ck (l := [0, 1]) (r := [2, 3, 4]) (e' := [(2, .slice none 0 0), (3, i64 0), (4, i64 0), (5, pt pb), (6, .slice pL1 l.length cL1), (80, .slice pL1 l.length cL1), (81, .agg #[.slice p8 lj2.length kk2, bl (decide (kd sv n6 = 6))])]) hA [.agg #[.slice p8 lj2.length kk2, bl (decide (kd sv n6 = 6))]] (cc (hO.ln 0 0 45 [.slice p8 lj2.length kk2, bl (decide (kd sv n6 = 6))]) c0) ?_
       clear hA fr; intro fr hA
       refine wpOps_cons' (mN (l := [.slice p8 lj2.length kk2, bl (decide (kd sv n6 = 6))]) (t := 45) (v := fun b => .slice (some ⟨b, 0, none⟩) 1 1) (d := 82) hA hO ?_)
       clear hA hO fr; intro fr w41 b10 hA hO
       replace hA := hA.sb (e' := [(2, .slice none 0 0), (3, i64 0), (4, i64 0), (5, pt pb), (6, .slice pL1 l.length cL1), (80, .slice pL1 l.length cL1), (82, .slice (some ⟨b10, 0, none⟩) 1 1)])
       replace hO : Ow Try.prog none' w w41 ([(b10, 45, [.slice p8 lj2.length kk2, bl (decide (kd sv n6 = 6))]), (b8, 45, [.slice p8 lj2.length kk2, bl (decide (kd sv n6 = 6))]), (pb, 66, [.slice (some (⟨tb, 2 * j8, none⟩ : Addr)) ((tks sv n8).length) k8, i64 ((a4 : Nat) : Int), i64 er4]), (tb, 68, CT)] ++ (TL1 ++ (TL2 ++ (T10 ++ (T11 ++ ([])))))) := hO
       refine wpOps_cons' (mA (f := fJ) (el := 45) (sz := 2) (bytes := 32) (p := pL1) (c := cL1) (l := l) (l' := ([⟨p8, kk2, lj2, decide (kd sv n6 = 6)⟩] : List JV)) (T := TL1) (t := 27) (tx := 27) (ty := 27) (x := .slice (some ⟨b10, 0, none⟩) 1 1) (d := 83) [(b10, 45, [.slice p8 lj2.length kk2, bl (decide (kd sv n6 = 6))]), (b8, 45, [.slice p8 lj2.length kk2, bl (decide (kd sv n6 = 6))]), (pb, 66, [.slice (some (⟨tb, 2 * j8, none⟩ : Addr)) ((tks sv n8).length) k8, i64 ((a4 : Nat) : Int), i64 er4]), (tb, 68, CT)] (TL2 ++ (T10 ++ (T11 ++ ([])))) encJ hA hO hTL1 (Vw.src (e' := 45) encJ ((hO.b 0).vw (off := 0) (xs := ([⟨p8, kk2, lj2, decide (kd sv n6 = 6)⟩] : List JV)) (by kernel_rfl)) (by kernel_rfl)) (by first | omega | (simp only [List.length_append, List.length_cons, List.length_nil]; omega)) (by unfold maxLen; first | omega | (simp only [List.length_append, List.length_cons, List.length_nil]; omega)) ?_)
       clear hA hO fr; intro fr w42 p10 c8 T13 hA hO hT13
       replace hA := hA.sb (e' := [(2, .slice none 0 0), (3, i64 0), (4, i64 0), (5, pt pb), (6, .slice pL1 l.length cL1), (83, .slice p10 ((l ++ ([⟨p8, kk2, lj2, decide (kd sv n6 = 6)⟩] : List JV)).length) c8)])
       refine ck (l := [4]) (r := []) (e' := [(2, .slice none 0 0), (3, i64 0), (4, i64 0), (5, pt pb), (6, .slice p10 ((l ++ ([⟨p8, kk2, lj2, decide (kd sv n6 = 6)⟩] : List JV)).length) c8)]) hA [] c0 ?_
       clear hA fr; intro fr hA
       refine end_ops ?_
       refine inBlock_normal ?_
       refine then_normal ?_
       replace hO : Ow Try.prog none' w w42 ([(b10, 45, [.slice p8 lj2.length kk2, bl (decide (kd sv n6 = 6))]), (b8, 45, [.slice p8 lj2.length kk2, bl (decide (kd sv n6 = 6))]), (pb, 66, [.slice (some (⟨tb, 2 * j8, none⟩ : Addr)) ((tks sv n8).length) k8, i64 ((a4 : Nat) : Int), i64 er4]), (tb, 68, CT)] ++ (T13 ++ (TL2 ++ (T10 ++ (T11 ++ ([])))))) := hO
       have hC1 : InJ 49 9 (l ++ ([⟨p8, kk2, lj2, decide (kd sv n6 = 6)⟩] : List JV)) (TL2 ++ (T10 ++ T11)) := InJ.snoc (x := ⟨p8, kk2, lj2, decide (kd sv n6 = 6)⟩) hT10 hT11 hTL2
       replace hO : Ow Try.prog none' w w42 ([(b10, 45, [.slice p8 lj2.length kk2, bl (decide (kd sv n6 = 6))]), (b8, 45, [.slice p8 lj2.length kk2, bl (decide (kd sv n6 = 6))]), (pb, 66, [.slice (some (⟨tb, 2 * j8, none⟩ : Addr)) ((tks sv n8).length) k8, i64 ((a4 : Nat) : Int), i64 er4]), (tb, 68, CT)] ++ (T13 ++ ((TL2 ++ (T10 ++ T11)) ++ ([])))) := hO.to (by first | rfl | (simp only [TP, apd]))
       have hl_ : lst sv (lineP true sv) (List.map JV.d (l ++ ([⟨p8, kk2, lj2, decide (kd sv n6 = 6)⟩] : List JV))) f n8 a4 er4 := by rw [List.map_append]; exact lst_good hC (by omega) (by omega) (by rintro ⟨q1, q2⟩; rw [List.length_map] at q1; first | omega | simp_all) hst2 (by omega) (by omega) (by omega) (by omega)
       have hz_ : er4 = 0 → m < n8 := fun q_ => by have := hgc2 q_; have := rx_gt (s := sv) (n := n6); omega
       obtain ⟨g2, hg2, hlt2⟩ := meas (er := er4) (z := sv.size) (m := n8) (g := g) (fun q_ => by have := hz_ q_; omega) (by omega)
       exact ⟨_, by omega, l ++ ([⟨p8, kk2, lj2, decide (kd sv n6 = 6)⟩] : List JV), j8, k8, n8, a4, er4, f, g2, p10, c8, T13, (TL2 ++ (T10 ++ T11)), rfl, (hA.sub (e' := [(2, .slice none 0 0), (3, i64 0), (4, i64 0), (5, pt pb), (6, .slice p10 ((l ++ ([⟨p8, kk2, lj2, decide (kd sv n6 = 6)⟩] : List JV)).length) c8)]) [2, 3, 4, 5, 6] (by kernel_rfl)).cast (by kernel_rfl), (Ow.subP (A := [(b10, 45, [.slice p8 lj2.length kk2, bl (decide (kd sv n6 = 6))]), (b8, 45, [.slice p8 lj2.length kk2, bl (decide (kd sv n6 = 6))]), (pb, 66, [.slice (some (⟨tb, 2 * j8, none⟩ : Addr)) ((tks sv n8).length) k8, i64 ((a4 : Nat) : Int), i64 er4]), (tb, 68, CT)]) (A' := [(pb, 66, [.slice (some (⟨tb, 2 * j8, none⟩ : Addr)) ((tks sv n8).length) k8, i64 ((a4 : Nat) : Int), i64 er4]), (tb, 68, CT)]) (B := T13 ++ ((TL2 ++ (T10 ++ T11)) ++ ([]))) hO (.cons _ (.cons _ (.cons_cons _ (.cons_cons _ .slnil))))), hT13, hC1, hv8.pos, hg2, (fun q_ => by have := hz_ q_; omega), hl_, (by simp only [List.length_append, List.length_cons, List.length_nil]; by_cases q_ : er4 = 0; { have := hz_ q_; exact .inl ⟨q_, by omega⟩ }; { exact .inr ⟨q_, by omega⟩ }), hv8, trivial⟩
     rw [h14] at hA
     have h14p := of_decide_eq_false h14
     refine ck (l := [14, 15, 16]) (r := []) (e' := [(2, .slice none 0 0), (3, i64 0), (4, i64 0), (5, pt pb), (6, .slice pL1 l.length cL1), (7, pt b8), (67, bl (!((rt sv n6).toList == (⟨#[38]⟩ : ByteArray).toList)))]) hA [] c0 ?_
     clear hA fr; intro fr hA
     replace hA := hA.bool (f := fun z_ => [(2, .slice none 0 0), (3, i64 0), (4, i64 0), (5, pt pb), (6, .slice pL1 l.length cL1), (7, pt b8), (67, .bool !z_)]) (rt_amp sv n6 : ((rt sv n6).toList == (⟨#[38]⟩ : ByteArray).toList) = (decide (kd sv n6 = 6)))
     refine end_ops ?_
     refine then_normal ?_
     rcases Bool.eq_false_or_eq_true (decide (kd sv n6 = 6)) with h15 | h15
     · rw [h15] at hA
       have h15p := of_decide_eq_true h15
       refine cF hA ?_
       refine wp_skip ?_
       refine then_normal ?_
       refine wp_seq ?_
       refine sC (e' := [(2, .slice none 0 0), (3, i64 0), (4, i64 0), (5, pt pb), (6, .slice pL1 l.length cL1), (7, pt b8), (74, bl (er4 == 0))]) 5 hA [i64 er4] (cc (hO.l1 1 2 24 (i64 er4)) c0) ?_
       clear hA fr; intro fr hA
       rw [(h12 : (er4 == 0) = true)] at hA
       refine cT hA ?_
       refine rR (l := (rg 0 6)) ?_
       refine ck (l := [0]) (r := (rg 1 5)) (e' := [(2, .slice none 0 0), (3, i64 0), (4, i64 0), (5, pt pb), (6, .slice pL1 l.length cL1), (7, pt b8), (75, pt pb)]) hA [] c0 ?_
       clear hA fr; intro fr hA
       refine wpOps_cons' (mC (f := 29) (args := [pt pb]) (d := (some 76)) hA Try.func29 ((rnext_any pb tb (tks sv (sk sv 0)) CT sv j6 k6 n6 a4 er4 _ hv6 hs (Ow.self (A := [(b8, 45, [.slice p8 lj2.length kk2, bl false])]) (T := RP pb tb CT sv j6 k6 n6 a4 er4) (B := ([] ++ (TL1 ++ (TL2 ++ (T10 ++ (T11 ++ ([]))))))) (hO.to (by first | rfl | (simp only [RP, apd])) : Ow Try.prog none' w _ ([(b8, 45, [.slice p8 lj2.length kk2, bl false])] ++ (RP pb tb CT sv j6 k6 n6 a4 er4 ++ (([] ++ (TL1 ++ (TL2 ++ (T10 ++ (T11 ++ ([])))))))))))).mono ?_))
       rintro en w43 ⟨j9, k9, n9, rfl, hnx7, hv9, hW⟩
       refine ⟨_, rfl, ?_⟩
       clear hA fr; intro fr hA
       replace hO := Ow.pass (A := [(b8, 45, [.slice p8 lj2.length kk2, bl false])]) (T := RP pb tb CT sv j6 k6 n6 a4 er4) (B := ([] ++ (TL1 ++ (TL2 ++ (T10 ++ (T11 ++ ([]))))))) (hO.to (by first | rfl | (simp only [RP, apd])) : Ow Try.prog none' w _ ([(b8, 45, [.slice p8 lj2.length kk2, bl false])] ++ (RP pb tb CT sv j6 k6 n6 a4 er4 ++ (([] ++ (TL1 ++ (TL2 ++ (T10 ++ (T11 ++ ([])))))))))) hW; clear hW
       replace hO : Ow Try.prog none' w _ ([(b8, 45, [.slice p8 lj2.length kk2, bl false]), (pb, 66, [.slice (some (⟨tb, 2 * j9, none⟩ : Addr)) ((tks sv n9).length) k9, i64 ((a4 : Nat) : Int), i64 er4]), (tb, 68, CT)] ++ (TL1 ++ (TL2 ++ (T10 ++ (T11 ++ ([])))))) := hO.to (by first | rfl | (simp only [RP, apd]))
       have hp9a := tks_pos sv n9
       have hp9b := hv9.pos
       replace hA := hA.sb (e' := [(2, .slice none 0 0), (3, i64 0), (4, i64 0), (5, pt pb), (6, .slice pL1 l.length cL1), (7, pt b8), (76, .agg #[str (rt sv n6), i64 ((n6 : Nat) : Int)])])
       refine ck (l := [2, 3, 4]) (r := [5]) (e' := [(2, .slice none 0 0), (3, i64 0), (4, i64 0), (5, pt pb), (6, .slice pL1 l.length cL1), (7, pt b8), (78, bl ((rt sv n6).toList == (⟨#[38]⟩ : ByteArray).toList)), (79, pf b8 1)]) hA [] c0 ?_
       clear hA fr; intro fr hA
       replace hA := hA.bool (f := fun z_ => [(2, .slice none 0 0), (3, i64 0), (4, i64 0), (5, pt pb), (6, .slice pL1 l.length cL1), (7, pt b8), (78, .bool z_), (79, pf b8 1)]) (rt_amp sv n6 : ((rt sv n6).toList == (⟨#[38]⟩ : ByteArray).toList) = (decide (kd sv n6 = 6)))
       refine wpOps_cons' (mS (off := 1) (vc := [bl (decide (kd sv n6 = 6))]) 0 hA hO ?_)
       clear hO; intro w44 hO
       replace hA := hA.sb (e' := [(2, .slice none 0 0), (3, i64 0), (4, i64 0), (5, pt pb), (6, .slice pL1 l.length cL1), (7, pt b8)])
       refine end_ops ?_
       refine then_normal ?_
       refine rR (l := (rg 0 5)) ?_
       refine ck (l := [0, 1]) (r := [2, 3, 4]) (e' := [(2, .slice none 0 0), (3, i64 0), (4, i64 0), (5, pt pb), (6, .slice pL1 l.length cL1), (80, .slice pL1 l.length cL1), (81, .agg #[.slice p8 lj2.length kk2, bl (decide (kd sv n6 = 6))])]) hA [.agg #[.slice p8 lj2.length kk2, bl (decide (kd sv n6 = 6))]] (cc (hO.ln 0 0 45 [.slice p8 lj2.length kk2, bl (decide (kd sv n6 = 6))]) c0) ?_
       clear hA fr; intro fr hA
       refine wpOps_cons' (mN (l := [.slice p8 lj2.length kk2, bl (decide (kd sv n6 = 6))]) (t := 45) (v := fun b => .slice (some ⟨b, 0, none⟩) 1 1) (d := 82) hA hO ?_)
       clear hA hO fr; intro fr w45 b11 hA hO
       replace hA := hA.sb (e' := [(2, .slice none 0 0), (3, i64 0), (4, i64 0), (5, pt pb), (6, .slice pL1 l.length cL1), (80, .slice pL1 l.length cL1), (82, .slice (some ⟨b11, 0, none⟩) 1 1)])
       replace hO : Ow Try.prog none' w w45 ([(b11, 45, [.slice p8 lj2.length kk2, bl (decide (kd sv n6 = 6))]), (b8, 45, [.slice p8 lj2.length kk2, bl (decide (kd sv n6 = 6))]), (pb, 66, [.slice (some (⟨tb, 2 * j9, none⟩ : Addr)) ((tks sv n9).length) k9, i64 ((a4 : Nat) : Int), i64 er4]), (tb, 68, CT)] ++ (TL1 ++ (TL2 ++ (T10 ++ (T11 ++ ([])))))) := hO
       refine wpOps_cons' (mA (f := fJ) (el := 45) (sz := 2) (bytes := 32) (p := pL1) (c := cL1) (l := l) (l' := ([⟨p8, kk2, lj2, decide (kd sv n6 = 6)⟩] : List JV)) (T := TL1) (t := 27) (tx := 27) (ty := 27) (x := .slice (some ⟨b11, 0, none⟩) 1 1) (d := 83) [(b11, 45, [.slice p8 lj2.length kk2, bl (decide (kd sv n6 = 6))]), (b8, 45, [.slice p8 lj2.length kk2, bl (decide (kd sv n6 = 6))]), (pb, 66, [.slice (some (⟨tb, 2 * j9, none⟩ : Addr)) ((tks sv n9).length) k9, i64 ((a4 : Nat) : Int), i64 er4]), (tb, 68, CT)] (TL2 ++ (T10 ++ (T11 ++ ([])))) encJ hA hO hTL1 (Vw.src (e' := 45) encJ ((hO.b 0).vw (off := 0) (xs := ([⟨p8, kk2, lj2, decide (kd sv n6 = 6)⟩] : List JV)) (by kernel_rfl)) (by kernel_rfl)) (by first | omega | (simp only [List.length_append, List.length_cons, List.length_nil]; omega)) (by unfold maxLen; first | omega | (simp only [List.length_append, List.length_cons, List.length_nil]; omega)) ?_)
       clear hA hO fr; intro fr w46 p11 c9 T14 hA hO hT14
       replace hA := hA.sb (e' := [(2, .slice none 0 0), (3, i64 0), (4, i64 0), (5, pt pb), (6, .slice pL1 l.length cL1), (83, .slice p11 ((l ++ ([⟨p8, kk2, lj2, decide (kd sv n6 = 6)⟩] : List JV)).length) c9)])
       refine ck (l := [4]) (r := []) (e' := [(2, .slice none 0 0), (3, i64 0), (4, i64 0), (5, pt pb), (6, .slice p11 ((l ++ ([⟨p8, kk2, lj2, decide (kd sv n6 = 6)⟩] : List JV)).length) c9)]) hA [] c0 ?_
       clear hA fr; intro fr hA
       refine end_ops ?_
       refine inBlock_normal ?_
       refine then_normal ?_
       replace hO : Ow Try.prog none' w w46 ([(b11, 45, [.slice p8 lj2.length kk2, bl (decide (kd sv n6 = 6))]), (b8, 45, [.slice p8 lj2.length kk2, bl (decide (kd sv n6 = 6))]), (pb, 66, [.slice (some (⟨tb, 2 * j9, none⟩ : Addr)) ((tks sv n9).length) k9, i64 ((a4 : Nat) : Int), i64 er4]), (tb, 68, CT)] ++ (T14 ++ (TL2 ++ (T10 ++ (T11 ++ ([])))))) := hO
       have hC1 : InJ 49 9 (l ++ ([⟨p8, kk2, lj2, decide (kd sv n6 = 6)⟩] : List JV)) (TL2 ++ (T10 ++ T11)) := InJ.snoc (x := ⟨p8, kk2, lj2, decide (kd sv n6 = 6)⟩) hT10 hT11 hTL2
       replace hO : Ow Try.prog none' w w46 ([(b11, 45, [.slice p8 lj2.length kk2, bl (decide (kd sv n6 = 6))]), (b8, 45, [.slice p8 lj2.length kk2, bl (decide (kd sv n6 = 6))]), (pb, 66, [.slice (some (⟨tb, 2 * j9, none⟩ : Addr)) ((tks sv n9).length) k9, i64 ((a4 : Nat) : Int), i64 er4]), (tb, 68, CT)] ++ (T14 ++ ((TL2 ++ (T10 ++ T11)) ++ ([])))) := hO.to (by first | rfl | (simp only [TP, apd]))
       have hl_ : lst sv (lineP true sv) (List.map JV.d (l ++ ([⟨p8, kk2, lj2, decide (kd sv n6 = 6)⟩] : List JV))) f n9 a4 er4 := by rw [List.map_append]; exact lst_good hC (by omega) (by omega) (by rintro ⟨q1, q2⟩; rw [List.length_map] at q1; first | omega | simp_all) hst2 (by omega) (by omega) (by omega) (by omega)
       have hz_ : er4 = 0 → m < n9 := fun q_ => by have := hgc2 q_; have := rx_gt (s := sv) (n := n6); omega
       obtain ⟨g2, hg2, hlt2⟩ := meas (er := er4) (z := sv.size) (m := n9) (g := g) (fun q_ => by have := hz_ q_; omega) (by omega)
       exact ⟨_, by omega, l ++ ([⟨p8, kk2, lj2, decide (kd sv n6 = 6)⟩] : List JV), j9, k9, n9, a4, er4, f, g2, p11, c9, T14, (TL2 ++ (T10 ++ T11)), rfl, (hA.sub (e' := [(2, .slice none 0 0), (3, i64 0), (4, i64 0), (5, pt pb), (6, .slice p11 ((l ++ ([⟨p8, kk2, lj2, decide (kd sv n6 = 6)⟩] : List JV)).length) c9)]) [2, 3, 4, 5, 6] (by kernel_rfl)).cast (by kernel_rfl), (Ow.subP (A := [(b11, 45, [.slice p8 lj2.length kk2, bl (decide (kd sv n6 = 6))]), (b8, 45, [.slice p8 lj2.length kk2, bl (decide (kd sv n6 = 6))]), (pb, 66, [.slice (some (⟨tb, 2 * j9, none⟩ : Addr)) ((tks sv n9).length) k9, i64 ((a4 : Nat) : Int), i64 er4]), (tb, 68, CT)]) (A' := [(pb, 66, [.slice (some (⟨tb, 2 * j9, none⟩ : Addr)) ((tks sv n9).length) k9, i64 ((a4 : Nat) : Int), i64 er4]), (tb, 68, CT)]) (B := T14 ++ ((TL2 ++ (T10 ++ T11)) ++ ([]))) hO (.cons _ (.cons _ (.cons_cons _ (.cons_cons _ .slnil))))), hT14, hC1, hv9.pos, hg2, (fun q_ => by have := hz_ q_; omega), hl_, (by simp only [List.length_append, List.length_cons, List.length_nil]; by_cases q_ : er4 = 0; { have := hz_ q_; exact .inl ⟨q_, by omega⟩ }; { exact .inr ⟨q_, by omega⟩ }), hv9, trivial⟩
     rw [h15] at hA
     have h15p := of_decide_eq_false h15
     refine cT hA ?_
     refine rR (l := [0, 1]) ?_
     refine ck (l := [0]) (r := [1]) (e' := [(2, .slice none 0 0), (3, i64 0), (4, i64 0), (5, pt pb), (6, .slice pL1 l.length cL1), (7, pt b8), (68, pt pb)]) hA [] c0 ?_
     clear hA fr; intro fr hA
     refine wpOps_cons' (mC (f := 27) (args := [pt pb, i64 3]) (d := (some 69)) hA Try.func27 ((rfail_any pb tb (tks sv (sk sv 0)) CT sv j6 k6 n6 a4 er4 _ hv6 hs 3 (Ow.self (A := [(b8, 45, [.slice p8 lj2.length kk2, bl false])]) (T := RP pb tb CT sv j6 k6 n6 a4 er4) (B := ([] ++ (TL1 ++ (TL2 ++ (T10 ++ (T11 ++ ([]))))))) (hO.to (by first | rfl | (simp only [RP, apd])) : Ow Try.prog none' w _ ([(b8, 45, [.slice p8 lj2.length kk2, bl false])] ++ (RP pb tb CT sv j6 k6 n6 a4 er4 ++ (([] ++ (TL1 ++ (TL2 ++ (T10 ++ (T11 ++ ([])))))))))))).mono ?_))
     rintro en w47 ⟨a5, er5, rfl, hfe3, hW⟩
     refine ⟨_, rfl, ?_⟩
     clear hA fr; intro fr hA
     replace hO := Ow.pass (A := [(b8, 45, [.slice p8 lj2.length kk2, bl false])]) (T := RP pb tb CT sv j6 k6 n6 a4 er4) (B := ([] ++ (TL1 ++ (TL2 ++ (T10 ++ (T11 ++ ([]))))))) (hO.to (by first | rfl | (simp only [RP, apd])) : Ow Try.prog none' w _ ([(b8, 45, [.slice p8 lj2.length kk2, bl false])] ++ (RP pb tb CT sv j6 k6 n6 a4 er4 ++ (([] ++ (TL1 ++ (TL2 ++ (T10 ++ (T11 ++ ([])))))))))) hW; clear hW
     replace hO : Ow Try.prog none' w _ ([(b8, 45, [.slice p8 lj2.length kk2, bl false]), (pb, 66, [.slice (some (⟨tb, 2 * j6, none⟩ : Addr)) ((tks sv n6).length) k6, i64 ((a5 : Nat) : Int), i64 er5]), (tb, 68, CT)] ++ (TL1 ++ (TL2 ++ (T10 ++ (T11 ++ ([])))))) := hO.to (by first | rfl | (simp only [RP, apd]))
     replace hA := hA.sb (e' := [(2, .slice none 0 0), (3, i64 0), (4, i64 0), (5, pt pb), (6, .slice pL1 l.length cL1), (7, pt b8)])
     refine end_ops ?_
     refine then_normal ?_
     refine wp_seq ?_
     refine sC (e' := [(2, .slice none 0 0), (3, i64 0), (4, i64 0), (5, pt pb), (6, .slice pL1 l.length cL1), (7, pt b8), (74, bl (er5 == 0))]) 5 hA [i64 er5] (cc (hO.l1 1 2 24 (i64 er5)) c0) ?_
     clear hA fr; intro fr hA
     rcases Bool.eq_false_or_eq_true (er5 == 0) with h16 | h16
     · rw [h16] at hA
       have h16p := eq_of_beq h16
       refine cT hA ?_
       refine rR (l := (rg 0 6)) ?_
       refine ck (l := [0]) (r := (rg 1 5)) (e' := [(2, .slice none 0 0), (3, i64 0), (4, i64 0), (5, pt pb), (6, .slice pL1 l.length cL1), (7, pt b8), (75, pt pb)]) hA [] c0 ?_
       clear hA fr; intro fr hA
       refine wpOps_cons' (mC (f := 29) (args := [pt pb]) (d := (some 76)) hA Try.func29 ((rnext_any pb tb (tks sv (sk sv 0)) CT sv j6 k6 n6 a5 er5 _ hv6 hs (Ow.self (A := [(b8, 45, [.slice p8 lj2.length kk2, bl false])]) (T := RP pb tb CT sv j6 k6 n6 a5 er5) (B := ([] ++ (TL1 ++ (TL2 ++ (T10 ++ (T11 ++ ([]))))))) (hO.to (by first | rfl | (simp only [RP, apd])) : Ow Try.prog none' w _ ([(b8, 45, [.slice p8 lj2.length kk2, bl false])] ++ (RP pb tb CT sv j6 k6 n6 a5 er5 ++ (([] ++ (TL1 ++ (TL2 ++ (T10 ++ (T11 ++ ([])))))))))))).mono ?_))
       rintro en w48 ⟨j10, k10, n10, rfl, hnx8, hv10, hW⟩
       refine ⟨_, rfl, ?_⟩
       clear hA fr; intro fr hA
       replace hO := Ow.pass (A := [(b8, 45, [.slice p8 lj2.length kk2, bl false])]) (T := RP pb tb CT sv j6 k6 n6 a5 er5) (B := ([] ++ (TL1 ++ (TL2 ++ (T10 ++ (T11 ++ ([]))))))) (hO.to (by first | rfl | (simp only [RP, apd])) : Ow Try.prog none' w _ ([(b8, 45, [.slice p8 lj2.length kk2, bl false])] ++ (RP pb tb CT sv j6 k6 n6 a5 er5 ++ (([] ++ (TL1 ++ (TL2 ++ (T10 ++ (T11 ++ ([])))))))))) hW; clear hW
       replace hO : Ow Try.prog none' w _ ([(b8, 45, [.slice p8 lj2.length kk2, bl false]), (pb, 66, [.slice (some (⟨tb, 2 * j10, none⟩ : Addr)) ((tks sv n10).length) k10, i64 ((a5 : Nat) : Int), i64 er5]), (tb, 68, CT)] ++ (TL1 ++ (TL2 ++ (T10 ++ (T11 ++ ([])))))) := hO.to (by first | rfl | (simp only [RP, apd]))
       have hp10a := tks_pos sv n10
       have hp10b := hv10.pos
       replace hA := hA.sb (e' := [(2, .slice none 0 0), (3, i64 0), (4, i64 0), (5, pt pb), (6, .slice pL1 l.length cL1), (7, pt b8), (76, .agg #[str (rt sv n6), i64 ((n6 : Nat) : Int)])])
       refine ck (l := [2, 3, 4]) (r := [5]) (e' := [(2, .slice none 0 0), (3, i64 0), (4, i64 0), (5, pt pb), (6, .slice pL1 l.length cL1), (7, pt b8), (78, bl ((rt sv n6).toList == (⟨#[38]⟩ : ByteArray).toList)), (79, pf b8 1)]) hA [] c0 ?_
       clear hA fr; intro fr hA
       replace hA := hA.bool (f := fun z_ => [(2, .slice none 0 0), (3, i64 0), (4, i64 0), (5, pt pb), (6, .slice pL1 l.length cL1), (7, pt b8), (78, .bool z_), (79, pf b8 1)]) (rt_amp sv n6 : ((rt sv n6).toList == (⟨#[38]⟩ : ByteArray).toList) = (decide (kd sv n6 = 6)))
       refine wpOps_cons' (mS (off := 1) (vc := [bl (decide (kd sv n6 = 6))]) 0 hA hO ?_)
       clear hO; intro w49 hO
       replace hA := hA.sb (e' := [(2, .slice none 0 0), (3, i64 0), (4, i64 0), (5, pt pb), (6, .slice pL1 l.length cL1), (7, pt b8)])
       refine end_ops ?_
       refine then_normal ?_
       refine rR (l := (rg 0 5)) ?_
       refine ck (l := [0, 1]) (r := [2, 3, 4]) (e' := [(2, .slice none 0 0), (3, i64 0), (4, i64 0), (5, pt pb), (6, .slice pL1 l.length cL1), (80, .slice pL1 l.length cL1), (81, .agg #[.slice p8 lj2.length kk2, bl (decide (kd sv n6 = 6))])]) hA [.agg #[.slice p8 lj2.length kk2, bl (decide (kd sv n6 = 6))]] (cc (hO.ln 0 0 45 [.slice p8 lj2.length kk2, bl (decide (kd sv n6 = 6))]) c0) ?_
       clear hA fr; intro fr hA
       refine wpOps_cons' (mN (l := [.slice p8 lj2.length kk2, bl (decide (kd sv n6 = 6))]) (t := 45) (v := fun b => .slice (some ⟨b, 0, none⟩) 1 1) (d := 82) hA hO ?_)
       clear hA hO fr; intro fr w50 b12 hA hO
       replace hA := hA.sb (e' := [(2, .slice none 0 0), (3, i64 0), (4, i64 0), (5, pt pb), (6, .slice pL1 l.length cL1), (80, .slice pL1 l.length cL1), (82, .slice (some ⟨b12, 0, none⟩) 1 1)])
       replace hO : Ow Try.prog none' w w50 ([(b12, 45, [.slice p8 lj2.length kk2, bl (decide (kd sv n6 = 6))]), (b8, 45, [.slice p8 lj2.length kk2, bl (decide (kd sv n6 = 6))]), (pb, 66, [.slice (some (⟨tb, 2 * j10, none⟩ : Addr)) ((tks sv n10).length) k10, i64 ((a5 : Nat) : Int), i64 er5]), (tb, 68, CT)] ++ (TL1 ++ (TL2 ++ (T10 ++ (T11 ++ ([])))))) := hO
       refine wpOps_cons' (mA (f := fJ) (el := 45) (sz := 2) (bytes := 32) (p := pL1) (c := cL1) (l := l) (l' := ([⟨p8, kk2, lj2, decide (kd sv n6 = 6)⟩] : List JV)) (T := TL1) (t := 27) (tx := 27) (ty := 27) (x := .slice (some ⟨b12, 0, none⟩) 1 1) (d := 83) [(b12, 45, [.slice p8 lj2.length kk2, bl (decide (kd sv n6 = 6))]), (b8, 45, [.slice p8 lj2.length kk2, bl (decide (kd sv n6 = 6))]), (pb, 66, [.slice (some (⟨tb, 2 * j10, none⟩ : Addr)) ((tks sv n10).length) k10, i64 ((a5 : Nat) : Int), i64 er5]), (tb, 68, CT)] (TL2 ++ (T10 ++ (T11 ++ ([])))) encJ hA hO hTL1 (Vw.src (e' := 45) encJ ((hO.b 0).vw (off := 0) (xs := ([⟨p8, kk2, lj2, decide (kd sv n6 = 6)⟩] : List JV)) (by kernel_rfl)) (by kernel_rfl)) (by first | omega | (simp only [List.length_append, List.length_cons, List.length_nil]; omega)) (by unfold maxLen; first | omega | (simp only [List.length_append, List.length_cons, List.length_nil]; omega)) ?_)
       clear hA hO fr; intro fr w51 p12 c10 T15 hA hO hT15
       replace hA := hA.sb (e' := [(2, .slice none 0 0), (3, i64 0), (4, i64 0), (5, pt pb), (6, .slice pL1 l.length cL1), (83, .slice p12 ((l ++ ([⟨p8, kk2, lj2, decide (kd sv n6 = 6)⟩] : List JV)).length) c10)])
       refine ck (l := [4]) (r := []) (e' := [(2, .slice none 0 0), (3, i64 0), (4, i64 0), (5, pt pb), (6, .slice p12 ((l ++ ([⟨p8, kk2, lj2, decide (kd sv n6 = 6)⟩] : List JV)).length) c10)]) hA [] c0 ?_
       clear hA fr; intro fr hA
       refine end_ops ?_
       refine inBlock_normal ?_
       refine then_normal ?_
       replace hO : Ow Try.prog none' w w51 ([(b12, 45, [.slice p8 lj2.length kk2, bl (decide (kd sv n6 = 6))]), (b8, 45, [.slice p8 lj2.length kk2, bl (decide (kd sv n6 = 6))]), (pb, 66, [.slice (some (⟨tb, 2 * j10, none⟩ : Addr)) ((tks sv n10).length) k10, i64 ((a5 : Nat) : Int), i64 er5]), (tb, 68, CT)] ++ (T15 ++ (TL2 ++ (T10 ++ (T11 ++ ([])))))) := hO
       have hC1 : InJ 49 9 (l ++ ([⟨p8, kk2, lj2, decide (kd sv n6 = 6)⟩] : List JV)) (TL2 ++ (T10 ++ T11)) := InJ.snoc (x := ⟨p8, kk2, lj2, decide (kd sv n6 = 6)⟩) hT10 hT11 hTL2
       replace hO : Ow Try.prog none' w w51 ([(b12, 45, [.slice p8 lj2.length kk2, bl (decide (kd sv n6 = 6))]), (b8, 45, [.slice p8 lj2.length kk2, bl (decide (kd sv n6 = 6))]), (pb, 66, [.slice (some (⟨tb, 2 * j10, none⟩ : Addr)) ((tks sv n10).length) k10, i64 ((a5 : Nat) : Int), i64 er5]), (tb, 68, CT)] ++ (T15 ++ ((TL2 ++ (T10 ++ T11)) ++ ([])))) := hO.to (by first | rfl | (simp only [TP, apd]))
       obtain ⟨hne_, hl_⟩ := lst_bad (l2 := List.map JV.d (l ++ ([⟨p8, kk2, lj2, decide (kd sv n6 = 6)⟩] : List JV))) (m2 := n10) hC (by omega) (by omega) (by rintro ⟨q1, q2⟩; rw [List.length_map] at q1; first | omega | simp_all) hst2 (by omega) (by omega) hfe3
       have hz_ : er5 = 0 → m < n10 := fun q_ => absurd q_ hne_
       obtain ⟨g2, hg2, hlt2⟩ := meas (er := er5) (z := sv.size) (m := n10) (g := g) (fun q_ => by have := hz_ q_; omega) (by omega)
       exact ⟨_, by omega, l ++ ([⟨p8, kk2, lj2, decide (kd sv n6 = 6)⟩] : List JV), j10, k10, n10, a5, er5, f, g2, p12, c10, T15, (TL2 ++ (T10 ++ T11)), rfl, (hA.sub (e' := [(2, .slice none 0 0), (3, i64 0), (4, i64 0), (5, pt pb), (6, .slice p12 ((l ++ ([⟨p8, kk2, lj2, decide (kd sv n6 = 6)⟩] : List JV)).length) c10)]) [2, 3, 4, 5, 6] (by kernel_rfl)).cast (by kernel_rfl), (Ow.subP (A := [(b12, 45, [.slice p8 lj2.length kk2, bl (decide (kd sv n6 = 6))]), (b8, 45, [.slice p8 lj2.length kk2, bl (decide (kd sv n6 = 6))]), (pb, 66, [.slice (some (⟨tb, 2 * j10, none⟩ : Addr)) ((tks sv n10).length) k10, i64 ((a5 : Nat) : Int), i64 er5]), (tb, 68, CT)]) (A' := [(pb, 66, [.slice (some (⟨tb, 2 * j10, none⟩ : Addr)) ((tks sv n10).length) k10, i64 ((a5 : Nat) : Int), i64 er5]), (tb, 68, CT)]) (B := T15 ++ ((TL2 ++ (T10 ++ T11)) ++ ([]))) hO (.cons _ (.cons _ (.cons_cons _ (.cons_cons _ .slnil))))), hT15, hC1, hv10.pos, hg2, (fun q_ => by have := hz_ q_; omega), hl_, (by simp only [List.length_append, List.length_cons, List.length_nil]; by_cases q_ : er5 = 0; { have := hz_ q_; exact .inl ⟨q_, by omega⟩ }; { exact .inr ⟨q_, by omega⟩ }), hv10, trivial⟩
     rw [h16] at hA
     have h16p := ne_of_beq_false h16
     refine cF hA ?_
     refine wp_skip ?_
     refine then_normal ?_
     refine rR (l := (rg 0 5)) ?_
     refine ck (l := [0, 1]) (r := [2, 3, 4]) (e' := [(2, .slice none 0 0), (3, i64 0), (4, i64 0), (5, pt pb), (6, .slice pL1 l.length cL1), (80, .slice pL1 l.length cL1), (81, .agg #[.slice p8 lj2.length kk2, bl false])]) hA [.agg #[.slice p8 lj2.length kk2, bl false]] (cc (hO.ln 0 0 45 [.slice p8 lj2.length kk2, bl false]) c0) ?_
     clear hA fr; intro fr hA
     refine wpOps_cons' (mN (l := [.slice p8 lj2.length kk2, bl false]) (t := 45) (v := fun b => .slice (some ⟨b, 0, none⟩) 1 1) (d := 82) hA hO ?_)
     clear hA hO fr; intro fr w52 b13 hA hO
     replace hA := hA.sb (e' := [(2, .slice none 0 0), (3, i64 0), (4, i64 0), (5, pt pb), (6, .slice pL1 l.length cL1), (80, .slice pL1 l.length cL1), (82, .slice (some ⟨b13, 0, none⟩) 1 1)])
     replace hO : Ow Try.prog none' w w52 ([(b13, 45, [.slice p8 lj2.length kk2, bl false]), (b8, 45, [.slice p8 lj2.length kk2, bl false]), (pb, 66, [.slice (some (⟨tb, 2 * j6, none⟩ : Addr)) ((tks sv n6).length) k6, i64 ((a5 : Nat) : Int), i64 er5]), (tb, 68, CT)] ++ (TL1 ++ (TL2 ++ (T10 ++ (T11 ++ ([])))))) := hO
     refine wpOps_cons' (mA (f := fJ) (el := 45) (sz := 2) (bytes := 32) (p := pL1) (c := cL1) (l := l) (l' := ([⟨p8, kk2, lj2, false⟩] : List JV)) (T := TL1) (t := 27) (tx := 27) (ty := 27) (x := .slice (some ⟨b13, 0, none⟩) 1 1) (d := 83) [(b13, 45, [.slice p8 lj2.length kk2, bl false]), (b8, 45, [.slice p8 lj2.length kk2, bl false]), (pb, 66, [.slice (some (⟨tb, 2 * j6, none⟩ : Addr)) ((tks sv n6).length) k6, i64 ((a5 : Nat) : Int), i64 er5]), (tb, 68, CT)] (TL2 ++ (T10 ++ (T11 ++ ([])))) encJ hA hO hTL1 (Vw.src (e' := 45) encJ ((hO.b 0).vw (off := 0) (xs := ([⟨p8, kk2, lj2, false⟩] : List JV)) (by kernel_rfl)) (by kernel_rfl)) (by first | omega | (simp only [List.length_append, List.length_cons, List.length_nil]; omega)) (by unfold maxLen; first | omega | (simp only [List.length_append, List.length_cons, List.length_nil]; omega)) ?_)
     clear hA hO fr; intro fr w53 p13 c11 T16 hA hO hT16
     replace hA := hA.sb (e' := [(2, .slice none 0 0), (3, i64 0), (4, i64 0), (5, pt pb), (6, .slice pL1 l.length cL1), (83, .slice p13 ((l ++ ([⟨p8, kk2, lj2, false⟩] : List JV)).length) c11)])
     refine ck (l := [4]) (r := []) (e' := [(2, .slice none 0 0), (3, i64 0), (4, i64 0), (5, pt pb), (6, .slice p13 ((l ++ ([⟨p8, kk2, lj2, false⟩] : List JV)).length) c11)]) hA [] c0 ?_
     clear hA fr; intro fr hA
     refine end_ops ?_
     refine inBlock_normal ?_
     refine then_normal ?_
     replace hO : Ow Try.prog none' w w53 ([(b13, 45, [.slice p8 lj2.length kk2, bl false]), (b8, 45, [.slice p8 lj2.length kk2, bl false]), (pb, 66, [.slice (some (⟨tb, 2 * j6, none⟩ : Addr)) ((tks sv n6).length) k6, i64 ((a5 : Nat) : Int), i64 er5]), (tb, 68, CT)] ++ (T16 ++ (TL2 ++ (T10 ++ (T11 ++ ([])))))) := hO
     have hC1 : InJ 49 9 (l ++ ([⟨p8, kk2, lj2, false⟩] : List JV)) (TL2 ++ (T10 ++ T11)) := InJ.snoc (x := ⟨p8, kk2, lj2, false⟩) hT10 hT11 hTL2
     replace hO : Ow Try.prog none' w w53 ([(b13, 45, [.slice p8 lj2.length kk2, bl false]), (b8, 45, [.slice p8 lj2.length kk2, bl false]), (pb, 66, [.slice (some (⟨tb, 2 * j6, none⟩ : Addr)) ((tks sv n6).length) k6, i64 ((a5 : Nat) : Int), i64 er5]), (tb, 68, CT)] ++ (T16 ++ ((TL2 ++ (T10 ++ T11)) ++ ([])))) := hO.to (by first | rfl | (simp only [TP, apd]))
     obtain ⟨hne_, hl_⟩ := lst_bad (l2 := List.map JV.d (l ++ ([⟨p8, kk2, lj2, false⟩] : List JV))) (m2 := n6) hC (by omega) (by omega) (by rintro ⟨q1, q2⟩; rw [List.length_map] at q1; first | omega | simp_all) hst2 (by omega) (by omega) hfe3
     have hz_ : er5 = 0 → m < n6 := fun q_ => absurd q_ hne_
     obtain ⟨g2, hg2, hlt2⟩ := meas (er := er5) (z := sv.size) (m := n6) (g := g) (fun q_ => by have := hz_ q_; omega) (by omega)
     exact ⟨_, by omega, l ++ ([⟨p8, kk2, lj2, false⟩] : List JV), j6, k6, n6, a5, er5, f, g2, p13, c11, T16, (TL2 ++ (T10 ++ T11)), rfl, (hA.sub (e' := [(2, .slice none 0 0), (3, i64 0), (4, i64 0), (5, pt pb), (6, .slice p13 ((l ++ ([⟨p8, kk2, lj2, false⟩] : List JV)).length) c11)]) [2, 3, 4, 5, 6] (by kernel_rfl)).cast (by kernel_rfl), (Ow.subP (A := [(b13, 45, [.slice p8 lj2.length kk2, bl false]), (b8, 45, [.slice p8 lj2.length kk2, bl false]), (pb, 66, [.slice (some (⟨tb, 2 * j6, none⟩ : Addr)) ((tks sv n6).length) k6, i64 ((a5 : Nat) : Int), i64 er5]), (tb, 68, CT)]) (A' := [(pb, 66, [.slice (some (⟨tb, 2 * j6, none⟩ : Addr)) ((tks sv n6).length) k6, i64 ((a5 : Nat) : Int), i64 er5]), (tb, 68, CT)]) (B := T16 ++ ((TL2 ++ (T10 ++ T11)) ++ ([]))) hO (.cons _ (.cons _ (.cons_cons _ (.cons_cons _ .slnil))))), hT16, hC1, hv6.pos, hg2, (fun q_ => by have := hz_ q_; omega), hl_, (by simp only [List.length_append, List.length_cons, List.length_nil]; by_cases q_ : er5 = 0; { have := hz_ q_; exact .inl ⟨q_, by omega⟩ }; { exact .inr ⟨q_, by omega⟩ }), hv6, trivial⟩
   rw [h12] at hA
   have h12p := ne_of_beq_false h12
   refine ck (l := (rg 6 11)) (r := []) (e' := [(2, .slice none 0 0), (3, i64 0), (4, i64 0), (5, pt pb), (6, .slice pL1 l.length cL1), (7, pt b8), (67, bl false)]) hA [] c0 ?_
   clear hA fr; intro fr hA
   refine end_ops ?_
   refine then_normal ?_
   refine cF hA ?_
   refine wp_skip ?_
   refine then_normal ?_
   refine wp_seq ?_
   refine sC (e' := [(2, .slice none 0 0), (3, i64 0), (4, i64 0), (5, pt pb), (6, .slice pL1 l.length cL1), (7, pt b8), (74, bl (er4 == 0))]) 5 hA [i64 er4] (cc (hO.l1 1 2 24 (i64 er4)) c0) ?_
   clear hA fr; intro fr hA
   rw [(h12 : (er4 == 0) = false)] at hA
   refine cF hA ?_
   refine wp_skip ?_
   refine then_normal ?_
   refine rR (l := (rg 0 5)) ?_
   refine ck (l := [0, 1]) (r := [2, 3, 4]) (e' := [(2, .slice none 0 0), (3, i64 0), (4, i64 0), (5, pt pb), (6, .slice pL1 l.length cL1), (80, .slice pL1 l.length cL1), (81, .agg #[.slice p8 lj2.length kk2, bl false])]) hA [.agg #[.slice p8 lj2.length kk2, bl false]] (cc (hO.ln 0 0 45 [.slice p8 lj2.length kk2, bl false]) c0) ?_
   clear hA fr; intro fr hA
   refine wpOps_cons' (mN (l := [.slice p8 lj2.length kk2, bl false]) (t := 45) (v := fun b => .slice (some ⟨b, 0, none⟩) 1 1) (d := 82) hA hO ?_)
   clear hA hO fr; intro fr w54 b14 hA hO
   replace hA := hA.sb (e' := [(2, .slice none 0 0), (3, i64 0), (4, i64 0), (5, pt pb), (6, .slice pL1 l.length cL1), (80, .slice pL1 l.length cL1), (82, .slice (some ⟨b14, 0, none⟩) 1 1)])
   replace hO : Ow Try.prog none' w w54 ([(b14, 45, [.slice p8 lj2.length kk2, bl false]), (b8, 45, [.slice p8 lj2.length kk2, bl false]), (pb, 66, [.slice (some (⟨tb, 2 * j6, none⟩ : Addr)) ((tks sv n6).length) k6, i64 ((a4 : Nat) : Int), i64 er4]), (tb, 68, CT)] ++ (TL1 ++ (TL2 ++ (T10 ++ (T11 ++ ([])))))) := hO
   refine wpOps_cons' (mA (f := fJ) (el := 45) (sz := 2) (bytes := 32) (p := pL1) (c := cL1) (l := l) (l' := ([⟨p8, kk2, lj2, false⟩] : List JV)) (T := TL1) (t := 27) (tx := 27) (ty := 27) (x := .slice (some ⟨b14, 0, none⟩) 1 1) (d := 83) [(b14, 45, [.slice p8 lj2.length kk2, bl false]), (b8, 45, [.slice p8 lj2.length kk2, bl false]), (pb, 66, [.slice (some (⟨tb, 2 * j6, none⟩ : Addr)) ((tks sv n6).length) k6, i64 ((a4 : Nat) : Int), i64 er4]), (tb, 68, CT)] (TL2 ++ (T10 ++ (T11 ++ ([])))) encJ hA hO hTL1 (Vw.src (e' := 45) encJ ((hO.b 0).vw (off := 0) (xs := ([⟨p8, kk2, lj2, false⟩] : List JV)) (by kernel_rfl)) (by kernel_rfl)) (by first | omega | (simp only [List.length_append, List.length_cons, List.length_nil]; omega)) (by unfold maxLen; first | omega | (simp only [List.length_append, List.length_cons, List.length_nil]; omega)) ?_)
   clear hA hO fr; intro fr w55 p14 c12 T17 hA hO hT17
   replace hA := hA.sb (e' := [(2, .slice none 0 0), (3, i64 0), (4, i64 0), (5, pt pb), (6, .slice pL1 l.length cL1), (83, .slice p14 ((l ++ ([⟨p8, kk2, lj2, false⟩] : List JV)).length) c12)])
   refine ck (l := [4]) (r := []) (e' := [(2, .slice none 0 0), (3, i64 0), (4, i64 0), (5, pt pb), (6, .slice p14 ((l ++ ([⟨p8, kk2, lj2, false⟩] : List JV)).length) c12)]) hA [] c0 ?_
   clear hA fr; intro fr hA
   refine end_ops ?_
   refine inBlock_normal ?_
   refine then_normal ?_
   replace hO : Ow Try.prog none' w w55 ([(b14, 45, [.slice p8 lj2.length kk2, bl false]), (b8, 45, [.slice p8 lj2.length kk2, bl false]), (pb, 66, [.slice (some (⟨tb, 2 * j6, none⟩ : Addr)) ((tks sv n6).length) k6, i64 ((a4 : Nat) : Int), i64 er4]), (tb, 68, CT)] ++ (T17 ++ (TL2 ++ (T10 ++ (T11 ++ ([])))))) := hO
   have hC1 : InJ 49 9 (l ++ ([⟨p8, kk2, lj2, false⟩] : List JV)) (TL2 ++ (T10 ++ T11)) := InJ.snoc (x := ⟨p8, kk2, lj2, false⟩) hT10 hT11 hTL2
   replace hO : Ow Try.prog none' w w55 ([(b14, 45, [.slice p8 lj2.length kk2, bl false]), (b8, 45, [.slice p8 lj2.length kk2, bl false]), (pb, 66, [.slice (some (⟨tb, 2 * j6, none⟩ : Addr)) ((tks sv n6).length) k6, i64 ((a4 : Nat) : Int), i64 er4]), (tb, 68, CT)] ++ (T17 ++ ((TL2 ++ (T10 ++ T11)) ++ ([])))) := hO.to (by first | rfl | (simp only [TP, apd]))
   have hl_ : lst sv (lineP true sv) (List.map JV.d (l ++ ([⟨p8, kk2, lj2, false⟩] : List JV))) f n6 a4 er4 := lst_err hC (by omega) (by omega) (by rintro ⟨q1, q2⟩; rw [List.length_map] at q1; first | omega | simp_all) hst2 (by omega)
   have hz_ : er4 = 0 → m < n6 := fun q_ => absurd q_ (by omega)
   obtain ⟨g2, hg2, hlt2⟩ := meas (er := er4) (z := sv.size) (m := n6) (g := g) (fun q_ => by have := hz_ q_; omega) (by omega)
   exact ⟨_, by omega, l ++ ([⟨p8, kk2, lj2, false⟩] : List JV), j6, k6, n6, a4, er4, f, g2, p14, c12, T17, (TL2 ++ (T10 ++ T11)), rfl, (hA.sub (e' := [(2, .slice none 0 0), (3, i64 0), (4, i64 0), (5, pt pb), (6, .slice p14 ((l ++ ([⟨p8, kk2, lj2, false⟩] : List JV)).length) c12)]) [2, 3, 4, 5, 6] (by kernel_rfl)).cast (by kernel_rfl), (Ow.subP (A := [(b14, 45, [.slice p8 lj2.length kk2, bl false]), (b8, 45, [.slice p8 lj2.length kk2, bl false]), (pb, 66, [.slice (some (⟨tb, 2 * j6, none⟩ : Addr)) ((tks sv n6).length) k6, i64 ((a4 : Nat) : Int), i64 er4]), (tb, 68, CT)]) (A' := [(pb, 66, [.slice (some (⟨tb, 2 * j6, none⟩ : Addr)) ((tks sv n6).length) k6, i64 ((a4 : Nat) : Int), i64 er4]), (tb, 68, CT)]) (B := T17 ++ ((TL2 ++ (T10 ++ T11)) ++ ([]))) hO (.cons _ (.cons _ (.cons_cons _ (.cons_cons _ .slnil))))), hT17, hC1, hv6.pos, hg2, (fun q_ => by have := hz_ q_; omega), hl_, (by simp only [List.length_append, List.length_cons, List.length_nil]; by_cases q_ : er4 = 0; { have := hz_ q_; exact .inl ⟨q_, by omega⟩ }; { exact .inr ⟨q_, by omega⟩ }), hv6, trivial⟩
 rw [h1] at hA
 have h1p := ne_of_beq_false h1
 refine ck (l := (rg 6 9)) (r := []) (e' := [(2, .slice none 0 0), (3, i64 0), (4, i64 0), (5, pt pb), (6, .slice pL1 l.length cL1), (27, bl false)]) hA [] c0 ?_
 clear hA fr; intro fr hA
 refine end_ops ?_
 refine then_normal ?_
 refine cF hA ?_
 refine wp_exit ?_
 refine then_exit ?_
 refine then_exit ?_
 refine inBlock_exit ?_
 refine then_normal ?_
 refine wp_seq ?_
 refine sC (e' := [(2, .slice none 0 0), (3, i64 0), (4, i64 0), (5, pt pb), (6, .slice pL1 l.length cL1), (88, bl (el != 0))]) 5 hA [i64 el] (cc (hO.l1 0 2 24 (i64 el)) c0) ?_
 clear hA fr; intro fr hA
 rcases Bool.eq_false_or_eq_true (el != 0) with h17 | h17
 · rw [h17] at hA
   have h17p := ne_of_bne h17
   refine cT hA ?_
   refine wp_seq ?_
   have hS : Ow Try.prog none' w _ [(pb, 66, [.slice (some (⟨tb, 2 * jl, none⟩ : Addr)) ((tks sv m).length) kl, i64 ((al : Nat) : Int), i64 el]), (tb, 68, CT)] := hO.sub [0, 1]
   refine rP [(0, true), (1, true), (2, true), (3, true), (4, true), (5, true), (6, true), (7, true), (8, true), (9, true), (10, true)] hS ?_
   intro w56 ho; replace hO := hO.st ho; clear ho
   refine ckS (l := (rg 0 11)) (r := []) (e' := [(2, .slice none 0 0), (3, i64 ((al : Nat) : Int)), (4, i64 el)]) hA [i64 ((al : Nat) : Int), i64 el] (cc (hS.s1 0 1 3 (i64 ((al : Nat) : Int))) (cc (hS.s1 0 2 24 (i64 el)) c0)) ?_
   clear hA fr; intro fr hA
   refine end_plan ?_
   refine then_normal ?_
   refine wp_ret ?_
   refine then_ret ?_
   refine cR (cs := [none, none, none]) (us := [.slice none 0 0, i64 ((al : Nat) : Int), i64 el]) hA [] trivial ?_
   exact Or.inl ⟨al, el, lst_fin hC (by omega), rfl, hO.only⟩
 rw [h17] at hA
 have h17p := eq_of_bne_false h17
 refine cF hA ?_
 refine wp_skip ?_
 refine then_normal ?_
 refine sC (e' := [(2, .slice pL1 l.length cL1), (3, i64 0), (4, i64 0)]) 4 hA [] c0 ?_
 clear hA fr; intro fr hA
 refine wp_ret ?_
 refine cR (cs := [none, none, none]) (us := [.slice pL1 l.length cL1, i64 0, i64 0]) hA [] trivial ?_
 exact Or.inr ⟨_, _, l, _, _, lst_end hC (by omega) (by omega), rfl, hTL1, hTL2, ((Ow.subP (A := [(pb, 66, [.slice (some (⟨tb, 2 * jl, none⟩ : Addr)) ((tks sv m).length) kl, i64 ((al : Nat) : Int), i64 el]), (tb, 68, CT)]) (A' := []) (B := TL1 ++ (TL2 ++ ([]))) hO (.cons _ (.cons _ .slnil)))).to (by simp only [List.nil_append, List.append_nil]), by omega⟩

end Go.Proofs.Ytfhcpegemapbkaa
