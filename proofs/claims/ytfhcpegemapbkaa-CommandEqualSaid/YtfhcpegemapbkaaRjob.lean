/- The layer command: the reference: job. -/
import Derived.Test.YtfhcpegemapbkaaRcomm
import Derived.Test.YtfhcpegemapbkaaParse
set_option linter.unusedVariables false
set_option linter.unusedSimpArgs false
set_option maxRecDepth 10000
namespace Go.Proofs.Ytfhcpegemapbkaa
open Go Go.Shelf Go.RowKit Go.Proofs Go.Proofs.Sx

def jst (s : ByteArray) (R : PR (List CmdL)) (l : List CmdL) (f m a : Nat) (er : Int) : Prop := (er = 0 ∧ jobF true s f l m = R) ∨ (er ≠ 0 ∧ R = .error (a, er))
section
variable {s : ByteArray} {R : PR (List CmdL)} {l l2 : List CmdL} {c : CmdL} {f n m m1 m' a a1 a' : Nat} {er er1 er' : Int}
theorem jst_start (h : St (r0 a er (cmdP true s n)) c m a1 er1) : jst s (r0 a er (jobP true s n)) [c] (s.size + 1) m a1 er1 := by
 by_cases he : er = 0
 · subst he
   rcases h with ⟨h1, h2⟩ | ⟨h1, h2⟩
   · exact .inl ⟨h1, by show _ = jobP true s n; unfold jobP; rw [show cmdP true s n = _ from h2]⟩
   exact .inr ⟨h1, by show jobP true s n = _; unfold jobP; rw [show cmdP true s n = _ from h2]⟩
 obtain ⟨rfl, rfl⟩ := St.err h he
 exact .inr ⟨he, r0_no he⟩
theorem jst_cmd (h : jst s R l (f + 1) m a er) (he : er = 0) (hk : kd s m = 7) (h1 : m1 = rx s m) (hl : ¬ (l.length = 4 ∧ begK (kd s m1) = true)) (hw : St (r0 a er (cmdP true s m1)) c m' a' er') : jst s R (l ++ [c]) f m' a' er' := by
 subst he
 have hx : m1 = nx s m := by rw [h1]; exact rx_nx (by omega)
 subst hx
 rcases h with ⟨_, h⟩ | ⟨h, _⟩
 · rcases hw with ⟨e1, e2⟩ | ⟨e1, e2⟩
   · exact .inl ⟨e1, by rw [← h]; exact (jobF_cmd hk hl e2).symm⟩
   exact .inr ⟨e1, by rw [← h]; exact jobF_cmdE hk hl e2⟩
 exact absurd rfl h
theorem jst_lim (h : jst s R l (f + 1) m a er) (he : er = 0) (hk : kd s m = 7) (h1 : m1 = rx s m) (hl : l.length = 4) (hb : begK (kd s m1) = true) (hf : (er = 0 ∧ a1 = m1 ∧ er1 = 6) ∨ (er ≠ 0 ∧ a1 = a ∧ er1 = er)) (hw : St (r0 a1 er1 (cmdP true s m1)) c m' a' er') : jst s R l2 f m' a' er' := by
 subst he
 have hx : m1 = nx s m := by rw [h1]; exact rx_nx (by omega)
 subst hx
 rcases h with ⟨_, h⟩ | ⟨h, _⟩
 · rcases hf with ⟨_, rfl, rfl⟩ | ⟨q, _⟩
   · obtain ⟨rfl, rfl⟩ := St.err hw (by decide)
     exact .inr ⟨by decide, by rw [← h]; exact jobF_lim hk hl hb⟩
   exact absurd rfl q
 exact absurd rfl h
theorem jst_end (h : jst s R l (f + 1) m a er) (he : er = 0) (hk : kd s m ≠ 7) : R = .ok (l, m) := by
 rcases h with ⟨_, h⟩ | ⟨h, _⟩
 · rw [← h]; exact jobF_end hk
 exact absurd he h
theorem jst_err (h : jst s R l f m a er) (he : er ≠ 0) : St R l m a er := by
 rcases h with ⟨q, _⟩ | ⟨_, h⟩
 · exact absurd q he
 exact .inr ⟨he, h⟩
end

set_option maxHeartbeats 4000000 in
theorem rjob_any (pb tb : Nat) (toks : List (ByteArray × Nat)) (CT : List Value) (sv : ByteArray) (j k n a : Nat) (er : Int) (w : World) (hv : TV toks CT sv j n k) (hs : sv.size ≤ 1000000)  (h0 : Ow Try.prog (inT (RP pb tb CT sv j k n a er)) w w (RP pb tb CT sv j k n a er)) :
    Calls Try.prog 28 #[pt pb] w fun e w' => ∃ l j' k' n' a' er' p kk T0 T1, e = .returned (.agg #[.slice p l.length kk, bl false]) ∧ One fC 49 4 p kk l T0 ∧ InC 9 l T1 ∧ St (r0 a er (jobP true sv n)) (l.map CV.d) n' a' er' ∧ TV toks CT sv j' n' k' ∧ n ≤ n' ∧ (er' = 0 → n < n') ∧ Ow Try.prog (inT (RP pb tb CT sv j k n a er)) w w' (RP pb tb CT sv j' k' n' a' er' ++ (T0 ++ T1)) := by
 refine c_enter (args := [pt pb]) (m := 47) (n := 48) Try.func28 rfl (by kernel_rfl) (by kernel_rfl) fun fr hA => ?_
 have hO : Ow Try.prog (inT (RP pb tb CT sv j k n a er)) w w [(pb, 66, [.slice (some (⟨tb, 2 * j, none⟩ : Addr)) ((tks sv n).length) k, i64 ((a : Nat) : Int), i64 er]), (tb, 68, CT)] := h0
 refine sR (l := [0]) ?_
 refine wpOps_cons' (mN (l := [.slice none 0 0, bl false]) (t := 45) (v := pt) (d := 2) hA hO ?_)
 clear hA hO fr; intro fr w1 b1 hA hO
 replace hA := hA.sb (e' := [(0, pt pb), (2, pt b1)])
 refine end_ops ?_
 refine then_normal ?_
 refine sR (l := (rg 0 6)) ?_
 refine ck (l := [0]) (r := (rg 1 5)) (e' := [(0, pt pb), (2, pt b1), (4, pt pb)]) hA [] c0 ?_
 clear hA fr; intro fr hA
 refine wpOps_cons' (mC (f := 49) (args := [pt pb]) (d := (some 5)) hA Try.func49 ((rcommand_any pb tb toks CT sv j k n a er _ hv hs (Ow.self (A := [(b1, 45, [.slice none 0 0, bl false])]) (T := RP pb tb CT sv j k n a er) (B := ([] ++ ([]))) (hO.to (by first | rfl | (simp only [RP, apd])) : Ow Try.prog (inT (RP pb tb CT sv j k n a er)) w _ ([(b1, 45, [.slice none 0 0, bl false])] ++ (RP pb tb CT sv j k n a er ++ (([] ++ ([])))))))).mono ?_))
 rintro en w2 ⟨cv1, j1, k1, n1, a1, er1, p1, kk1, T1, rfl, hT1, hst1, hv1, hle1, hgc1, hW⟩
 refine ⟨_, rfl, ?_⟩
 clear hA fr; intro fr hA
 replace hO := Ow.pass2 (A := [(b1, 45, [.slice none 0 0, bl false])]) (T := RP pb tb CT sv j k n a er) (B := ([] ++ ([]))) (T' := RP pb tb CT sv j1 k1 n1 a1 er1) (T2 := T1) (hO.to (by first | rfl | (simp only [RP, apd])) : Ow Try.prog (inT (RP pb tb CT sv j k n a er)) w _ ([(b1, 45, [.slice none 0 0, bl false])] ++ (RP pb tb CT sv j k n a er ++ (([] ++ ([])))))) hW; clear hW
 replace hO : Ow Try.prog (inT (RP pb tb CT sv j k n a er)) w _ ([(b1, 45, [.slice none 0 0, bl false]), (pb, 66, [.slice (some (⟨tb, 2 * j1, none⟩ : Addr)) ((tks sv n1).length) k1, i64 ((a1 : Nat) : Int), i64 er1]), (tb, 68, CT)] ++ (T1 ++ ([]))) := hO.to (by first | rfl | (simp only [RP, apd]))
 have hp1a := tks_pos sv n1
 have hp1b := hv1.pos
 replace hA := hA.sb (e' := [(0, pt pb), (2, pt b1), (5, .agg #[.slice p1 cv1.words.length kk1, str cv1.inp, str cv1.out, bl cv1.app])])
 refine wpOps_cons' (mN (l := [.slice p1 cv1.words.length kk1, str cv1.inp, str cv1.out, bl cv1.app]) (t := 49) (v := fun b => .slice (some ⟨b, 0, none⟩) 1 1) (d := 6) hA hO ?_)
 clear hA hO fr; intro fr w3 b2 hA hO
 replace hA := hA.sb (e' := [(0, pt pb), (2, pt b1), (6, .slice (some ⟨b2, 0, none⟩) 1 1)])
 refine ck (l := [3]) (r := [4, 5]) (e' := [(0, pt pb), (2, pt b1), (7, .agg #[.slice (some ⟨b2, 0, none⟩) 1 1, bl false])]) hA [] c0 ?_
 clear hA fr; intro fr hA
 refine wpOps_cons' (mN (l := [.slice none 0 0, bl false]) (t := 45) (v := pt) (d := 3) hA hO ?_)
 clear hA hO fr; intro fr w4 b3 hA hO
 replace hA := hA.sb (e' := [(0, pt pb), (2, pt b1), (3, pt b3), (7, .agg #[.slice (some ⟨b2, 0, none⟩) 1 1, bl false])])
 refine wpOps_cons' (mS (off := 0) (vc := [.slice (some ⟨b2, 0, none⟩) 1 1, bl false]) 0 hA hO ?_)
 clear hO; intro w5 hO
 replace hA := hA.sb (e' := [(0, pt pb), (2, pt b1), (3, pt b3)])
 refine end_ops ?_
 refine then_normal ?_
 refine wp_seq ?_
 refine wp_block ?_
 replace hO : Ow Try.prog (inT (RP pb tb CT sv j k n a er)) w w5 ([(b3, 45, [.slice (some ⟨b2, 0, none⟩) 1 1, bl false]), (b2, 49, [.slice p1 cv1.words.length kk1, str cv1.inp, str cv1.out, bl cv1.app]), (b1, 45, [.slice none 0 0, bl false]), (pb, 66, [.slice (some (⟨tb, 2 * j1, none⟩ : Addr)) ((tks sv n1).length) k1, i64 ((a1 : Nat) : Int), i64 er1]), (tb, 68, CT)] ++ (T1 ++ ([]))) := hO
 have hT2 : One fC 49 4 (some ⟨b2, 0, none⟩) 1 ([⟨p1, kk1, cv1⟩] : List CV) [(b2, 49, [.slice p1 cv1.words.length kk1, str cv1.inp, str cv1.out, bl cv1.app])] := One.ofBlk (r := []) (by kernel_rfl) (by first | decide | simp) (by decide) (by kernel_rfl)
 replace hO := Ow.move (A := [(b3, 45, [.slice (some ⟨b2, 0, none⟩) 1 1, bl false])]) (B := [(b1, 45, [.slice none 0 0, bl false]), (pb, 66, [.slice (some (⟨tb, 2 * j1, none⟩ : Addr)) ((tks sv n1).length) k1, i64 ((a1 : Nat) : Int), i64 er1]), (tb, 68, CT)]) (C := T1 ++ ([])) (x := (b2, 49, [.slice p1 cv1.words.length kk1, str cv1.inp, str cv1.out, bl cv1.app])) hO
 replace hO : Ow Try.prog (inT (RP pb tb CT sv j k n a er)) w w5 ([(b3, 45, [.slice (some ⟨b2, 0, none⟩) 1 1, bl false]), (b1, 45, [.slice none 0 0, bl false]), (pb, 66, [.slice (some (⟨tb, 2 * j1, none⟩ : Addr)) ((tks sv n1).length) k1, i64 ((a1 : Nat) : Int), i64 er1]), (tb, 68, CT)] ++ ([(b2, 49, [.slice p1 cv1.words.length kk1, str cv1.inp, str cv1.out, bl cv1.app])] ++ (T1 ++ ([])))) := hO.to (by first | rfl | (simp only [TP, apd]))
 have hC0 : InC 9 ([⟨p1, kk1, cv1⟩] : List CV) T1 := ⟨T1, [], hT1, rfl, (List.append_nil _).symm⟩
 obtain ⟨g0, hg0⟩ := meas0 er1 sv.size n1
 refine c_loop (fun mm fr W => ∃ (l : List CV) (jl kl m al : Nat) (el : Int) (f g : Nat) (pL1 : Option Addr) (cL1 : Nat) (TL1 : OwL) (TL2 : OwL), mm = 1 + g ∧ Holds 48 [] fr [(0, pt pb), (2, pt b1), (3, pt b3)] ∧ Ow Try.prog (inT (RP pb tb CT sv j k n a er)) w W ([(b3, 45, [.slice pL1 l.length cL1, bl false]), (b1, 45, [.slice none 0 0, bl false]), (pb, 66, [.slice (some (⟨tb, 2 * jl, none⟩ : Addr)) ((tks sv m).length) kl, i64 ((al : Nat) : Int), i64 el]), (tb, 68, CT)] ++ (TL1 ++ (TL2 ++ ([])))) ∧ One fC 49 4 pL1 cL1 l TL1 ∧ InC 9 l TL2 ∧ m ≤ sv.size ∧ ((el = 0 ∧ g = sv.size - m + 1) ∨ (el ≠ 0 ∧ g = 0)) ∧ (el = 0 → sv.size - m < f) ∧ jst sv (r0 a er (jobP true sv n)) (l.map CV.d) f m al el ∧ ((el = 0 ∧ l.length ≤ m) ∨ (el ≠ 0 ∧ l.length ≤ m + 1)) ∧ n ≤ m ∧ (el = 0 → n < m) ∧ TV toks CT sv jl m kl ∧ True) ?_ ?_
 · exact ⟨_, ([⟨p1, kk1, cv1⟩] : List CV), j1, k1, n1, a1, er1, sv.size + 1, g0, some ⟨b2, 0, none⟩, 1, [(b2, 49, [.slice p1 cv1.words.length kk1, str cv1.inp, str cv1.out, bl cv1.app])], T1, rfl, hA.sub [0, 2, 3] (by kernel_rfl), (hO : Ow Try.prog (inT (RP pb tb CT sv j k n a er)) w _ ([(b3, 45, [.slice (some ⟨b2, 0, none⟩) 1 1, bl false]), (b1, 45, [.slice none 0 0, bl false]), (pb, 66, [.slice (some (⟨tb, 2 * j1, none⟩ : Addr)) ((tks sv n1).length) k1, i64 ((a1 : Nat) : Int), i64 er1]), (tb, 68, CT)] ++ ([(b2, 49, [.slice p1 cv1.words.length kk1, str cv1.inp, str cv1.out, bl cv1.app])] ++ (T1 ++ ([]))))), hT2, hC0, hv1.pos, hg0, (fun _ => by omega), jst_start hst1, (by simp only [List.length_cons, List.length_nil]; by_cases q_ : er1 = 0; { have := hgc1 q_; exact .inl ⟨q_, by omega⟩ }; { exact .inr ⟨q_, by omega⟩ }), (by omega), (fun q_ => (hgc1 q_).1), hv1, trivial⟩
 rintro _ fr w6 ⟨l, jl, kl, m, al, el, f, g, pL1, cL1, TL1, TL2, rfl, hA, hO, hTL1, hTL2, hm, hg, hf, hC, hcl, hgt, hgt2, hvl, -⟩
 have hpa := tks_pos sv m
 have hms_ : kd sv m ≠ 0 → m < sv.size := kd_lt
 have hgx := rx_gt (s := sv) (n := m)
 have hml : (l.map CV.d).length = l.length := List.length_map _
 refine wp_seq ?_
 refine sR (l := (rg 0 15)) ?_
 refine ck (l := (rg 0 6)) (r := (rg 6 9)) (e' := [(0, pt pb), (2, pt b1), (3, pt b3), (12, bl (el == 0)), (13, bl (el == 0))]) hA [i64 el] (cc (hO.l1 2 2 24 (i64 el)) c0) ?_
 clear hA fr; intro fr hA
 rcases Bool.eq_false_or_eq_true (el == 0) with h1 | h1
 · rw [h1] at hA
   have h1p := eq_of_beq h1
   obtain ⟨f, rfl⟩ : ∃ j, f = j + 1 := ⟨f - 1, by have := hf (by omega); omega⟩
   have hf_ := hf (by omega)
   refine ck (l := (rg 6 9)) (r := []) (e' := [(0, pt pb), (2, pt b1), (3, pt b3), (22, bl ((rt sv m).toList == (⟨#[124]⟩ : ByteArray).toList))]) hA [.slice (some (⟨tb, 2 * jl, none⟩ : Addr)) ((tks sv m).length) kl, str (rt sv m)] (cc (hO.l1 2 0 63 (.slice (some (⟨tb, 2 * jl, none⟩ : Addr)) ((tks sv m).length) kl)) (cc (⟨by omega, by omega⟩ : (0 : Int) ≤ 0 ∧ 0 < (((tks sv m).length : Nat) : Int)) (cc ((hvl.ld0 (hO.b 3)) : Ld Try.prog w6 ((⟨tb, 2 * jl, none⟩ : Addr).add 0) 9 (str (rt sv m))) c0))) ?_
   clear hA fr; intro fr hA
   replace hA := hA.bool (f := fun z_ => [(0, pt pb), (2, pt b1), (3, pt b3), (22, .bool z_)]) (rt_bar sv m : ((rt sv m).toList == (⟨#[124]⟩ : ByteArray).toList) = (decide (kd sv m = 7)))
   refine end_ops ?_
   refine then_normal ?_
   rcases Bool.eq_false_or_eq_true (decide (kd sv m = 7)) with h2 | h2
   · rw [h2] at hA
     have h2p := of_decide_eq_true h2
     refine cT hA ?_
     refine wp_skip ?_
     refine then_normal ?_
     refine wp_block ?_
     refine sR (l := [0, 1]) ?_
     refine ck (l := [0]) (r := [1]) (e' := [(0, pt pb), (2, pt b1), (3, pt b3), (23, pt pb)]) hA [] c0 ?_
     clear hA fr; intro fr hA
     refine wpOps_cons' (mC (f := 29) (args := [pt pb]) (d := (some 24)) hA Try.func29 ((rnext_any pb tb toks CT sv jl kl m al el _ hvl hs (Ow.self (A := [(b3, 45, [.slice pL1 l.length cL1, bl false]), (b1, 45, [.slice none 0 0, bl false])]) (T := RP pb tb CT sv jl kl m al el) (B := ([] ++ (TL1 ++ (TL2 ++ ([]))))) (hO.to (by first | rfl | (simp only [RP, apd])) : Ow Try.prog (inT (RP pb tb CT sv j k n a er)) w _ ([(b3, 45, [.slice pL1 l.length cL1, bl false]), (b1, 45, [.slice none 0 0, bl false])] ++ (RP pb tb CT sv jl kl m al el ++ (([] ++ (TL1 ++ (TL2 ++ ([])))))))))).mono ?_))
     rintro en w7 ⟨j2, k2, n2, rfl, hnx1, hv2, hW⟩
     refine ⟨_, rfl, ?_⟩
     clear hA fr; intro fr hA
     replace hO := Ow.pass (A := [(b3, 45, [.slice pL1 l.length cL1, bl false]), (b1, 45, [.slice none 0 0, bl false])]) (T := RP pb tb CT sv jl kl m al el) (B := ([] ++ (TL1 ++ (TL2 ++ ([]))))) (hO.to (by first | rfl | (simp only [RP, apd])) : Ow Try.prog (inT (RP pb tb CT sv j k n a er)) w _ ([(b3, 45, [.slice pL1 l.length cL1, bl false]), (b1, 45, [.slice none 0 0, bl false])] ++ (RP pb tb CT sv jl kl m al el ++ (([] ++ (TL1 ++ (TL2 ++ ([])))))))) hW; clear hW
     replace hO : Ow Try.prog (inT (RP pb tb CT sv j k n a er)) w _ ([(b3, 45, [.slice pL1 l.length cL1, bl false]), (b1, 45, [.slice none 0 0, bl false]), (pb, 66, [.slice (some (⟨tb, 2 * j2, none⟩ : Addr)) ((tks sv n2).length) k2, i64 ((al : Nat) : Int), i64 el]), (tb, 68, CT)] ++ (TL1 ++ (TL2 ++ ([])))) := hO.to (by first | rfl | (simp only [RP, apd]))
     have hp2a := tks_pos sv n2
     have hp2b := hv2.pos
     replace hA := hA.sb (e' := [(0, pt pb), (2, pt b1), (3, pt b3)])
     refine end_ops ?_
     refine then_normal ?_
     refine wp_seq ?_
     refine sR (l := (rg 0 13)) ?_
     refine ck (l := (rg 0 5)) (r := (rg 5 8)) (e' := [(0, pt pb), (2, pt b1), (3, pt b3), (28, bl (((l.length : Nat) : Int) == 4)), (29, bl (((l.length : Nat) : Int) == 4))]) hA [.slice pL1 l.length cL1] (cc (hO.l1 0 0 43 (.slice pL1 l.length cL1)) c0) ?_
     clear hA fr; intro fr hA
     rcases Bool.eq_false_or_eq_true (((l.length : Nat) : Int) == 4) with h3 | h3
     · rw [h3] at hA
       have h3p := eq_of_beq h3
       refine ck (l := (rg 5 6)) (r := [11, 12]) (e' := [(0, pt pb), (2, pt b1), (3, pt b3), (29, bl true), (35, .agg #[str (rt sv n2), i64 ((n2 : Nat) : Int)])]) hA [.slice (some (⟨tb, 2 * j2, none⟩ : Addr)) ((tks sv n2).length) k2, .agg #[str (rt sv n2), i64 ((n2 : Nat) : Int)]] (cc (hO.l1 2 0 63 (.slice (some (⟨tb, 2 * j2, none⟩ : Addr)) ((tks sv n2).length) k2)) (cc (⟨by omega, by omega⟩ : (0 : Int) ≤ 0 ∧ 0 < (((tks sv n2).length : Nat) : Int)) (cc ((hv2.ldn (hO.b 3)) : Ld Try.prog w7 ((⟨tb, 2 * j2, none⟩ : Addr).add 0) 68 (.agg #[str (rt sv n2), i64 ((n2 : Nat) : Int)])) c0))) ?_
       clear hA fr; intro fr hA
       refine wpOps_cons' (mK (f := 26) (args := [.agg #[str (rt sv n2), i64 ((n2 : Nat) : Int)]]) (d := (some 36)) (v := bl (begK (kd sv n2))) hA hO Try.func26 (rbegins_any sv n2 _) ?_)
       clear hA hO fr; intro fr w8 hA hO
       replace hA := hA.sb (e' := [(0, pt pb), (2, pt b1), (3, pt b3), (29, bl true), (36, bl (begK (kd sv n2)))])
       refine ck (l := [12]) (r := []) (e' := [(0, pt pb), (2, pt b1), (3, pt b3), (37, bl (begK (kd sv n2)))]) hA [] c0 ?_
       clear hA fr; intro fr hA
       refine end_ops ?_
       refine then_normal ?_
       rcases Bool.eq_false_or_eq_true (begK (kd sv n2)) with h4 | h4
       · rw [h4] at hA
         have h4p := begK_yes h4
         refine cT hA ?_
         refine rR (l := [0, 1]) ?_
         refine ck (l := [0]) (r := [1]) (e' := [(0, pt pb), (2, pt b1), (3, pt b3), (38, pt pb)]) hA [] c0 ?_
         clear hA fr; intro fr hA
         refine wpOps_cons' (mC (f := 27) (args := [pt pb, i64 6]) (d := (some 39)) hA Try.func27 ((rfail_any pb tb toks CT sv j2 k2 n2 al el _ hv2 hs 6 (Ow.self (A := [(b3, 45, [.slice pL1 l.length cL1, bl false]), (b1, 45, [.slice none 0 0, bl false])]) (T := RP pb tb CT sv j2 k2 n2 al el) (B := ([] ++ (TL1 ++ (TL2 ++ ([]))))) (hO.to (by first | rfl | (simp only [RP, apd])) : Ow Try.prog (inT (RP pb tb CT sv j k n a er)) w _ ([(b3, 45, [.slice pL1 l.length cL1, bl false]), (b1, 45, [.slice none 0 0, bl false])] ++ (RP pb tb CT sv j2 k2 n2 al el ++ (([] ++ (TL1 ++ (TL2 ++ ([])))))))))).mono ?_))
         rintro en w9 ⟨a2, er2, rfl, hfe1, hW⟩
         refine ⟨_, rfl, ?_⟩
         clear hA fr; intro fr hA
         replace hO := Ow.pass (A := [(b3, 45, [.slice pL1 l.length cL1, bl false]), (b1, 45, [.slice none 0 0, bl false])]) (T := RP pb tb CT sv j2 k2 n2 al el) (B := ([] ++ (TL1 ++ (TL2 ++ ([]))))) (hO.to (by first | rfl | (simp only [RP, apd])) : Ow Try.prog (inT (RP pb tb CT sv j k n a er)) w _ ([(b3, 45, [.slice pL1 l.length cL1, bl false]), (b1, 45, [.slice none 0 0, bl false])] ++ (RP pb tb CT sv j2 k2 n2 al el ++ (([] ++ (TL1 ++ (TL2 ++ ([])))))))) hW; clear hW
         replace hO : Ow Try.prog (inT (RP pb tb CT sv j k n a er)) w _ ([(b3, 45, [.slice pL1 l.length cL1, bl false]), (b1, 45, [.slice none 0 0, bl false]), (pb, 66, [.slice (some (⟨tb, 2 * j2, none⟩ : Addr)) ((tks sv n2).length) k2, i64 ((a2 : Nat) : Int), i64 er2]), (tb, 68, CT)] ++ (TL1 ++ (TL2 ++ ([])))) := hO.to (by first | rfl | (simp only [RP, apd]))
         replace hA := hA.sb (e' := [(0, pt pb), (2, pt b1), (3, pt b3)])
         refine end_ops ?_
         refine then_normal ?_
         have hS : Ow Try.prog (inT (RP pb tb CT sv j k n a er)) w _ [(b1, 45, [.slice none 0 0, bl false]), (tb, 68, CT)] := hO.sub [1, 3]
         refine rT (.q 0 (.q 2 (.m 1 (.m 3 (.m 4 (.m 5 (.q 6 (.m 7 .fin .non)) .non) .non) .non) (.m 3 (.m 1 (.m 4 (.m 5 (.q 6 (.m 7 .fin .non)) .non) .non) (.m 4 (.m 1 (.m 5 (.q 6 (.m 7 .fin .non)) .non) .non) .non)) .non)))) hS ?_
         intro w10 ho; replace hO := hO.st ho; clear ho
         refine ckT (l := [0, 2]) (e' := [(0, pt pb), (2, pt b1), (3, pt b3), (40, pt b3), (42, pt pb)]) hA [] c0 ?_
         clear hA fr; intro fr hA
         refine tree_mem ?_ ?_
         · refine (mQ (e' := [(0, pt pb), (2, pt b1), (3, pt b3), (41, .slice pL1 l.length cL1), (42, pt pb)]) hA [.slice pL1 l.length cL1] (cc (hO.l1 0 0 43 (.slice pL1 l.length cL1)) c0) ?_)
           clear hA fr; intro fr hA
           refine ⟨(hO.sub [1, 3]), ?_⟩
           replace hA := hA.sb (e' := [(0, pt pb), (2, pt b1), (3, pt b3), (41, .slice pL1 l.length cL1), (42, pt pb)])
           refine tree_mem ?_ ?_
           · refine (mC (f := 49) (args := [pt pb]) (d := (some 43)) hA Try.func49 ((rcommand_any pb tb toks CT sv j2 k2 n2 a2 er2 _ hv2 hs (Ow.self (A := [(b3, 45, [.slice pL1 l.length cL1, bl false]), (b1, 45, [.slice none 0 0, bl false])]) (T := RP pb tb CT sv j2 k2 n2 a2 er2) (B := ([] ++ (TL1 ++ (TL2 ++ ([]))))) (hO.to (by first | rfl | (simp only [RP, apd])) : Ow Try.prog (inT (RP pb tb CT sv j k n a er)) w _ ([(b3, 45, [.slice pL1 l.length cL1, bl false]), (b1, 45, [.slice none 0 0, bl false])] ++ (RP pb tb CT sv j2 k2 n2 a2 er2 ++ (([] ++ (TL1 ++ (TL2 ++ ([])))))))))).mono ?_))
             rintro en w11 ⟨cv2, j3, k3, n3, a3, er3, p2, kk2, T3, rfl, hT3, hst2, hv3, hle2, hgc2, hW⟩
             refine ⟨_, rfl, ?_⟩
             clear hA fr; intro fr hA
             replace hO := Ow.pass2 (A := [(b3, 45, [.slice pL1 l.length cL1, bl false]), (b1, 45, [.slice none 0 0, bl false])]) (T := RP pb tb CT sv j2 k2 n2 a2 er2) (B := ([] ++ (TL1 ++ (TL2 ++ ([]))))) (T' := RP pb tb CT sv j3 k3 n3 a3 er3) (T2 := T3) (hO.to (by first | rfl | (simp only [RP, apd])) : Ow Try.prog (inT (RP pb tb CT sv j k n a er)) w _ ([(b3, 45, [.slice pL1 l.length cL1, bl false]), (b1, 45, [.slice none 0 0, bl false])] ++ (RP pb tb CT sv j2 k2 n2 a2 er2 ++ (([] ++ (TL1 ++ (TL2 ++ ([])))))))) hW; clear hW
             replace hO : Ow Try.prog (inT (RP pb tb CT sv j k n a er)) w _ ([(b3, 45, [.slice pL1 l.length cL1, bl false]), (b1, 45, [.slice none 0 0, bl false]), (pb, 66, [.slice (some (⟨tb, 2 * j3, none⟩ : Addr)) ((tks sv n3).length) k3, i64 ((a3 : Nat) : Int), i64 er3]), (tb, 68, CT)] ++ (TL1 ++ (TL2 ++ (T3 ++ ([]))))) := hO.to (by first | rfl | (simp only [RP, apd]))
             have hp3a := tks_pos sv n3
             have hp3b := hv3.pos
             refine ⟨(hO.sub [1, 3]), ?_⟩
             replace hA := hA.sb (e' := [(0, pt pb), (2, pt b1), (3, pt b3), (41, .slice pL1 l.length cL1), (43, .agg #[.slice p2 cv2.words.length kk2, str cv2.inp, str cv2.out, bl cv2.app])])
             refine tree_mem ?_ ?_
             · refine (mN (l := [.slice p2 cv2.words.length kk2, str cv2.inp, str cv2.out, bl cv2.app]) (t := 49) (v := fun b => .slice (some ⟨b, 0, none⟩) 1 1) (d := 44) hA hO ?_)
               clear hA hO fr; intro fr w12 b4 hA hO
               refine ⟨(hO.sub [2, 4]), ?_⟩
               replace hA := hA.sb (e' := [(0, pt pb), (2, pt b1), (3, pt b3), (41, .slice pL1 l.length cL1), (44, .slice (some ⟨b4, 0, none⟩) 1 1)])
               refine tree_mem ?_ ?_
               · replace hO : Ow Try.prog (inT (RP pb tb CT sv j k n a er)) w w12 ([(b4, 49, [.slice p2 cv2.words.length kk2, str cv2.inp, str cv2.out, bl cv2.app]), (b3, 45, [.slice pL1 l.length cL1, bl false]), (b1, 45, [.slice none 0 0, bl false]), (pb, 66, [.slice (some (⟨tb, 2 * j3, none⟩ : Addr)) ((tks sv n3).length) k3, i64 ((a3 : Nat) : Int), i64 er3]), (tb, 68, CT)] ++ (TL1 ++ (TL2 ++ (T3 ++ ([]))))) := hO
                 refine (mA (f := fC) (el := 49) (sz := 4) (bytes := 64) (p := pL1) (c := cL1) (l := l) (l' := ([⟨p2, kk2, cv2⟩] : List CV)) (T := TL1) (t := 43) (tx := 43) (ty := 43) (x := .slice (some ⟨b4, 0, none⟩) 1 1) (d := 45) [(b4, 49, [.slice p2 cv2.words.length kk2, str cv2.inp, str cv2.out, bl cv2.app]), (b3, 45, [.slice pL1 l.length cL1, bl false]), (b1, 45, [.slice none 0 0, bl false]), (pb, 66, [.slice (some (⟨tb, 2 * j3, none⟩ : Addr)) ((tks sv n3).length) k3, i64 ((a3 : Nat) : Int), i64 er3]), (tb, 68, CT)] (TL2 ++ (T3 ++ ([]))) encC hA hO hTL1 (Vw.src (e' := 49) encC ((hO.b 0).vw (off := 0) (xs := ([⟨p2, kk2, cv2⟩] : List CV)) (by kernel_rfl)) (by kernel_rfl)) (by first | omega | (simp only [List.length_append, List.length_cons, List.length_nil]; omega)) (by unfold maxLen; first | omega | (simp only [List.length_append, List.length_cons, List.length_nil]; omega)) ?_)
                 clear hA hO fr; intro fr w13 p3 c1 T4 hA hO hT4
                 refine ⟨(hO.sub [2, 4]), ?_⟩
                 replace hA := hA.sb (e' := [(0, pt pb), (2, pt b1), (3, pt b3), (45, .slice p3 ((l ++ ([⟨p2, kk2, cv2⟩] : List CV)).length) c1)])
                 refine ckT (l := [6]) (e' := [(0, pt pb), (2, pt b1), (3, pt b3), (45, .slice p3 ((l ++ ([⟨p2, kk2, cv2⟩] : List CV)).length) c1), (46, pt b3)]) hA [] c0 ?_
                 clear hA fr; intro fr hA
                 refine tree_mem ?_ ?_
                 · refine (mS (off := 0) (vc := [.slice p3 ((l ++ ([⟨p2, kk2, cv2⟩] : List CV)).length) c1]) 1 hA hO ?_)
                   clear hO; intro w14 hO
                   refine ⟨(hO.sub [2, 4]), ?_⟩
                   replace hA := hA.sb (e' := [(0, pt pb), (2, pt b1), (3, pt b3)])
                   refine tree_fin ?_
                   refine inBlock_normal ?_
                   refine then_normal ?_
                   replace hO : Ow Try.prog (inT (RP pb tb CT sv j k n a er)) w w14 ([(b4, 49, [.slice p2 cv2.words.length kk2, str cv2.inp, str cv2.out, bl cv2.app]), (b3, 45, [.slice p3 ((l ++ ([⟨p2, kk2, cv2⟩] : List CV)).length) c1, bl false]), (b1, 45, [.slice none 0 0, bl false]), (pb, 66, [.slice (some (⟨tb, 2 * j3, none⟩ : Addr)) ((tks sv n3).length) k3, i64 ((a3 : Nat) : Int), i64 er3]), (tb, 68, CT)] ++ (T4 ++ (TL2 ++ (T3 ++ ([]))))) := hO
                   have hC1 : InC 9 (l ++ ([⟨p2, kk2, cv2⟩] : List CV)) (TL2 ++ T3) := InC.snoc (x := ⟨p2, kk2, cv2⟩) hT3 hTL2
                   replace hO : Ow Try.prog (inT (RP pb tb CT sv j k n a er)) w w14 ([(b4, 49, [.slice p2 cv2.words.length kk2, str cv2.inp, str cv2.out, bl cv2.app]), (b3, 45, [.slice p3 ((l ++ ([⟨p2, kk2, cv2⟩] : List CV)).length) c1, bl false]), (b1, 45, [.slice none 0 0, bl false]), (pb, 66, [.slice (some (⟨tb, 2 * j3, none⟩ : Addr)) ((tks sv n3).length) k3, i64 ((a3 : Nat) : Int), i64 er3]), (tb, 68, CT)] ++ (T4 ++ ((TL2 ++ T3) ++ ([])))) := hO.to (by first | rfl | (simp only [TP, apd]))
                   have hgc_ := fun q_ => (hgc2 q_).1
                   obtain ⟨g2, hg2, hlt2⟩ := meas (er := er3) (z := sv.size) (m := n3) (g := g) (fun q_ => by have := hgc_ q_; omega) (by omega)
                   exact ⟨_, by omega, l ++ ([⟨p2, kk2, cv2⟩] : List CV), j3, k3, n3, a3, er3, f, g2, p3, c1, T4, (TL2 ++ T3), rfl, hA.sub [0, 2, 3] (by kernel_rfl), (Ow.subP (A := [(b4, 49, [.slice p2 cv2.words.length kk2, str cv2.inp, str cv2.out, bl cv2.app]), (b3, 45, [.slice p3 ((l ++ ([⟨p2, kk2, cv2⟩] : List CV)).length) c1, bl false]), (b1, 45, [.slice none 0 0, bl false]), (pb, 66, [.slice (some (⟨tb, 2 * j3, none⟩ : Addr)) ((tks sv n3).length) k3, i64 ((a3 : Nat) : Int), i64 er3]), (tb, 68, CT)]) (A' := [(b3, 45, [.slice p3 ((l ++ ([⟨p2, kk2, cv2⟩] : List CV)).length) c1, bl false]), (b1, 45, [.slice none 0 0, bl false]), (pb, 66, [.slice (some (⟨tb, 2 * j3, none⟩ : Addr)) ((tks sv n3).length) k3, i64 ((a3 : Nat) : Int), i64 er3]), (tb, 68, CT)]) (B := T4 ++ ((TL2 ++ T3) ++ ([]))) hO (.cons _ (.cons_cons _ (.cons_cons _ (.cons_cons _ (.cons_cons _ .slnil)))))), hT4, hC1, hv3.pos, hg2, (fun q_ => by have := hgc_ q_; omega), (by rw [List.map_append]; first | exact jst_cmd hC (by omega) (by omega) (by omega) (by rintro ⟨q1, q2⟩; rw [List.length_map] at q1; first | omega | simp_all) hst2 | exact jst_lim hC (by omega) (by omega) (by omega) (by omega) (by assumption) hfe1 hst2), (by simp only [List.length_append, List.length_cons, List.length_nil]; by_cases q_ : er3 = 0; { have := hgc_ q_; exact .inl ⟨q_, by omega⟩ }; { exact .inr ⟨q_, by omega⟩ }), (by omega), (fun q_ => by have := hgc_ q_; omega), hv3, trivial⟩
                 exact trivial
               exact trivial
             exact trivial
           exact trivial
         refine tree_mem ?_ ?_
         · refine (mC (f := 49) (args := [pt pb]) (d := (some 43)) hA Try.func49 ((rcommand_any pb tb toks CT sv j2 k2 n2 a2 er2 _ hv2 hs (Ow.self (A := [(b3, 45, [.slice pL1 l.length cL1, bl false]), (b1, 45, [.slice none 0 0, bl false])]) (T := RP pb tb CT sv j2 k2 n2 a2 er2) (B := ([] ++ (TL1 ++ (TL2 ++ ([]))))) (hO.to (by first | rfl | (simp only [RP, apd])) : Ow Try.prog (inT (RP pb tb CT sv j k n a er)) w _ ([(b3, 45, [.slice pL1 l.length cL1, bl false]), (b1, 45, [.slice none 0 0, bl false])] ++ (RP pb tb CT sv j2 k2 n2 a2 er2 ++ (([] ++ (TL1 ++ (TL2 ++ ([])))))))))).mono ?_))
           rintro en w15 ⟨cv3, j4, k4, n4, a4, er4, p4, kk3, T5, rfl, hT5, hst3, hv4, hle3, hgc3, hW⟩
           refine ⟨_, rfl, ?_⟩
           clear hA fr; intro fr hA
           replace hO := Ow.pass2 (A := [(b3, 45, [.slice pL1 l.length cL1, bl false]), (b1, 45, [.slice none 0 0, bl false])]) (T := RP pb tb CT sv j2 k2 n2 a2 er2) (B := ([] ++ (TL1 ++ (TL2 ++ ([]))))) (T' := RP pb tb CT sv j4 k4 n4 a4 er4) (T2 := T5) (hO.to (by first | rfl | (simp only [RP, apd])) : Ow Try.prog (inT (RP pb tb CT sv j k n a er)) w _ ([(b3, 45, [.slice pL1 l.length cL1, bl false]), (b1, 45, [.slice none 0 0, bl false])] ++ (RP pb tb CT sv j2 k2 n2 a2 er2 ++ (([] ++ (TL1 ++ (TL2 ++ ([])))))))) hW; clear hW
           replace hO : Ow Try.prog (inT (RP pb tb CT sv j k n a er)) w _ ([(b3, 45, [.slice pL1 l.length cL1, bl false]), (b1, 45, [.slice none 0 0, bl false]), (pb, 66, [.slice (some (⟨tb, 2 * j4, none⟩ : Addr)) ((tks sv n4).length) k4, i64 ((a4 : Nat) : Int), i64 er4]), (tb, 68, CT)] ++ (TL1 ++ (TL2 ++ (T5 ++ ([]))))) := hO.to (by first | rfl | (simp only [RP, apd]))
           have hp4a := tks_pos sv n4
           have hp4b := hv4.pos
           refine ⟨(hO.sub [1, 3]), ?_⟩
           replace hA := hA.sb (e' := [(0, pt pb), (2, pt b1), (3, pt b3), (40, pt b3), (43, .agg #[.slice p4 cv3.words.length kk3, str cv3.inp, str cv3.out, bl cv3.app])])
           refine tree_mem ?_ ?_
           · refine (mQ (e' := [(0, pt pb), (2, pt b1), (3, pt b3), (41, .slice pL1 l.length cL1), (43, .agg #[.slice p4 cv3.words.length kk3, str cv3.inp, str cv3.out, bl cv3.app])]) hA [.slice pL1 l.length cL1] (cc (hO.l1 0 0 43 (.slice pL1 l.length cL1)) c0) ?_)
             clear hA fr; intro fr hA
             refine ⟨(hO.sub [1, 3]), ?_⟩
             replace hA := hA.sb (e' := [(0, pt pb), (2, pt b1), (3, pt b3), (41, .slice pL1 l.length cL1), (43, .agg #[.slice p4 cv3.words.length kk3, str cv3.inp, str cv3.out, bl cv3.app])])
             refine tree_mem ?_ ?_
             · refine (mN (l := [.slice p4 cv3.words.length kk3, str cv3.inp, str cv3.out, bl cv3.app]) (t := 49) (v := fun b => .slice (some ⟨b, 0, none⟩) 1 1) (d := 44) hA hO ?_)
               clear hA hO fr; intro fr w16 b5 hA hO
               refine ⟨(hO.sub [2, 4]), ?_⟩
               replace hA := hA.sb (e' := [(0, pt pb), (2, pt b1), (3, pt b3), (41, .slice pL1 l.length cL1), (44, .slice (some ⟨b5, 0, none⟩) 1 1)])
               refine tree_mem ?_ ?_
               · replace hO : Ow Try.prog (inT (RP pb tb CT sv j k n a er)) w w16 ([(b5, 49, [.slice p4 cv3.words.length kk3, str cv3.inp, str cv3.out, bl cv3.app]), (b3, 45, [.slice pL1 l.length cL1, bl false]), (b1, 45, [.slice none 0 0, bl false]), (pb, 66, [.slice (some (⟨tb, 2 * j4, none⟩ : Addr)) ((tks sv n4).length) k4, i64 ((a4 : Nat) : Int), i64 er4]), (tb, 68, CT)] ++ (TL1 ++ (TL2 ++ (T5 ++ ([]))))) := hO
                 refine (mA (f := fC) (el := 49) (sz := 4) (bytes := 64) (p := pL1) (c := cL1) (l := l) (l' := ([⟨p4, kk3, cv3⟩] : List CV)) (T := TL1) (t := 43) (tx := 43) (ty := 43) (x := .slice (some ⟨b5, 0, none⟩) 1 1) (d := 45) [(b5, 49, [.slice p4 cv3.words.length kk3, str cv3.inp, str cv3.out, bl cv3.app]), (b3, 45, [.slice pL1 l.length cL1, bl false]), (b1, 45, [.slice none 0 0, bl false]), (pb, 66, [.slice (some (⟨tb, 2 * j4, none⟩ : Addr)) ((tks sv n4).length) k4, i64 ((a4 : Nat) : Int), i64 er4]), (tb, 68, CT)] (TL2 ++ (T5 ++ ([]))) encC hA hO hTL1 (Vw.src (e' := 49) encC ((hO.b 0).vw (off := 0) (xs := ([⟨p4, kk3, cv3⟩] : List CV)) (by kernel_rfl)) (by kernel_rfl)) (by first | omega | (simp only [List.length_append, List.length_cons, List.length_nil]; omega)) (by unfold maxLen; first | omega | (simp only [List.length_append, List.length_cons, List.length_nil]; omega)) ?_)
                 clear hA hO fr; intro fr w17 p5 c2 T6 hA hO hT6
                 refine ⟨(hO.sub [2, 4]), ?_⟩
                 replace hA := hA.sb (e' := [(0, pt pb), (2, pt b1), (3, pt b3), (45, .slice p5 ((l ++ ([⟨p4, kk3, cv3⟩] : List CV)).length) c2)])
                 refine ckT (l := [6]) (e' := [(0, pt pb), (2, pt b1), (3, pt b3), (45, .slice p5 ((l ++ ([⟨p4, kk3, cv3⟩] : List CV)).length) c2), (46, pt b3)]) hA [] c0 ?_
                 clear hA fr; intro fr hA
                 refine tree_mem ?_ ?_
                 · refine (mS (off := 0) (vc := [.slice p5 ((l ++ ([⟨p4, kk3, cv3⟩] : List CV)).length) c2]) 1 hA hO ?_)
                   clear hO; intro w18 hO
                   refine ⟨(hO.sub [2, 4]), ?_⟩
                   replace hA := hA.sb (e' := [(0, pt pb), (2, pt b1), (3, pt b3)])
                   refine tree_fin ?_
                   refine inBlock_normal ?_
                   refine then_normal ?_
                   replace hO : Ow Try.prog (inT (RP pb tb CT sv j k n a er)) w w18 ([(b5, 49, [.slice p4 cv3.words.length kk3, str cv3.inp, str cv3.out, bl cv3.app]), (b3, 45, [.slice p5 ((l ++ ([⟨p4, kk3, cv3⟩] : List CV)).length) c2, bl false]), (b1, 45, [.slice none 0 0, bl false]), (pb, 66, [.slice (some (⟨tb, 2 * j4, none⟩ : Addr)) ((tks sv n4).length) k4, i64 ((a4 : Nat) : Int), i64 er4]), (tb, 68, CT)] ++ (T6 ++ (TL2 ++ (T5 ++ ([]))))) := hO
                   have hC1 : InC 9 (l ++ ([⟨p4, kk3, cv3⟩] : List CV)) (TL2 ++ T5) := InC.snoc (x := ⟨p4, kk3, cv3⟩) hT5 hTL2
                   replace hO : Ow Try.prog (inT (RP pb tb CT sv j k n a er)) w w18 ([(b5, 49, [.slice p4 cv3.words.length kk3, str cv3.inp, str cv3.out, bl cv3.app]), (b3, 45, [.slice p5 ((l ++ ([⟨p4, kk3, cv3⟩] : List CV)).length) c2, bl false]), (b1, 45, [.slice none 0 0, bl false]), (pb, 66, [.slice (some (⟨tb, 2 * j4, none⟩ : Addr)) ((tks sv n4).length) k4, i64 ((a4 : Nat) : Int), i64 er4]), (tb, 68, CT)] ++ (T6 ++ ((TL2 ++ T5) ++ ([])))) := hO.to (by first | rfl | (simp only [TP, apd]))
                   have hgc_ := fun q_ => (hgc3 q_).1
                   obtain ⟨g2, hg2, hlt2⟩ := meas (er := er4) (z := sv.size) (m := n4) (g := g) (fun q_ => by have := hgc_ q_; omega) (by omega)
                   exact ⟨_, by omega, l ++ ([⟨p4, kk3, cv3⟩] : List CV), j4, k4, n4, a4, er4, f, g2, p5, c2, T6, (TL2 ++ T5), rfl, hA.sub [0, 2, 3] (by kernel_rfl), (Ow.subP (A := [(b5, 49, [.slice p4 cv3.words.length kk3, str cv3.inp, str cv3.out, bl cv3.app]), (b3, 45, [.slice p5 ((l ++ ([⟨p4, kk3, cv3⟩] : List CV)).length) c2, bl false]), (b1, 45, [.slice none 0 0, bl false]), (pb, 66, [.slice (some (⟨tb, 2 * j4, none⟩ : Addr)) ((tks sv n4).length) k4, i64 ((a4 : Nat) : Int), i64 er4]), (tb, 68, CT)]) (A' := [(b3, 45, [.slice p5 ((l ++ ([⟨p4, kk3, cv3⟩] : List CV)).length) c2, bl false]), (b1, 45, [.slice none 0 0, bl false]), (pb, 66, [.slice (some (⟨tb, 2 * j4, none⟩ : Addr)) ((tks sv n4).length) k4, i64 ((a4 : Nat) : Int), i64 er4]), (tb, 68, CT)]) (B := T6 ++ ((TL2 ++ T5) ++ ([]))) hO (.cons _ (.cons_cons _ (.cons_cons _ (.cons_cons _ (.cons_cons _ .slnil)))))), hT6, hC1, hv4.pos, hg2, (fun q_ => by have := hgc_ q_; omega), (by rw [List.map_append]; first | exact jst_cmd hC (by omega) (by omega) (by omega) (by rintro ⟨q1, q2⟩; rw [List.length_map] at q1; first | omega | simp_all) hst3 | exact jst_lim hC (by omega) (by omega) (by omega) (by omega) (by assumption) hfe1 hst3), (by simp only [List.length_append, List.length_cons, List.length_nil]; by_cases q_ : er4 = 0; { have := hgc_ q_; exact .inl ⟨q_, by omega⟩ }; { exact .inr ⟨q_, by omega⟩ }), (by omega), (fun q_ => by have := hgc_ q_; omega), hv4, trivial⟩
                 exact trivial
               exact trivial
             exact trivial
           refine tree_mem ?_ ?_
           · refine (mN (l := [.slice p4 cv3.words.length kk3, str cv3.inp, str cv3.out, bl cv3.app]) (t := 49) (v := fun b => .slice (some ⟨b, 0, none⟩) 1 1) (d := 44) hA hO ?_)
             clear hA hO fr; intro fr w19 b6 hA hO
             refine ⟨(hO.sub [2, 4]), ?_⟩
             replace hA := hA.sb (e' := [(0, pt pb), (2, pt b1), (3, pt b3), (40, pt b3), (44, .slice (some ⟨b6, 0, none⟩) 1 1)])
             refine tree_mem ?_ ?_
             · refine (mQ (e' := [(0, pt pb), (2, pt b1), (3, pt b3), (41, .slice pL1 l.length cL1), (44, .slice (some ⟨b6, 0, none⟩) 1 1)]) hA [.slice pL1 l.length cL1] (cc (hO.l1 1 0 43 (.slice pL1 l.length cL1)) c0) ?_)
               clear hA fr; intro fr hA
               refine ⟨(hO.sub [2, 4]), ?_⟩
               replace hA := hA.sb (e' := [(0, pt pb), (2, pt b1), (3, pt b3), (41, .slice pL1 l.length cL1), (44, .slice (some ⟨b6, 0, none⟩) 1 1)])
               refine tree_mem ?_ ?_
               · replace hO : Ow Try.prog (inT (RP pb tb CT sv j k n a er)) w w19 ([(b6, 49, [.slice p4 cv3.words.length kk3, str cv3.inp, str cv3.out, bl cv3.app]), (b3, 45, [.slice pL1 l.length cL1, bl false]), (b1, 45, [.slice none 0 0, bl false]), (pb, 66, [.slice (some (⟨tb, 2 * j4, none⟩ : Addr)) ((tks sv n4).length) k4, i64 ((a4 : Nat) : Int), i64 er4]), (tb, 68, CT)] ++ (TL1 ++ (TL2 ++ (T5 ++ ([]))))) := hO
                 refine (mA (f := fC) (el := 49) (sz := 4) (bytes := 64) (p := pL1) (c := cL1) (l := l) (l' := ([⟨p4, kk3, cv3⟩] : List CV)) (T := TL1) (t := 43) (tx := 43) (ty := 43) (x := .slice (some ⟨b6, 0, none⟩) 1 1) (d := 45) [(b6, 49, [.slice p4 cv3.words.length kk3, str cv3.inp, str cv3.out, bl cv3.app]), (b3, 45, [.slice pL1 l.length cL1, bl false]), (b1, 45, [.slice none 0 0, bl false]), (pb, 66, [.slice (some (⟨tb, 2 * j4, none⟩ : Addr)) ((tks sv n4).length) k4, i64 ((a4 : Nat) : Int), i64 er4]), (tb, 68, CT)] (TL2 ++ (T5 ++ ([]))) encC hA hO hTL1 (Vw.src (e' := 49) encC ((hO.b 0).vw (off := 0) (xs := ([⟨p4, kk3, cv3⟩] : List CV)) (by kernel_rfl)) (by kernel_rfl)) (by first | omega | (simp only [List.length_append, List.length_cons, List.length_nil]; omega)) (by unfold maxLen; first | omega | (simp only [List.length_append, List.length_cons, List.length_nil]; omega)) ?_)
                 clear hA hO fr; intro fr w20 p6 c3 T7 hA hO hT7
                 refine ⟨(hO.sub [2, 4]), ?_⟩
                 replace hA := hA.sb (e' := [(0, pt pb), (2, pt b1), (3, pt b3), (45, .slice p6 ((l ++ ([⟨p4, kk3, cv3⟩] : List CV)).length) c3)])
                 refine ckT (l := [6]) (e' := [(0, pt pb), (2, pt b1), (3, pt b3), (45, .slice p6 ((l ++ ([⟨p4, kk3, cv3⟩] : List CV)).length) c3), (46, pt b3)]) hA [] c0 ?_
                 clear hA fr; intro fr hA
                 refine tree_mem ?_ ?_
                 · refine (mS (off := 0) (vc := [.slice p6 ((l ++ ([⟨p4, kk3, cv3⟩] : List CV)).length) c3]) 1 hA hO ?_)
                   clear hO; intro w21 hO
                   refine ⟨(hO.sub [2, 4]), ?_⟩
                   replace hA := hA.sb (e' := [(0, pt pb), (2, pt b1), (3, pt b3)])
                   refine tree_fin ?_
                   refine inBlock_normal ?_
                   refine then_normal ?_
                   replace hO : Ow Try.prog (inT (RP pb tb CT sv j k n a er)) w w21 ([(b6, 49, [.slice p4 cv3.words.length kk3, str cv3.inp, str cv3.out, bl cv3.app]), (b3, 45, [.slice p6 ((l ++ ([⟨p4, kk3, cv3⟩] : List CV)).length) c3, bl false]), (b1, 45, [.slice none 0 0, bl false]), (pb, 66, [.slice (some (⟨tb, 2 * j4, none⟩ : Addr)) ((tks sv n4).length) k4, i64 ((a4 : Nat) : Int), i64 er4]), (tb, 68, CT)] ++ (T7 ++ (TL2 ++ (T5 ++ ([]))))) := hO
                   have hC1 : InC 9 (l ++ ([⟨p4, kk3, cv3⟩] : List CV)) (TL2 ++ T5) := InC.snoc (x := ⟨p4, kk3, cv3⟩) hT5 hTL2
                   replace hO : Ow Try.prog (inT (RP pb tb CT sv j k n a er)) w w21 ([(b6, 49, [.slice p4 cv3.words.length kk3, str cv3.inp, str cv3.out, bl cv3.app]), (b3, 45, [.slice p6 ((l ++ ([⟨p4, kk3, cv3⟩] : List CV)).length) c3, bl false]), (b1, 45, [.slice none 0 0, bl false]), (pb, 66, [.slice (some (⟨tb, 2 * j4, none⟩ : Addr)) ((tks sv n4).length) k4, i64 ((a4 : Nat) : Int), i64 er4]), (tb, 68, CT)] ++ (T7 ++ ((TL2 ++ T5) ++ ([])))) := hO.to (by first | rfl | (simp only [TP, apd]))
                   have hgc_ := fun q_ => (hgc3 q_).1
                   obtain ⟨g2, hg2, hlt2⟩ := meas (er := er4) (z := sv.size) (m := n4) (g := g) (fun q_ => by have := hgc_ q_; omega) (by omega)
                   exact ⟨_, by omega, l ++ ([⟨p4, kk3, cv3⟩] : List CV), j4, k4, n4, a4, er4, f, g2, p6, c3, T7, (TL2 ++ T5), rfl, hA.sub [0, 2, 3] (by kernel_rfl), (Ow.subP (A := [(b6, 49, [.slice p4 cv3.words.length kk3, str cv3.inp, str cv3.out, bl cv3.app]), (b3, 45, [.slice p6 ((l ++ ([⟨p4, kk3, cv3⟩] : List CV)).length) c3, bl false]), (b1, 45, [.slice none 0 0, bl false]), (pb, 66, [.slice (some (⟨tb, 2 * j4, none⟩ : Addr)) ((tks sv n4).length) k4, i64 ((a4 : Nat) : Int), i64 er4]), (tb, 68, CT)]) (A' := [(b3, 45, [.slice p6 ((l ++ ([⟨p4, kk3, cv3⟩] : List CV)).length) c3, bl false]), (b1, 45, [.slice none 0 0, bl false]), (pb, 66, [.slice (some (⟨tb, 2 * j4, none⟩ : Addr)) ((tks sv n4).length) k4, i64 ((a4 : Nat) : Int), i64 er4]), (tb, 68, CT)]) (B := T7 ++ ((TL2 ++ T5) ++ ([]))) hO (.cons _ (.cons_cons _ (.cons_cons _ (.cons_cons _ (.cons_cons _ .slnil)))))), hT7, hC1, hv4.pos, hg2, (fun q_ => by have := hgc_ q_; omega), (by rw [List.map_append]; first | exact jst_cmd hC (by omega) (by omega) (by omega) (by rintro ⟨q1, q2⟩; rw [List.length_map] at q1; first | omega | simp_all) hst3 | exact jst_lim hC (by omega) (by omega) (by omega) (by omega) (by assumption) hfe1 hst3), (by simp only [List.length_append, List.length_cons, List.length_nil]; by_cases q_ : er4 = 0; { have := hgc_ q_; exact .inl ⟨q_, by omega⟩ }; { exact .inr ⟨q_, by omega⟩ }), (by omega), (fun q_ => by have := hgc_ q_; omega), hv4, trivial⟩
                 exact trivial
               exact trivial
             exact trivial
           exact trivial
         exact trivial
       rw [h4] at hA
       have h4p := begK_no h4
       refine cF hA ?_
       refine wp_skip ?_
       refine then_normal ?_
       have hS : Ow Try.prog (inT (RP pb tb CT sv j k n a er)) w _ [(b1, 45, [.slice none 0 0, bl false]), (tb, 68, CT)] := hO.sub [1, 3]
       refine rT (.q 0 (.q 2 (.m 1 (.m 3 (.m 4 (.m 5 (.q 6 (.m 7 .fin .non)) .non) .non) .non) (.m 3 (.m 1 (.m 4 (.m 5 (.q 6 (.m 7 .fin .non)) .non) .non) (.m 4 (.m 1 (.m 5 (.q 6 (.m 7 .fin .non)) .non) .non) .non)) .non)))) hS ?_
       intro w22 ho; replace hO := hO.st ho; clear ho
       refine ckT (l := [0, 2]) (e' := [(0, pt pb), (2, pt b1), (3, pt b3), (40, pt b3), (42, pt pb)]) hA [] c0 ?_
       clear hA fr; intro fr hA
       refine tree_mem ?_ ?_
       · refine (mQ (e' := [(0, pt pb), (2, pt b1), (3, pt b3), (41, .slice pL1 l.length cL1), (42, pt pb)]) hA [.slice pL1 l.length cL1] (cc (hO.l1 0 0 43 (.slice pL1 l.length cL1)) c0) ?_)
         clear hA fr; intro fr hA
         refine ⟨(hO.sub [1, 3]), ?_⟩
         replace hA := hA.sb (e' := [(0, pt pb), (2, pt b1), (3, pt b3), (41, .slice pL1 l.length cL1), (42, pt pb)])
         refine tree_mem ?_ ?_
         · refine (mC (f := 49) (args := [pt pb]) (d := (some 43)) hA Try.func49 ((rcommand_any pb tb toks CT sv j2 k2 n2 al el _ hv2 hs (Ow.self (A := [(b3, 45, [.slice pL1 l.length cL1, bl false]), (b1, 45, [.slice none 0 0, bl false])]) (T := RP pb tb CT sv j2 k2 n2 al el) (B := ([] ++ (TL1 ++ (TL2 ++ ([]))))) (hO.to (by first | rfl | (simp only [RP, apd])) : Ow Try.prog (inT (RP pb tb CT sv j k n a er)) w _ ([(b3, 45, [.slice pL1 l.length cL1, bl false]), (b1, 45, [.slice none 0 0, bl false])] ++ (RP pb tb CT sv j2 k2 n2 al el ++ (([] ++ (TL1 ++ (TL2 ++ ([])))))))))).mono ?_))
           rintro en w23 ⟨cv4, j5, k5, n5, a5, er5, p7, kk4, T8, rfl, hT8, hst4, hv5, hle4, hgc4, hW⟩
           refine ⟨_, rfl, ?_⟩
           clear hA fr; intro fr hA
           replace hO := Ow.pass2 (A := [(b3, 45, [.slice pL1 l.length cL1, bl false]), (b1, 45, [.slice none 0 0, bl false])]) (T := RP pb tb CT sv j2 k2 n2 al el) (B := ([] ++ (TL1 ++ (TL2 ++ ([]))))) (T' := RP pb tb CT sv j5 k5 n5 a5 er5) (T2 := T8) (hO.to (by first | rfl | (simp only [RP, apd])) : Ow Try.prog (inT (RP pb tb CT sv j k n a er)) w _ ([(b3, 45, [.slice pL1 l.length cL1, bl false]), (b1, 45, [.slice none 0 0, bl false])] ++ (RP pb tb CT sv j2 k2 n2 al el ++ (([] ++ (TL1 ++ (TL2 ++ ([])))))))) hW; clear hW
           replace hO : Ow Try.prog (inT (RP pb tb CT sv j k n a er)) w _ ([(b3, 45, [.slice pL1 l.length cL1, bl false]), (b1, 45, [.slice none 0 0, bl false]), (pb, 66, [.slice (some (⟨tb, 2 * j5, none⟩ : Addr)) ((tks sv n5).length) k5, i64 ((a5 : Nat) : Int), i64 er5]), (tb, 68, CT)] ++ (TL1 ++ (TL2 ++ (T8 ++ ([]))))) := hO.to (by first | rfl | (simp only [RP, apd]))
           have hp5a := tks_pos sv n5
           have hp5b := hv5.pos
           refine ⟨(hO.sub [1, 3]), ?_⟩
           replace hA := hA.sb (e' := [(0, pt pb), (2, pt b1), (3, pt b3), (41, .slice pL1 l.length cL1), (43, .agg #[.slice p7 cv4.words.length kk4, str cv4.inp, str cv4.out, bl cv4.app])])
           refine tree_mem ?_ ?_
           · refine (mN (l := [.slice p7 cv4.words.length kk4, str cv4.inp, str cv4.out, bl cv4.app]) (t := 49) (v := fun b => .slice (some ⟨b, 0, none⟩) 1 1) (d := 44) hA hO ?_)
             clear hA hO fr; intro fr w24 b7 hA hO
             refine ⟨(hO.sub [2, 4]), ?_⟩
             replace hA := hA.sb (e' := [(0, pt pb), (2, pt b1), (3, pt b3), (41, .slice pL1 l.length cL1), (44, .slice (some ⟨b7, 0, none⟩) 1 1)])
             refine tree_mem ?_ ?_
             · replace hO : Ow Try.prog (inT (RP pb tb CT sv j k n a er)) w w24 ([(b7, 49, [.slice p7 cv4.words.length kk4, str cv4.inp, str cv4.out, bl cv4.app]), (b3, 45, [.slice pL1 l.length cL1, bl false]), (b1, 45, [.slice none 0 0, bl false]), (pb, 66, [.slice (some (⟨tb, 2 * j5, none⟩ : Addr)) ((tks sv n5).length) k5, i64 ((a5 : Nat) : Int), i64 er5]), (tb, 68, CT)] ++ (TL1 ++ (TL2 ++ (T8 ++ ([]))))) := hO
               refine (mA (f := fC) (el := 49) (sz := 4) (bytes := 64) (p := pL1) (c := cL1) (l := l) (l' := ([⟨p7, kk4, cv4⟩] : List CV)) (T := TL1) (t := 43) (tx := 43) (ty := 43) (x := .slice (some ⟨b7, 0, none⟩) 1 1) (d := 45) [(b7, 49, [.slice p7 cv4.words.length kk4, str cv4.inp, str cv4.out, bl cv4.app]), (b3, 45, [.slice pL1 l.length cL1, bl false]), (b1, 45, [.slice none 0 0, bl false]), (pb, 66, [.slice (some (⟨tb, 2 * j5, none⟩ : Addr)) ((tks sv n5).length) k5, i64 ((a5 : Nat) : Int), i64 er5]), (tb, 68, CT)] (TL2 ++ (T8 ++ ([]))) encC hA hO hTL1 (Vw.src (e' := 49) encC ((hO.b 0).vw (off := 0) (xs := ([⟨p7, kk4, cv4⟩] : List CV)) (by kernel_rfl)) (by kernel_rfl)) (by first | omega | (simp only [List.length_append, List.length_cons, List.length_nil]; omega)) (by unfold maxLen; first | omega | (simp only [List.length_append, List.length_cons, List.length_nil]; omega)) ?_)
               clear hA hO fr; intro fr w25 p8 c4 T9 hA hO hT9
               refine ⟨(hO.sub [2, 4]), ?_⟩
               replace hA := hA.sb (e' := [(0, pt pb), (2, pt b1), (3, pt b3), (45, .slice p8 ((l ++ ([⟨p7, kk4, cv4⟩] : List CV)).length) c4)])
               refine ckT (l := [6]) (e' := [(0, pt pb), (2, pt b1), (3, pt b3), (45, .slice p8 ((l ++ ([⟨p7, kk4, cv4⟩] : List CV)).length) c4), (46, pt b3)]) hA [] c0 ?_
               clear hA fr; intro fr hA
               refine tree_mem ?_ ?_
               · refine (mS (off := 0) (vc := [.slice p8 ((l ++ ([⟨p7, kk4, cv4⟩] : List CV)).length) c4]) 1 hA hO ?_)
                 clear hO; intro w26 hO
                 refine ⟨(hO.sub [2, 4]), ?_⟩
                 replace hA := hA.sb (e' := [(0, pt pb), (2, pt b1), (3, pt b3)])
                 refine tree_fin ?_
                 refine inBlock_normal ?_
                 refine then_normal ?_
                 replace hO : Ow Try.prog (inT (RP pb tb CT sv j k n a er)) w w26 ([(b7, 49, [.slice p7 cv4.words.length kk4, str cv4.inp, str cv4.out, bl cv4.app]), (b3, 45, [.slice p8 ((l ++ ([⟨p7, kk4, cv4⟩] : List CV)).length) c4, bl false]), (b1, 45, [.slice none 0 0, bl false]), (pb, 66, [.slice (some (⟨tb, 2 * j5, none⟩ : Addr)) ((tks sv n5).length) k5, i64 ((a5 : Nat) : Int), i64 er5]), (tb, 68, CT)] ++ (T9 ++ (TL2 ++ (T8 ++ ([]))))) := hO
                 have hC1 : InC 9 (l ++ ([⟨p7, kk4, cv4⟩] : List CV)) (TL2 ++ T8) := InC.snoc (x := ⟨p7, kk4, cv4⟩) hT8 hTL2
                 replace hO : Ow Try.prog (inT (RP pb tb CT sv j k n a er)) w w26 ([(b7, 49, [.slice p7 cv4.words.length kk4, str cv4.inp, str cv4.out, bl cv4.app]), (b3, 45, [.slice p8 ((l ++ ([⟨p7, kk4, cv4⟩] : List CV)).length) c4, bl false]), (b1, 45, [.slice none 0 0, bl false]), (pb, 66, [.slice (some (⟨tb, 2 * j5, none⟩ : Addr)) ((tks sv n5).length) k5, i64 ((a5 : Nat) : Int), i64 er5]), (tb, 68, CT)] ++ (T9 ++ ((TL2 ++ T8) ++ ([])))) := hO.to (by first | rfl | (simp only [TP, apd]))
                 have hgc_ := fun q_ => (hgc4 q_).1
                 obtain ⟨g2, hg2, hlt2⟩ := meas (er := er5) (z := sv.size) (m := n5) (g := g) (fun q_ => by have := hgc_ q_; omega) (by omega)
                 exact ⟨_, by omega, l ++ ([⟨p7, kk4, cv4⟩] : List CV), j5, k5, n5, a5, er5, f, g2, p8, c4, T9, (TL2 ++ T8), rfl, hA.sub [0, 2, 3] (by kernel_rfl), (Ow.subP (A := [(b7, 49, [.slice p7 cv4.words.length kk4, str cv4.inp, str cv4.out, bl cv4.app]), (b3, 45, [.slice p8 ((l ++ ([⟨p7, kk4, cv4⟩] : List CV)).length) c4, bl false]), (b1, 45, [.slice none 0 0, bl false]), (pb, 66, [.slice (some (⟨tb, 2 * j5, none⟩ : Addr)) ((tks sv n5).length) k5, i64 ((a5 : Nat) : Int), i64 er5]), (tb, 68, CT)]) (A' := [(b3, 45, [.slice p8 ((l ++ ([⟨p7, kk4, cv4⟩] : List CV)).length) c4, bl false]), (b1, 45, [.slice none 0 0, bl false]), (pb, 66, [.slice (some (⟨tb, 2 * j5, none⟩ : Addr)) ((tks sv n5).length) k5, i64 ((a5 : Nat) : Int), i64 er5]), (tb, 68, CT)]) (B := T9 ++ ((TL2 ++ T8) ++ ([]))) hO (.cons _ (.cons_cons _ (.cons_cons _ (.cons_cons _ (.cons_cons _ .slnil)))))), hT9, hC1, hv5.pos, hg2, (fun q_ => by have := hgc_ q_; omega), (by rw [List.map_append]; first | exact jst_cmd hC (by omega) (by omega) (by omega) (by rintro ⟨q1, q2⟩; rw [List.length_map] at q1; first | omega | simp_all) hst4 | exact jst_lim hC (by omega) (by omega) (by omega) (by omega) (by assumption) hfe1 hst4), (by simp only [List.length_append, List.length_cons, List.length_nil]; by_cases q_ : er5 = 0; { have := hgc_ q_; exact .inl ⟨q_, by omega⟩ }; { exact .inr ⟨q_, by omega⟩ }), (by omega), (fun q_ => by have := hgc_ q_; omega), hv5, trivial⟩
               exact trivial
             exact trivial
           exact trivial
         exact trivial
       refine tree_mem ?_ ?_
       · refine (mC (f := 49) (args := [pt pb]) (d := (some 43)) hA Try.func49 ((rcommand_any pb tb toks CT sv j2 k2 n2 al el _ hv2 hs (Ow.self (A := [(b3, 45, [.slice pL1 l.length cL1, bl false]), (b1, 45, [.slice none 0 0, bl false])]) (T := RP pb tb CT sv j2 k2 n2 al el) (B := ([] ++ (TL1 ++ (TL2 ++ ([]))))) (hO.to (by first | rfl | (simp only [RP, apd])) : Ow Try.prog (inT (RP pb tb CT sv j k n a er)) w _ ([(b3, 45, [.slice pL1 l.length cL1, bl false]), (b1, 45, [.slice none 0 0, bl false])] ++ (RP pb tb CT sv j2 k2 n2 al el ++ (([] ++ (TL1 ++ (TL2 ++ ([])))))))))).mono ?_))
         rintro en w27 ⟨cv5, j6, k6, n6, a6, er6, p9, kk5, T10, rfl, hT10, hst5, hv6, hle5, hgc5, hW⟩
         refine ⟨_, rfl, ?_⟩
         clear hA fr; intro fr hA
         replace hO := Ow.pass2 (A := [(b3, 45, [.slice pL1 l.length cL1, bl false]), (b1, 45, [.slice none 0 0, bl false])]) (T := RP pb tb CT sv j2 k2 n2 al el) (B := ([] ++ (TL1 ++ (TL2 ++ ([]))))) (T' := RP pb tb CT sv j6 k6 n6 a6 er6) (T2 := T10) (hO.to (by first | rfl | (simp only [RP, apd])) : Ow Try.prog (inT (RP pb tb CT sv j k n a er)) w _ ([(b3, 45, [.slice pL1 l.length cL1, bl false]), (b1, 45, [.slice none 0 0, bl false])] ++ (RP pb tb CT sv j2 k2 n2 al el ++ (([] ++ (TL1 ++ (TL2 ++ ([])))))))) hW; clear hW
         replace hO : Ow Try.prog (inT (RP pb tb CT sv j k n a er)) w _ ([(b3, 45, [.slice pL1 l.length cL1, bl false]), (b1, 45, [.slice none 0 0, bl false]), (pb, 66, [.slice (some (⟨tb, 2 * j6, none⟩ : Addr)) ((tks sv n6).length) k6, i64 ((a6 : Nat) : Int), i64 er6]), (tb, 68, CT)] ++ (TL1 ++ (TL2 ++ (T10 ++ ([]))))) := hO.to (by first | rfl | (simp only [RP, apd]))
         have hp6a := tks_pos sv n6
         have hp6b := hv6.pos
         refine ⟨(hO.sub [1, 3]), ?_⟩
         replace hA := hA.sb (e' := [(0, pt pb), (2, pt b1), (3, pt b3), (40, pt b3), (43, .agg #[.slice p9 cv5.words.length kk5, str cv5.inp, str cv5.out, bl cv5.app])])
         refine tree_mem ?_ ?_
         · refine (mQ (e' := [(0, pt pb), (2, pt b1), (3, pt b3), (41, .slice pL1 l.length cL1), (43, .agg #[.slice p9 cv5.words.length kk5, str cv5.inp, str cv5.out, bl cv5.app])]) hA [.slice pL1 l.length cL1] (cc (hO.l1 0 0 43 (.slice pL1 l.length cL1)) c0) ?_)
           clear hA fr; intro fr hA
           refine ⟨(hO.sub [1, 3]), ?_⟩
           replace hA := hA.sb (e' := [(0, pt pb), (2, pt b1), (3, pt b3), (41, .slice pL1 l.length cL1), (43, .agg #[.slice p9 cv5.words.length kk5, str cv5.inp, str cv5.out, bl cv5.app])])
           refine tree_mem ?_ ?_
           · refine (mN (l := [.slice p9 cv5.words.length kk5, str cv5.inp, str cv5.out, bl cv5.app]) (t := 49) (v := fun b => .slice (some ⟨b, 0, none⟩) 1 1) (d := 44) hA hO ?_)
             clear hA hO fr; intro fr w28 b8 hA hO
             refine ⟨(hO.sub [2, 4]), ?_⟩
             replace hA := hA.sb (e' := [(0, pt pb), (2, pt b1), (3, pt b3), (41, .slice pL1 l.length cL1), (44, .slice (some ⟨b8, 0, none⟩) 1 1)])
             refine tree_mem ?_ ?_
             · replace hO : Ow Try.prog (inT (RP pb tb CT sv j k n a er)) w w28 ([(b8, 49, [.slice p9 cv5.words.length kk5, str cv5.inp, str cv5.out, bl cv5.app]), (b3, 45, [.slice pL1 l.length cL1, bl false]), (b1, 45, [.slice none 0 0, bl false]), (pb, 66, [.slice (some (⟨tb, 2 * j6, none⟩ : Addr)) ((tks sv n6).length) k6, i64 ((a6 : Nat) : Int), i64 er6]), (tb, 68, CT)] ++ (TL1 ++ (TL2 ++ (T10 ++ ([]))))) := hO
               refine (mA (f := fC) (el := 49) (sz := 4) (bytes := 64) (p := pL1) (c := cL1) (l := l) (l' := ([⟨p9, kk5, cv5⟩] : List CV)) (T := TL1) (t := 43) (tx := 43) (ty := 43) (x := .slice (some ⟨b8, 0, none⟩) 1 1) (d := 45) [(b8, 49, [.slice p9 cv5.words.length kk5, str cv5.inp, str cv5.out, bl cv5.app]), (b3, 45, [.slice pL1 l.length cL1, bl false]), (b1, 45, [.slice none 0 0, bl false]), (pb, 66, [.slice (some (⟨tb, 2 * j6, none⟩ : Addr)) ((tks sv n6).length) k6, i64 ((a6 : Nat) : Int), i64 er6]), (tb, 68, CT)] (TL2 ++ (T10 ++ ([]))) encC hA hO hTL1 (Vw.src (e' := 49) encC ((hO.b 0).vw (off := 0) (xs := ([⟨p9, kk5, cv5⟩] : List CV)) (by kernel_rfl)) (by kernel_rfl)) (by first | omega | (simp only [List.length_append, List.length_cons, List.length_nil]; omega)) (by unfold maxLen; first | omega | (simp only [List.length_append, List.length_cons, List.length_nil]; omega)) ?_)
               clear hA hO fr; intro fr w29 p10 c5 T11 hA hO hT11
               refine ⟨(hO.sub [2, 4]), ?_⟩
               replace hA := hA.sb (e' := [(0, pt pb), (2, pt b1), (3, pt b3), (45, .slice p10 ((l ++ ([⟨p9, kk5, cv5⟩] : List CV)).length) c5)])
               refine ckT (l := [6]) (e' := [(0, pt pb), (2, pt b1), (3, pt b3), (45, .slice p10 ((l ++ ([⟨p9, kk5, cv5⟩] : List CV)).length) c5), (46, pt b3)]) hA [] c0 ?_
               clear hA fr; intro fr hA
               refine tree_mem ?_ ?_
               · refine (mS (off := 0) (vc := [.slice p10 ((l ++ ([⟨p9, kk5, cv5⟩] : List CV)).length) c5]) 1 hA hO ?_)
                 clear hO; intro w30 hO
                 refine ⟨(hO.sub [2, 4]), ?_⟩
                 replace hA := hA.sb (e' := [(0, pt pb), (2, pt b1), (3, pt b3)])
                 refine tree_fin ?_
                 refine inBlock_normal ?_
                 refine then_normal ?_
                 replace hO : Ow Try.prog (inT (RP pb tb CT sv j k n a er)) w w30 ([(b8, 49, [.slice p9 cv5.words.length kk5, str cv5.inp, str cv5.out, bl cv5.app]), (b3, 45, [.slice p10 ((l ++ ([⟨p9, kk5, cv5⟩] : List CV)).length) c5, bl false]), (b1, 45, [.slice none 0 0, bl false]), (pb, 66, [.slice (some (⟨tb, 2 * j6, none⟩ : Addr)) ((tks sv n6).length) k6, i64 ((a6 : Nat) : Int), i64 er6]), (tb, 68, CT)] ++ (T11 ++ (TL2 ++ (T10 ++ ([]))))) := hO
                 have hC1 : InC 9 (l ++ ([⟨p9, kk5, cv5⟩] : List CV)) (TL2 ++ T10) := InC.snoc (x := ⟨p9, kk5, cv5⟩) hT10 hTL2
                 replace hO : Ow Try.prog (inT (RP pb tb CT sv j k n a er)) w w30 ([(b8, 49, [.slice p9 cv5.words.length kk5, str cv5.inp, str cv5.out, bl cv5.app]), (b3, 45, [.slice p10 ((l ++ ([⟨p9, kk5, cv5⟩] : List CV)).length) c5, bl false]), (b1, 45, [.slice none 0 0, bl false]), (pb, 66, [.slice (some (⟨tb, 2 * j6, none⟩ : Addr)) ((tks sv n6).length) k6, i64 ((a6 : Nat) : Int), i64 er6]), (tb, 68, CT)] ++ (T11 ++ ((TL2 ++ T10) ++ ([])))) := hO.to (by first | rfl | (simp only [TP, apd]))
                 have hgc_ := fun q_ => (hgc5 q_).1
                 obtain ⟨g2, hg2, hlt2⟩ := meas (er := er6) (z := sv.size) (m := n6) (g := g) (fun q_ => by have := hgc_ q_; omega) (by omega)
                 exact ⟨_, by omega, l ++ ([⟨p9, kk5, cv5⟩] : List CV), j6, k6, n6, a6, er6, f, g2, p10, c5, T11, (TL2 ++ T10), rfl, hA.sub [0, 2, 3] (by kernel_rfl), (Ow.subP (A := [(b8, 49, [.slice p9 cv5.words.length kk5, str cv5.inp, str cv5.out, bl cv5.app]), (b3, 45, [.slice p10 ((l ++ ([⟨p9, kk5, cv5⟩] : List CV)).length) c5, bl false]), (b1, 45, [.slice none 0 0, bl false]), (pb, 66, [.slice (some (⟨tb, 2 * j6, none⟩ : Addr)) ((tks sv n6).length) k6, i64 ((a6 : Nat) : Int), i64 er6]), (tb, 68, CT)]) (A' := [(b3, 45, [.slice p10 ((l ++ ([⟨p9, kk5, cv5⟩] : List CV)).length) c5, bl false]), (b1, 45, [.slice none 0 0, bl false]), (pb, 66, [.slice (some (⟨tb, 2 * j6, none⟩ : Addr)) ((tks sv n6).length) k6, i64 ((a6 : Nat) : Int), i64 er6]), (tb, 68, CT)]) (B := T11 ++ ((TL2 ++ T10) ++ ([]))) hO (.cons _ (.cons_cons _ (.cons_cons _ (.cons_cons _ (.cons_cons _ .slnil)))))), hT11, hC1, hv6.pos, hg2, (fun q_ => by have := hgc_ q_; omega), (by rw [List.map_append]; first | exact jst_cmd hC (by omega) (by omega) (by omega) (by rintro ⟨q1, q2⟩; rw [List.length_map] at q1; first | omega | simp_all) hst5 | exact jst_lim hC (by omega) (by omega) (by omega) (by omega) (by assumption) hfe1 hst5), (by simp only [List.length_append, List.length_cons, List.length_nil]; by_cases q_ : er6 = 0; { have := hgc_ q_; exact .inl ⟨q_, by omega⟩ }; { exact .inr ⟨q_, by omega⟩ }), (by omega), (fun q_ => by have := hgc_ q_; omega), hv6, trivial⟩
               exact trivial
             exact trivial
           exact trivial
         refine tree_mem ?_ ?_
         · refine (mN (l := [.slice p9 cv5.words.length kk5, str cv5.inp, str cv5.out, bl cv5.app]) (t := 49) (v := fun b => .slice (some ⟨b, 0, none⟩) 1 1) (d := 44) hA hO ?_)
           clear hA hO fr; intro fr w31 b9 hA hO
           refine ⟨(hO.sub [2, 4]), ?_⟩
           replace hA := hA.sb (e' := [(0, pt pb), (2, pt b1), (3, pt b3), (40, pt b3), (44, .slice (some ⟨b9, 0, none⟩) 1 1)])
           refine tree_mem ?_ ?_
           · refine (mQ (e' := [(0, pt pb), (2, pt b1), (3, pt b3), (41, .slice pL1 l.length cL1), (44, .slice (some ⟨b9, 0, none⟩) 1 1)]) hA [.slice pL1 l.length cL1] (cc (hO.l1 1 0 43 (.slice pL1 l.length cL1)) c0) ?_)
             clear hA fr; intro fr hA
             refine ⟨(hO.sub [2, 4]), ?_⟩
             replace hA := hA.sb (e' := [(0, pt pb), (2, pt b1), (3, pt b3), (41, .slice pL1 l.length cL1), (44, .slice (some ⟨b9, 0, none⟩) 1 1)])
             refine tree_mem ?_ ?_
             · replace hO : Ow Try.prog (inT (RP pb tb CT sv j k n a er)) w w31 ([(b9, 49, [.slice p9 cv5.words.length kk5, str cv5.inp, str cv5.out, bl cv5.app]), (b3, 45, [.slice pL1 l.length cL1, bl false]), (b1, 45, [.slice none 0 0, bl false]), (pb, 66, [.slice (some (⟨tb, 2 * j6, none⟩ : Addr)) ((tks sv n6).length) k6, i64 ((a6 : Nat) : Int), i64 er6]), (tb, 68, CT)] ++ (TL1 ++ (TL2 ++ (T10 ++ ([]))))) := hO
               refine (mA (f := fC) (el := 49) (sz := 4) (bytes := 64) (p := pL1) (c := cL1) (l := l) (l' := ([⟨p9, kk5, cv5⟩] : List CV)) (T := TL1) (t := 43) (tx := 43) (ty := 43) (x := .slice (some ⟨b9, 0, none⟩) 1 1) (d := 45) [(b9, 49, [.slice p9 cv5.words.length kk5, str cv5.inp, str cv5.out, bl cv5.app]), (b3, 45, [.slice pL1 l.length cL1, bl false]), (b1, 45, [.slice none 0 0, bl false]), (pb, 66, [.slice (some (⟨tb, 2 * j6, none⟩ : Addr)) ((tks sv n6).length) k6, i64 ((a6 : Nat) : Int), i64 er6]), (tb, 68, CT)] (TL2 ++ (T10 ++ ([]))) encC hA hO hTL1 (Vw.src (e' := 49) encC ((hO.b 0).vw (off := 0) (xs := ([⟨p9, kk5, cv5⟩] : List CV)) (by kernel_rfl)) (by kernel_rfl)) (by first | omega | (simp only [List.length_append, List.length_cons, List.length_nil]; omega)) (by unfold maxLen; first | omega | (simp only [List.length_append, List.length_cons, List.length_nil]; omega)) ?_)
               clear hA hO fr; intro fr w32 p11 c6 T12 hA hO hT12
               refine ⟨(hO.sub [2, 4]), ?_⟩
               replace hA := hA.sb (e' := [(0, pt pb), (2, pt b1), (3, pt b3), (45, .slice p11 ((l ++ ([⟨p9, kk5, cv5⟩] : List CV)).length) c6)])
               refine ckT (l := [6]) (e' := [(0, pt pb), (2, pt b1), (3, pt b3), (45, .slice p11 ((l ++ ([⟨p9, kk5, cv5⟩] : List CV)).length) c6), (46, pt b3)]) hA [] c0 ?_
               clear hA fr; intro fr hA
               refine tree_mem ?_ ?_
               · refine (mS (off := 0) (vc := [.slice p11 ((l ++ ([⟨p9, kk5, cv5⟩] : List CV)).length) c6]) 1 hA hO ?_)
                 clear hO; intro w33 hO
                 refine ⟨(hO.sub [2, 4]), ?_⟩
                 replace hA := hA.sb (e' := [(0, pt pb), (2, pt b1), (3, pt b3)])
                 refine tree_fin ?_
                 refine inBlock_normal ?_
                 refine then_normal ?_
                 replace hO : Ow Try.prog (inT (RP pb tb CT sv j k n a er)) w w33 ([(b9, 49, [.slice p9 cv5.words.length kk5, str cv5.inp, str cv5.out, bl cv5.app]), (b3, 45, [.slice p11 ((l ++ ([⟨p9, kk5, cv5⟩] : List CV)).length) c6, bl false]), (b1, 45, [.slice none 0 0, bl false]), (pb, 66, [.slice (some (⟨tb, 2 * j6, none⟩ : Addr)) ((tks sv n6).length) k6, i64 ((a6 : Nat) : Int), i64 er6]), (tb, 68, CT)] ++ (T12 ++ (TL2 ++ (T10 ++ ([]))))) := hO
                 have hC1 : InC 9 (l ++ ([⟨p9, kk5, cv5⟩] : List CV)) (TL2 ++ T10) := InC.snoc (x := ⟨p9, kk5, cv5⟩) hT10 hTL2
                 replace hO : Ow Try.prog (inT (RP pb tb CT sv j k n a er)) w w33 ([(b9, 49, [.slice p9 cv5.words.length kk5, str cv5.inp, str cv5.out, bl cv5.app]), (b3, 45, [.slice p11 ((l ++ ([⟨p9, kk5, cv5⟩] : List CV)).length) c6, bl false]), (b1, 45, [.slice none 0 0, bl false]), (pb, 66, [.slice (some (⟨tb, 2 * j6, none⟩ : Addr)) ((tks sv n6).length) k6, i64 ((a6 : Nat) : Int), i64 er6]), (tb, 68, CT)] ++ (T12 ++ ((TL2 ++ T10) ++ ([])))) := hO.to (by first | rfl | (simp only [TP, apd]))
                 have hgc_ := fun q_ => (hgc5 q_).1
                 obtain ⟨g2, hg2, hlt2⟩ := meas (er := er6) (z := sv.size) (m := n6) (g := g) (fun q_ => by have := hgc_ q_; omega) (by omega)
                 exact ⟨_, by omega, l ++ ([⟨p9, kk5, cv5⟩] : List CV), j6, k6, n6, a6, er6, f, g2, p11, c6, T12, (TL2 ++ T10), rfl, hA.sub [0, 2, 3] (by kernel_rfl), (Ow.subP (A := [(b9, 49, [.slice p9 cv5.words.length kk5, str cv5.inp, str cv5.out, bl cv5.app]), (b3, 45, [.slice p11 ((l ++ ([⟨p9, kk5, cv5⟩] : List CV)).length) c6, bl false]), (b1, 45, [.slice none 0 0, bl false]), (pb, 66, [.slice (some (⟨tb, 2 * j6, none⟩ : Addr)) ((tks sv n6).length) k6, i64 ((a6 : Nat) : Int), i64 er6]), (tb, 68, CT)]) (A' := [(b3, 45, [.slice p11 ((l ++ ([⟨p9, kk5, cv5⟩] : List CV)).length) c6, bl false]), (b1, 45, [.slice none 0 0, bl false]), (pb, 66, [.slice (some (⟨tb, 2 * j6, none⟩ : Addr)) ((tks sv n6).length) k6, i64 ((a6 : Nat) : Int), i64 er6]), (tb, 68, CT)]) (B := T12 ++ ((TL2 ++ T10) ++ ([]))) hO (.cons _ (.cons_cons _ (.cons_cons _ (.cons_cons _ (.cons_cons _ .slnil)))))), hT12, hC1, hv6.pos, hg2, (fun q_ => by have := hgc_ q_; omega), (by rw [List.map_append]; first | exact jst_cmd hC (by omega) (by omega) (by omega) (by rintro ⟨q1, q2⟩; rw [List.length_map] at q1; first | omega | simp_all) hst5 | exact jst_lim hC (by omega) (by omega) (by omega) (by omega) (by assumption) hfe1 hst5), (by simp only [List.length_append, List.length_cons, List.length_nil]; by_cases q_ : er6 = 0; { have := hgc_ q_; exact .inl ⟨q_, by omega⟩ }; { exact .inr ⟨q_, by omega⟩ }), (by omega), (fun q_ => by have := hgc_ q_; omega), hv6, trivial⟩
               exact trivial
             exact trivial
           exact trivial
         exact trivial
       exact trivial
     rw [h3] at hA
     have h3p := ne_of_beq_false h3
     refine ck (l := (rg 5 8)) (r := []) (e' := [(0, pt pb), (2, pt b1), (3, pt b3), (37, bl false)]) hA [] c0 ?_
     clear hA fr; intro fr hA
     refine end_ops ?_
     refine then_normal ?_
     refine cF hA ?_
     refine wp_skip ?_
     refine then_normal ?_
     have hS : Ow Try.prog (inT (RP pb tb CT sv j k n a er)) w _ [(b1, 45, [.slice none 0 0, bl false]), (tb, 68, CT)] := hO.sub [1, 3]
     refine rT (.q 0 (.q 2 (.m 1 (.m 3 (.m 4 (.m 5 (.q 6 (.m 7 .fin .non)) .non) .non) .non) (.m 3 (.m 1 (.m 4 (.m 5 (.q 6 (.m 7 .fin .non)) .non) .non) (.m 4 (.m 1 (.m 5 (.q 6 (.m 7 .fin .non)) .non) .non) .non)) .non)))) hS ?_
     intro w34 ho; replace hO := hO.st ho; clear ho
     refine ckT (l := [0, 2]) (e' := [(0, pt pb), (2, pt b1), (3, pt b3), (40, pt b3), (42, pt pb)]) hA [] c0 ?_
     clear hA fr; intro fr hA
     refine tree_mem ?_ ?_
     · refine (mQ (e' := [(0, pt pb), (2, pt b1), (3, pt b3), (41, .slice pL1 l.length cL1), (42, pt pb)]) hA [.slice pL1 l.length cL1] (cc (hO.l1 0 0 43 (.slice pL1 l.length cL1)) c0) ?_)
       clear hA fr; intro fr hA
       refine ⟨(hO.sub [1, 3]), ?_⟩
       replace hA := hA.sb (e' := [(0, pt pb), (2, pt b1), (3, pt b3), (41, .slice pL1 l.length cL1), (42, pt pb)])
       refine tree_mem ?_ ?_
       · refine (mC (f := 49) (args := [pt pb]) (d := (some 43)) hA Try.func49 ((rcommand_any pb tb toks CT sv j2 k2 n2 al el _ hv2 hs (Ow.self (A := [(b3, 45, [.slice pL1 l.length cL1, bl false]), (b1, 45, [.slice none 0 0, bl false])]) (T := RP pb tb CT sv j2 k2 n2 al el) (B := ([] ++ (TL1 ++ (TL2 ++ ([]))))) (hO.to (by first | rfl | (simp only [RP, apd])) : Ow Try.prog (inT (RP pb tb CT sv j k n a er)) w _ ([(b3, 45, [.slice pL1 l.length cL1, bl false]), (b1, 45, [.slice none 0 0, bl false])] ++ (RP pb tb CT sv j2 k2 n2 al el ++ (([] ++ (TL1 ++ (TL2 ++ ([])))))))))).mono ?_))
         rintro en w35 ⟨cv6, j7, k7, n7, a7, er7, p12, kk6, T13, rfl, hT13, hst6, hv7, hle6, hgc6, hW⟩
         refine ⟨_, rfl, ?_⟩
         clear hA fr; intro fr hA
         replace hO := Ow.pass2 (A := [(b3, 45, [.slice pL1 l.length cL1, bl false]), (b1, 45, [.slice none 0 0, bl false])]) (T := RP pb tb CT sv j2 k2 n2 al el) (B := ([] ++ (TL1 ++ (TL2 ++ ([]))))) (T' := RP pb tb CT sv j7 k7 n7 a7 er7) (T2 := T13) (hO.to (by first | rfl | (simp only [RP, apd])) : Ow Try.prog (inT (RP pb tb CT sv j k n a er)) w _ ([(b3, 45, [.slice pL1 l.length cL1, bl false]), (b1, 45, [.slice none 0 0, bl false])] ++ (RP pb tb CT sv j2 k2 n2 al el ++ (([] ++ (TL1 ++ (TL2 ++ ([])))))))) hW; clear hW
         replace hO : Ow Try.prog (inT (RP pb tb CT sv j k n a er)) w _ ([(b3, 45, [.slice pL1 l.length cL1, bl false]), (b1, 45, [.slice none 0 0, bl false]), (pb, 66, [.slice (some (⟨tb, 2 * j7, none⟩ : Addr)) ((tks sv n7).length) k7, i64 ((a7 : Nat) : Int), i64 er7]), (tb, 68, CT)] ++ (TL1 ++ (TL2 ++ (T13 ++ ([]))))) := hO.to (by first | rfl | (simp only [RP, apd]))
         have hp7a := tks_pos sv n7
         have hp7b := hv7.pos
         refine ⟨(hO.sub [1, 3]), ?_⟩
         replace hA := hA.sb (e' := [(0, pt pb), (2, pt b1), (3, pt b3), (41, .slice pL1 l.length cL1), (43, .agg #[.slice p12 cv6.words.length kk6, str cv6.inp, str cv6.out, bl cv6.app])])
         refine tree_mem ?_ ?_
         · refine (mN (l := [.slice p12 cv6.words.length kk6, str cv6.inp, str cv6.out, bl cv6.app]) (t := 49) (v := fun b => .slice (some ⟨b, 0, none⟩) 1 1) (d := 44) hA hO ?_)
           clear hA hO fr; intro fr w36 b10 hA hO
           refine ⟨(hO.sub [2, 4]), ?_⟩
           replace hA := hA.sb (e' := [(0, pt pb), (2, pt b1), (3, pt b3), (41, .slice pL1 l.length cL1), (44, .slice (some ⟨b10, 0, none⟩) 1 1)])
           refine tree_mem ?_ ?_
           · replace hO : Ow Try.prog (inT (RP pb tb CT sv j k n a er)) w w36 ([(b10, 49, [.slice p12 cv6.words.length kk6, str cv6.inp, str cv6.out, bl cv6.app]), (b3, 45, [.slice pL1 l.length cL1, bl false]), (b1, 45, [.slice none 0 0, bl false]), (pb, 66, [.slice (some (⟨tb, 2 * j7, none⟩ : Addr)) ((tks sv n7).length) k7, i64 ((a7 : Nat) : Int), i64 er7]), (tb, 68, CT)] ++ (TL1 ++ (TL2 ++ (T13 ++ ([]))))) := hO
             refine (mA (f := fC) (el := 49) (sz := 4) (bytes := 64) (p := pL1) (c := cL1) (l := l) (l' := ([⟨p12, kk6, cv6⟩] : List CV)) (T := TL1) (t := 43) (tx := 43) (ty := 43) (x := .slice (some ⟨b10, 0, none⟩) 1 1) (d := 45) [(b10, 49, [.slice p12 cv6.words.length kk6, str cv6.inp, str cv6.out, bl cv6.app]), (b3, 45, [.slice pL1 l.length cL1, bl false]), (b1, 45, [.slice none 0 0, bl false]), (pb, 66, [.slice (some (⟨tb, 2 * j7, none⟩ : Addr)) ((tks sv n7).length) k7, i64 ((a7 : Nat) : Int), i64 er7]), (tb, 68, CT)] (TL2 ++ (T13 ++ ([]))) encC hA hO hTL1 (Vw.src (e' := 49) encC ((hO.b 0).vw (off := 0) (xs := ([⟨p12, kk6, cv6⟩] : List CV)) (by kernel_rfl)) (by kernel_rfl)) (by first | omega | (simp only [List.length_append, List.length_cons, List.length_nil]; omega)) (by unfold maxLen; first | omega | (simp only [List.length_append, List.length_cons, List.length_nil]; omega)) ?_)
             clear hA hO fr; intro fr w37 p13 c7 T14 hA hO hT14
             refine ⟨(hO.sub [2, 4]), ?_⟩
             replace hA := hA.sb (e' := [(0, pt pb), (2, pt b1), (3, pt b3), (45, .slice p13 ((l ++ ([⟨p12, kk6, cv6⟩] : List CV)).length) c7)])
             refine ckT (l := [6]) (e' := [(0, pt pb), (2, pt b1), (3, pt b3), (45, .slice p13 ((l ++ ([⟨p12, kk6, cv6⟩] : List CV)).length) c7), (46, pt b3)]) hA [] c0 ?_
             clear hA fr; intro fr hA
             refine tree_mem ?_ ?_
             · refine (mS (off := 0) (vc := [.slice p13 ((l ++ ([⟨p12, kk6, cv6⟩] : List CV)).length) c7]) 1 hA hO ?_)
               clear hO; intro w38 hO
               refine ⟨(hO.sub [2, 4]), ?_⟩
               replace hA := hA.sb (e' := [(0, pt pb), (2, pt b1), (3, pt b3)])
               refine tree_fin ?_
               refine inBlock_normal ?_
               refine then_normal ?_
               replace hO : Ow Try.prog (inT (RP pb tb CT sv j k n a er)) w w38 ([(b10, 49, [.slice p12 cv6.words.length kk6, str cv6.inp, str cv6.out, bl cv6.app]), (b3, 45, [.slice p13 ((l ++ ([⟨p12, kk6, cv6⟩] : List CV)).length) c7, bl false]), (b1, 45, [.slice none 0 0, bl false]), (pb, 66, [.slice (some (⟨tb, 2 * j7, none⟩ : Addr)) ((tks sv n7).length) k7, i64 ((a7 : Nat) : Int), i64 er7]), (tb, 68, CT)] ++ (T14 ++ (TL2 ++ (T13 ++ ([]))))) := hO
               have hC1 : InC 9 (l ++ ([⟨p12, kk6, cv6⟩] : List CV)) (TL2 ++ T13) := InC.snoc (x := ⟨p12, kk6, cv6⟩) hT13 hTL2
               replace hO : Ow Try.prog (inT (RP pb tb CT sv j k n a er)) w w38 ([(b10, 49, [.slice p12 cv6.words.length kk6, str cv6.inp, str cv6.out, bl cv6.app]), (b3, 45, [.slice p13 ((l ++ ([⟨p12, kk6, cv6⟩] : List CV)).length) c7, bl false]), (b1, 45, [.slice none 0 0, bl false]), (pb, 66, [.slice (some (⟨tb, 2 * j7, none⟩ : Addr)) ((tks sv n7).length) k7, i64 ((a7 : Nat) : Int), i64 er7]), (tb, 68, CT)] ++ (T14 ++ ((TL2 ++ T13) ++ ([])))) := hO.to (by first | rfl | (simp only [TP, apd]))
               have hgc_ := fun q_ => (hgc6 q_).1
               obtain ⟨g2, hg2, hlt2⟩ := meas (er := er7) (z := sv.size) (m := n7) (g := g) (fun q_ => by have := hgc_ q_; omega) (by omega)
               exact ⟨_, by omega, l ++ ([⟨p12, kk6, cv6⟩] : List CV), j7, k7, n7, a7, er7, f, g2, p13, c7, T14, (TL2 ++ T13), rfl, hA.sub [0, 2, 3] (by kernel_rfl), (Ow.subP (A := [(b10, 49, [.slice p12 cv6.words.length kk6, str cv6.inp, str cv6.out, bl cv6.app]), (b3, 45, [.slice p13 ((l ++ ([⟨p12, kk6, cv6⟩] : List CV)).length) c7, bl false]), (b1, 45, [.slice none 0 0, bl false]), (pb, 66, [.slice (some (⟨tb, 2 * j7, none⟩ : Addr)) ((tks sv n7).length) k7, i64 ((a7 : Nat) : Int), i64 er7]), (tb, 68, CT)]) (A' := [(b3, 45, [.slice p13 ((l ++ ([⟨p12, kk6, cv6⟩] : List CV)).length) c7, bl false]), (b1, 45, [.slice none 0 0, bl false]), (pb, 66, [.slice (some (⟨tb, 2 * j7, none⟩ : Addr)) ((tks sv n7).length) k7, i64 ((a7 : Nat) : Int), i64 er7]), (tb, 68, CT)]) (B := T14 ++ ((TL2 ++ T13) ++ ([]))) hO (.cons _ (.cons_cons _ (.cons_cons _ (.cons_cons _ (.cons_cons _ .slnil)))))), hT14, hC1, hv7.pos, hg2, (fun q_ => by have := hgc_ q_; omega), (by rw [List.map_append]; first | exact jst_cmd hC (by omega) (by omega) (by omega) (by rintro ⟨q1, q2⟩; rw [List.length_map] at q1; first | omega | simp_all) hst6 | exact jst_lim hC (by omega) (by omega) (by omega) (by omega) (by assumption) hfe1 hst6), (by simp only [List.length_append, List.length_cons, List.length_nil]; by_cases q_ : er7 = 0; { have := hgc_ q_; exact .inl ⟨q_, by omega⟩ }; { exact .inr ⟨q_, by omega⟩ }), (by omega), (fun q_ => by have := hgc_ q_; omega), hv7, trivial⟩
             exact trivial
           exact trivial
         exact trivial
       exact trivial
     refine tree_mem ?_ ?_
     · refine (mC (f := 49) (args := [pt pb]) (d := (some 43)) hA Try.func49 ((rcommand_any pb tb toks CT sv j2 k2 n2 al el _ hv2 hs (Ow.self (A := [(b3, 45, [.slice pL1 l.length cL1, bl false]), (b1, 45, [.slice none 0 0, bl false])]) (T := RP pb tb CT sv j2 k2 n2 al el) (B := ([] ++ (TL1 ++ (TL2 ++ ([]))))) (hO.to (by first | rfl | (simp only [RP, apd])) : Ow Try.prog (inT (RP pb tb CT sv j k n a er)) w _ ([(b3, 45, [.slice pL1 l.length cL1, bl false]), (b1, 45, [.slice none 0 0, bl false])] ++ (RP pb tb CT sv j2 k2 n2 al el ++ (([] ++ (TL1 ++ (TL2 ++ ([])))))))))).mono ?_))
       rintro en w39 ⟨cv7, j8, k8, n8, a8, er8, p14, kk7, T15, rfl, hT15, hst7, hv8, hle7, hgc7, hW⟩
       refine ⟨_, rfl, ?_⟩
       clear hA fr; intro fr hA
       replace hO := Ow.pass2 (A := [(b3, 45, [.slice pL1 l.length cL1, bl false]), (b1, 45, [.slice none 0 0, bl false])]) (T := RP pb tb CT sv j2 k2 n2 al el) (B := ([] ++ (TL1 ++ (TL2 ++ ([]))))) (T' := RP pb tb CT sv j8 k8 n8 a8 er8) (T2 := T15) (hO.to (by first | rfl | (simp only [RP, apd])) : Ow Try.prog (inT (RP pb tb CT sv j k n a er)) w _ ([(b3, 45, [.slice pL1 l.length cL1, bl false]), (b1, 45, [.slice none 0 0, bl false])] ++ (RP pb tb CT sv j2 k2 n2 al el ++ (([] ++ (TL1 ++ (TL2 ++ ([])))))))) hW; clear hW
       replace hO : Ow Try.prog (inT (RP pb tb CT sv j k n a er)) w _ ([(b3, 45, [.slice pL1 l.length cL1, bl false]), (b1, 45, [.slice none 0 0, bl false]), (pb, 66, [.slice (some (⟨tb, 2 * j8, none⟩ : Addr)) ((tks sv n8).length) k8, i64 ((a8 : Nat) : Int), i64 er8]), (tb, 68, CT)] ++ (TL1 ++ (TL2 ++ (T15 ++ ([]))))) := hO.to (by first | rfl | (simp only [RP, apd]))
       have hp8a := tks_pos sv n8
       have hp8b := hv8.pos
       refine ⟨(hO.sub [1, 3]), ?_⟩
       replace hA := hA.sb (e' := [(0, pt pb), (2, pt b1), (3, pt b3), (40, pt b3), (43, .agg #[.slice p14 cv7.words.length kk7, str cv7.inp, str cv7.out, bl cv7.app])])
       refine tree_mem ?_ ?_
       · refine (mQ (e' := [(0, pt pb), (2, pt b1), (3, pt b3), (41, .slice pL1 l.length cL1), (43, .agg #[.slice p14 cv7.words.length kk7, str cv7.inp, str cv7.out, bl cv7.app])]) hA [.slice pL1 l.length cL1] (cc (hO.l1 0 0 43 (.slice pL1 l.length cL1)) c0) ?_)
         clear hA fr; intro fr hA
         refine ⟨(hO.sub [1, 3]), ?_⟩
         replace hA := hA.sb (e' := [(0, pt pb), (2, pt b1), (3, pt b3), (41, .slice pL1 l.length cL1), (43, .agg #[.slice p14 cv7.words.length kk7, str cv7.inp, str cv7.out, bl cv7.app])])
         refine tree_mem ?_ ?_
         · refine (mN (l := [.slice p14 cv7.words.length kk7, str cv7.inp, str cv7.out, bl cv7.app]) (t := 49) (v := fun b => .slice (some ⟨b, 0, none⟩) 1 1) (d := 44) hA hO ?_)
           clear hA hO fr; intro fr w40 b11 hA hO
           refine ⟨(hO.sub [2, 4]), ?_⟩
           replace hA := hA.sb (e' := [(0, pt pb), (2, pt b1), (3, pt b3), (41, .slice pL1 l.length cL1), (44, .slice (some ⟨b11, 0, none⟩) 1 1)])
           refine tree_mem ?_ ?_
           · replace hO : Ow Try.prog (inT (RP pb tb CT sv j k n a er)) w w40 ([(b11, 49, [.slice p14 cv7.words.length kk7, str cv7.inp, str cv7.out, bl cv7.app]), (b3, 45, [.slice pL1 l.length cL1, bl false]), (b1, 45, [.slice none 0 0, bl false]), (pb, 66, [.slice (some (⟨tb, 2 * j8, none⟩ : Addr)) ((tks sv n8).length) k8, i64 ((a8 : Nat) : Int), i64 er8]), (tb, 68, CT)] ++ (TL1 ++ (TL2 ++ (T15 ++ ([]))))) := hO
             refine (mA (f := fC) (el := 49) (sz := 4) (bytes := 64) (p := pL1) (c := cL1) (l := l) (l' := ([⟨p14, kk7, cv7⟩] : List CV)) (T := TL1) (t := 43) (tx := 43) (ty := 43) (x := .slice (some ⟨b11, 0, none⟩) 1 1) (d := 45) [(b11, 49, [.slice p14 cv7.words.length kk7, str cv7.inp, str cv7.out, bl cv7.app]), (b3, 45, [.slice pL1 l.length cL1, bl false]), (b1, 45, [.slice none 0 0, bl false]), (pb, 66, [.slice (some (⟨tb, 2 * j8, none⟩ : Addr)) ((tks sv n8).length) k8, i64 ((a8 : Nat) : Int), i64 er8]), (tb, 68, CT)] (TL2 ++ (T15 ++ ([]))) encC hA hO hTL1 (Vw.src (e' := 49) encC ((hO.b 0).vw (off := 0) (xs := ([⟨p14, kk7, cv7⟩] : List CV)) (by kernel_rfl)) (by kernel_rfl)) (by first | omega | (simp only [List.length_append, List.length_cons, List.length_nil]; omega)) (by unfold maxLen; first | omega | (simp only [List.length_append, List.length_cons, List.length_nil]; omega)) ?_)
             clear hA hO fr; intro fr w41 p15 c8 T16 hA hO hT16
             refine ⟨(hO.sub [2, 4]), ?_⟩
             replace hA := hA.sb (e' := [(0, pt pb), (2, pt b1), (3, pt b3), (45, .slice p15 ((l ++ ([⟨p14, kk7, cv7⟩] : List CV)).length) c8)])
             refine ckT (l := [6]) (e' := [(0, pt pb), (2, pt b1), (3, pt b3), (45, .slice p15 ((l ++ ([⟨p14, kk7, cv7⟩] : List CV)).length) c8), (46, pt b3)]) hA [] c0 ?_
             clear hA fr; intro fr hA
             refine tree_mem ?_ ?_
             · refine (mS (off := 0) (vc := [.slice p15 ((l ++ ([⟨p14, kk7, cv7⟩] : List CV)).length) c8]) 1 hA hO ?_)
               clear hO; intro w42 hO
               refine ⟨(hO.sub [2, 4]), ?_⟩
               replace hA := hA.sb (e' := [(0, pt pb), (2, pt b1), (3, pt b3)])
               refine tree_fin ?_
               refine inBlock_normal ?_
               refine then_normal ?_
               replace hO : Ow Try.prog (inT (RP pb tb CT sv j k n a er)) w w42 ([(b11, 49, [.slice p14 cv7.words.length kk7, str cv7.inp, str cv7.out, bl cv7.app]), (b3, 45, [.slice p15 ((l ++ ([⟨p14, kk7, cv7⟩] : List CV)).length) c8, bl false]), (b1, 45, [.slice none 0 0, bl false]), (pb, 66, [.slice (some (⟨tb, 2 * j8, none⟩ : Addr)) ((tks sv n8).length) k8, i64 ((a8 : Nat) : Int), i64 er8]), (tb, 68, CT)] ++ (T16 ++ (TL2 ++ (T15 ++ ([]))))) := hO
               have hC1 : InC 9 (l ++ ([⟨p14, kk7, cv7⟩] : List CV)) (TL2 ++ T15) := InC.snoc (x := ⟨p14, kk7, cv7⟩) hT15 hTL2
               replace hO : Ow Try.prog (inT (RP pb tb CT sv j k n a er)) w w42 ([(b11, 49, [.slice p14 cv7.words.length kk7, str cv7.inp, str cv7.out, bl cv7.app]), (b3, 45, [.slice p15 ((l ++ ([⟨p14, kk7, cv7⟩] : List CV)).length) c8, bl false]), (b1, 45, [.slice none 0 0, bl false]), (pb, 66, [.slice (some (⟨tb, 2 * j8, none⟩ : Addr)) ((tks sv n8).length) k8, i64 ((a8 : Nat) : Int), i64 er8]), (tb, 68, CT)] ++ (T16 ++ ((TL2 ++ T15) ++ ([])))) := hO.to (by first | rfl | (simp only [TP, apd]))
               have hgc_ := fun q_ => (hgc7 q_).1
               obtain ⟨g2, hg2, hlt2⟩ := meas (er := er8) (z := sv.size) (m := n8) (g := g) (fun q_ => by have := hgc_ q_; omega) (by omega)
               exact ⟨_, by omega, l ++ ([⟨p14, kk7, cv7⟩] : List CV), j8, k8, n8, a8, er8, f, g2, p15, c8, T16, (TL2 ++ T15), rfl, hA.sub [0, 2, 3] (by kernel_rfl), (Ow.subP (A := [(b11, 49, [.slice p14 cv7.words.length kk7, str cv7.inp, str cv7.out, bl cv7.app]), (b3, 45, [.slice p15 ((l ++ ([⟨p14, kk7, cv7⟩] : List CV)).length) c8, bl false]), (b1, 45, [.slice none 0 0, bl false]), (pb, 66, [.slice (some (⟨tb, 2 * j8, none⟩ : Addr)) ((tks sv n8).length) k8, i64 ((a8 : Nat) : Int), i64 er8]), (tb, 68, CT)]) (A' := [(b3, 45, [.slice p15 ((l ++ ([⟨p14, kk7, cv7⟩] : List CV)).length) c8, bl false]), (b1, 45, [.slice none 0 0, bl false]), (pb, 66, [.slice (some (⟨tb, 2 * j8, none⟩ : Addr)) ((tks sv n8).length) k8, i64 ((a8 : Nat) : Int), i64 er8]), (tb, 68, CT)]) (B := T16 ++ ((TL2 ++ T15) ++ ([]))) hO (.cons _ (.cons_cons _ (.cons_cons _ (.cons_cons _ (.cons_cons _ .slnil)))))), hT16, hC1, hv8.pos, hg2, (fun q_ => by have := hgc_ q_; omega), (by rw [List.map_append]; first | exact jst_cmd hC (by omega) (by omega) (by omega) (by rintro ⟨q1, q2⟩; rw [List.length_map] at q1; first | omega | simp_all) hst7 | exact jst_lim hC (by omega) (by omega) (by omega) (by omega) (by assumption) hfe1 hst7), (by simp only [List.length_append, List.length_cons, List.length_nil]; by_cases q_ : er8 = 0; { have := hgc_ q_; exact .inl ⟨q_, by omega⟩ }; { exact .inr ⟨q_, by omega⟩ }), (by omega), (fun q_ => by have := hgc_ q_; omega), hv8, trivial⟩
             exact trivial
           exact trivial
         exact trivial
       refine tree_mem ?_ ?_
       · refine (mN (l := [.slice p14 cv7.words.length kk7, str cv7.inp, str cv7.out, bl cv7.app]) (t := 49) (v := fun b => .slice (some ⟨b, 0, none⟩) 1 1) (d := 44) hA hO ?_)
         clear hA hO fr; intro fr w43 b12 hA hO
         refine ⟨(hO.sub [2, 4]), ?_⟩
         replace hA := hA.sb (e' := [(0, pt pb), (2, pt b1), (3, pt b3), (40, pt b3), (44, .slice (some ⟨b12, 0, none⟩) 1 1)])
         refine tree_mem ?_ ?_
         · refine (mQ (e' := [(0, pt pb), (2, pt b1), (3, pt b3), (41, .slice pL1 l.length cL1), (44, .slice (some ⟨b12, 0, none⟩) 1 1)]) hA [.slice pL1 l.length cL1] (cc (hO.l1 1 0 43 (.slice pL1 l.length cL1)) c0) ?_)
           clear hA fr; intro fr hA
           refine ⟨(hO.sub [2, 4]), ?_⟩
           replace hA := hA.sb (e' := [(0, pt pb), (2, pt b1), (3, pt b3), (41, .slice pL1 l.length cL1), (44, .slice (some ⟨b12, 0, none⟩) 1 1)])
           refine tree_mem ?_ ?_
           · replace hO : Ow Try.prog (inT (RP pb tb CT sv j k n a er)) w w43 ([(b12, 49, [.slice p14 cv7.words.length kk7, str cv7.inp, str cv7.out, bl cv7.app]), (b3, 45, [.slice pL1 l.length cL1, bl false]), (b1, 45, [.slice none 0 0, bl false]), (pb, 66, [.slice (some (⟨tb, 2 * j8, none⟩ : Addr)) ((tks sv n8).length) k8, i64 ((a8 : Nat) : Int), i64 er8]), (tb, 68, CT)] ++ (TL1 ++ (TL2 ++ (T15 ++ ([]))))) := hO
             refine (mA (f := fC) (el := 49) (sz := 4) (bytes := 64) (p := pL1) (c := cL1) (l := l) (l' := ([⟨p14, kk7, cv7⟩] : List CV)) (T := TL1) (t := 43) (tx := 43) (ty := 43) (x := .slice (some ⟨b12, 0, none⟩) 1 1) (d := 45) [(b12, 49, [.slice p14 cv7.words.length kk7, str cv7.inp, str cv7.out, bl cv7.app]), (b3, 45, [.slice pL1 l.length cL1, bl false]), (b1, 45, [.slice none 0 0, bl false]), (pb, 66, [.slice (some (⟨tb, 2 * j8, none⟩ : Addr)) ((tks sv n8).length) k8, i64 ((a8 : Nat) : Int), i64 er8]), (tb, 68, CT)] (TL2 ++ (T15 ++ ([]))) encC hA hO hTL1 (Vw.src (e' := 49) encC ((hO.b 0).vw (off := 0) (xs := ([⟨p14, kk7, cv7⟩] : List CV)) (by kernel_rfl)) (by kernel_rfl)) (by first | omega | (simp only [List.length_append, List.length_cons, List.length_nil]; omega)) (by unfold maxLen; first | omega | (simp only [List.length_append, List.length_cons, List.length_nil]; omega)) ?_)
             clear hA hO fr; intro fr w44 p16 c9 T17 hA hO hT17
             refine ⟨(hO.sub [2, 4]), ?_⟩
             replace hA := hA.sb (e' := [(0, pt pb), (2, pt b1), (3, pt b3), (45, .slice p16 ((l ++ ([⟨p14, kk7, cv7⟩] : List CV)).length) c9)])
             refine ckT (l := [6]) (e' := [(0, pt pb), (2, pt b1), (3, pt b3), (45, .slice p16 ((l ++ ([⟨p14, kk7, cv7⟩] : List CV)).length) c9), (46, pt b3)]) hA [] c0 ?_
             clear hA fr; intro fr hA
             refine tree_mem ?_ ?_
             · refine (mS (off := 0) (vc := [.slice p16 ((l ++ ([⟨p14, kk7, cv7⟩] : List CV)).length) c9]) 1 hA hO ?_)
               clear hO; intro w45 hO
               refine ⟨(hO.sub [2, 4]), ?_⟩
               replace hA := hA.sb (e' := [(0, pt pb), (2, pt b1), (3, pt b3)])
               refine tree_fin ?_
               refine inBlock_normal ?_
               refine then_normal ?_
               replace hO : Ow Try.prog (inT (RP pb tb CT sv j k n a er)) w w45 ([(b12, 49, [.slice p14 cv7.words.length kk7, str cv7.inp, str cv7.out, bl cv7.app]), (b3, 45, [.slice p16 ((l ++ ([⟨p14, kk7, cv7⟩] : List CV)).length) c9, bl false]), (b1, 45, [.slice none 0 0, bl false]), (pb, 66, [.slice (some (⟨tb, 2 * j8, none⟩ : Addr)) ((tks sv n8).length) k8, i64 ((a8 : Nat) : Int), i64 er8]), (tb, 68, CT)] ++ (T17 ++ (TL2 ++ (T15 ++ ([]))))) := hO
               have hC1 : InC 9 (l ++ ([⟨p14, kk7, cv7⟩] : List CV)) (TL2 ++ T15) := InC.snoc (x := ⟨p14, kk7, cv7⟩) hT15 hTL2
               replace hO : Ow Try.prog (inT (RP pb tb CT sv j k n a er)) w w45 ([(b12, 49, [.slice p14 cv7.words.length kk7, str cv7.inp, str cv7.out, bl cv7.app]), (b3, 45, [.slice p16 ((l ++ ([⟨p14, kk7, cv7⟩] : List CV)).length) c9, bl false]), (b1, 45, [.slice none 0 0, bl false]), (pb, 66, [.slice (some (⟨tb, 2 * j8, none⟩ : Addr)) ((tks sv n8).length) k8, i64 ((a8 : Nat) : Int), i64 er8]), (tb, 68, CT)] ++ (T17 ++ ((TL2 ++ T15) ++ ([])))) := hO.to (by first | rfl | (simp only [TP, apd]))
               have hgc_ := fun q_ => (hgc7 q_).1
               obtain ⟨g2, hg2, hlt2⟩ := meas (er := er8) (z := sv.size) (m := n8) (g := g) (fun q_ => by have := hgc_ q_; omega) (by omega)
               exact ⟨_, by omega, l ++ ([⟨p14, kk7, cv7⟩] : List CV), j8, k8, n8, a8, er8, f, g2, p16, c9, T17, (TL2 ++ T15), rfl, hA.sub [0, 2, 3] (by kernel_rfl), (Ow.subP (A := [(b12, 49, [.slice p14 cv7.words.length kk7, str cv7.inp, str cv7.out, bl cv7.app]), (b3, 45, [.slice p16 ((l ++ ([⟨p14, kk7, cv7⟩] : List CV)).length) c9, bl false]), (b1, 45, [.slice none 0 0, bl false]), (pb, 66, [.slice (some (⟨tb, 2 * j8, none⟩ : Addr)) ((tks sv n8).length) k8, i64 ((a8 : Nat) : Int), i64 er8]), (tb, 68, CT)]) (A' := [(b3, 45, [.slice p16 ((l ++ ([⟨p14, kk7, cv7⟩] : List CV)).length) c9, bl false]), (b1, 45, [.slice none 0 0, bl false]), (pb, 66, [.slice (some (⟨tb, 2 * j8, none⟩ : Addr)) ((tks sv n8).length) k8, i64 ((a8 : Nat) : Int), i64 er8]), (tb, 68, CT)]) (B := T17 ++ ((TL2 ++ T15) ++ ([]))) hO (.cons _ (.cons_cons _ (.cons_cons _ (.cons_cons _ (.cons_cons _ .slnil)))))), hT17, hC1, hv8.pos, hg2, (fun q_ => by have := hgc_ q_; omega), (by rw [List.map_append]; first | exact jst_cmd hC (by omega) (by omega) (by omega) (by rintro ⟨q1, q2⟩; rw [List.length_map] at q1; first | omega | simp_all) hst7 | exact jst_lim hC (by omega) (by omega) (by omega) (by omega) (by assumption) hfe1 hst7), (by simp only [List.length_append, List.length_cons, List.length_nil]; by_cases q_ : er8 = 0; { have := hgc_ q_; exact .inl ⟨q_, by omega⟩ }; { exact .inr ⟨q_, by omega⟩ }), (by omega), (fun q_ => by have := hgc_ q_; omega), hv8, trivial⟩
             exact trivial
           exact trivial
         exact trivial
       exact trivial
     exact trivial
   rw [h2] at hA
   have h2p := of_decide_eq_false h2
   refine cF hA ?_
   refine wp_exit ?_
   refine then_exit ?_
   refine then_exit ?_
   refine inBlock_exit ?_
   refine then_normal ?_
   refine sR (l := [0, 1]) ?_
   refine ck (l := [0]) (r := [1]) (e' := [(2, pt b1), (47, .agg #[.slice pL1 l.length cL1, bl false])]) hA [.agg #[.slice pL1 l.length cL1, bl false]] (cc (hO.ln 0 0 45 [.slice pL1 l.length cL1, bl false]) c0) ?_
   clear hA fr; intro fr hA
   refine wpOps_cons' (mS (off := 0) (vc := [.slice pL1 l.length cL1, bl false]) 1 hA hO ?_)
   clear hO; intro w46 hO
   replace hA := hA.sb (e' := [(2, pt b1)])
   refine end_ops ?_
   refine then_normal ?_
   refine wp_ret ?_
   refine cR (cs := [some (⟨b1, 0, none⟩, 45)]) (us := [.agg #[.slice pL1 l.length cL1, bl false]]) hA [.agg #[.slice pL1 l.length cL1, bl false]] ⟨(hO.ln 1 0 45 [.slice pL1 l.length cL1, bl false]), trivial⟩ ?_
   first | exact ⟨l, jl, kl, m, al, el, _, _, _, _, rfl, hTL1, hTL2, (.inl ⟨by omega, jst_end hC (by omega) (by omega)⟩), hvl, by omega, hgt2, ((Ow.subP (A := [(b3, 45, [.slice pL1 l.length cL1, bl false]), (b1, 45, [.slice pL1 l.length cL1, bl false]), (pb, 66, [.slice (some (⟨tb, 2 * jl, none⟩ : Addr)) ((tks sv m).length) kl, i64 ((al : Nat) : Int), i64 el]), (tb, 68, CT)]) (A' := [(pb, 66, [.slice (some (⟨tb, 2 * jl, none⟩ : Addr)) ((tks sv m).length) kl, i64 ((al : Nat) : Int), i64 el]), (tb, 68, CT)]) (B := TL1 ++ (TL2 ++ ([]))) hO (.cons _ (.cons _ (.cons_cons _ (.cons_cons _ .slnil)))))).to (by simp only [List.append_nil])⟩ | exact ⟨l, jl, kl, m, al, el, _, _, _, _, rfl, hTL1, hTL2, (jst_err hC (by omega)), hvl, by omega, hgt2, ((Ow.subP (A := [(b3, 45, [.slice pL1 l.length cL1, bl false]), (b1, 45, [.slice pL1 l.length cL1, bl false]), (pb, 66, [.slice (some (⟨tb, 2 * jl, none⟩ : Addr)) ((tks sv m).length) kl, i64 ((al : Nat) : Int), i64 el]), (tb, 68, CT)]) (A' := [(pb, 66, [.slice (some (⟨tb, 2 * jl, none⟩ : Addr)) ((tks sv m).length) kl, i64 ((al : Nat) : Int), i64 el]), (tb, 68, CT)]) (B := TL1 ++ (TL2 ++ ([]))) hO (.cons _ (.cons _ (.cons_cons _ (.cons_cons _ .slnil)))))).to (by simp only [List.append_nil])⟩
 rw [h1] at hA
 have h1p := ne_of_beq_false h1
 refine ck (l := (rg 6 9)) (r := []) (e' := [(0, pt pb), (2, pt b1), (3, pt b3), (22, bl false)]) hA [] c0 ?_
 clear hA fr; intro fr hA
 refine end_ops ?_
 refine then_normal ?_
 refine cF hA ?_
 refine wp_exit ?_
 refine then_exit ?_
 refine then_exit ?_
 refine inBlock_exit ?_
 refine then_normal ?_
 refine sR (l := [0, 1]) ?_
 refine ck (l := [0]) (r := [1]) (e' := [(2, pt b1), (47, .agg #[.slice pL1 l.length cL1, bl false])]) hA [.agg #[.slice pL1 l.length cL1, bl false]] (cc (hO.ln 0 0 45 [.slice pL1 l.length cL1, bl false]) c0) ?_
 clear hA fr; intro fr hA
 refine wpOps_cons' (mS (off := 0) (vc := [.slice pL1 l.length cL1, bl false]) 1 hA hO ?_)
 clear hO; intro w47 hO
 replace hA := hA.sb (e' := [(2, pt b1)])
 refine end_ops ?_
 refine then_normal ?_
 refine wp_ret ?_
 refine cR (cs := [some (⟨b1, 0, none⟩, 45)]) (us := [.agg #[.slice pL1 l.length cL1, bl false]]) hA [.agg #[.slice pL1 l.length cL1, bl false]] ⟨(hO.ln 1 0 45 [.slice pL1 l.length cL1, bl false]), trivial⟩ ?_
 first | exact ⟨l, jl, kl, m, al, el, _, _, _, _, rfl, hTL1, hTL2, (.inl ⟨by omega, jst_end hC (by omega) (by omega)⟩), hvl, by omega, hgt2, ((Ow.subP (A := [(b3, 45, [.slice pL1 l.length cL1, bl false]), (b1, 45, [.slice pL1 l.length cL1, bl false]), (pb, 66, [.slice (some (⟨tb, 2 * jl, none⟩ : Addr)) ((tks sv m).length) kl, i64 ((al : Nat) : Int), i64 el]), (tb, 68, CT)]) (A' := [(pb, 66, [.slice (some (⟨tb, 2 * jl, none⟩ : Addr)) ((tks sv m).length) kl, i64 ((al : Nat) : Int), i64 el]), (tb, 68, CT)]) (B := TL1 ++ (TL2 ++ ([]))) hO (.cons _ (.cons _ (.cons_cons _ (.cons_cons _ .slnil)))))).to (by simp only [List.append_nil])⟩ | exact ⟨l, jl, kl, m, al, el, _, _, _, _, rfl, hTL1, hTL2, (jst_err hC (by omega)), hvl, by omega, hgt2, ((Ow.subP (A := [(b3, 45, [.slice pL1 l.length cL1, bl false]), (b1, 45, [.slice pL1 l.length cL1, bl false]), (pb, 66, [.slice (some (⟨tb, 2 * jl, none⟩ : Addr)) ((tks sv m).length) kl, i64 ((al : Nat) : Int), i64 el]), (tb, 68, CT)]) (A' := [(pb, 66, [.slice (some (⟨tb, 2 * jl, none⟩ : Addr)) ((tks sv m).length) kl, i64 ((al : Nat) : Int), i64 el]), (tb, 68, CT)]) (B := TL1 ++ (TL2 ++ ([]))) hO (.cons _ (.cons _ (.cons_cons _ (.cons_cons _ .slnil)))))).to (by simp only [List.append_nil])⟩

end Go.Proofs.Ytfhcpegemapbkaa
