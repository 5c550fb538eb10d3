/- The layer command: the reference: command. -/
import Derived.Test.YtfhcpegemapbkaaRpars
import Derived.Test.YtfhcpegemapbkaaParsd
set_option linter.unusedVariables false
set_option linter.unusedSimpArgs false
set_option maxRecDepth 10000
namespace Go.Proofs.Ytfhcpegemapbkaa
open Go Go.Shelf Go.RowKit Go.Proofs Go.Proofs.Sx

theorem kd_lt {s : ByteArray} {n : Nat} (h : kd s n ≠ 0) : n < s.size := by have := kd_spec s n; omega
theorem meas {er : Int} {z m g : Nat} (h : er = 0 → z - m + 1 < g) (h0 : 0 < g) : ∃ g', ((er = 0 ∧ g' = z - m + 1) ∨ (er ≠ 0 ∧ g' = 0)) ∧ g' < g := by
 by_cases he : er = 0
 · exact ⟨_, .inl ⟨he, rfl⟩, h he⟩
 exact ⟨0, .inr ⟨he, rfl⟩, h0⟩
theorem meas0 (er : Int) (z m : Nat) : ∃ g', ((er = 0 ∧ g' = z - m + 1) ∨ (er ≠ 0 ∧ g' = 0)) := by
 by_cases he : er = 0
 · exact ⟨_, .inl ⟨he, rfl⟩⟩
 exact ⟨0, .inr ⟨he, rfl⟩⟩
def FE (n a a' : Nat) (er er' c : Int) : Prop := (er = 0 ∧ a' = n ∧ er' = c) ∨ (er ≠ 0 ∧ a' = a ∧ er' = er)
theorem St.err {α : Type} {v : α} {n' a a' : Nat} {er er' : Int} {r : PR α} (h : St (r0 a er r) v n' a' er') (he : er ≠ 0) : er' = er ∧ a' = a := by
 rw [r0_no he] at h
 rcases h with ⟨_, q⟩ | ⟨_, q⟩
 · cases q
 cases q; exact ⟨rfl, rfl⟩
/-- Where the parser of a command stands. -/
def cst (s : ByteArray) (R : PR CmdL) (c : CmdL) (f m a : Nat) (er : Int) : Prop := (er = 0 ∧ cmdF true s f c m = R) ∨ (er ≠ 0 ∧ R = .error (a, er))
section
variable {s : ByteArray} {R : PR CmdL} {c c2 : CmdL} {f m m1 m' a a1 a' : Nat} {er er1 er' : Int} {v : ByteArray}
theorem cst_start (s : ByteArray) (n a : Nat) (er : Int) : cst s (r0 a er (cmdP true s n)) cmd0 (s.size + 1) n a er := by
 by_cases h : er = 0
 · subst h; exact .inl ⟨rfl, rfl⟩
 exact .inr ⟨h, r0_no h⟩
theorem cst_word (h : cst s R c (f + 1) m a er) (he : er = 0) (hk : kd s m = 1) (hl : c.words.length ≠ 4) (hw : St (r0 a er (wordP s m)) v m' a' er') : cst s R ⟨c.words ++ [v], c.inp, c.out, c.app⟩ f m' a' er' := by
 subst he
 rcases h with ⟨_, h⟩ | ⟨h, _⟩
 · rcases hw with ⟨h1, h2⟩ | ⟨h1, h2⟩
   · exact .inl ⟨h1, by rw [← h]; exact (cmdF_word hk hl h2).symm⟩
   exact .inr ⟨h1, by rw [← h]; exact cmdF_wordE hk hl h2⟩
 exact absurd rfl h
theorem cst_lim (h : cst s R c (f + 1) m a er) (he : er = 0) (hk : kd s m = 1) (hl : c.words.length = 4) (hf : (er = 0 ∧ a1 = m ∧ er1 = 6) ∨ (er ≠ 0 ∧ a1 = a ∧ er1 = er)) (hw : St (r0 a1 er1 (wordP s m)) v m' a' er') : cst s R c2 f m' a' er' := by
 subst he
 rcases h with ⟨_, h⟩ | ⟨h, _⟩
 · rcases hf with ⟨_, rfl, rfl⟩ | ⟨q, _⟩
   · obtain ⟨rfl, rfl⟩ := St.err hw (by decide)
     exact .inr ⟨by decide, by rw [← h]; exact cmdF_lim hk hl⟩
   exact absurd rfl q
 exact absurd rfl h
theorem cst_red (h : cst s R c (f + 1) m a er) (he : er = 0) (hk : kd s m = 2 ∨ kd s m = 3 ∨ kd s m = 4) (hs : ¬ ((kd s m = 2 ∧ c.inp.size ≠ 0) ∨ (kd s m ≠ 2 ∧ c.out.size ≠ 0))) (h1 : m1 = rx s m) (hw : St (r0 a er (wordP s m1)) v m' a' er') :
    cst s R (if kd s m = 2 then ⟨c.words, v, c.out, c.app⟩ else ⟨c.words, c.inp, v, decide (kd s m = 4)⟩) f m' a' er' := by
 subst he
 have hx : m1 = nx s m := by rw [h1]; exact rx_nx (by omega)
 subst hx
 rcases h with ⟨_, h⟩ | ⟨h, _⟩
 · have hs2 : ¬ (true = true ∧ ((kd s m = 2 ∧ c.inp.size ≠ 0) ∨ (kd s m ≠ 2 ∧ c.out.size ≠ 0))) := fun q => hs q.2
   rcases hw with ⟨e1, e2⟩ | ⟨e1, e2⟩
   · exact .inl ⟨e1, by rw [← h]; exact (cmdF_red hk hs2 (by unfold redirP; rw [if_neg hs, show wordP s (nx s m) = _ from e2])).symm⟩
   exact .inr ⟨e1, by rw [← h]; exact cmdF_redE hk hs2 (by unfold redirP; rw [if_neg hs, show wordP s (nx s m) = _ from e2])⟩
 exact absurd rfl h
theorem cst_end (h : cst s R c (f + 1) m a er) (he : er = 0) (hk : kd s m ≠ 1) (hs : ¬ ((kd s m = 2 ∨ kd s m = 3 ∨ kd s m = 4) ∧ ¬ ((kd s m = 2 ∧ c.inp.size ≠ 0) ∨ (kd s m ≠ 2 ∧ c.out.size ≠ 0)))) (hl : c.words.length ≠ 0) : R = .ok (c, m) := by
 rcases h with ⟨_, h⟩ | ⟨h, _⟩
 · rw [← h]; exact cmdF_end hk (fun q => hs ⟨q.1, fun z => q.2 ⟨rfl, z⟩⟩) hl
 exact absurd he h
theorem cst_none (h : cst s R c (f + 1) m a er) (he : er = 0) (hk : kd s m ≠ 1) (hs : ¬ ((kd s m = 2 ∨ kd s m = 3 ∨ kd s m = 4) ∧ ¬ ((kd s m = 2 ∧ c.inp.size ≠ 0) ∨ (kd s m ≠ 2 ∧ c.out.size ≠ 0)))) (hl : c.words.length = 0) : R = .error (m, 3) := by
 rcases h with ⟨_, h⟩ | ⟨h, _⟩
 · rw [← h]; exact cmdF_none hk (fun q => hs ⟨q.1, fun z => q.2 ⟨rfl, z⟩⟩) hl
 exact absurd he h
theorem cst_err (h : cst s R c f m a er) (he : er ≠ 0) : St R c m a er := by
 rcases h with ⟨q, _⟩ | ⟨_, h⟩
 · exact absurd q he
 exact .inr ⟨he, h⟩
end
theorem word_gt {s : ByteArray} {n n' a a' : Nat} {er er' : Int} {v : ByteArray} (hn : n ≤ s.size) (h : St (r0 a er (wordP s n)) v n' a' er') : er' = 0 → n < n' := fun he => by
  rcases h with ⟨_, h⟩ | ⟨q, _⟩
  · by_cases h0 : er = 0
    · subst h0; exact (wordP_ok hn h).2.2.2.1
    · rw [r0_no h0] at h; cases h
  · exact absurd he q

set_option maxHeartbeats 4000000 in
theorem rcommand_any (pb tb : Nat) (toks : List (ByteArray × Nat)) (CT : List Value) (sv : ByteArray) (j k n a : Nat) (er : Int) (w : World) (hv : TV toks CT sv j n k) (hs : sv.size ≤ 1000000)  (h0 : Ow Try.prog (inT (RP pb tb CT sv j k n a er)) w w (RP pb tb CT sv j k n a er)) :
    Calls Try.prog 49 #[pt pb] w fun e w' => ∃ c j' k' n' a' er' p kk T', e = .returned (.agg #[.slice p c.words.length kk, str c.inp, str c.out, bl c.app]) ∧ One fT 9 1 p kk c.words T' ∧ St (r0 a er (cmdP true sv n)) c n' a' er' ∧ TV toks CT sv j' n' k' ∧ n ≤ n' ∧ (er' = 0 → n < n' ∧ 1 ≤ c.words.length ∧ c.words.length ≤ 4) ∧ Ow Try.prog (inT (RP pb tb CT sv j k n a er)) w w' (RP pb tb CT sv j' k' n' a' er' ++ T') := by
 refine c_enter (args := [pt pb]) (m := 76) (n := 77) Try.func49 rfl (by kernel_rfl) (by kernel_rfl) fun fr hA => ?_
 have hO : Ow Try.prog (inT (RP pb tb CT sv j k n a er)) w w [(pb, 66, [.slice (some (⟨tb, 2 * j, none⟩ : Addr)) ((tks sv n).length) k, i64 ((a : Nat) : Int), i64 er]), (tb, 68, CT)] := h0
 refine sR (l := [0]) ?_
 refine wpOps_cons' (mN (l := [.slice none 0 0, str (⟨#[]⟩), str (⟨#[]⟩), bl false]) (t := 49) (v := pt) (d := 2) hA hO ?_)
 clear hA hO fr; intro fr w1 b1 hA hO
 replace hA := hA.sb (e' := [(0, pt pb), (2, pt b1)])
 refine end_ops ?_
 refine then_normal ?_
 refine sR (l := [0]) ?_
 refine wpOps_cons' (mN (l := [.slice none 0 0, str (⟨#[]⟩), str (⟨#[]⟩), bl false]) (t := 49) (v := pt) (d := 3) hA hO ?_)
 clear hA hO fr; intro fr w2 b2 hA hO
 replace hA := hA.sb (e' := [(0, pt pb), (2, pt b1), (3, pt b2)])
 refine end_ops ?_
 refine then_normal ?_
 refine wp_seq ?_
 refine wp_block ?_
 obtain ⟨g0, hg0⟩ := meas0 er sv.size n
 have her_ : er = 0 ∨ er ≠ 0 := Classical.em _
 have hT1 := One.nil fT 9 1
 replace hO : Ow Try.prog (inT (RP pb tb CT sv j k n a er)) w w2 ([(b2, 49, [.slice none 0 0, str (⟨#[]⟩), str (⟨#[]⟩), bl false]), (b1, 49, [.slice none 0 0, str (⟨#[]⟩), str (⟨#[]⟩), bl false]), (pb, 66, [.slice (some (⟨tb, 2 * j, none⟩ : Addr)) ((tks sv n).length) k, i64 ((a : Nat) : Int), i64 er]), (tb, 68, CT)] ++ ([] ++ ([]))) := hO.to (by first | rfl | (simp only [TP, apd]))
 refine c_loop (fun mm fr W => ∃ (c : CmdL) (jl kl m al : Nat) (el : Int) (f g : Nat) (pL1 : Option Addr) (cL1 : Nat) (TL1 : OwL), mm = 1 + g ∧ Holds 77 [] fr [(0, pt pb), (2, pt b1), (3, pt b2)] ∧ Ow Try.prog (inT (RP pb tb CT sv j k n a er)) w W ([(b2, 49, [.slice pL1 c.words.length cL1, str c.inp, str c.out, bl c.app]), (b1, 49, [.slice none 0 0, str (⟨#[]⟩), str (⟨#[]⟩), bl false]), (pb, 66, [.slice (some (⟨tb, 2 * jl, none⟩ : Addr)) ((tks sv m).length) kl, i64 ((al : Nat) : Int), i64 el]), (tb, 68, CT)] ++ (TL1 ++ ([]))) ∧ One fT 9 1 pL1 cL1 c.words TL1 ∧ m ≤ sv.size ∧ ((el = 0 ∧ g = sv.size - m + 1) ∨ (el ≠ 0 ∧ g = 0)) ∧ (el = 0 → sv.size - m < f) ∧ cst sv (r0 a er (cmdP true sv n)) c f m al el ∧ ((el = 0 ∧ c.words.length ≤ 4) ∨ (el ≠ 0 ∧ c.words.length ≤ 5)) ∧ n ≤ m ∧ (el = 0 → c.words.length = 0 ∨ n < m) ∧ TV toks CT sv jl m kl ∧ True) ?_ ?_
 · exact ⟨_, cmd0, j, k, n, a, er, sv.size + 1, g0, none, 0, [], rfl, hA.sub [0, 2, 3] (by kernel_rfl), (hO : Ow Try.prog (inT (RP pb tb CT sv j k n a er)) w _ ([(b2, 49, [.slice none 0 0, str (⟨#[]⟩), str (⟨#[]⟩), bl false]), (b1, 49, [.slice none 0 0, str (⟨#[]⟩), str (⟨#[]⟩), bl false]), (pb, 66, [.slice (some (⟨tb, 2 * j, none⟩ : Addr)) ((tks sv n).length) k, i64 ((a : Nat) : Int), i64 er]), (tb, 68, CT)] ++ ([] ++ ([])))), hT1, hv.pos, hg0, (fun _ => by omega), cst_start sv n a er, (by have hz_ : cmd0.words.length = 0 := rfl; omega), (Nat.le_refl _), (fun _ => .inl rfl), hv, trivial⟩
 rintro _ fr w3 ⟨c, jl, kl, m, al, el, f, g, pL1, cL1, TL1, rfl, hA, hO, hTL1, hm, hg, hf, hC, hcl, hgt, hgt2, hvl, -⟩
 have hpa := tks_pos sv m
 have hms_ : kd sv m ≠ 0 → m < sv.size := kd_lt
 have hgx := rx_gt (s := sv) (n := m)
 refine wp_seq ?_
 refine sC (e' := [(0, pt pb), (2, pt b1), (3, pt b2), (9, bl (el == 0))]) 5 hA [i64 el] (cc (hO.l1 2 2 24 (i64 el)) c0) ?_
 clear hA fr; intro fr hA
 rcases Bool.eq_false_or_eq_true (el == 0) with h1 | h1
 · rw [h1] at hA
   have h1p := eq_of_beq h1
   obtain ⟨f, rfl⟩ : ∃ j, f = j + 1 := ⟨f - 1, by have := hf (by omega); omega⟩
   have hf_ := hf (by omega)
   refine cT hA ?_
   refine wp_skip ?_
   refine then_normal ?_
   refine wp_block ?_
   refine sR (l := (rg 0 8)) ?_
   refine ck (l := (rg 0 6)) (r := [6, 7]) (e' := [(0, pt pb), (2, pt b1), (3, pt b2), (15, .agg #[str (rt sv m), i64 ((m : Nat) : Int)])]) hA [.slice (some (⟨tb, 2 * jl, none⟩ : Addr)) ((tks sv m).length) kl, .agg #[str (rt sv m), i64 ((m : Nat) : Int)]] (cc (hO.l1 2 0 63 (.slice (some (⟨tb, 2 * jl, none⟩ : Addr)) ((tks sv m).length) kl)) (cc (⟨by omega, by omega⟩ : (0 : Int) ≤ 0 ∧ 0 < (((tks sv m).length : Nat) : Int)) (cc ((hvl.ldn (hO.b 3)) : Ld Try.prog w3 ((⟨tb, 2 * jl, none⟩ : Addr).add 0) 68 (.agg #[str (rt sv m), i64 ((m : Nat) : Int)])) c0))) ?_
   clear hA fr; intro fr hA
   refine wpOps_cons' (mN (l := [str (⟨#[]⟩), i64 0]) (t := 68) (v := pt) (d := 4) hA hO ?_)
   clear hA hO fr; intro fr w4 b3 hA hO
   replace hA := hA.sb (e' := [(0, pt pb), (2, pt b1), (3, pt b2), (4, pt b3), (15, .agg #[str (rt sv m), i64 ((m : Nat) : Int)])])
   refine wpOps_cons' (mS (off := 0) (vc := [str (rt sv m), i64 ((m : Nat) : Int)]) 0 hA hO ?_)
   clear hO; intro w5 hO
   replace hA := hA.sb (e' := [(0, pt pb), (2, pt b1), (3, pt b2), (4, pt b3)])
   refine end_ops ?_
   refine then_normal ?_
   refine wp_seq ?_
   refine wp_block ?_
   refine sR (l := [0, 1, 2]) ?_
   refine ck (l := [0]) (r := [1, 2]) (e' := [(0, pt pb), (2, pt b1), (3, pt b2), (4, pt b3), (17, .agg #[str (rt sv m), i64 ((m : Nat) : Int)])]) hA [.agg #[str (rt sv m), i64 ((m : Nat) : Int)]] (cc (hO.ln 0 0 68 [str (rt sv m), i64 ((m : Nat) : Int)]) c0) ?_
   clear hA fr; intro fr hA
   refine wpOps_cons' (mK (f := 48) (args := [.agg #[str (rt sv m), i64 ((m : Nat) : Int)]]) (d := (some 18)) (v := bl (decide (kd sv m = 1))) hA hO Try.func48 (tword_any sv m _) ?_)
   clear hA hO fr; intro fr w6 hA hO
   replace hA := hA.sb (e' := [(0, pt pb), (2, pt b1), (3, pt b2), (4, pt b3), (18, bl (decide (kd sv m = 1)))])
   refine ck (l := [2]) (r := []) (e' := [(0, pt pb), (2, pt b1), (3, pt b2), (4, pt b3), (16, bl (decide (kd sv m = 1)))]) hA [] c0 ?_
   clear hA fr; intro fr hA
   refine end_ops ?_
   refine then_normal ?_
   rcases Bool.eq_false_or_eq_true (decide (kd sv m = 1)) with h2 | h2
   · rw [h2] at hA
     have h2p := of_decide_eq_true h2
     refine cT hA ?_
     refine wp_seq ?_
     refine sC (e' := [(0, pt pb), (2, pt b1), (3, pt b2), (22, bl (((c.words.length : Nat) : Int) == 4))]) 4 hA [.slice pL1 c.words.length cL1] (cc (hO.l1 1 0 47 (.slice pL1 c.words.length cL1)) c0) ?_
     clear hA fr; intro fr hA
     rcases Bool.eq_false_or_eq_true (((c.words.length : Nat) : Int) == 4) with h3 | h3
     · rw [h3] at hA
       have h3p := eq_of_beq h3
       refine cT hA ?_
       refine rR (l := [0, 1]) ?_
       refine ck (l := [0]) (r := [1]) (e' := [(0, pt pb), (2, pt b1), (3, pt b2), (23, pt pb)]) hA [] c0 ?_
       clear hA fr; intro fr hA
       refine wpOps_cons' (mC (f := 27) (args := [pt pb, i64 6]) (d := (some 24)) hA Try.func27 ((rfail_any pb tb toks CT sv jl kl m al el _ hvl hs 6 (Ow.self (A := [(b3, 68, [str (rt sv m), i64 ((m : Nat) : Int)]), (b2, 49, [.slice pL1 c.words.length cL1, str c.inp, str c.out, bl c.app]), (b1, 49, [.slice none 0 0, str (⟨#[]⟩), str (⟨#[]⟩), bl false])]) (T := RP pb tb CT sv jl kl m al el) (B := ([] ++ (TL1 ++ ([])))) (hO.to (by first | rfl | (simp only [RP, apd])) : Ow Try.prog (inT (RP pb tb CT sv j k n a er)) w _ ([(b3, 68, [str (rt sv m), i64 ((m : Nat) : Int)]), (b2, 49, [.slice pL1 c.words.length cL1, str c.inp, str c.out, bl c.app]), (b1, 49, [.slice none 0 0, str (⟨#[]⟩), str (⟨#[]⟩), bl false])] ++ (RP pb tb CT sv jl kl m al el ++ (([] ++ (TL1 ++ ([]))))))))).mono ?_))
       rintro en w7 ⟨a1, er1, rfl, hfe1, hW⟩
       refine ⟨_, rfl, ?_⟩
       clear hA fr; intro fr hA
       replace hO := Ow.pass (A := [(b3, 68, [str (rt sv m), i64 ((m : Nat) : Int)]), (b2, 49, [.slice pL1 c.words.length cL1, str c.inp, str c.out, bl c.app]), (b1, 49, [.slice none 0 0, str (⟨#[]⟩), str (⟨#[]⟩), bl false])]) (T := RP pb tb CT sv jl kl m al el) (B := ([] ++ (TL1 ++ ([])))) (hO.to (by first | rfl | (simp only [RP, apd])) : Ow Try.prog (inT (RP pb tb CT sv j k n a er)) w _ ([(b3, 68, [str (rt sv m), i64 ((m : Nat) : Int)]), (b2, 49, [.slice pL1 c.words.length cL1, str c.inp, str c.out, bl c.app]), (b1, 49, [.slice none 0 0, str (⟨#[]⟩), str (⟨#[]⟩), bl false])] ++ (RP pb tb CT sv jl kl m al el ++ (([] ++ (TL1 ++ ([]))))))) hW; clear hW
       replace hO : Ow Try.prog (inT (RP pb tb CT sv j k n a er)) w _ ([(b3, 68, [str (rt sv m), i64 ((m : Nat) : Int)]), (b2, 49, [.slice pL1 c.words.length cL1, str c.inp, str c.out, bl c.app]), (b1, 49, [.slice none 0 0, str (⟨#[]⟩), str (⟨#[]⟩), bl false]), (pb, 66, [.slice (some (⟨tb, 2 * jl, none⟩ : Addr)) ((tks sv m).length) kl, i64 ((a1 : Nat) : Int), i64 er1]), (tb, 68, CT)] ++ (TL1 ++ ([]))) := hO.to (by first | rfl | (simp only [RP, apd]))
       replace hA := hA.sb (e' := [(0, pt pb), (2, pt b1), (3, pt b2)])
       refine end_ops ?_
       refine then_normal ?_
       refine wp_seq ?_
       have hS : Ow Try.prog (inT (RP pb tb CT sv j k n a er)) w _ [(b3, 68, [str (rt sv m), i64 ((m : Nat) : Int)]), (b1, 49, [.slice none 0 0, str (⟨#[]⟩), str (⟨#[]⟩), bl false]), (tb, 68, CT)] := hO.sub [0, 2, 4]
       refine rT (.q 0 (.q 2 (.m 1 (.m 3 (.m 4 (.m 5 (.q 6 (.m 7 .fin .non)) .non) .non) .non) (.m 3 (.m 1 (.m 4 (.m 5 (.q 6 (.m 7 .fin .non)) .non) .non) (.m 4 (.m 1 (.m 5 (.q 6 (.m 7 .fin .non)) .non) .non) .non)) .non)))) hS ?_
       intro w8 ho; replace hO := hO.st ho; clear ho
       refine ckT (l := [0, 2]) (e' := [(0, pt pb), (2, pt b1), (3, pt b2), (25, pt b2), (27, pt pb)]) hA [] c0 ?_
       clear hA fr; intro fr hA
       refine tree_mem ?_ ?_
       · refine (mQ (e' := [(0, pt pb), (2, pt b1), (3, pt b2), (26, .slice pL1 c.words.length cL1), (27, pt pb)]) hA [.slice pL1 c.words.length cL1] (cc (hO.l1 1 0 47 (.slice pL1 c.words.length cL1)) c0) ?_)
         clear hA fr; intro fr hA
         refine ⟨(hO.sub [0, 2, 4]), ?_⟩
         replace hA := hA.sb (e' := [(0, pt pb), (2, pt b1), (3, pt b2), (26, .slice pL1 c.words.length cL1), (27, pt pb)])
         refine tree_mem ?_ ?_
         · refine (mC (f := 56) (args := [pt pb]) (d := (some 28)) hA Try.func56 ((rword_any pb tb toks CT sv jl kl m a1 er1 _ hvl hs (Ow.self (A := [(b3, 68, [str (rt sv m), i64 ((m : Nat) : Int)]), (b2, 49, [.slice pL1 c.words.length cL1, str c.inp, str c.out, bl c.app]), (b1, 49, [.slice none 0 0, str (⟨#[]⟩), str (⟨#[]⟩), bl false])]) (T := RP pb tb CT sv jl kl m a1 er1) (B := ([] ++ (TL1 ++ ([])))) (hO.to (by first | rfl | (simp only [RP, apd])) : Ow Try.prog (inT (RP pb tb CT sv j k n a er)) w _ ([(b3, 68, [str (rt sv m), i64 ((m : Nat) : Int)]), (b2, 49, [.slice pL1 c.words.length cL1, str c.inp, str c.out, bl c.app]), (b1, 49, [.slice none 0 0, str (⟨#[]⟩), str (⟨#[]⟩), bl false])] ++ (RP pb tb CT sv jl kl m a1 er1 ++ (([] ++ (TL1 ++ ([]))))))))).mono ?_))
           rintro en w9 ⟨v1, j1, k1, n1, a2, er2, rfl, hst1, hv1, hle1, hW⟩
           refine ⟨_, rfl, ?_⟩
           clear hA fr; intro fr hA
           replace hO := Ow.pass (A := [(b3, 68, [str (rt sv m), i64 ((m : Nat) : Int)]), (b2, 49, [.slice pL1 c.words.length cL1, str c.inp, str c.out, bl c.app]), (b1, 49, [.slice none 0 0, str (⟨#[]⟩), str (⟨#[]⟩), bl false])]) (T := RP pb tb CT sv jl kl m a1 er1) (B := ([] ++ (TL1 ++ ([])))) (hO.to (by first | rfl | (simp only [RP, apd])) : Ow Try.prog (inT (RP pb tb CT sv j k n a er)) w _ ([(b3, 68, [str (rt sv m), i64 ((m : Nat) : Int)]), (b2, 49, [.slice pL1 c.words.length cL1, str c.inp, str c.out, bl c.app]), (b1, 49, [.slice none 0 0, str (⟨#[]⟩), str (⟨#[]⟩), bl false])] ++ (RP pb tb CT sv jl kl m a1 er1 ++ (([] ++ (TL1 ++ ([]))))))) hW; clear hW
           replace hO : Ow Try.prog (inT (RP pb tb CT sv j k n a er)) w _ ([(b3, 68, [str (rt sv m), i64 ((m : Nat) : Int)]), (b2, 49, [.slice pL1 c.words.length cL1, str c.inp, str c.out, bl c.app]), (b1, 49, [.slice none 0 0, str (⟨#[]⟩), str (⟨#[]⟩), bl false]), (pb, 66, [.slice (some (⟨tb, 2 * j1, none⟩ : Addr)) ((tks sv n1).length) k1, i64 ((a2 : Nat) : Int), i64 er2]), (tb, 68, CT)] ++ (TL1 ++ ([]))) := hO.to (by first | rfl | (simp only [RP, apd]))
           have hp1a := tks_pos sv n1
           have hp1b := hv1.pos
           have hgw_ := word_gt (by omega) hst1
           refine ⟨(hO.sub [0, 2, 4]), ?_⟩
           replace hA := hA.sb (e' := [(0, pt pb), (2, pt b1), (3, pt b2), (26, .slice pL1 c.words.length cL1), (28, str v1)])
           refine tree_mem ?_ ?_
           · refine (mN (l := [str v1]) (t := 9) (v := fun b => .slice (some ⟨b, 0, none⟩) 1 1) (d := 29) hA hO ?_)
             clear hA hO fr; intro fr w10 b4 hA hO
             refine ⟨(hO.sub [1, 3, 5]), ?_⟩
             replace hA := hA.sb (e' := [(0, pt pb), (2, pt b1), (3, pt b2), (26, .slice pL1 c.words.length cL1), (29, .slice (some ⟨b4, 0, none⟩) 1 1)])
             refine tree_mem ?_ ?_
             · replace hO : Ow Try.prog (inT (RP pb tb CT sv j k n a er)) w w10 ([(b4, 9, [str v1]), (b3, 68, [str (rt sv m), i64 ((m : Nat) : Int)]), (b2, 49, [.slice pL1 c.words.length cL1, str c.inp, str c.out, bl c.app]), (b1, 49, [.slice none 0 0, str (⟨#[]⟩), str (⟨#[]⟩), bl false]), (pb, 66, [.slice (some (⟨tb, 2 * j1, none⟩ : Addr)) ((tks sv n1).length) k1, i64 ((a2 : Nat) : Int), i64 er2]), (tb, 68, CT)] ++ (TL1 ++ ([]))) := hO
               refine (mA (f := fT) (el := 9) (sz := 1) (bytes := 16) (p := pL1) (c := cL1) (l := c.words) (l' := ([v1] : List ByteArray)) (T := TL1) (t := 47) (tx := 47) (ty := 47) (x := .slice (some ⟨b4, 0, none⟩) 1 1) (d := 30) [(b4, 9, [str v1]), (b3, 68, [str (rt sv m), i64 ((m : Nat) : Int)]), (b2, 49, [.slice pL1 c.words.length cL1, str c.inp, str c.out, bl c.app]), (b1, 49, [.slice none 0 0, str (⟨#[]⟩), str (⟨#[]⟩), bl false]), (pb, 66, [.slice (some (⟨tb, 2 * j1, none⟩ : Addr)) ((tks sv n1).length) k1, i64 ((a2 : Nat) : Int), i64 er2]), (tb, 68, CT)] ([]) encT hA hO hTL1 (Vw.src (e' := 9) encT ((hO.b 0).vw (off := 0) (xs := ([v1] : List ByteArray)) (by kernel_rfl)) (by kernel_rfl)) (by first | omega | (simp only [List.length_append, List.length_cons, List.length_nil]; omega)) (by unfold maxLen; first | omega | (simp only [List.length_append, List.length_cons, List.length_nil]; omega)) ?_)
               clear hA hO fr; intro fr w11 p1 c1 T2 hA hO hT2
               refine ⟨(hO.sub [1, 3, 5]), ?_⟩
               replace hA := hA.sb (e' := [(0, pt pb), (2, pt b1), (3, pt b2), (30, .slice p1 ((c.words ++ ([v1] : List ByteArray)).length) c1)])
               refine ckT (l := [6]) (e' := [(0, pt pb), (2, pt b1), (3, pt b2), (30, .slice p1 ((c.words ++ ([v1] : List ByteArray)).length) c1), (31, pt b2)]) hA [] c0 ?_
               clear hA fr; intro fr hA
               refine tree_mem ?_ ?_
               · refine (mS (off := 0) (vc := [.slice p1 ((c.words ++ ([v1] : List ByteArray)).length) c1]) 2 hA hO ?_)
                 clear hO; intro w12 hO
                 refine ⟨(hO.sub [1, 3, 5]), ?_⟩
                 replace hA := hA.sb (e' := [(0, pt pb), (2, pt b1), (3, pt b2)])
                 refine tree_fin ?_
                 refine then_normal ?_
                 refine wp_exit ?_
                 refine inBlock_other (by decide) ?_
                 refine then_exit ?_
                 refine inBlock_exit ?_
                 refine then_normal ?_
                 obtain ⟨g2, hg2, hlt2⟩ := meas (er := er2) (z := sv.size) (m := n1) (g := g) (fun q_ => by have := hgw_ q_; omega) (by omega)
                 exact ⟨_, by omega, ⟨c.words ++ ([v1] : List ByteArray), c.inp, c.out, c.app⟩, j1, k1, n1, a2, er2, f, g2, p1, c1, T2, rfl, hA.sub [0, 2, 3] (by kernel_rfl), (Ow.subP (A := [(b4, 9, [str v1]), (b3, 68, [str (rt sv m), i64 ((m : Nat) : Int)]), (b2, 49, [.slice p1 ((c.words ++ ([v1] : List ByteArray)).length) c1, str c.inp, str c.out, bl c.app]), (b1, 49, [.slice none 0 0, str (⟨#[]⟩), str (⟨#[]⟩), bl false]), (pb, 66, [.slice (some (⟨tb, 2 * j1, none⟩ : Addr)) ((tks sv n1).length) k1, i64 ((a2 : Nat) : Int), i64 er2]), (tb, 68, CT)]) (A' := [(b2, 49, [.slice p1 ((c.words ++ ([v1] : List ByteArray)).length) c1, str c.inp, str c.out, bl c.app]), (b1, 49, [.slice none 0 0, str (⟨#[]⟩), str (⟨#[]⟩), bl false]), (pb, 66, [.slice (some (⟨tb, 2 * j1, none⟩ : Addr)) ((tks sv n1).length) k1, i64 ((a2 : Nat) : Int), i64 er2]), (tb, 68, CT)]) (B := T2 ++ ([])) hO (.cons _ (.cons _ (.cons_cons _ (.cons_cons _ (.cons_cons _ (.cons_cons _ .slnil))))))), hT2, hv1.pos, hg2, (fun q_ => by have := hgw_ q_; omega), (by first | exact cst_word hC (by omega) (by omega) (by omega) hst1 | exact cst_lim hC (by omega) (by omega) (by omega) hfe1 hst1), (by simp only [List.length_append, List.length_cons, List.length_nil]; by_cases q_ : er2 = 0; { exact .inl ⟨q_, by first | omega | (exfalso; have := St.err hst1 (by omega); omega)⟩ }; { exact .inr ⟨q_, by omega⟩ }), (by omega), (fun q_ => .inr (by have := hgw_ q_; omega)), hv1, trivial⟩
               exact trivial
             exact trivial
           exact trivial
         exact trivial
       refine tree_mem ?_ ?_
       · refine (mC (f := 56) (args := [pt pb]) (d := (some 28)) hA Try.func56 ((rword_any pb tb toks CT sv jl kl m a1 er1 _ hvl hs (Ow.self (A := [(b3, 68, [str (rt sv m), i64 ((m : Nat) : Int)]), (b2, 49, [.slice pL1 c.words.length cL1, str c.inp, str c.out, bl c.app]), (b1, 49, [.slice none 0 0, str (⟨#[]⟩), str (⟨#[]⟩), bl false])]) (T := RP pb tb CT sv jl kl m a1 er1) (B := ([] ++ (TL1 ++ ([])))) (hO.to (by first | rfl | (simp only [RP, apd])) : Ow Try.prog (inT (RP pb tb CT sv j k n a er)) w _ ([(b3, 68, [str (rt sv m), i64 ((m : Nat) : Int)]), (b2, 49, [.slice pL1 c.words.length cL1, str c.inp, str c.out, bl c.app]), (b1, 49, [.slice none 0 0, str (⟨#[]⟩), str (⟨#[]⟩), bl false])] ++ (RP pb tb CT sv jl kl m a1 er1 ++ (([] ++ (TL1 ++ ([]))))))))).mono ?_))
         rintro en w13 ⟨v2, j2, k2, n2, a3, er3, rfl, hst2, hv2, hle2, hW⟩
         refine ⟨_, rfl, ?_⟩
         clear hA fr; intro fr hA
         replace hO := Ow.pass (A := [(b3, 68, [str (rt sv m), i64 ((m : Nat) : Int)]), (b2, 49, [.slice pL1 c.words.length cL1, str c.inp, str c.out, bl c.app]), (b1, 49, [.slice none 0 0, str (⟨#[]⟩), str (⟨#[]⟩), bl false])]) (T := RP pb tb CT sv jl kl m a1 er1) (B := ([] ++ (TL1 ++ ([])))) (hO.to (by first | rfl | (simp only [RP, apd])) : Ow Try.prog (inT (RP pb tb CT sv j k n a er)) w _ ([(b3, 68, [str (rt sv m), i64 ((m : Nat) : Int)]), (b2, 49, [.slice pL1 c.words.length cL1, str c.inp, str c.out, bl c.app]), (b1, 49, [.slice none 0 0, str (⟨#[]⟩), str (⟨#[]⟩), bl false])] ++ (RP pb tb CT sv jl kl m a1 er1 ++ (([] ++ (TL1 ++ ([]))))))) hW; clear hW
         replace hO : Ow Try.prog (inT (RP pb tb CT sv j k n a er)) w _ ([(b3, 68, [str (rt sv m), i64 ((m : Nat) : Int)]), (b2, 49, [.slice pL1 c.words.length cL1, str c.inp, str c.out, bl c.app]), (b1, 49, [.slice none 0 0, str (⟨#[]⟩), str (⟨#[]⟩), bl false]), (pb, 66, [.slice (some (⟨tb, 2 * j2, none⟩ : Addr)) ((tks sv n2).length) k2, i64 ((a3 : Nat) : Int), i64 er3]), (tb, 68, CT)] ++ (TL1 ++ ([]))) := hO.to (by first | rfl | (simp only [RP, apd]))
         have hp2a := tks_pos sv n2
         have hp2b := hv2.pos
         have hgw_ := word_gt (by omega) hst2
         refine ⟨(hO.sub [0, 2, 4]), ?_⟩
         replace hA := hA.sb (e' := [(0, pt pb), (2, pt b1), (3, pt b2), (25, pt b2), (28, str v2)])
         refine tree_mem ?_ ?_
         · refine (mQ (e' := [(0, pt pb), (2, pt b1), (3, pt b2), (26, .slice pL1 c.words.length cL1), (28, str v2)]) hA [.slice pL1 c.words.length cL1] (cc (hO.l1 1 0 47 (.slice pL1 c.words.length cL1)) c0) ?_)
           clear hA fr; intro fr hA
           refine ⟨(hO.sub [0, 2, 4]), ?_⟩
           replace hA := hA.sb (e' := [(0, pt pb), (2, pt b1), (3, pt b2), (26, .slice pL1 c.words.length cL1), (28, str v2)])
           refine tree_mem ?_ ?_
           · refine (mN (l := [str v2]) (t := 9) (v := fun b => .slice (some ⟨b, 0, none⟩) 1 1) (d := 29) hA hO ?_)
             clear hA hO fr; intro fr w14 b5 hA hO
             refine ⟨(hO.sub [1, 3, 5]), ?_⟩
             replace hA := hA.sb (e' := [(0, pt pb), (2, pt b1), (3, pt b2), (26, .slice pL1 c.words.length cL1), (29, .slice (some ⟨b5, 0, none⟩) 1 1)])
             refine tree_mem ?_ ?_
             · replace hO : Ow Try.prog (inT (RP pb tb CT sv j k n a er)) w w14 ([(b5, 9, [str v2]), (b3, 68, [str (rt sv m), i64 ((m : Nat) : Int)]), (b2, 49, [.slice pL1 c.words.length cL1, str c.inp, str c.out, bl c.app]), (b1, 49, [.slice none 0 0, str (⟨#[]⟩), str (⟨#[]⟩), bl false]), (pb, 66, [.slice (some (⟨tb, 2 * j2, none⟩ : Addr)) ((tks sv n2).length) k2, i64 ((a3 : Nat) : Int), i64 er3]), (tb, 68, CT)] ++ (TL1 ++ ([]))) := hO
               refine (mA (f := fT) (el := 9) (sz := 1) (bytes := 16) (p := pL1) (c := cL1) (l := c.words) (l' := ([v2] : List ByteArray)) (T := TL1) (t := 47) (tx := 47) (ty := 47) (x := .slice (some ⟨b5, 0, none⟩) 1 1) (d := 30) [(b5, 9, [str v2]), (b3, 68, [str (rt sv m), i64 ((m : Nat) : Int)]), (b2, 49, [.slice pL1 c.words.length cL1, str c.inp, str c.out, bl c.app]), (b1, 49, [.slice none 0 0, str (⟨#[]⟩), str (⟨#[]⟩), bl false]), (pb, 66, [.slice (some (⟨tb, 2 * j2, none⟩ : Addr)) ((tks sv n2).length) k2, i64 ((a3 : Nat) : Int), i64 er3]), (tb, 68, CT)] ([]) encT hA hO hTL1 (Vw.src (e' := 9) encT ((hO.b 0).vw (off := 0) (xs := ([v2] : List ByteArray)) (by kernel_rfl)) (by kernel_rfl)) (by first | omega | (simp only [List.length_append, List.length_cons, List.length_nil]; omega)) (by unfold maxLen; first | omega | (simp only [List.length_append, List.length_cons, List.length_nil]; omega)) ?_)
               clear hA hO fr; intro fr w15 p2 c2 T3 hA hO hT3
               refine ⟨(hO.sub [1, 3, 5]), ?_⟩
               replace hA := hA.sb (e' := [(0, pt pb), (2, pt b1), (3, pt b2), (30, .slice p2 ((c.words ++ ([v2] : List ByteArray)).length) c2)])
               refine ckT (l := [6]) (e' := [(0, pt pb), (2, pt b1), (3, pt b2), (30, .slice p2 ((c.words ++ ([v2] : List ByteArray)).length) c2), (31, pt b2)]) hA [] c0 ?_
               clear hA fr; intro fr hA
               refine tree_mem ?_ ?_
               · refine (mS (off := 0) (vc := [.slice p2 ((c.words ++ ([v2] : List ByteArray)).length) c2]) 2 hA hO ?_)
                 clear hO; intro w16 hO
                 refine ⟨(hO.sub [1, 3, 5]), ?_⟩
                 replace hA := hA.sb (e' := [(0, pt pb), (2, pt b1), (3, pt b2)])
                 refine tree_fin ?_
                 refine then_normal ?_
                 refine wp_exit ?_
                 refine inBlock_other (by decide) ?_
                 refine then_exit ?_
                 refine inBlock_exit ?_
                 refine then_normal ?_
                 obtain ⟨g2, hg2, hlt2⟩ := meas (er := er3) (z := sv.size) (m := n2) (g := g) (fun q_ => by have := hgw_ q_; omega) (by omega)
                 exact ⟨_, by omega, ⟨c.words ++ ([v2] : List ByteArray), c.inp, c.out, c.app⟩, j2, k2, n2, a3, er3, f, g2, p2, c2, T3, rfl, hA.sub [0, 2, 3] (by kernel_rfl), (Ow.subP (A := [(b5, 9, [str v2]), (b3, 68, [str (rt sv m), i64 ((m : Nat) : Int)]), (b2, 49, [.slice p2 ((c.words ++ ([v2] : List ByteArray)).length) c2, str c.inp, str c.out, bl c.app]), (b1, 49, [.slice none 0 0, str (⟨#[]⟩), str (⟨#[]⟩), bl false]), (pb, 66, [.slice (some (⟨tb, 2 * j2, none⟩ : Addr)) ((tks sv n2).length) k2, i64 ((a3 : Nat) : Int), i64 er3]), (tb, 68, CT)]) (A' := [(b2, 49, [.slice p2 ((c.words ++ ([v2] : List ByteArray)).length) c2, str c.inp, str c.out, bl c.app]), (b1, 49, [.slice none 0 0, str (⟨#[]⟩), str (⟨#[]⟩), bl false]), (pb, 66, [.slice (some (⟨tb, 2 * j2, none⟩ : Addr)) ((tks sv n2).length) k2, i64 ((a3 : Nat) : Int), i64 er3]), (tb, 68, CT)]) (B := T3 ++ ([])) hO (.cons _ (.cons _ (.cons_cons _ (.cons_cons _ (.cons_cons _ (.cons_cons _ .slnil))))))), hT3, hv2.pos, hg2, (fun q_ => by have := hgw_ q_; omega), (by first | exact cst_word hC (by omega) (by omega) (by omega) hst2 | exact cst_lim hC (by omega) (by omega) (by omega) hfe1 hst2), (by simp only [List.length_append, List.length_cons, List.length_nil]; by_cases q_ : er3 = 0; { exact .inl ⟨q_, by first | omega | (exfalso; have := St.err hst2 (by omega); omega)⟩ }; { exact .inr ⟨q_, by omega⟩ }), (by omega), (fun q_ => .inr (by have := hgw_ q_; omega)), hv2, trivial⟩
               exact trivial
             exact trivial
           exact trivial
         refine tree_mem ?_ ?_
         · refine (mN (l := [str v2]) (t := 9) (v := fun b => .slice (some ⟨b, 0, none⟩) 1 1) (d := 29) hA hO ?_)
           clear hA hO fr; intro fr w17 b6 hA hO
           refine ⟨(hO.sub [1, 3, 5]), ?_⟩
           replace hA := hA.sb (e' := [(0, pt pb), (2, pt b1), (3, pt b2), (25, pt b2), (29, .slice (some ⟨b6, 0, none⟩) 1 1)])
           refine tree_mem ?_ ?_
           · refine (mQ (e' := [(0, pt pb), (2, pt b1), (3, pt b2), (26, .slice pL1 c.words.length cL1), (29, .slice (some ⟨b6, 0, none⟩) 1 1)]) hA [.slice pL1 c.words.length cL1] (cc (hO.l1 2 0 47 (.slice pL1 c.words.length cL1)) c0) ?_)
             clear hA fr; intro fr hA
             refine ⟨(hO.sub [1, 3, 5]), ?_⟩
             replace hA := hA.sb (e' := [(0, pt pb), (2, pt b1), (3, pt b2), (26, .slice pL1 c.words.length cL1), (29, .slice (some ⟨b6, 0, none⟩) 1 1)])
             refine tree_mem ?_ ?_
             · replace hO : Ow Try.prog (inT (RP pb tb CT sv j k n a er)) w w17 ([(b6, 9, [str v2]), (b3, 68, [str (rt sv m), i64 ((m : Nat) : Int)]), (b2, 49, [.slice pL1 c.words.length cL1, str c.inp, str c.out, bl c.app]), (b1, 49, [.slice none 0 0, str (⟨#[]⟩), str (⟨#[]⟩), bl false]), (pb, 66, [.slice (some (⟨tb, 2 * j2, none⟩ : Addr)) ((tks sv n2).length) k2, i64 ((a3 : Nat) : Int), i64 er3]), (tb, 68, CT)] ++ (TL1 ++ ([]))) := hO
               refine (mA (f := fT) (el := 9) (sz := 1) (bytes := 16) (p := pL1) (c := cL1) (l := c.words) (l' := ([v2] : List ByteArray)) (T := TL1) (t := 47) (tx := 47) (ty := 47) (x := .slice (some ⟨b6, 0, none⟩) 1 1) (d := 30) [(b6, 9, [str v2]), (b3, 68, [str (rt sv m), i64 ((m : Nat) : Int)]), (b2, 49, [.slice pL1 c.words.length cL1, str c.inp, str c.out, bl c.app]), (b1, 49, [.slice none 0 0, str (⟨#[]⟩), str (⟨#[]⟩), bl false]), (pb, 66, [.slice (some (⟨tb, 2 * j2, none⟩ : Addr)) ((tks sv n2).length) k2, i64 ((a3 : Nat) : Int), i64 er3]), (tb, 68, CT)] ([]) encT hA hO hTL1 (Vw.src (e' := 9) encT ((hO.b 0).vw (off := 0) (xs := ([v2] : List ByteArray)) (by kernel_rfl)) (by kernel_rfl)) (by first | omega | (simp only [List.length_append, List.length_cons, List.length_nil]; omega)) (by unfold maxLen; first | omega | (simp only [List.length_append, List.length_cons, List.length_nil]; omega)) ?_)
               clear hA hO fr; intro fr w18 p3 c3 T4 hA hO hT4
               refine ⟨(hO.sub [1, 3, 5]), ?_⟩
               replace hA := hA.sb (e' := [(0, pt pb), (2, pt b1), (3, pt b2), (30, .slice p3 ((c.words ++ ([v2] : List ByteArray)).length) c3)])
               refine ckT (l := [6]) (e' := [(0, pt pb), (2, pt b1), (3, pt b2), (30, .slice p3 ((c.words ++ ([v2] : List ByteArray)).length) c3), (31, pt b2)]) hA [] c0 ?_
               clear hA fr; intro fr hA
               refine tree_mem ?_ ?_
               · refine (mS (off := 0) (vc := [.slice p3 ((c.words ++ ([v2] : List ByteArray)).length) c3]) 2 hA hO ?_)
                 clear hO; intro w19 hO
                 refine ⟨(hO.sub [1, 3, 5]), ?_⟩
                 replace hA := hA.sb (e' := [(0, pt pb), (2, pt b1), (3, pt b2)])
                 refine tree_fin ?_
                 refine then_normal ?_
                 refine wp_exit ?_
                 refine inBlock_other (by decide) ?_
                 refine then_exit ?_
                 refine inBlock_exit ?_
                 refine then_normal ?_
                 obtain ⟨g2, hg2, hlt2⟩ := meas (er := er3) (z := sv.size) (m := n2) (g := g) (fun q_ => by have := hgw_ q_; omega) (by omega)
                 exact ⟨_, by omega, ⟨c.words ++ ([v2] : List ByteArray), c.inp, c.out, c.app⟩, j2, k2, n2, a3, er3, f, g2, p3, c3, T4, rfl, hA.sub [0, 2, 3] (by kernel_rfl), (Ow.subP (A := [(b6, 9, [str v2]), (b3, 68, [str (rt sv m), i64 ((m : Nat) : Int)]), (b2, 49, [.slice p3 ((c.words ++ ([v2] : List ByteArray)).length) c3, str c.inp, str c.out, bl c.app]), (b1, 49, [.slice none 0 0, str (⟨#[]⟩), str (⟨#[]⟩), bl false]), (pb, 66, [.slice (some (⟨tb, 2 * j2, none⟩ : Addr)) ((tks sv n2).length) k2, i64 ((a3 : Nat) : Int), i64 er3]), (tb, 68, CT)]) (A' := [(b2, 49, [.slice p3 ((c.words ++ ([v2] : List ByteArray)).length) c3, str c.inp, str c.out, bl c.app]), (b1, 49, [.slice none 0 0, str (⟨#[]⟩), str (⟨#[]⟩), bl false]), (pb, 66, [.slice (some (⟨tb, 2 * j2, none⟩ : Addr)) ((tks sv n2).length) k2, i64 ((a3 : Nat) : Int), i64 er3]), (tb, 68, CT)]) (B := T4 ++ ([])) hO (.cons _ (.cons _ (.cons_cons _ (.cons_cons _ (.cons_cons _ (.cons_cons _ .slnil))))))), hT4, hv2.pos, hg2, (fun q_ => by have := hgw_ q_; omega), (by first | exact cst_word hC (by omega) (by omega) (by omega) hst2 | exact cst_lim hC (by omega) (by omega) (by omega) hfe1 hst2), (by simp only [List.length_append, List.length_cons, List.length_nil]; by_cases q_ : er3 = 0; { exact .inl ⟨q_, by first | omega | (exfalso; have := St.err hst2 (by omega); omega)⟩ }; { exact .inr ⟨q_, by omega⟩ }), (by omega), (fun q_ => .inr (by have := hgw_ q_; omega)), hv2, trivial⟩
               exact trivial
             exact trivial
           exact trivial
         exact trivial
       exact trivial
     rw [h3] at hA
     have h3p := ne_of_beq_false h3
     refine cF hA ?_
     refine wp_skip ?_
     refine then_normal ?_
     refine wp_seq ?_
     have hS : Ow Try.prog (inT (RP pb tb CT sv j k n a er)) w _ [(b3, 68, [str (rt sv m), i64 ((m : Nat) : Int)]), (b1, 49, [.slice none 0 0, str (⟨#[]⟩), str (⟨#[]⟩), bl false]), (tb, 68, CT)] := hO.sub [0, 2, 4]
     refine rT (.q 0 (.q 2 (.m 1 (.m 3 (.m 4 (.m 5 (.q 6 (.m 7 .fin .non)) .non) .non) .non) (.m 3 (.m 1 (.m 4 (.m 5 (.q 6 (.m 7 .fin .non)) .non) .non) (.m 4 (.m 1 (.m 5 (.q 6 (.m 7 .fin .non)) .non) .non) .non)) .non)))) hS ?_
     intro w20 ho; replace hO := hO.st ho; clear ho
     refine ckT (l := [0, 2]) (e' := [(0, pt pb), (2, pt b1), (3, pt b2), (25, pt b2), (27, pt pb)]) hA [] c0 ?_
     clear hA fr; intro fr hA
     refine tree_mem ?_ ?_
     · refine (mQ (e' := [(0, pt pb), (2, pt b1), (3, pt b2), (26, .slice pL1 c.words.length cL1), (27, pt pb)]) hA [.slice pL1 c.words.length cL1] (cc (hO.l1 1 0 47 (.slice pL1 c.words.length cL1)) c0) ?_)
       clear hA fr; intro fr hA
       refine ⟨(hO.sub [0, 2, 4]), ?_⟩
       replace hA := hA.sb (e' := [(0, pt pb), (2, pt b1), (3, pt b2), (26, .slice pL1 c.words.length cL1), (27, pt pb)])
       refine tree_mem ?_ ?_
       · refine (mC (f := 56) (args := [pt pb]) (d := (some 28)) hA Try.func56 ((rword_any pb tb toks CT sv jl kl m al el _ hvl hs (Ow.self (A := [(b3, 68, [str (rt sv m), i64 ((m : Nat) : Int)]), (b2, 49, [.slice pL1 c.words.length cL1, str c.inp, str c.out, bl c.app]), (b1, 49, [.slice none 0 0, str (⟨#[]⟩), str (⟨#[]⟩), bl false])]) (T := RP pb tb CT sv jl kl m al el) (B := ([] ++ (TL1 ++ ([])))) (hO.to (by first | rfl | (simp only [RP, apd])) : Ow Try.prog (inT (RP pb tb CT sv j k n a er)) w _ ([(b3, 68, [str (rt sv m), i64 ((m : Nat) : Int)]), (b2, 49, [.slice pL1 c.words.length cL1, str c.inp, str c.out, bl c.app]), (b1, 49, [.slice none 0 0, str (⟨#[]⟩), str (⟨#[]⟩), bl false])] ++ (RP pb tb CT sv jl kl m al el ++ (([] ++ (TL1 ++ ([]))))))))).mono ?_))
         rintro en w21 ⟨v3, j3, k3, n3, a4, er4, rfl, hst3, hv3, hle3, hW⟩
         refine ⟨_, rfl, ?_⟩
         clear hA fr; intro fr hA
         replace hO := Ow.pass (A := [(b3, 68, [str (rt sv m), i64 ((m : Nat) : Int)]), (b2, 49, [.slice pL1 c.words.length cL1, str c.inp, str c.out, bl c.app]), (b1, 49, [.slice none 0 0, str (⟨#[]⟩), str (⟨#[]⟩), bl false])]) (T := RP pb tb CT sv jl kl m al el) (B := ([] ++ (TL1 ++ ([])))) (hO.to (by first | rfl | (simp only [RP, apd])) : Ow Try.prog (inT (RP pb tb CT sv j k n a er)) w _ ([(b3, 68, [str (rt sv m), i64 ((m : Nat) : Int)]), (b2, 49, [.slice pL1 c.words.length cL1, str c.inp, str c.out, bl c.app]), (b1, 49, [.slice none 0 0, str (⟨#[]⟩), str (⟨#[]⟩), bl false])] ++ (RP pb tb CT sv jl kl m al el ++ (([] ++ (TL1 ++ ([]))))))) hW; clear hW
         replace hO : Ow Try.prog (inT (RP pb tb CT sv j k n a er)) w _ ([(b3, 68, [str (rt sv m), i64 ((m : Nat) : Int)]), (b2, 49, [.slice pL1 c.words.length cL1, str c.inp, str c.out, bl c.app]), (b1, 49, [.slice none 0 0, str (⟨#[]⟩), str (⟨#[]⟩), bl false]), (pb, 66, [.slice (some (⟨tb, 2 * j3, none⟩ : Addr)) ((tks sv n3).length) k3, i64 ((a4 : Nat) : Int), i64 er4]), (tb, 68, CT)] ++ (TL1 ++ ([]))) := hO.to (by first | rfl | (simp only [RP, apd]))
         have hp3a := tks_pos sv n3
         have hp3b := hv3.pos
         have hgw_ := word_gt (by omega) hst3
         refine ⟨(hO.sub [0, 2, 4]), ?_⟩
         replace hA := hA.sb (e' := [(0, pt pb), (2, pt b1), (3, pt b2), (26, .slice pL1 c.words.length cL1), (28, str v3)])
         refine tree_mem ?_ ?_
         · refine (mN (l := [str v3]) (t := 9) (v := fun b => .slice (some ⟨b, 0, none⟩) 1 1) (d := 29) hA hO ?_)
           clear hA hO fr; intro fr w22 b7 hA hO
           refine ⟨(hO.sub [1, 3, 5]), ?_⟩
           replace hA := hA.sb (e' := [(0, pt pb), (2, pt b1), (3, pt b2), (26, .slice pL1 c.words.length cL1), (29, .slice (some ⟨b7, 0, none⟩) 1 1)])
           refine tree_mem ?_ ?_
           · replace hO : Ow Try.prog (inT (RP pb tb CT sv j k n a er)) w w22 ([(b7, 9, [str v3]), (b3, 68, [str (rt sv m), i64 ((m : Nat) : Int)]), (b2, 49, [.slice pL1 c.words.length cL1, str c.inp, str c.out, bl c.app]), (b1, 49, [.slice none 0 0, str (⟨#[]⟩), str (⟨#[]⟩), bl false]), (pb, 66, [.slice (some (⟨tb, 2 * j3, none⟩ : Addr)) ((tks sv n3).length) k3, i64 ((a4 : Nat) : Int), i64 er4]), (tb, 68, CT)] ++ (TL1 ++ ([]))) := hO
             refine (mA (f := fT) (el := 9) (sz := 1) (bytes := 16) (p := pL1) (c := cL1) (l := c.words) (l' := ([v3] : List ByteArray)) (T := TL1) (t := 47) (tx := 47) (ty := 47) (x := .slice (some ⟨b7, 0, none⟩) 1 1) (d := 30) [(b7, 9, [str v3]), (b3, 68, [str (rt sv m), i64 ((m : Nat) : Int)]), (b2, 49, [.slice pL1 c.words.length cL1, str c.inp, str c.out, bl c.app]), (b1, 49, [.slice none 0 0, str (⟨#[]⟩), str (⟨#[]⟩), bl false]), (pb, 66, [.slice (some (⟨tb, 2 * j3, none⟩ : Addr)) ((tks sv n3).length) k3, i64 ((a4 : Nat) : Int), i64 er4]), (tb, 68, CT)] ([]) encT hA hO hTL1 (Vw.src (e' := 9) encT ((hO.b 0).vw (off := 0) (xs := ([v3] : List ByteArray)) (by kernel_rfl)) (by kernel_rfl)) (by first | omega | (simp only [List.length_append, List.length_cons, List.length_nil]; omega)) (by unfold maxLen; first | omega | (simp only [List.length_append, List.length_cons, List.length_nil]; omega)) ?_)
             clear hA hO fr; intro fr w23 p4 c4 T5 hA hO hT5
             refine ⟨(hO.sub [1, 3, 5]), ?_⟩
             replace hA := hA.sb (e' := [(0, pt pb), (2, pt b1), (3, pt b2), (30, .slice p4 ((c.words ++ ([v3] : List ByteArray)).length) c4)])
             refine ckT (l := [6]) (e' := [(0, pt pb), (2, pt b1), (3, pt b2), (30, .slice p4 ((c.words ++ ([v3] : List ByteArray)).length) c4), (31, pt b2)]) hA [] c0 ?_
             clear hA fr; intro fr hA
             refine tree_mem ?_ ?_
             · refine (mS (off := 0) (vc := [.slice p4 ((c.words ++ ([v3] : List ByteArray)).length) c4]) 2 hA hO ?_)
               clear hO; intro w24 hO
               refine ⟨(hO.sub [1, 3, 5]), ?_⟩
               replace hA := hA.sb (e' := [(0, pt pb), (2, pt b1), (3, pt b2)])
               refine tree_fin ?_
               refine then_normal ?_
               refine wp_exit ?_
               refine inBlock_other (by decide) ?_
               refine then_exit ?_
               refine inBlock_exit ?_
               refine then_normal ?_
               obtain ⟨g2, hg2, hlt2⟩ := meas (er := er4) (z := sv.size) (m := n3) (g := g) (fun q_ => by have := hgw_ q_; omega) (by omega)
               exact ⟨_, by omega, ⟨c.words ++ ([v3] : List ByteArray), c.inp, c.out, c.app⟩, j3, k3, n3, a4, er4, f, g2, p4, c4, T5, rfl, hA.sub [0, 2, 3] (by kernel_rfl), (Ow.subP (A := [(b7, 9, [str v3]), (b3, 68, [str (rt sv m), i64 ((m : Nat) : Int)]), (b2, 49, [.slice p4 ((c.words ++ ([v3] : List ByteArray)).length) c4, str c.inp, str c.out, bl c.app]), (b1, 49, [.slice none 0 0, str (⟨#[]⟩), str (⟨#[]⟩), bl false]), (pb, 66, [.slice (some (⟨tb, 2 * j3, none⟩ : Addr)) ((tks sv n3).length) k3, i64 ((a4 : Nat) : Int), i64 er4]), (tb, 68, CT)]) (A' := [(b2, 49, [.slice p4 ((c.words ++ ([v3] : List ByteArray)).length) c4, str c.inp, str c.out, bl c.app]), (b1, 49, [.slice none 0 0, str (⟨#[]⟩), str (⟨#[]⟩), bl false]), (pb, 66, [.slice (some (⟨tb, 2 * j3, none⟩ : Addr)) ((tks sv n3).length) k3, i64 ((a4 : Nat) : Int), i64 er4]), (tb, 68, CT)]) (B := T5 ++ ([])) hO (.cons _ (.cons _ (.cons_cons _ (.cons_cons _ (.cons_cons _ (.cons_cons _ .slnil))))))), hT5, hv3.pos, hg2, (fun q_ => by have := hgw_ q_; omega), (by first | exact cst_word hC (by omega) (by omega) (by omega) hst3 | exact cst_lim hC (by omega) (by omega) (by omega) hfe1 hst3), (by simp only [List.length_append, List.length_cons, List.length_nil]; by_cases q_ : er4 = 0; { exact .inl ⟨q_, by first | omega | (exfalso; have := St.err hst3 (by omega); omega)⟩ }; { exact .inr ⟨q_, by omega⟩ }), (by omega), (fun q_ => .inr (by have := hgw_ q_; omega)), hv3, trivial⟩
             exact trivial
           exact trivial
         exact trivial
       exact trivial
     refine tree_mem ?_ ?_
     · refine (mC (f := 56) (args := [pt pb]) (d := (some 28)) hA Try.func56 ((rword_any pb tb toks CT sv jl kl m al el _ hvl hs (Ow.self (A := [(b3, 68, [str (rt sv m), i64 ((m : Nat) : Int)]), (b2, 49, [.slice pL1 c.words.length cL1, str c.inp, str c.out, bl c.app]), (b1, 49, [.slice none 0 0, str (⟨#[]⟩), str (⟨#[]⟩), bl false])]) (T := RP pb tb CT sv jl kl m al el) (B := ([] ++ (TL1 ++ ([])))) (hO.to (by first | rfl | (simp only [RP, apd])) : Ow Try.prog (inT (RP pb tb CT sv j k n a er)) w _ ([(b3, 68, [str (rt sv m), i64 ((m : Nat) : Int)]), (b2, 49, [.slice pL1 c.words.length cL1, str c.inp, str c.out, bl c.app]), (b1, 49, [.slice none 0 0, str (⟨#[]⟩), str (⟨#[]⟩), bl false])] ++ (RP pb tb CT sv jl kl m al el ++ (([] ++ (TL1 ++ ([]))))))))).mono ?_))
       rintro en w25 ⟨v4, j4, k4, n4, a5, er5, rfl, hst4, hv4, hle4, hW⟩
       refine ⟨_, rfl, ?_⟩
       clear hA fr; intro fr hA
       replace hO := Ow.pass (A := [(b3, 68, [str (rt sv m), i64 ((m : Nat) : Int)]), (b2, 49, [.slice pL1 c.words.length cL1, str c.inp, str c.out, bl c.app]), (b1, 49, [.slice none 0 0, str (⟨#[]⟩), str (⟨#[]⟩), bl false])]) (T := RP pb tb CT sv jl kl m al el) (B := ([] ++ (TL1 ++ ([])))) (hO.to (by first | rfl | (simp only [RP, apd])) : Ow Try.prog (inT (RP pb tb CT sv j k n a er)) w _ ([(b3, 68, [str (rt sv m), i64 ((m : Nat) : Int)]), (b2, 49, [.slice pL1 c.words.length cL1, str c.inp, str c.out, bl c.app]), (b1, 49, [.slice none 0 0, str (⟨#[]⟩), str (⟨#[]⟩), bl false])] ++ (RP pb tb CT sv jl kl m al el ++ (([] ++ (TL1 ++ ([]))))))) hW; clear hW
       replace hO : Ow Try.prog (inT (RP pb tb CT sv j k n a er)) w _ ([(b3, 68, [str (rt sv m), i64 ((m : Nat) : Int)]), (b2, 49, [.slice pL1 c.words.length cL1, str c.inp, str c.out, bl c.app]), (b1, 49, [.slice none 0 0, str (⟨#[]⟩), str (⟨#[]⟩), bl false]), (pb, 66, [.slice (some (⟨tb, 2 * j4, none⟩ : Addr)) ((tks sv n4).length) k4, i64 ((a5 : Nat) : Int), i64 er5]), (tb, 68, CT)] ++ (TL1 ++ ([]))) := hO.to (by first | rfl | (simp only [RP, apd]))
       have hp4a := tks_pos sv n4
       have hp4b := hv4.pos
       have hgw_ := word_gt (by omega) hst4
       refine ⟨(hO.sub [0, 2, 4]), ?_⟩
       replace hA := hA.sb (e' := [(0, pt pb), (2, pt b1), (3, pt b2), (25, pt b2), (28, str v4)])
       refine tree_mem ?_ ?_
       · refine (mQ (e' := [(0, pt pb), (2, pt b1), (3, pt b2), (26, .slice pL1 c.words.length cL1), (28, str v4)]) hA [.slice pL1 c.words.length cL1] (cc (hO.l1 1 0 47 (.slice pL1 c.words.length cL1)) c0) ?_)
         clear hA fr; intro fr hA
         refine ⟨(hO.sub [0, 2, 4]), ?_⟩
         replace hA := hA.sb (e' := [(0, pt pb), (2, pt b1), (3, pt b2), (26, .slice pL1 c.words.length cL1), (28, str v4)])
         refine tree_mem ?_ ?_
         · refine (mN (l := [str v4]) (t := 9) (v := fun b => .slice (some ⟨b, 0, none⟩) 1 1) (d := 29) hA hO ?_)
           clear hA hO fr; intro fr w26 b8 hA hO
           refine ⟨(hO.sub [1, 3, 5]), ?_⟩
           replace hA := hA.sb (e' := [(0, pt pb), (2, pt b1), (3, pt b2), (26, .slice pL1 c.words.length cL1), (29, .slice (some ⟨b8, 0, none⟩) 1 1)])
           refine tree_mem ?_ ?_
           · replace hO : Ow Try.prog (inT (RP pb tb CT sv j k n a er)) w w26 ([(b8, 9, [str v4]), (b3, 68, [str (rt sv m), i64 ((m : Nat) : Int)]), (b2, 49, [.slice pL1 c.words.length cL1, str c.inp, str c.out, bl c.app]), (b1, 49, [.slice none 0 0, str (⟨#[]⟩), str (⟨#[]⟩), bl false]), (pb, 66, [.slice (some (⟨tb, 2 * j4, none⟩ : Addr)) ((tks sv n4).length) k4, i64 ((a5 : Nat) : Int), i64 er5]), (tb, 68, CT)] ++ (TL1 ++ ([]))) := hO
             refine (mA (f := fT) (el := 9) (sz := 1) (bytes := 16) (p := pL1) (c := cL1) (l := c.words) (l' := ([v4] : List ByteArray)) (T := TL1) (t := 47) (tx := 47) (ty := 47) (x := .slice (some ⟨b8, 0, none⟩) 1 1) (d := 30) [(b8, 9, [str v4]), (b3, 68, [str (rt sv m), i64 ((m : Nat) : Int)]), (b2, 49, [.slice pL1 c.words.length cL1, str c.inp, str c.out, bl c.app]), (b1, 49, [.slice none 0 0, str (⟨#[]⟩), str (⟨#[]⟩), bl false]), (pb, 66, [.slice (some (⟨tb, 2 * j4, none⟩ : Addr)) ((tks sv n4).length) k4, i64 ((a5 : Nat) : Int), i64 er5]), (tb, 68, CT)] ([]) encT hA hO hTL1 (Vw.src (e' := 9) encT ((hO.b 0).vw (off := 0) (xs := ([v4] : List ByteArray)) (by kernel_rfl)) (by kernel_rfl)) (by first | omega | (simp only [List.length_append, List.length_cons, List.length_nil]; omega)) (by unfold maxLen; first | omega | (simp only [List.length_append, List.length_cons, List.length_nil]; omega)) ?_)
             clear hA hO fr; intro fr w27 p5 c5 T6 hA hO hT6
             refine ⟨(hO.sub [1, 3, 5]), ?_⟩
             replace hA := hA.sb (e' := [(0, pt pb), (2, pt b1), (3, pt b2), (30, .slice p5 ((c.words ++ ([v4] : List ByteArray)).length) c5)])
             refine ckT (l := [6]) (e' := [(0, pt pb), (2, pt b1), (3, pt b2), (30, .slice p5 ((c.words ++ ([v4] : List ByteArray)).length) c5), (31, pt b2)]) hA [] c0 ?_
             clear hA fr; intro fr hA
             refine tree_mem ?_ ?_
             · refine (mS (off := 0) (vc := [.slice p5 ((c.words ++ ([v4] : List ByteArray)).length) c5]) 2 hA hO ?_)
               clear hO; intro w28 hO
               refine ⟨(hO.sub [1, 3, 5]), ?_⟩
               replace hA := hA.sb (e' := [(0, pt pb), (2, pt b1), (3, pt b2)])
               refine tree_fin ?_
               refine then_normal ?_
               refine wp_exit ?_
               refine inBlock_other (by decide) ?_
               refine then_exit ?_
               refine inBlock_exit ?_
               refine then_normal ?_
               obtain ⟨g2, hg2, hlt2⟩ := meas (er := er5) (z := sv.size) (m := n4) (g := g) (fun q_ => by have := hgw_ q_; omega) (by omega)
               exact ⟨_, by omega, ⟨c.words ++ ([v4] : List ByteArray), c.inp, c.out, c.app⟩, j4, k4, n4, a5, er5, f, g2, p5, c5, T6, rfl, hA.sub [0, 2, 3] (by kernel_rfl), (Ow.subP (A := [(b8, 9, [str v4]), (b3, 68, [str (rt sv m), i64 ((m : Nat) : Int)]), (b2, 49, [.slice p5 ((c.words ++ ([v4] : List ByteArray)).length) c5, str c.inp, str c.out, bl c.app]), (b1, 49, [.slice none 0 0, str (⟨#[]⟩), str (⟨#[]⟩), bl false]), (pb, 66, [.slice (some (⟨tb, 2 * j4, none⟩ : Addr)) ((tks sv n4).length) k4, i64 ((a5 : Nat) : Int), i64 er5]), (tb, 68, CT)]) (A' := [(b2, 49, [.slice p5 ((c.words ++ ([v4] : List ByteArray)).length) c5, str c.inp, str c.out, bl c.app]), (b1, 49, [.slice none 0 0, str (⟨#[]⟩), str (⟨#[]⟩), bl false]), (pb, 66, [.slice (some (⟨tb, 2 * j4, none⟩ : Addr)) ((tks sv n4).length) k4, i64 ((a5 : Nat) : Int), i64 er5]), (tb, 68, CT)]) (B := T6 ++ ([])) hO (.cons _ (.cons _ (.cons_cons _ (.cons_cons _ (.cons_cons _ (.cons_cons _ .slnil))))))), hT6, hv4.pos, hg2, (fun q_ => by have := hgw_ q_; omega), (by first | exact cst_word hC (by omega) (by omega) (by omega) hst4 | exact cst_lim hC (by omega) (by omega) (by omega) hfe1 hst4), (by simp only [List.length_append, List.length_cons, List.length_nil]; by_cases q_ : er5 = 0; { exact .inl ⟨q_, by first | omega | (exfalso; have := St.err hst4 (by omega); omega)⟩ }; { exact .inr ⟨q_, by omega⟩ }), (by omega), (fun q_ => .inr (by have := hgw_ q_; omega)), hv4, trivial⟩
             exact trivial
           exact trivial
         exact trivial
       refine tree_mem ?_ ?_
       · refine (mN (l := [str v4]) (t := 9) (v := fun b => .slice (some ⟨b, 0, none⟩) 1 1) (d := 29) hA hO ?_)
         clear hA hO fr; intro fr w29 b9 hA hO
         refine ⟨(hO.sub [1, 3, 5]), ?_⟩
         replace hA := hA.sb (e' := [(0, pt pb), (2, pt b1), (3, pt b2), (25, pt b2), (29, .slice (some ⟨b9, 0, none⟩) 1 1)])
         refine tree_mem ?_ ?_
         · refine (mQ (e' := [(0, pt pb), (2, pt b1), (3, pt b2), (26, .slice pL1 c.words.length cL1), (29, .slice (some ⟨b9, 0, none⟩) 1 1)]) hA [.slice pL1 c.words.length cL1] (cc (hO.l1 2 0 47 (.slice pL1 c.words.length cL1)) c0) ?_)
           clear hA fr; intro fr hA
           refine ⟨(hO.sub [1, 3, 5]), ?_⟩
           replace hA := hA.sb (e' := [(0, pt pb), (2, pt b1), (3, pt b2), (26, .slice pL1 c.words.length cL1), (29, .slice (some ⟨b9, 0, none⟩) 1 1)])
           refine tree_mem ?_ ?_
           · replace hO : Ow Try.prog (inT (RP pb tb CT sv j k n a er)) w w29 ([(b9, 9, [str v4]), (b3, 68, [str (rt sv m), i64 ((m : Nat) : Int)]), (b2, 49, [.slice pL1 c.words.length cL1, str c.inp, str c.out, bl c.app]), (b1, 49, [.slice none 0 0, str (⟨#[]⟩), str (⟨#[]⟩), bl false]), (pb, 66, [.slice (some (⟨tb, 2 * j4, none⟩ : Addr)) ((tks sv n4).length) k4, i64 ((a5 : Nat) : Int), i64 er5]), (tb, 68, CT)] ++ (TL1 ++ ([]))) := hO
             refine (mA (f := fT) (el := 9) (sz := 1) (bytes := 16) (p := pL1) (c := cL1) (l := c.words) (l' := ([v4] : List ByteArray)) (T := TL1) (t := 47) (tx := 47) (ty := 47) (x := .slice (some ⟨b9, 0, none⟩) 1 1) (d := 30) [(b9, 9, [str v4]), (b3, 68, [str (rt sv m), i64 ((m : Nat) : Int)]), (b2, 49, [.slice pL1 c.words.length cL1, str c.inp, str c.out, bl c.app]), (b1, 49, [.slice none 0 0, str (⟨#[]⟩), str (⟨#[]⟩), bl false]), (pb, 66, [.slice (some (⟨tb, 2 * j4, none⟩ : Addr)) ((tks sv n4).length) k4, i64 ((a5 : Nat) : Int), i64 er5]), (tb, 68, CT)] ([]) encT hA hO hTL1 (Vw.src (e' := 9) encT ((hO.b 0).vw (off := 0) (xs := ([v4] : List ByteArray)) (by kernel_rfl)) (by kernel_rfl)) (by first | omega | (simp only [List.length_append, List.length_cons, List.length_nil]; omega)) (by unfold maxLen; first | omega | (simp only [List.length_append, List.length_cons, List.length_nil]; omega)) ?_)
             clear hA hO fr; intro fr w30 p6 c6 T7 hA hO hT7
             refine ⟨(hO.sub [1, 3, 5]), ?_⟩
             replace hA := hA.sb (e' := [(0, pt pb), (2, pt b1), (3, pt b2), (30, .slice p6 ((c.words ++ ([v4] : List ByteArray)).length) c6)])
             refine ckT (l := [6]) (e' := [(0, pt pb), (2, pt b1), (3, pt b2), (30, .slice p6 ((c.words ++ ([v4] : List ByteArray)).length) c6), (31, pt b2)]) hA [] c0 ?_
             clear hA fr; intro fr hA
             refine tree_mem ?_ ?_
             · refine (mS (off := 0) (vc := [.slice p6 ((c.words ++ ([v4] : List ByteArray)).length) c6]) 2 hA hO ?_)
               clear hO; intro w31 hO
               refine ⟨(hO.sub [1, 3, 5]), ?_⟩
               replace hA := hA.sb (e' := [(0, pt pb), (2, pt b1), (3, pt b2)])
               refine tree_fin ?_
               refine then_normal ?_
               refine wp_exit ?_
               refine inBlock_other (by decide) ?_
               refine then_exit ?_
               refine inBlock_exit ?_
               refine then_normal ?_
               obtain ⟨g2, hg2, hlt2⟩ := meas (er := er5) (z := sv.size) (m := n4) (g := g) (fun q_ => by have := hgw_ q_; omega) (by omega)
               exact ⟨_, by omega, ⟨c.words ++ ([v4] : List ByteArray), c.inp, c.out, c.app⟩, j4, k4, n4, a5, er5, f, g2, p6, c6, T7, rfl, hA.sub [0, 2, 3] (by kernel_rfl), (Ow.subP (A := [(b9, 9, [str v4]), (b3, 68, [str (rt sv m), i64 ((m : Nat) : Int)]), (b2, 49, [.slice p6 ((c.words ++ ([v4] : List ByteArray)).length) c6, str c.inp, str c.out, bl c.app]), (b1, 49, [.slice none 0 0, str (⟨#[]⟩), str (⟨#[]⟩), bl false]), (pb, 66, [.slice (some (⟨tb, 2 * j4, none⟩ : Addr)) ((tks sv n4).length) k4, i64 ((a5 : Nat) : Int), i64 er5]), (tb, 68, CT)]) (A' := [(b2, 49, [.slice p6 ((c.words ++ ([v4] : List ByteArray)).length) c6, str c.inp, str c.out, bl c.app]), (b1, 49, [.slice none 0 0, str (⟨#[]⟩), str (⟨#[]⟩), bl false]), (pb, 66, [.slice (some (⟨tb, 2 * j4, none⟩ : Addr)) ((tks sv n4).length) k4, i64 ((a5 : Nat) : Int), i64 er5]), (tb, 68, CT)]) (B := T7 ++ ([])) hO (.cons _ (.cons _ (.cons_cons _ (.cons_cons _ (.cons_cons _ (.cons_cons _ .slnil))))))), hT7, hv4.pos, hg2, (fun q_ => by have := hgw_ q_; omega), (by first | exact cst_word hC (by omega) (by omega) (by omega) hst4 | exact cst_lim hC (by omega) (by omega) (by omega) hfe1 hst4), (by simp only [List.length_append, List.length_cons, List.length_nil]; by_cases q_ : er5 = 0; { exact .inl ⟨q_, by first | omega | (exfalso; have := St.err hst4 (by omega); omega)⟩ }; { exact .inr ⟨q_, by omega⟩ }), (by omega), (fun q_ => .inr (by have := hgw_ q_; omega)), hv4, trivial⟩
             exact trivial
           exact trivial
         exact trivial
       exact trivial
     exact trivial
   rw [h2] at hA
   have h2p := of_decide_eq_false h2
   refine cF hA ?_
   refine sR (l := (rg 0 9)) ?_
   refine ck (l := [0, 1, 2, 3]) (r := (rg 4 5)) (e' := [(0, pt pb), (2, pt b1), (3, pt b2), (4, pt b3), (35, bl ((rt sv m).toList == (⟨#[60]⟩ : ByteArray).toList)), (36, bl ((rt sv m).toList == (⟨#[60]⟩ : ByteArray).toList))]) hA [str (rt sv m)] (cc (hO.l1 0 0 9 (str (rt sv m))) c0) ?_
   clear hA fr; intro fr hA
   replace hA := hA.bool (f := fun z_ => [(0, pt pb), (2, pt b1), (3, pt b2), (4, pt b3), (35, .bool z_), (36, .bool z_)]) (rt_lt sv m : ((rt sv m).toList == (⟨#[60]⟩ : ByteArray).toList) = (decide (kd sv m = 2)))
   rcases Bool.eq_false_or_eq_true (decide (kd sv m = 2)) with h4 | h4
   · rw [h4] at hA
     have h4p := of_decide_eq_true h4
     refine ck (l := (rg 4 5)) (r := []) (e' := [(0, pt pb), (2, pt b1), (3, pt b2), (4, pt b3), (32, bl (c.inp.toList == (⟨#[]⟩ : ByteArray).toList))]) hA [str c.inp] (cc (hO.l1 1 1 9 (str c.inp)) c0) ?_
     clear hA fr; intro fr hA
     replace hA := hA.bool (f := fun z_ => [(0, pt pb), (2, pt b1), (3, pt b2), (4, pt b3), (32, .bool z_)]) (str_empty c.inp : (c.inp.toList == (⟨#[]⟩ : ByteArray).toList) = (decide (c.inp.size = 0)))
     refine end_ops ?_
     refine then_normal ?_
     rcases Bool.eq_false_or_eq_true (decide (c.inp.size = 0)) with h5 | h5
     · rw [h5] at hA
       have h5p := of_decide_eq_true h5
       refine cT hA ?_
       refine sR (l := [0, 1]) ?_
       refine ck (l := [0]) (r := [1]) (e' := [(0, pt pb), (2, pt b1), (3, pt b2), (41, pt pb)]) hA [] c0 ?_
       clear hA fr; intro fr hA
       refine wpOps_cons' (mC (f := 29) (args := [pt pb]) (d := (some 42)) hA Try.func29 ((rnext_any pb tb toks CT sv jl kl m al el _ hvl hs (Ow.self (A := [(b3, 68, [str (rt sv m), i64 ((m : Nat) : Int)]), (b2, 49, [.slice pL1 c.words.length cL1, str c.inp, str c.out, bl c.app]), (b1, 49, [.slice none 0 0, str (⟨#[]⟩), str (⟨#[]⟩), bl false])]) (T := RP pb tb CT sv jl kl m al el) (B := ([] ++ (TL1 ++ ([])))) (hO.to (by first | rfl | (simp only [RP, apd])) : Ow Try.prog (inT (RP pb tb CT sv j k n a er)) w _ ([(b3, 68, [str (rt sv m), i64 ((m : Nat) : Int)]), (b2, 49, [.slice pL1 c.words.length cL1, str c.inp, str c.out, bl c.app]), (b1, 49, [.slice none 0 0, str (⟨#[]⟩), str (⟨#[]⟩), bl false])] ++ (RP pb tb CT sv jl kl m al el ++ (([] ++ (TL1 ++ ([]))))))))).mono ?_))
       rintro en w32 ⟨j5, k5, n5, rfl, hnx1, hv5, hW⟩
       refine ⟨_, rfl, ?_⟩
       clear hA fr; intro fr hA
       replace hO := Ow.pass (A := [(b3, 68, [str (rt sv m), i64 ((m : Nat) : Int)]), (b2, 49, [.slice pL1 c.words.length cL1, str c.inp, str c.out, bl c.app]), (b1, 49, [.slice none 0 0, str (⟨#[]⟩), str (⟨#[]⟩), bl false])]) (T := RP pb tb CT sv jl kl m al el) (B := ([] ++ (TL1 ++ ([])))) (hO.to (by first | rfl | (simp only [RP, apd])) : Ow Try.prog (inT (RP pb tb CT sv j k n a er)) w _ ([(b3, 68, [str (rt sv m), i64 ((m : Nat) : Int)]), (b2, 49, [.slice pL1 c.words.length cL1, str c.inp, str c.out, bl c.app]), (b1, 49, [.slice none 0 0, str (⟨#[]⟩), str (⟨#[]⟩), bl false])] ++ (RP pb tb CT sv jl kl m al el ++ (([] ++ (TL1 ++ ([]))))))) hW; clear hW
       replace hO : Ow Try.prog (inT (RP pb tb CT sv j k n a er)) w _ ([(b3, 68, [str (rt sv m), i64 ((m : Nat) : Int)]), (b2, 49, [.slice pL1 c.words.length cL1, str c.inp, str c.out, bl c.app]), (b1, 49, [.slice none 0 0, str (⟨#[]⟩), str (⟨#[]⟩), bl false]), (pb, 66, [.slice (some (⟨tb, 2 * j5, none⟩ : Addr)) ((tks sv n5).length) k5, i64 ((al : Nat) : Int), i64 el]), (tb, 68, CT)] ++ (TL1 ++ ([]))) := hO.to (by first | rfl | (simp only [RP, apd]))
       have hp5a := tks_pos sv n5
       have hp5b := hv5.pos
       replace hA := hA.sb (e' := [(0, pt pb), (2, pt b1), (3, pt b2)])
       refine end_ops ?_
       refine then_normal ?_
       refine sR (l := [0, 1, 2, 3]) ?_
       refine ck (l := [0]) (r := [1, 2, 3]) (e' := [(0, pt pb), (2, pt b1), (3, pt b2), (43, pt pb)]) hA [] c0 ?_
       clear hA fr; intro fr hA
       refine wpOps_cons' (mC (f := 56) (args := [pt pb]) (d := (some 44)) hA Try.func56 ((rword_any pb tb toks CT sv j5 k5 n5 al el _ hv5 hs (Ow.self (A := [(b3, 68, [str (rt sv m), i64 ((m : Nat) : Int)]), (b2, 49, [.slice pL1 c.words.length cL1, str c.inp, str c.out, bl c.app]), (b1, 49, [.slice none 0 0, str (⟨#[]⟩), str (⟨#[]⟩), bl false])]) (T := RP pb tb CT sv j5 k5 n5 al el) (B := ([] ++ (TL1 ++ ([])))) (hO.to (by first | rfl | (simp only [RP, apd])) : Ow Try.prog (inT (RP pb tb CT sv j k n a er)) w _ ([(b3, 68, [str (rt sv m), i64 ((m : Nat) : Int)]), (b2, 49, [.slice pL1 c.words.length cL1, str c.inp, str c.out, bl c.app]), (b1, 49, [.slice none 0 0, str (⟨#[]⟩), str (⟨#[]⟩), bl false])] ++ (RP pb tb CT sv j5 k5 n5 al el ++ (([] ++ (TL1 ++ ([]))))))))).mono ?_))
       rintro en w33 ⟨v5, j6, k6, n6, a6, er6, rfl, hst5, hv6, hle5, hW⟩
       refine ⟨_, rfl, ?_⟩
       clear hA fr; intro fr hA
       replace hO := Ow.pass (A := [(b3, 68, [str (rt sv m), i64 ((m : Nat) : Int)]), (b2, 49, [.slice pL1 c.words.length cL1, str c.inp, str c.out, bl c.app]), (b1, 49, [.slice none 0 0, str (⟨#[]⟩), str (⟨#[]⟩), bl false])]) (T := RP pb tb CT sv j5 k5 n5 al el) (B := ([] ++ (TL1 ++ ([])))) (hO.to (by first | rfl | (simp only [RP, apd])) : Ow Try.prog (inT (RP pb tb CT sv j k n a er)) w _ ([(b3, 68, [str (rt sv m), i64 ((m : Nat) : Int)]), (b2, 49, [.slice pL1 c.words.length cL1, str c.inp, str c.out, bl c.app]), (b1, 49, [.slice none 0 0, str (⟨#[]⟩), str (⟨#[]⟩), bl false])] ++ (RP pb tb CT sv j5 k5 n5 al el ++ (([] ++ (TL1 ++ ([]))))))) hW; clear hW
       replace hO : Ow Try.prog (inT (RP pb tb CT sv j k n a er)) w _ ([(b3, 68, [str (rt sv m), i64 ((m : Nat) : Int)]), (b2, 49, [.slice pL1 c.words.length cL1, str c.inp, str c.out, bl c.app]), (b1, 49, [.slice none 0 0, str (⟨#[]⟩), str (⟨#[]⟩), bl false]), (pb, 66, [.slice (some (⟨tb, 2 * j6, none⟩ : Addr)) ((tks sv n6).length) k6, i64 ((a6 : Nat) : Int), i64 er6]), (tb, 68, CT)] ++ (TL1 ++ ([]))) := hO.to (by first | rfl | (simp only [RP, apd]))
       have hp6a := tks_pos sv n6
       have hp6b := hv6.pos
       have hgw_ := word_gt (by omega) hst5
       replace hA := hA.sb (e' := [(0, pt pb), (2, pt b1), (3, pt b2), (44, str v5)])
       refine ck (l := [2]) (r := [3]) (e' := [(0, pt pb), (2, pt b1), (3, pt b2), (44, str v5), (45, pf b2 1)]) hA [] c0 ?_
       clear hA fr; intro fr hA
       refine wpOps_cons' (mS (off := 1) (vc := [str v5]) 1 hA hO ?_)
       clear hO; intro w34 hO
       replace hA := hA.sb (e' := [(0, pt pb), (2, pt b1), (3, pt b2)])
       refine end_ops ?_
       refine then_normal ?_
       refine wp_exit ?_
       refine inBlock_other (by decide) ?_
       refine then_exit ?_
       refine inBlock_exit ?_
       refine then_normal ?_
       obtain ⟨g2, hg2, hlt2⟩ := meas (er := er6) (z := sv.size) (m := n6) (g := g) (fun q_ => by have := hgw_ q_; omega) (by omega)
       exact ⟨_, by omega, ⟨c.words, v5, c.out, c.app⟩, j6, k6, n6, a6, er6, f, g2, pL1, cL1, TL1, rfl, hA.sub [0, 2, 3] (by kernel_rfl), (Ow.subP (A := [(b3, 68, [str (rt sv m), i64 ((m : Nat) : Int)]), (b2, 49, [.slice pL1 c.words.length cL1, str v5, str c.out, bl c.app]), (b1, 49, [.slice none 0 0, str (⟨#[]⟩), str (⟨#[]⟩), bl false]), (pb, 66, [.slice (some (⟨tb, 2 * j6, none⟩ : Addr)) ((tks sv n6).length) k6, i64 ((a6 : Nat) : Int), i64 er6]), (tb, 68, CT)]) (A' := [(b2, 49, [.slice pL1 c.words.length cL1, str v5, str c.out, bl c.app]), (b1, 49, [.slice none 0 0, str (⟨#[]⟩), str (⟨#[]⟩), bl false]), (pb, 66, [.slice (some (⟨tb, 2 * j6, none⟩ : Addr)) ((tks sv n6).length) k6, i64 ((a6 : Nat) : Int), i64 er6]), (tb, 68, CT)]) (B := TL1 ++ ([])) hO (.cons _ (.cons_cons _ (.cons_cons _ (.cons_cons _ (.cons_cons _ .slnil)))))), hTL1, hv6.pos, hg2, (fun q_ => by have := hgw_ q_; omega), (by have q_ := cst_red hC (by omega) (by omega) (by omega) (by omega) hst5; rw [if_pos (show kd sv m = 2 by omega)] at q_; exact q_), (by have hz_ : c.words.length = (⟨c.words, v5, c.out, c.app⟩ : CmdL).words.length := rfl; by_cases q_ : er6 = 0; { exact .inl ⟨q_, by omega⟩ }; { exact .inr ⟨q_, by omega⟩ }), (by omega), (fun q_ => .inr (by have := hgw_ q_; omega)), hv6, trivial⟩
     rw [h5] at hA
     have h5p := of_decide_eq_false h5
     refine cF hA ?_
     refine sR (l := (rg 0 14)) ?_
     refine ck (l := [0, 1, 2, 3]) (r := (rg 4 10)) (e' := [(0, pt pb), (2, pt b1), (3, pt b2), (4, pt b3), (49, bl ((rt sv m).toList == (⟨#[62]⟩ : ByteArray).toList)), (50, bl ((rt sv m).toList == (⟨#[62]⟩ : ByteArray).toList))]) hA [str (rt sv m)] (cc (hO.l1 0 0 9 (str (rt sv m))) c0) ?_
     clear hA fr; intro fr hA
     replace hA := hA.bool (f := fun z_ => [(0, pt pb), (2, pt b1), (3, pt b2), (4, pt b3), (49, .bool z_), (50, .bool z_)]) (rt_gt sv m : ((rt sv m).toList == (⟨#[62]⟩ : ByteArray).toList) = (decide (kd sv m = 3)))
     rcases Bool.eq_false_or_eq_true (decide (kd sv m = 3)) with h6 | h6
     · rw [h6] at hA
       have h6p := of_decide_eq_true h6
       refine ck (l := (rg 4 10)) (r := []) (e' := [(0, pt pb), (2, pt b1), (3, pt b2), (4, pt b3), (46, bl (c.out.toList == (⟨#[]⟩ : ByteArray).toList))]) hA [str c.out] (cc (hO.l1 1 2 9 (str c.out)) c0) ?_
       clear hA fr; intro fr hA
       replace hA := hA.bool (f := fun z_ => [(0, pt pb), (2, pt b1), (3, pt b2), (4, pt b3), (46, .bool z_)]) (str_empty c.out : (c.out.toList == (⟨#[]⟩ : ByteArray).toList) = (decide (c.out.size = 0)))
       refine end_ops ?_
       refine then_normal ?_
       rcases Bool.eq_false_or_eq_true (decide (c.out.size = 0)) with h7 | h7
       · rw [h7] at hA
         have h7p := of_decide_eq_true h7
         refine cT hA ?_
         refine sR (l := [0, 1]) ?_
         refine ck (l := [0]) (r := [1]) (e' := [(0, pt pb), (2, pt b1), (3, pt b2), (4, pt b3), (60, pt pb)]) hA [] c0 ?_
         clear hA fr; intro fr hA
         refine wpOps_cons' (mC (f := 29) (args := [pt pb]) (d := (some 61)) hA Try.func29 ((rnext_any pb tb toks CT sv jl kl m al el _ hvl hs (Ow.self (A := [(b3, 68, [str (rt sv m), i64 ((m : Nat) : Int)]), (b2, 49, [.slice pL1 c.words.length cL1, str c.inp, str c.out, bl c.app]), (b1, 49, [.slice none 0 0, str (⟨#[]⟩), str (⟨#[]⟩), bl false])]) (T := RP pb tb CT sv jl kl m al el) (B := ([] ++ (TL1 ++ ([])))) (hO.to (by first | rfl | (simp only [RP, apd])) : Ow Try.prog (inT (RP pb tb CT sv j k n a er)) w _ ([(b3, 68, [str (rt sv m), i64 ((m : Nat) : Int)]), (b2, 49, [.slice pL1 c.words.length cL1, str c.inp, str c.out, bl c.app]), (b1, 49, [.slice none 0 0, str (⟨#[]⟩), str (⟨#[]⟩), bl false])] ++ (RP pb tb CT sv jl kl m al el ++ (([] ++ (TL1 ++ ([]))))))))).mono ?_))
         rintro en w35 ⟨j7, k7, n7, rfl, hnx2, hv7, hW⟩
         refine ⟨_, rfl, ?_⟩
         clear hA fr; intro fr hA
         replace hO := Ow.pass (A := [(b3, 68, [str (rt sv m), i64 ((m : Nat) : Int)]), (b2, 49, [.slice pL1 c.words.length cL1, str c.inp, str c.out, bl c.app]), (b1, 49, [.slice none 0 0, str (⟨#[]⟩), str (⟨#[]⟩), bl false])]) (T := RP pb tb CT sv jl kl m al el) (B := ([] ++ (TL1 ++ ([])))) (hO.to (by first | rfl | (simp only [RP, apd])) : Ow Try.prog (inT (RP pb tb CT sv j k n a er)) w _ ([(b3, 68, [str (rt sv m), i64 ((m : Nat) : Int)]), (b2, 49, [.slice pL1 c.words.length cL1, str c.inp, str c.out, bl c.app]), (b1, 49, [.slice none 0 0, str (⟨#[]⟩), str (⟨#[]⟩), bl false])] ++ (RP pb tb CT sv jl kl m al el ++ (([] ++ (TL1 ++ ([]))))))) hW; clear hW
         replace hO : Ow Try.prog (inT (RP pb tb CT sv j k n a er)) w _ ([(b3, 68, [str (rt sv m), i64 ((m : Nat) : Int)]), (b2, 49, [.slice pL1 c.words.length cL1, str c.inp, str c.out, bl c.app]), (b1, 49, [.slice none 0 0, str (⟨#[]⟩), str (⟨#[]⟩), bl false]), (pb, 66, [.slice (some (⟨tb, 2 * j7, none⟩ : Addr)) ((tks sv n7).length) k7, i64 ((al : Nat) : Int), i64 el]), (tb, 68, CT)] ++ (TL1 ++ ([]))) := hO.to (by first | rfl | (simp only [RP, apd]))
         have hp7a := tks_pos sv n7
         have hp7b := hv7.pos
         replace hA := hA.sb (e' := [(0, pt pb), (2, pt b1), (3, pt b2), (4, pt b3)])
         refine end_ops ?_
         refine then_normal ?_
         refine wp_seq ?_
         have hS : Ow Try.prog (inT (RP pb tb CT sv j k n a er)) w _ [(b3, 68, [str (rt sv m), i64 ((m : Nat) : Int)]), (b1, 49, [.slice none 0 0, str (⟨#[]⟩), str (⟨#[]⟩), bl false]), (tb, 68, CT)] := hO.sub [0, 2, 4]
         refine rP [(0, true), (2, true), (3, true), (4, true), (1, false), (5, true), (6, false), (7, true), (8, false)] hS ?_
         intro w36 ho; replace hO := hO.st ho; clear ho
         refine ckS (l := [0, 2, 3, 4]) (r := [(1, false), (5, true), (6, false), (7, true), (8, false)]) (e' := [(0, pt pb), (2, pt b1), (3, pt b2), (62, pt pb), (66, bl ((rt sv m).toList == (⟨#[62, 62]⟩ : ByteArray).toList))]) hA [str (rt sv m)] (cc (hS.s1 0 0 9 (str (rt sv m))) c0) ?_
         clear hA fr; intro fr hA
         replace hA := hA.bool (f := fun z_ => [(0, pt pb), (2, pt b1), (3, pt b2), (62, pt pb), (66, .bool z_)]) (rt_app sv m : ((rt sv m).toList == (⟨#[62, 62]⟩ : ByteArray).toList) = (decide (kd sv m = 4)))
         refine plan_mem (mC (f := 56) (args := [pt pb]) (d := (some 63)) hA Try.func56 ((rword_any pb tb toks CT sv j7 k7 n7 al el _ hv7 hs (Ow.self (A := [(b3, 68, [str (rt sv m), i64 ((m : Nat) : Int)]), (b2, 49, [.slice pL1 c.words.length cL1, str c.inp, str c.out, bl c.app]), (b1, 49, [.slice none 0 0, str (⟨#[]⟩), str (⟨#[]⟩), bl false])]) (T := RP pb tb CT sv j7 k7 n7 al el) (B := ([] ++ (TL1 ++ ([])))) (hO.to (by first | rfl | (simp only [RP, apd])) : Ow Try.prog (inT (RP pb tb CT sv j k n a er)) w _ ([(b3, 68, [str (rt sv m), i64 ((m : Nat) : Int)]), (b2, 49, [.slice pL1 c.words.length cL1, str c.inp, str c.out, bl c.app]), (b1, 49, [.slice none 0 0, str (⟨#[]⟩), str (⟨#[]⟩), bl false])] ++ (RP pb tb CT sv j7 k7 n7 al el ++ (([] ++ (TL1 ++ ([]))))))))).mono ?_))
         rintro en w37 ⟨v6, j8, k8, n8, a7, er7, rfl, hst6, hv8, hle6, hW⟩
         refine ⟨_, rfl, ?_⟩
         clear hA fr; intro fr hA
         replace hO := Ow.pass (A := [(b3, 68, [str (rt sv m), i64 ((m : Nat) : Int)]), (b2, 49, [.slice pL1 c.words.length cL1, str c.inp, str c.out, bl c.app]), (b1, 49, [.slice none 0 0, str (⟨#[]⟩), str (⟨#[]⟩), bl false])]) (T := RP pb tb CT sv j7 k7 n7 al el) (B := ([] ++ (TL1 ++ ([])))) (hO.to (by first | rfl | (simp only [RP, apd])) : Ow Try.prog (inT (RP pb tb CT sv j k n a er)) w _ ([(b3, 68, [str (rt sv m), i64 ((m : Nat) : Int)]), (b2, 49, [.slice pL1 c.words.length cL1, str c.inp, str c.out, bl c.app]), (b1, 49, [.slice none 0 0, str (⟨#[]⟩), str (⟨#[]⟩), bl false])] ++ (RP pb tb CT sv j7 k7 n7 al el ++ (([] ++ (TL1 ++ ([]))))))) hW; clear hW
         replace hO : Ow Try.prog (inT (RP pb tb CT sv j k n a er)) w _ ([(b3, 68, [str (rt sv m), i64 ((m : Nat) : Int)]), (b2, 49, [.slice pL1 c.words.length cL1, str c.inp, str c.out, bl c.app]), (b1, 49, [.slice none 0 0, str (⟨#[]⟩), str (⟨#[]⟩), bl false]), (pb, 66, [.slice (some (⟨tb, 2 * j8, none⟩ : Addr)) ((tks sv n8).length) k8, i64 ((a7 : Nat) : Int), i64 er7]), (tb, 68, CT)] ++ (TL1 ++ ([]))) := hO.to (by first | rfl | (simp only [RP, apd]))
         have hp8a := tks_pos sv n8
         have hp8b := hv8.pos
         have hgw_ := word_gt (by omega) hst6
         refine ⟨(hO.sub [0, 2, 4]), ?_⟩
         replace hA := hA.sb (e' := [(0, pt pb), (2, pt b1), (3, pt b2), (63, str v6), (66, bl (decide (kd sv m = 4)))])
         refine ckS (l := [5]) (r := [(6, false), (7, true), (8, false)]) (e' := [(0, pt pb), (2, pt b1), (3, pt b2), (63, str v6), (66, bl (decide (kd sv m = 4))), (67, pf b2 2)]) hA [] c0 ?_
         clear hA fr; intro fr hA
         refine plan_mem (mS (off := 2) (vc := [str v6]) 1 hA hO ?_)
         clear hO; intro w38 hO
         refine ⟨(hO.sub [0, 2, 4]), ?_⟩
         replace hA := hA.sb (e' := [(0, pt pb), (2, pt b1), (3, pt b2), (66, bl (decide (kd sv m = 4)))])
         refine ckS (l := [7]) (r := [(8, false)]) (e' := [(0, pt pb), (2, pt b1), (3, pt b2), (66, bl (decide (kd sv m = 4))), (68, pf b2 3)]) hA [] c0 ?_
         clear hA fr; intro fr hA
         refine plan_mem (mS (off := 3) (vc := [bl (decide (kd sv m = 4))]) 1 hA hO ?_)
         clear hO; intro w39 hO
         refine ⟨(hO.sub [0, 2, 4]), ?_⟩
         replace hA := hA.sb (e' := [(0, pt pb), (2, pt b1), (3, pt b2)])
         refine end_plan ?_
         refine then_normal ?_
         refine wp_exit ?_
         refine inBlock_other (by decide) ?_
         refine then_exit ?_
         refine inBlock_exit ?_
         refine then_normal ?_
         obtain ⟨g2, hg2, hlt2⟩ := meas (er := er7) (z := sv.size) (m := n8) (g := g) (fun q_ => by have := hgw_ q_; omega) (by omega)
         exact ⟨_, by omega, ⟨c.words, c.inp, v6, decide (kd sv m = 4)⟩, j8, k8, n8, a7, er7, f, g2, pL1, cL1, TL1, rfl, hA.sub [0, 2, 3] (by kernel_rfl), (Ow.subP (A := [(b3, 68, [str (rt sv m), i64 ((m : Nat) : Int)]), (b2, 49, [.slice pL1 c.words.length cL1, str c.inp, str v6, bl (decide (kd sv m = 4))]), (b1, 49, [.slice none 0 0, str (⟨#[]⟩), str (⟨#[]⟩), bl false]), (pb, 66, [.slice (some (⟨tb, 2 * j8, none⟩ : Addr)) ((tks sv n8).length) k8, i64 ((a7 : Nat) : Int), i64 er7]), (tb, 68, CT)]) (A' := [(b2, 49, [.slice pL1 c.words.length cL1, str c.inp, str v6, bl (decide (kd sv m = 4))]), (b1, 49, [.slice none 0 0, str (⟨#[]⟩), str (⟨#[]⟩), bl false]), (pb, 66, [.slice (some (⟨tb, 2 * j8, none⟩ : Addr)) ((tks sv n8).length) k8, i64 ((a7 : Nat) : Int), i64 er7]), (tb, 68, CT)]) (B := TL1 ++ ([])) hO (.cons _ (.cons_cons _ (.cons_cons _ (.cons_cons _ (.cons_cons _ .slnil)))))), hTL1, hv8.pos, hg2, (fun q_ => by have := hgw_ q_; omega), (by have q_ := cst_red hC (by omega) (by omega) (by omega) (by omega) hst6; rw [if_neg (show ¬ kd sv m = 2 by omega)] at q_; exact q_), (by have hz_ : c.words.length = (⟨c.words, c.inp, v6, decide (kd sv m = 4)⟩ : CmdL).words.length := rfl; by_cases q_ : er7 = 0; { exact .inl ⟨q_, by omega⟩ }; { exact .inr ⟨q_, by omega⟩ }), (by omega), (fun q_ => .inr (by have := hgw_ q_; omega)), hv8, trivial⟩
       rw [h7] at hA
       have h7p := of_decide_eq_false h7
       refine cF hA ?_
       refine wp_skip ?_
       refine inBlock_normal ?_
       refine then_normal ?_
       refine wp_seq ?_
       refine sC (e' := [(0, pt pb), (2, pt b1), (3, pt b2), (72, bl (((c.words.length : Nat) : Int) == 0))]) 4 hA [.slice pL1 c.words.length cL1] (cc (hO.l1 1 0 47 (.slice pL1 c.words.length cL1)) c0) ?_
       clear hA fr; intro fr hA
       rcases Bool.eq_false_or_eq_true (((c.words.length : Nat) : Int) == 0) with h8 | h8
       · rw [h8] at hA
         have h8p := eq_of_beq h8
         refine cT hA ?_
         refine rR (l := [0, 1]) ?_
         refine ck (l := [0]) (r := [1]) (e' := [(0, pt pb), (2, pt b1), (3, pt b2), (73, pt pb)]) hA [] c0 ?_
         clear hA fr; intro fr hA
         refine wpOps_cons' (mC (f := 27) (args := [pt pb, i64 3]) (d := (some 74)) hA Try.func27 ((rfail_any pb tb toks CT sv jl kl m al el _ hvl hs 3 (Ow.self (A := [(b3, 68, [str (rt sv m), i64 ((m : Nat) : Int)]), (b2, 49, [.slice pL1 c.words.length cL1, str c.inp, str c.out, bl c.app]), (b1, 49, [.slice none 0 0, str (⟨#[]⟩), str (⟨#[]⟩), bl false])]) (T := RP pb tb CT sv jl kl m al el) (B := ([] ++ (TL1 ++ ([])))) (hO.to (by first | rfl | (simp only [RP, apd])) : Ow Try.prog (inT (RP pb tb CT sv j k n a er)) w _ ([(b3, 68, [str (rt sv m), i64 ((m : Nat) : Int)]), (b2, 49, [.slice pL1 c.words.length cL1, str c.inp, str c.out, bl c.app]), (b1, 49, [.slice none 0 0, str (⟨#[]⟩), str (⟨#[]⟩), bl false])] ++ (RP pb tb CT sv jl kl m al el ++ (([] ++ (TL1 ++ ([]))))))))).mono ?_))
         rintro en w40 ⟨a8, er8, rfl, hfe2, hW⟩
         refine ⟨_, rfl, ?_⟩
         clear hA fr; intro fr hA
         replace hO := Ow.pass (A := [(b3, 68, [str (rt sv m), i64 ((m : Nat) : Int)]), (b2, 49, [.slice pL1 c.words.length cL1, str c.inp, str c.out, bl c.app]), (b1, 49, [.slice none 0 0, str (⟨#[]⟩), str (⟨#[]⟩), bl false])]) (T := RP pb tb CT sv jl kl m al el) (B := ([] ++ (TL1 ++ ([])))) (hO.to (by first | rfl | (simp only [RP, apd])) : Ow Try.prog (inT (RP pb tb CT sv j k n a er)) w _ ([(b3, 68, [str (rt sv m), i64 ((m : Nat) : Int)]), (b2, 49, [.slice pL1 c.words.length cL1, str c.inp, str c.out, bl c.app]), (b1, 49, [.slice none 0 0, str (⟨#[]⟩), str (⟨#[]⟩), bl false])] ++ (RP pb tb CT sv jl kl m al el ++ (([] ++ (TL1 ++ ([]))))))) hW; clear hW
         replace hO : Ow Try.prog (inT (RP pb tb CT sv j k n a er)) w _ ([(b3, 68, [str (rt sv m), i64 ((m : Nat) : Int)]), (b2, 49, [.slice pL1 c.words.length cL1, str c.inp, str c.out, bl c.app]), (b1, 49, [.slice none 0 0, str (⟨#[]⟩), str (⟨#[]⟩), bl false]), (pb, 66, [.slice (some (⟨tb, 2 * jl, none⟩ : Addr)) ((tks sv m).length) kl, i64 ((a8 : Nat) : Int), i64 er8]), (tb, 68, CT)] ++ (TL1 ++ ([]))) := hO.to (by first | rfl | (simp only [RP, apd]))
         replace hA := hA.sb (e' := [(0, pt pb), (2, pt b1), (3, pt b2)])
         refine end_ops ?_
         refine then_normal ?_
         refine sR (l := [0, 1]) ?_
         refine ck (l := [0]) (r := [1]) (e' := [(0, pt pb), (2, pt b1), (3, pt b2), (75, .agg #[.slice pL1 c.words.length cL1, str c.inp, str c.out, bl c.app])]) hA [.agg #[.slice pL1 c.words.length cL1, str c.inp, str c.out, bl c.app]] (cc (hO.ln 1 0 49 [.slice pL1 c.words.length cL1, str c.inp, str c.out, bl c.app]) c0) ?_
         clear hA fr; intro fr hA
         refine wpOps_cons' (mS (off := 0) (vc := [.slice pL1 c.words.length cL1, str c.inp, str c.out, bl c.app]) 2 hA hO ?_)
         clear hO; intro w41 hO
         replace hA := hA.sb (e' := [(0, pt pb), (2, pt b1), (3, pt b2)])
         refine end_ops ?_
         refine then_normal ?_
         refine wp_ret ?_
         refine inBlock_ret ?_
         refine then_ret ?_
         refine inBlock_ret ?_
         refine then_ret ?_
         refine cR (cs := [some (⟨b1, 0, none⟩, 49)]) (us := [.agg #[.slice pL1 c.words.length cL1, str c.inp, str c.out, bl c.app]]) hA [.agg #[.slice pL1 c.words.length cL1, str c.inp, str c.out, bl c.app]] ⟨(hO.ln 2 0 49 [.slice pL1 c.words.length cL1, str c.inp, str c.out, bl c.app]), trivial⟩ ?_
         exact ⟨c, jl, kl, m, a8, er8, _, _, _, rfl, hTL1, (.inr ⟨by omega, by rw [cst_none hC (by omega) (by omega) (by omega) (by omega)]; rcases hfe2 with ⟨_, h1_, h2_⟩ | ⟨h1_, _⟩; { rw [h1_, h2_] }; { exact absurd (by omega) h1_ }⟩), hvl, by omega, (fun q_ => by omega), ((Ow.subP (A := [(b3, 68, [str (rt sv m), i64 ((m : Nat) : Int)]), (b2, 49, [.slice pL1 c.words.length cL1, str c.inp, str c.out, bl c.app]), (b1, 49, [.slice pL1 c.words.length cL1, str c.inp, str c.out, bl c.app]), (pb, 66, [.slice (some (⟨tb, 2 * jl, none⟩ : Addr)) ((tks sv m).length) kl, i64 ((a8 : Nat) : Int), i64 er8]), (tb, 68, CT)]) (A' := [(pb, 66, [.slice (some (⟨tb, 2 * jl, none⟩ : Addr)) ((tks sv m).length) kl, i64 ((a8 : Nat) : Int), i64 er8]), (tb, 68, CT)]) (B := TL1 ++ ([])) hO (.cons _ (.cons _ (.cons _ (.cons_cons _ (.cons_cons _ .slnil))))))).to (by simp only [List.append_nil])⟩
       rw [h8] at hA
       have h8p := ne_of_beq_false h8
       refine cF hA ?_
       refine wp_skip ?_
       refine then_normal ?_
       refine sR (l := [0, 1]) ?_
       refine ck (l := [0]) (r := [1]) (e' := [(0, pt pb), (2, pt b1), (3, pt b2), (75, .agg #[.slice pL1 c.words.length cL1, str c.inp, str c.out, bl c.app])]) hA [.agg #[.slice pL1 c.words.length cL1, str c.inp, str c.out, bl c.app]] (cc (hO.ln 1 0 49 [.slice pL1 c.words.length cL1, str c.inp, str c.out, bl c.app]) c0) ?_
       clear hA fr; intro fr hA
       refine wpOps_cons' (mS (off := 0) (vc := [.slice pL1 c.words.length cL1, str c.inp, str c.out, bl c.app]) 2 hA hO ?_)
       clear hO; intro w42 hO
       replace hA := hA.sb (e' := [(0, pt pb), (2, pt b1), (3, pt b2)])
       refine end_ops ?_
       refine then_normal ?_
       refine wp_ret ?_
       refine inBlock_ret ?_
       refine then_ret ?_
       refine inBlock_ret ?_
       refine then_ret ?_
       refine cR (cs := [some (⟨b1, 0, none⟩, 49)]) (us := [.agg #[.slice pL1 c.words.length cL1, str c.inp, str c.out, bl c.app]]) hA [.agg #[.slice pL1 c.words.length cL1, str c.inp, str c.out, bl c.app]] ⟨(hO.ln 2 0 49 [.slice pL1 c.words.length cL1, str c.inp, str c.out, bl c.app]), trivial⟩ ?_
       first | exact ⟨c, jl, kl, m, al, el, _, _, _, rfl, hTL1, (.inl ⟨by omega, cst_end hC (by omega) (by omega) (by omega) (by omega)⟩), hvl, by omega, (fun q_ => by have := hgt2 q_; omega), ((Ow.subP (A := [(b3, 68, [str (rt sv m), i64 ((m : Nat) : Int)]), (b2, 49, [.slice pL1 c.words.length cL1, str c.inp, str c.out, bl c.app]), (b1, 49, [.slice pL1 c.words.length cL1, str c.inp, str c.out, bl c.app]), (pb, 66, [.slice (some (⟨tb, 2 * jl, none⟩ : Addr)) ((tks sv m).length) kl, i64 ((al : Nat) : Int), i64 el]), (tb, 68, CT)]) (A' := [(pb, 66, [.slice (some (⟨tb, 2 * jl, none⟩ : Addr)) ((tks sv m).length) kl, i64 ((al : Nat) : Int), i64 el]), (tb, 68, CT)]) (B := TL1 ++ ([])) hO (.cons _ (.cons _ (.cons _ (.cons_cons _ (.cons_cons _ .slnil))))))).to (by simp only [List.append_nil])⟩ | exact ⟨c, jl, kl, m, al, el, _, _, _, rfl, hTL1, (cst_err hC (by omega)), hvl, by omega, (fun q_ => absurd q_ (by omega)), ((Ow.subP (A := [(b3, 68, [str (rt sv m), i64 ((m : Nat) : Int)]), (b2, 49, [.slice pL1 c.words.length cL1, str c.inp, str c.out, bl c.app]), (b1, 49, [.slice pL1 c.words.length cL1, str c.inp, str c.out, bl c.app]), (pb, 66, [.slice (some (⟨tb, 2 * jl, none⟩ : Addr)) ((tks sv m).length) kl, i64 ((al : Nat) : Int), i64 el]), (tb, 68, CT)]) (A' := [(pb, 66, [.slice (some (⟨tb, 2 * jl, none⟩ : Addr)) ((tks sv m).length) kl, i64 ((al : Nat) : Int), i64 el]), (tb, 68, CT)]) (B := TL1 ++ ([])) hO (.cons _ (.cons _ (.cons _ (.cons_cons _ (.cons_cons _ .slnil))))))).to (by simp only [List.append_nil])⟩
     rw [h6] at hA
     have h6p := of_decide_eq_false h6
     refine ck (l := (rg 4 5)) (r := (rg 9 5)) (e' := [(0, pt pb), (2, pt b1), (3, pt b2), (4, pt b3), (53, bl ((rt sv m).toList == (⟨#[62, 62]⟩ : ByteArray).toList)), (54, bl ((rt sv m).toList == (⟨#[62, 62]⟩ : ByteArray).toList)), (55, bl ((rt sv m).toList == (⟨#[62, 62]⟩ : ByteArray).toList))]) hA [str (rt sv m)] (cc (hO.l1 0 0 9 (str (rt sv m))) c0) ?_
     clear hA fr; intro fr hA
     replace hA := hA.bool (f := fun z_ => [(0, pt pb), (2, pt b1), (3, pt b2), (4, pt b3), (53, .bool z_), (54, .bool z_), (55, .bool z_)]) (rt_app sv m : ((rt sv m).toList == (⟨#[62, 62]⟩ : ByteArray).toList) = (decide (kd sv m = 4)))
     rcases Bool.eq_false_or_eq_true (decide (kd sv m = 4)) with h9 | h9
     · rw [h9] at hA
       have h9p := of_decide_eq_true h9
       refine ck (l := (rg 9 5)) (r := []) (e' := [(0, pt pb), (2, pt b1), (3, pt b2), (4, pt b3), (46, bl (c.out.toList == (⟨#[]⟩ : ByteArray).toList))]) hA [str c.out] (cc (hO.l1 1 2 9 (str c.out)) c0) ?_
       clear hA fr; intro fr hA
       replace hA := hA.bool (f := fun z_ => [(0, pt pb), (2, pt b1), (3, pt b2), (4, pt b3), (46, .bool z_)]) (str_empty c.out : (c.out.toList == (⟨#[]⟩ : ByteArray).toList) = (decide (c.out.size = 0)))
       refine end_ops ?_
       refine then_normal ?_
       rcases Bool.eq_false_or_eq_true (decide (c.out.size = 0)) with h10 | h10
       · rw [h10] at hA
         have h10p := of_decide_eq_true h10
         refine cT hA ?_
         refine sR (l := [0, 1]) ?_
         refine ck (l := [0]) (r := [1]) (e' := [(0, pt pb), (2, pt b1), (3, pt b2), (4, pt b3), (60, pt pb)]) hA [] c0 ?_
         clear hA fr; intro fr hA
         refine wpOps_cons' (mC (f := 29) (args := [pt pb]) (d := (some 61)) hA Try.func29 ((rnext_any pb tb toks CT sv jl kl m al el _ hvl hs (Ow.self (A := [(b3, 68, [str (rt sv m), i64 ((m : Nat) : Int)]), (b2, 49, [.slice pL1 c.words.length cL1, str c.inp, str c.out, bl c.app]), (b1, 49, [.slice none 0 0, str (⟨#[]⟩), str (⟨#[]⟩), bl false])]) (T := RP pb tb CT sv jl kl m al el) (B := ([] ++ (TL1 ++ ([])))) (hO.to (by first | rfl | (simp only [RP, apd])) : Ow Try.prog (inT (RP pb tb CT sv j k n a er)) w _ ([(b3, 68, [str (rt sv m), i64 ((m : Nat) : Int)]), (b2, 49, [.slice pL1 c.words.length cL1, str c.inp, str c.out, bl c.app]), (b1, 49, [.slice none 0 0, str (⟨#[]⟩), str (⟨#[]⟩), bl false])] ++ (RP pb tb CT sv jl kl m al el ++ (([] ++ (TL1 ++ ([]))))))))).mono ?_))
         rintro en w43 ⟨j9, k9, n9, rfl, hnx3, hv9, hW⟩
         refine ⟨_, rfl, ?_⟩
         clear hA fr; intro fr hA
         replace hO := Ow.pass (A := [(b3, 68, [str (rt sv m), i64 ((m : Nat) : Int)]), (b2, 49, [.slice pL1 c.words.length cL1, str c.inp, str c.out, bl c.app]), (b1, 49, [.slice none 0 0, str (⟨#[]⟩), str (⟨#[]⟩), bl false])]) (T := RP pb tb CT sv jl kl m al el) (B := ([] ++ (TL1 ++ ([])))) (hO.to (by first | rfl | (simp only [RP, apd])) : Ow Try.prog (inT (RP pb tb CT sv j k n a er)) w _ ([(b3, 68, [str (rt sv m), i64 ((m : Nat) : Int)]), (b2, 49, [.slice pL1 c.words.length cL1, str c.inp, str c.out, bl c.app]), (b1, 49, [.slice none 0 0, str (⟨#[]⟩), str (⟨#[]⟩), bl false])] ++ (RP pb tb CT sv jl kl m al el ++ (([] ++ (TL1 ++ ([]))))))) hW; clear hW
         replace hO : Ow Try.prog (inT (RP pb tb CT sv j k n a er)) w _ ([(b3, 68, [str (rt sv m), i64 ((m : Nat) : Int)]), (b2, 49, [.slice pL1 c.words.length cL1, str c.inp, str c.out, bl c.app]), (b1, 49, [.slice none 0 0, str (⟨#[]⟩), str (⟨#[]⟩), bl false]), (pb, 66, [.slice (some (⟨tb, 2 * j9, none⟩ : Addr)) ((tks sv n9).length) k9, i64 ((al : Nat) : Int), i64 el]), (tb, 68, CT)] ++ (TL1 ++ ([]))) := hO.to (by first | rfl | (simp only [RP, apd]))
         have hp9a := tks_pos sv n9
         have hp9b := hv9.pos
         replace hA := hA.sb (e' := [(0, pt pb), (2, pt b1), (3, pt b2), (4, pt b3)])
         refine end_ops ?_
         refine then_normal ?_
         refine wp_seq ?_
         have hS : Ow Try.prog (inT (RP pb tb CT sv j k n a er)) w _ [(b3, 68, [str (rt sv m), i64 ((m : Nat) : Int)]), (b1, 49, [.slice none 0 0, str (⟨#[]⟩), str (⟨#[]⟩), bl false]), (tb, 68, CT)] := hO.sub [0, 2, 4]
         refine rP [(0, true), (2, true), (3, true), (4, true), (1, false), (5, true), (6, false), (7, true), (8, false)] hS ?_
         intro w44 ho; replace hO := hO.st ho; clear ho
         refine ckS (l := [0, 2, 3, 4]) (r := [(1, false), (5, true), (6, false), (7, true), (8, false)]) (e' := [(0, pt pb), (2, pt b1), (3, pt b2), (62, pt pb), (66, bl ((rt sv m).toList == (⟨#[62, 62]⟩ : ByteArray).toList))]) hA [str (rt sv m)] (cc (hS.s1 0 0 9 (str (rt sv m))) c0) ?_
         clear hA fr; intro fr hA
         replace hA := hA.bool (f := fun z_ => [(0, pt pb), (2, pt b1), (3, pt b2), (62, pt pb), (66, .bool z_)]) (rt_app sv m : ((rt sv m).toList == (⟨#[62, 62]⟩ : ByteArray).toList) = (decide (kd sv m = 4)))
         refine plan_mem (mC (f := 56) (args := [pt pb]) (d := (some 63)) hA Try.func56 ((rword_any pb tb toks CT sv j9 k9 n9 al el _ hv9 hs (Ow.self (A := [(b3, 68, [str (rt sv m), i64 ((m : Nat) : Int)]), (b2, 49, [.slice pL1 c.words.length cL1, str c.inp, str c.out, bl c.app]), (b1, 49, [.slice none 0 0, str (⟨#[]⟩), str (⟨#[]⟩), bl false])]) (T := RP pb tb CT sv j9 k9 n9 al el) (B := ([] ++ (TL1 ++ ([])))) (hO.to (by first | rfl | (simp only [RP, apd])) : Ow Try.prog (inT (RP pb tb CT sv j k n a er)) w _ ([(b3, 68, [str (rt sv m), i64 ((m : Nat) : Int)]), (b2, 49, [.slice pL1 c.words.length cL1, str c.inp, str c.out, bl c.app]), (b1, 49, [.slice none 0 0, str (⟨#[]⟩), str (⟨#[]⟩), bl false])] ++ (RP pb tb CT sv j9 k9 n9 al el ++ (([] ++ (TL1 ++ ([]))))))))).mono ?_))
         rintro en w45 ⟨v7, j10, k10, n10, a9, er9, rfl, hst7, hv10, hle7, hW⟩
         refine ⟨_, rfl, ?_⟩
         clear hA fr; intro fr hA
         replace hO := Ow.pass (A := [(b3, 68, [str (rt sv m), i64 ((m : Nat) : Int)]), (b2, 49, [.slice pL1 c.words.length cL1, str c.inp, str c.out, bl c.app]), (b1, 49, [.slice none 0 0, str (⟨#[]⟩), str (⟨#[]⟩), bl false])]) (T := RP pb tb CT sv j9 k9 n9 al el) (B := ([] ++ (TL1 ++ ([])))) (hO.to (by first | rfl | (simp only [RP, apd])) : Ow Try.prog (inT (RP pb tb CT sv j k n a er)) w _ ([(b3, 68, [str (rt sv m), i64 ((m : Nat) : Int)]), (b2, 49, [.slice pL1 c.words.length cL1, str c.inp, str c.out, bl c.app]), (b1, 49, [.slice none 0 0, str (⟨#[]⟩), str (⟨#[]⟩), bl false])] ++ (RP pb tb CT sv j9 k9 n9 al el ++ (([] ++ (TL1 ++ ([]))))))) hW; clear hW
         replace hO : Ow Try.prog (inT (RP pb tb CT sv j k n a er)) w _ ([(b3, 68, [str (rt sv m), i64 ((m : Nat) : Int)]), (b2, 49, [.slice pL1 c.words.length cL1, str c.inp, str c.out, bl c.app]), (b1, 49, [.slice none 0 0, str (⟨#[]⟩), str (⟨#[]⟩), bl false]), (pb, 66, [.slice (some (⟨tb, 2 * j10, none⟩ : Addr)) ((tks sv n10).length) k10, i64 ((a9 : Nat) : Int), i64 er9]), (tb, 68, CT)] ++ (TL1 ++ ([]))) := hO.to (by first | rfl | (simp only [RP, apd]))
         have hp10a := tks_pos sv n10
         have hp10b := hv10.pos
         have hgw_ := word_gt (by omega) hst7
         refine ⟨(hO.sub [0, 2, 4]), ?_⟩
         replace hA := hA.sb (e' := [(0, pt pb), (2, pt b1), (3, pt b2), (63, str v7), (66, bl (decide (kd sv m = 4)))])
         refine ckS (l := [5]) (r := [(6, false), (7, true), (8, false)]) (e' := [(0, pt pb), (2, pt b1), (3, pt b2), (63, str v7), (66, bl (decide (kd sv m = 4))), (67, pf b2 2)]) hA [] c0 ?_
         clear hA fr; intro fr hA
         refine plan_mem (mS (off := 2) (vc := [str v7]) 1 hA hO ?_)
         clear hO; intro w46 hO
         refine ⟨(hO.sub [0, 2, 4]), ?_⟩
         replace hA := hA.sb (e' := [(0, pt pb), (2, pt b1), (3, pt b2), (66, bl (decide (kd sv m = 4)))])
         refine ckS (l := [7]) (r := [(8, false)]) (e' := [(0, pt pb), (2, pt b1), (3, pt b2), (66, bl (decide (kd sv m = 4))), (68, pf b2 3)]) hA [] c0 ?_
         clear hA fr; intro fr hA
         refine plan_mem (mS (off := 3) (vc := [bl (decide (kd sv m = 4))]) 1 hA hO ?_)
         clear hO; intro w47 hO
         refine ⟨(hO.sub [0, 2, 4]), ?_⟩
         replace hA := hA.sb (e' := [(0, pt pb), (2, pt b1), (3, pt b2)])
         refine end_plan ?_
         refine then_normal ?_
         refine wp_exit ?_
         refine inBlock_other (by decide) ?_
         refine then_exit ?_
         refine inBlock_exit ?_
         refine then_normal ?_
         obtain ⟨g2, hg2, hlt2⟩ := meas (er := er9) (z := sv.size) (m := n10) (g := g) (fun q_ => by have := hgw_ q_; omega) (by omega)
         exact ⟨_, by omega, ⟨c.words, c.inp, v7, decide (kd sv m = 4)⟩, j10, k10, n10, a9, er9, f, g2, pL1, cL1, TL1, rfl, hA.sub [0, 2, 3] (by kernel_rfl), (Ow.subP (A := [(b3, 68, [str (rt sv m), i64 ((m : Nat) : Int)]), (b2, 49, [.slice pL1 c.words.length cL1, str c.inp, str v7, bl (decide (kd sv m = 4))]), (b1, 49, [.slice none 0 0, str (⟨#[]⟩), str (⟨#[]⟩), bl false]), (pb, 66, [.slice (some (⟨tb, 2 * j10, none⟩ : Addr)) ((tks sv n10).length) k10, i64 ((a9 : Nat) : Int), i64 er9]), (tb, 68, CT)]) (A' := [(b2, 49, [.slice pL1 c.words.length cL1, str c.inp, str v7, bl (decide (kd sv m = 4))]), (b1, 49, [.slice none 0 0, str (⟨#[]⟩), str (⟨#[]⟩), bl false]), (pb, 66, [.slice (some (⟨tb, 2 * j10, none⟩ : Addr)) ((tks sv n10).length) k10, i64 ((a9 : Nat) : Int), i64 er9]), (tb, 68, CT)]) (B := TL1 ++ ([])) hO (.cons _ (.cons_cons _ (.cons_cons _ (.cons_cons _ (.cons_cons _ .slnil)))))), hTL1, hv10.pos, hg2, (fun q_ => by have := hgw_ q_; omega), (by have q_ := cst_red hC (by omega) (by omega) (by omega) (by omega) hst7; rw [if_neg (show ¬ kd sv m = 2 by omega)] at q_; exact q_), (by have hz_ : c.words.length = (⟨c.words, c.inp, v7, decide (kd sv m = 4)⟩ : CmdL).words.length := rfl; by_cases q_ : er9 = 0; { exact .inl ⟨q_, by omega⟩ }; { exact .inr ⟨q_, by omega⟩ }), (by omega), (fun q_ => .inr (by have := hgw_ q_; omega)), hv10, trivial⟩
       rw [h10] at hA
       have h10p := of_decide_eq_false h10
       refine cF hA ?_
       refine wp_skip ?_
       refine inBlock_normal ?_
       refine then_normal ?_
       refine wp_seq ?_
       refine sC (e' := [(0, pt pb), (2, pt b1), (3, pt b2), (72, bl (((c.words.length : Nat) : Int) == 0))]) 4 hA [.slice pL1 c.words.length cL1] (cc (hO.l1 1 0 47 (.slice pL1 c.words.length cL1)) c0) ?_
       clear hA fr; intro fr hA
       rcases Bool.eq_false_or_eq_true (((c.words.length : Nat) : Int) == 0) with h11 | h11
       · rw [h11] at hA
         have h11p := eq_of_beq h11
         refine cT hA ?_
         refine rR (l := [0, 1]) ?_
         refine ck (l := [0]) (r := [1]) (e' := [(0, pt pb), (2, pt b1), (3, pt b2), (73, pt pb)]) hA [] c0 ?_
         clear hA fr; intro fr hA
         refine wpOps_cons' (mC (f := 27) (args := [pt pb, i64 3]) (d := (some 74)) hA Try.func27 ((rfail_any pb tb toks CT sv jl kl m al el _ hvl hs 3 (Ow.self (A := [(b3, 68, [str (rt sv m), i64 ((m : Nat) : Int)]), (b2, 49, [.slice pL1 c.words.length cL1, str c.inp, str c.out, bl c.app]), (b1, 49, [.slice none 0 0, str (⟨#[]⟩), str (⟨#[]⟩), bl false])]) (T := RP pb tb CT sv jl kl m al el) (B := ([] ++ (TL1 ++ ([])))) (hO.to (by first | rfl | (simp only [RP, apd])) : Ow Try.prog (inT (RP pb tb CT sv j k n a er)) w _ ([(b3, 68, [str (rt sv m), i64 ((m : Nat) : Int)]), (b2, 49, [.slice pL1 c.words.length cL1, str c.inp, str c.out, bl c.app]), (b1, 49, [.slice none 0 0, str (⟨#[]⟩), str (⟨#[]⟩), bl false])] ++ (RP pb tb CT sv jl kl m al el ++ (([] ++ (TL1 ++ ([]))))))))).mono ?_))
         rintro en w48 ⟨a10, er10, rfl, hfe3, hW⟩
         refine ⟨_, rfl, ?_⟩
         clear hA fr; intro fr hA
         replace hO := Ow.pass (A := [(b3, 68, [str (rt sv m), i64 ((m : Nat) : Int)]), (b2, 49, [.slice pL1 c.words.length cL1, str c.inp, str c.out, bl c.app]), (b1, 49, [.slice none 0 0, str (⟨#[]⟩), str (⟨#[]⟩), bl false])]) (T := RP pb tb CT sv jl kl m al el) (B := ([] ++ (TL1 ++ ([])))) (hO.to (by first | rfl | (simp only [RP, apd])) : Ow Try.prog (inT (RP pb tb CT sv j k n a er)) w _ ([(b3, 68, [str (rt sv m), i64 ((m : Nat) : Int)]), (b2, 49, [.slice pL1 c.words.length cL1, str c.inp, str c.out, bl c.app]), (b1, 49, [.slice none 0 0, str (⟨#[]⟩), str (⟨#[]⟩), bl false])] ++ (RP pb tb CT sv jl kl m al el ++ (([] ++ (TL1 ++ ([]))))))) hW; clear hW
         replace hO : Ow Try.prog (inT (RP pb tb CT sv j k n a er)) w _ ([(b3, 68, [str (rt sv m), i64 ((m : Nat) : Int)]), (b2, 49, [.slice pL1 c.words.length cL1, str c.inp, str c.out, bl c.app]), (b1, 49, [.slice none 0 0, str (⟨#[]⟩), str (⟨#[]⟩), bl false]), (pb, 66, [.slice (some (⟨tb, 2 * jl, none⟩ : Addr)) ((tks sv m).length) kl, i64 ((a10 : Nat) : Int), i64 er10]), (tb, 68, CT)] ++ (TL1 ++ ([]))) := hO.to (by first | rfl | (simp only [RP, apd]))
         replace hA := hA.sb (e' := [(0, pt pb), (2, pt b1), (3, pt b2)])
         refine end_ops ?_
         refine then_normal ?_
         refine sR (l := [0, 1]) ?_
         refine ck (l := [0]) (r := [1]) (e' := [(0, pt pb), (2, pt b1), (3, pt b2), (75, .agg #[.slice pL1 c.words.length cL1, str c.inp, str c.out, bl c.app])]) hA [.agg #[.slice pL1 c.words.length cL1, str c.inp, str c.out, bl c.app]] (cc (hO.ln 1 0 49 [.slice pL1 c.words.length cL1, str c.inp, str c.out, bl c.app]) c0) ?_
         clear hA fr; intro fr hA
         refine wpOps_cons' (mS (off := 0) (vc := [.slice pL1 c.words.length cL1, str c.inp, str c.out, bl c.app]) 2 hA hO ?_)
         clear hO; intro w49 hO
         replace hA := hA.sb (e' := [(0, pt pb), (2, pt b1), (3, pt b2)])
         refine end_ops ?_
         refine then_normal ?_
         refine wp_ret ?_
         refine inBlock_ret ?_
         refine then_ret ?_
         refine inBlock_ret ?_
         refine then_ret ?_
         refine cR (cs := [some (⟨b1, 0, none⟩, 49)]) (us := [.agg #[.slice pL1 c.words.length cL1, str c.inp, str c.out, bl c.app]]) hA [.agg #[.slice pL1 c.words.length cL1, str c.inp, str c.out, bl c.app]] ⟨(hO.ln 2 0 49 [.slice pL1 c.words.length cL1, str c.inp, str c.out, bl c.app]), trivial⟩ ?_
         exact ⟨c, jl, kl, m, a10, er10, _, _, _, rfl, hTL1, (.inr ⟨by omega, by rw [cst_none hC (by omega) (by omega) (by omega) (by omega)]; rcases hfe3 with ⟨_, h1_, h2_⟩ | ⟨h1_, _⟩; { rw [h1_, h2_] }; { exact absurd (by omega) h1_ }⟩), hvl, by omega, (fun q_ => by omega), ((Ow.subP (A := [(b3, 68, [str (rt sv m), i64 ((m : Nat) : Int)]), (b2, 49, [.slice pL1 c.words.length cL1, str c.inp, str c.out, bl c.app]), (b1, 49, [.slice pL1 c.words.length cL1, str c.inp, str c.out, bl c.app]), (pb, 66, [.slice (some (⟨tb, 2 * jl, none⟩ : Addr)) ((tks sv m).length) kl, i64 ((a10 : Nat) : Int), i64 er10]), (tb, 68, CT)]) (A' := [(pb, 66, [.slice (some (⟨tb, 2 * jl, none⟩ : Addr)) ((tks sv m).length) kl, i64 ((a10 : Nat) : Int), i64 er10]), (tb, 68, CT)]) (B := TL1 ++ ([])) hO (.cons _ (.cons _ (.cons _ (.cons_cons _ (.cons_cons _ .slnil))))))).to (by simp only [List.append_nil])⟩
       rw [h11] at hA
       have h11p := ne_of_beq_false h11
       refine cF hA ?_
       refine wp_skip ?_
       refine then_normal ?_
       refine sR (l := [0, 1]) ?_
       refine ck (l := [0]) (r := [1]) (e' := [(0, pt pb), (2, pt b1), (3, pt b2), (75, .agg #[.slice pL1 c.words.length cL1, str c.inp, str c.out, bl c.app])]) hA [.agg #[.slice pL1 c.words.length cL1, str c.inp, str c.out, bl c.app]] (cc (hO.ln 1 0 49 [.slice pL1 c.words.length cL1, str c.inp, str c.out, bl c.app]) c0) ?_
       clear hA fr; intro fr hA
       refine wpOps_cons' (mS (off := 0) (vc := [.slice pL1 c.words.length cL1, str c.inp, str c.out, bl c.app]) 2 hA hO ?_)
       clear hO; intro w50 hO
       replace hA := hA.sb (e' := [(0, pt pb), (2, pt b1), (3, pt b2)])
       refine end_ops ?_
       refine then_normal ?_
       refine wp_ret ?_
       refine inBlock_ret ?_
       refine then_ret ?_
       refine inBlock_ret ?_
       refine then_ret ?_
       refine cR (cs := [some (⟨b1, 0, none⟩, 49)]) (us := [.agg #[.slice pL1 c.words.length cL1, str c.inp, str c.out, bl c.app]]) hA [.agg #[.slice pL1 c.words.length cL1, str c.inp, str c.out, bl c.app]] ⟨(hO.ln 2 0 49 [.slice pL1 c.words.length cL1, str c.inp, str c.out, bl c.app]), trivial⟩ ?_
       first | exact ⟨c, jl, kl, m, al, el, _, _, _, rfl, hTL1, (.inl ⟨by omega, cst_end hC (by omega) (by omega) (by omega) (by omega)⟩), hvl, by omega, (fun q_ => by have := hgt2 q_; omega), ((Ow.subP (A := [(b3, 68, [str (rt sv m), i64 ((m : Nat) : Int)]), (b2, 49, [.slice pL1 c.words.length cL1, str c.inp, str c.out, bl c.app]), (b1, 49, [.slice pL1 c.words.length cL1, str c.inp, str c.out, bl c.app]), (pb, 66, [.slice (some (⟨tb, 2 * jl, none⟩ : Addr)) ((tks sv m).length) kl, i64 ((al : Nat) : Int), i64 el]), (tb, 68, CT)]) (A' := [(pb, 66, [.slice (some (⟨tb, 2 * jl, none⟩ : Addr)) ((tks sv m).length) kl, i64 ((al : Nat) : Int), i64 el]), (tb, 68, CT)]) (B := TL1 ++ ([])) hO (.cons _ (.cons _ (.cons _ (.cons_cons _ (.cons_cons _ .slnil))))))).to (by simp only [List.append_nil])⟩ | exact ⟨c, jl, kl, m, al, el, _, _, _, rfl, hTL1, (cst_err hC (by omega)), hvl, by omega, (fun q_ => absurd q_ (by omega)), ((Ow.subP (A := [(b3, 68, [str (rt sv m), i64 ((m : Nat) : Int)]), (b2, 49, [.slice pL1 c.words.length cL1, str c.inp, str c.out, bl c.app]), (b1, 49, [.slice pL1 c.words.length cL1, str c.inp, str c.out, bl c.app]), (pb, 66, [.slice (some (⟨tb, 2 * jl, none⟩ : Addr)) ((tks sv m).length) kl, i64 ((al : Nat) : Int), i64 el]), (tb, 68, CT)]) (A' := [(pb, 66, [.slice (some (⟨tb, 2 * jl, none⟩ : Addr)) ((tks sv m).length) kl, i64 ((al : Nat) : Int), i64 el]), (tb, 68, CT)]) (B := TL1 ++ ([])) hO (.cons _ (.cons _ (.cons _ (.cons_cons _ (.cons_cons _ .slnil))))))).to (by simp only [List.append_nil])⟩
     rw [h9] at hA
     have h9p := of_decide_eq_false h9
     refine ck (l := (rg 9 5)) (r := []) (e' := [(0, pt pb), (2, pt b1), (3, pt b2), (4, pt b3), (46, bl false)]) hA [] c0 ?_
     clear hA fr; intro fr hA
     refine end_ops ?_
     refine then_normal ?_
     refine cF hA ?_
     refine wp_skip ?_
     refine inBlock_normal ?_
     refine then_normal ?_
     refine wp_seq ?_
     refine sC (e' := [(0, pt pb), (2, pt b1), (3, pt b2), (72, bl (((c.words.length : Nat) : Int) == 0))]) 4 hA [.slice pL1 c.words.length cL1] (cc (hO.l1 1 0 47 (.slice pL1 c.words.length cL1)) c0) ?_
     clear hA fr; intro fr hA
     rcases Bool.eq_false_or_eq_true (((c.words.length : Nat) : Int) == 0) with h12 | h12
     · rw [h12] at hA
       have h12p := eq_of_beq h12
       refine cT hA ?_
       refine rR (l := [0, 1]) ?_
       refine ck (l := [0]) (r := [1]) (e' := [(0, pt pb), (2, pt b1), (3, pt b2), (73, pt pb)]) hA [] c0 ?_
       clear hA fr; intro fr hA
       refine wpOps_cons' (mC (f := 27) (args := [pt pb, i64 3]) (d := (some 74)) hA Try.func27 ((rfail_any pb tb toks CT sv jl kl m al el _ hvl hs 3 (Ow.self (A := [(b3, 68, [str (rt sv m), i64 ((m : Nat) : Int)]), (b2, 49, [.slice pL1 c.words.length cL1, str c.inp, str c.out, bl c.app]), (b1, 49, [.slice none 0 0, str (⟨#[]⟩), str (⟨#[]⟩), bl false])]) (T := RP pb tb CT sv jl kl m al el) (B := ([] ++ (TL1 ++ ([])))) (hO.to (by first | rfl | (simp only [RP, apd])) : Ow Try.prog (inT (RP pb tb CT sv j k n a er)) w _ ([(b3, 68, [str (rt sv m), i64 ((m : Nat) : Int)]), (b2, 49, [.slice pL1 c.words.length cL1, str c.inp, str c.out, bl c.app]), (b1, 49, [.slice none 0 0, str (⟨#[]⟩), str (⟨#[]⟩), bl false])] ++ (RP pb tb CT sv jl kl m al el ++ (([] ++ (TL1 ++ ([]))))))))).mono ?_))
       rintro en w51 ⟨a11, er11, rfl, hfe4, hW⟩
       refine ⟨_, rfl, ?_⟩
       clear hA fr; intro fr hA
       replace hO := Ow.pass (A := [(b3, 68, [str (rt sv m), i64 ((m : Nat) : Int)]), (b2, 49, [.slice pL1 c.words.length cL1, str c.inp, str c.out, bl c.app]), (b1, 49, [.slice none 0 0, str (⟨#[]⟩), str (⟨#[]⟩), bl false])]) (T := RP pb tb CT sv jl kl m al el) (B := ([] ++ (TL1 ++ ([])))) (hO.to (by first | rfl | (simp only [RP, apd])) : Ow Try.prog (inT (RP pb tb CT sv j k n a er)) w _ ([(b3, 68, [str (rt sv m), i64 ((m : Nat) : Int)]), (b2, 49, [.slice pL1 c.words.length cL1, str c.inp, str c.out, bl c.app]), (b1, 49, [.slice none 0 0, str (⟨#[]⟩), str (⟨#[]⟩), bl false])] ++ (RP pb tb CT sv jl kl m al el ++ (([] ++ (TL1 ++ ([]))))))) hW; clear hW
       replace hO : Ow Try.prog (inT (RP pb tb CT sv j k n a er)) w _ ([(b3, 68, [str (rt sv m), i64 ((m : Nat) : Int)]), (b2, 49, [.slice pL1 c.words.length cL1, str c.inp, str c.out, bl c.app]), (b1, 49, [.slice none 0 0, str (⟨#[]⟩), str (⟨#[]⟩), bl false]), (pb, 66, [.slice (some (⟨tb, 2 * jl, none⟩ : Addr)) ((tks sv m).length) kl, i64 ((a11 : Nat) : Int), i64 er11]), (tb, 68, CT)] ++ (TL1 ++ ([]))) := hO.to (by first | rfl | (simp only [RP, apd]))
       replace hA := hA.sb (e' := [(0, pt pb), (2, pt b1), (3, pt b2)])
       refine end_ops ?_
       refine then_normal ?_
       refine sR (l := [0, 1]) ?_
       refine ck (l := [0]) (r := [1]) (e' := [(0, pt pb), (2, pt b1), (3, pt b2), (75, .agg #[.slice pL1 c.words.length cL1, str c.inp, str c.out, bl c.app])]) hA [.agg #[.slice pL1 c.words.length cL1, str c.inp, str c.out, bl c.app]] (cc (hO.ln 1 0 49 [.slice pL1 c.words.length cL1, str c.inp, str c.out, bl c.app]) c0) ?_
       clear hA fr; intro fr hA
       refine wpOps_cons' (mS (off := 0) (vc := [.slice pL1 c.words.length cL1, str c.inp, str c.out, bl c.app]) 2 hA hO ?_)
       clear hO; intro w52 hO
       replace hA := hA.sb (e' := [(0, pt pb), (2, pt b1), (3, pt b2)])
       refine end_ops ?_
       refine then_normal ?_
       refine wp_ret ?_
       refine inBlock_ret ?_
       refine then_ret ?_
       refine inBlock_ret ?_
       refine then_ret ?_
       refine cR (cs := [some (⟨b1, 0, none⟩, 49)]) (us := [.agg #[.slice pL1 c.words.length cL1, str c.inp, str c.out, bl c.app]]) hA [.agg #[.slice pL1 c.words.length cL1, str c.inp, str c.out, bl c.app]] ⟨(hO.ln 2 0 49 [.slice pL1 c.words.length cL1, str c.inp, str c.out, bl c.app]), trivial⟩ ?_
       exact ⟨c, jl, kl, m, a11, er11, _, _, _, rfl, hTL1, (.inr ⟨by omega, by rw [cst_none hC (by omega) (by omega) (by omega) (by omega)]; rcases hfe4 with ⟨_, h1_, h2_⟩ | ⟨h1_, _⟩; { rw [h1_, h2_] }; { exact absurd (by omega) h1_ }⟩), hvl, by omega, (fun q_ => by omega), ((Ow.subP (A := [(b3, 68, [str (rt sv m), i64 ((m : Nat) : Int)]), (b2, 49, [.slice pL1 c.words.length cL1, str c.inp, str c.out, bl c.app]), (b1, 49, [.slice pL1 c.words.length cL1, str c.inp, str c.out, bl c.app]), (pb, 66, [.slice (some (⟨tb, 2 * jl, none⟩ : Addr)) ((tks sv m).length) kl, i64 ((a11 : Nat) : Int), i64 er11]), (tb, 68, CT)]) (A' := [(pb, 66, [.slice (some (⟨tb, 2 * jl, none⟩ : Addr)) ((tks sv m).length) kl, i64 ((a11 : Nat) : Int), i64 er11]), (tb, 68, CT)]) (B := TL1 ++ ([])) hO (.cons _ (.cons _ (.cons _ (.cons_cons _ (.cons_cons _ .slnil))))))).to (by simp only [List.append_nil])⟩
     rw [h12] at hA
     have h12p := ne_of_beq_false h12
     refine cF hA ?_
     refine wp_skip ?_
     refine then_normal ?_
     refine sR (l := [0, 1]) ?_
     refine ck (l := [0]) (r := [1]) (e' := [(0, pt pb), (2, pt b1), (3, pt b2), (75, .agg #[.slice pL1 c.words.length cL1, str c.inp, str c.out, bl c.app])]) hA [.agg #[.slice pL1 c.words.length cL1, str c.inp, str c.out, bl c.app]] (cc (hO.ln 1 0 49 [.slice pL1 c.words.length cL1, str c.inp, str c.out, bl c.app]) c0) ?_
     clear hA fr; intro fr hA
     refine wpOps_cons' (mS (off := 0) (vc := [.slice pL1 c.words.length cL1, str c.inp, str c.out, bl c.app]) 2 hA hO ?_)
     clear hO; intro w53 hO
     replace hA := hA.sb (e' := [(0, pt pb), (2, pt b1), (3, pt b2)])
     refine end_ops ?_
     refine then_normal ?_
     refine wp_ret ?_
     refine inBlock_ret ?_
     refine then_ret ?_
     refine inBlock_ret ?_
     refine then_ret ?_
     refine cR (cs := [some (⟨b1, 0, none⟩, 49)]) (us := [.agg #[.slice pL1 c.words.length cL1, str c.inp, str c.out, bl c.app]]) hA [.agg #[.slice pL1 c.words.length cL1, str c.inp, str c.out, bl c.app]] ⟨(hO.ln 2 0 49 [.slice pL1 c.words.length cL1, str c.inp, str c.out, bl c.app]), trivial⟩ ?_
     first | exact ⟨c, jl, kl, m, al, el, _, _, _, rfl, hTL1, (.inl ⟨by omega, cst_end hC (by omega) (by omega) (by omega) (by omega)⟩), hvl, by omega, (fun q_ => by have := hgt2 q_; omega), ((Ow.subP (A := [(b3, 68, [str (rt sv m), i64 ((m : Nat) : Int)]), (b2, 49, [.slice pL1 c.words.length cL1, str c.inp, str c.out, bl c.app]), (b1, 49, [.slice pL1 c.words.length cL1, str c.inp, str c.out, bl c.app]), (pb, 66, [.slice (some (⟨tb, 2 * jl, none⟩ : Addr)) ((tks sv m).length) kl, i64 ((al : Nat) : Int), i64 el]), (tb, 68, CT)]) (A' := [(pb, 66, [.slice (some (⟨tb, 2 * jl, none⟩ : Addr)) ((tks sv m).length) kl, i64 ((al : Nat) : Int), i64 el]), (tb, 68, CT)]) (B := TL1 ++ ([])) hO (.cons _ (.cons _ (.cons _ (.cons_cons _ (.cons_cons _ .slnil))))))).to (by simp only [List.append_nil])⟩ | exact ⟨c, jl, kl, m, al, el, _, _, _, rfl, hTL1, (cst_err hC (by omega)), hvl, by omega, (fun q_ => absurd q_ (by omega)), ((Ow.subP (A := [(b3, 68, [str (rt sv m), i64 ((m : Nat) : Int)]), (b2, 49, [.slice pL1 c.words.length cL1, str c.inp, str c.out, bl c.app]), (b1, 49, [.slice pL1 c.words.length cL1, str c.inp, str c.out, bl c.app]), (pb, 66, [.slice (some (⟨tb, 2 * jl, none⟩ : Addr)) ((tks sv m).length) kl, i64 ((al : Nat) : Int), i64 el]), (tb, 68, CT)]) (A' := [(pb, 66, [.slice (some (⟨tb, 2 * jl, none⟩ : Addr)) ((tks sv m).length) kl, i64 ((al : Nat) : Int), i64 el]), (tb, 68, CT)]) (B := TL1 ++ ([])) hO (.cons _ (.cons _ (.cons _ (.cons_cons _ (.cons_cons _ .slnil))))))).to (by simp only [List.append_nil])⟩
   rw [h4] at hA
   have h4p := of_decide_eq_false h4
   refine ck (l := (rg 4 5)) (r := []) (e' := [(0, pt pb), (2, pt b1), (3, pt b2), (4, pt b3), (32, bl false)]) hA [] c0 ?_
   clear hA fr; intro fr hA
   refine end_ops ?_
   refine then_normal ?_
   refine cF hA ?_
   refine sR (l := (rg 0 14)) ?_
   refine ck (l := [0, 1, 2, 3]) (r := (rg 4 10)) (e' := [(0, pt pb), (2, pt b1), (3, pt b2), (4, pt b3), (49, bl ((rt sv m).toList == (⟨#[62]⟩ : ByteArray).toList)), (50, bl ((rt sv m).toList == (⟨#[62]⟩ : ByteArray).toList))]) hA [str (rt sv m)] (cc (hO.l1 0 0 9 (str (rt sv m))) c0) ?_
   clear hA fr; intro fr hA
   replace hA := hA.bool (f := fun z_ => [(0, pt pb), (2, pt b1), (3, pt b2), (4, pt b3), (49, .bool z_), (50, .bool z_)]) (rt_gt sv m : ((rt sv m).toList == (⟨#[62]⟩ : ByteArray).toList) = (decide (kd sv m = 3)))
   rcases Bool.eq_false_or_eq_true (decide (kd sv m = 3)) with h13 | h13
   · rw [h13] at hA
     have h13p := of_decide_eq_true h13
     refine ck (l := (rg 4 10)) (r := []) (e' := [(0, pt pb), (2, pt b1), (3, pt b2), (4, pt b3), (46, bl (c.out.toList == (⟨#[]⟩ : ByteArray).toList))]) hA [str c.out] (cc (hO.l1 1 2 9 (str c.out)) c0) ?_
     clear hA fr; intro fr hA
     replace hA := hA.bool (f := fun z_ => [(0, pt pb), (2, pt b1), (3, pt b2), (4, pt b3), (46, .bool z_)]) (str_empty c.out : (c.out.toList == (⟨#[]⟩ : ByteArray).toList) = (decide (c.out.size = 0)))
     refine end_ops ?_
     refine then_normal ?_
     rcases Bool.eq_false_or_eq_true (decide (c.out.size = 0)) with h14 | h14
     · rw [h14] at hA
       have h14p := of_decide_eq_true h14
       refine cT hA ?_
       refine sR (l := [0, 1]) ?_
       refine ck (l := [0]) (r := [1]) (e' := [(0, pt pb), (2, pt b1), (3, pt b2), (4, pt b3), (60, pt pb)]) hA [] c0 ?_
       clear hA fr; intro fr hA
       refine wpOps_cons' (mC (f := 29) (args := [pt pb]) (d := (some 61)) hA Try.func29 ((rnext_any pb tb toks CT sv jl kl m al el _ hvl hs (Ow.self (A := [(b3, 68, [str (rt sv m), i64 ((m : Nat) : Int)]), (b2, 49, [.slice pL1 c.words.length cL1, str c.inp, str c.out, bl c.app]), (b1, 49, [.slice none 0 0, str (⟨#[]⟩), str (⟨#[]⟩), bl false])]) (T := RP pb tb CT sv jl kl m al el) (B := ([] ++ (TL1 ++ ([])))) (hO.to (by first | rfl | (simp only [RP, apd])) : Ow Try.prog (inT (RP pb tb CT sv j k n a er)) w _ ([(b3, 68, [str (rt sv m), i64 ((m : Nat) : Int)]), (b2, 49, [.slice pL1 c.words.length cL1, str c.inp, str c.out, bl c.app]), (b1, 49, [.slice none 0 0, str (⟨#[]⟩), str (⟨#[]⟩), bl false])] ++ (RP pb tb CT sv jl kl m al el ++ (([] ++ (TL1 ++ ([]))))))))).mono ?_))
       rintro en w54 ⟨j11, k11, n11, rfl, hnx4, hv11, hW⟩
       refine ⟨_, rfl, ?_⟩
       clear hA fr; intro fr hA
       replace hO := Ow.pass (A := [(b3, 68, [str (rt sv m), i64 ((m : Nat) : Int)]), (b2, 49, [.slice pL1 c.words.length cL1, str c.inp, str c.out, bl c.app]), (b1, 49, [.slice none 0 0, str (⟨#[]⟩), str (⟨#[]⟩), bl false])]) (T := RP pb tb CT sv jl kl m al el) (B := ([] ++ (TL1 ++ ([])))) (hO.to (by first | rfl | (simp only [RP, apd])) : Ow Try.prog (inT (RP pb tb CT sv j k n a er)) w _ ([(b3, 68, [str (rt sv m), i64 ((m : Nat) : Int)]), (b2, 49, [.slice pL1 c.words.length cL1, str c.inp, str c.out, bl c.app]), (b1, 49, [.slice none 0 0, str (⟨#[]⟩), str (⟨#[]⟩), bl false])] ++ (RP pb tb CT sv jl kl m al el ++ (([] ++ (TL1 ++ ([]))))))) hW; clear hW
       replace hO : Ow Try.prog (inT (RP pb tb CT sv j k n a er)) w _ ([(b3, 68, [str (rt sv m), i64 ((m : Nat) : Int)]), (b2, 49, [.slice pL1 c.words.length cL1, str c.inp, str c.out, bl c.app]), (b1, 49, [.slice none 0 0, str (⟨#[]⟩), str (⟨#[]⟩), bl false]), (pb, 66, [.slice (some (⟨tb, 2 * j11, none⟩ : Addr)) ((tks sv n11).length) k11, i64 ((al : Nat) : Int), i64 el]), (tb, 68, CT)] ++ (TL1 ++ ([]))) := hO.to (by first | rfl | (simp only [RP, apd]))
       have hp11a := tks_pos sv n11
       have hp11b := hv11.pos
       replace hA := hA.sb (e' := [(0, pt pb), (2, pt b1), (3, pt b2), (4, pt b3)])
       refine end_ops ?_
       refine then_normal ?_
       refine wp_seq ?_
       have hS : Ow Try.prog (inT (RP pb tb CT sv j k n a er)) w _ [(b3, 68, [str (rt sv m), i64 ((m : Nat) : Int)]), (b1, 49, [.slice none 0 0, str (⟨#[]⟩), str (⟨#[]⟩), bl false]), (tb, 68, CT)] := hO.sub [0, 2, 4]
       refine rP [(0, true), (2, true), (3, true), (4, true), (1, false), (5, true), (6, false), (7, true), (8, false)] hS ?_
       intro w55 ho; replace hO := hO.st ho; clear ho
       refine ckS (l := [0, 2, 3, 4]) (r := [(1, false), (5, true), (6, false), (7, true), (8, false)]) (e' := [(0, pt pb), (2, pt b1), (3, pt b2), (62, pt pb), (66, bl ((rt sv m).toList == (⟨#[62, 62]⟩ : ByteArray).toList))]) hA [str (rt sv m)] (cc (hS.s1 0 0 9 (str (rt sv m))) c0) ?_
       clear hA fr; intro fr hA
       replace hA := hA.bool (f := fun z_ => [(0, pt pb), (2, pt b1), (3, pt b2), (62, pt pb), (66, .bool z_)]) (rt_app sv m : ((rt sv m).toList == (⟨#[62, 62]⟩ : ByteArray).toList) = (decide (kd sv m = 4)))
       refine plan_mem (mC (f := 56) (args := [pt pb]) (d := (some 63)) hA Try.func56 ((rword_any pb tb toks CT sv j11 k11 n11 al el _ hv11 hs (Ow.self (A := [(b3, 68, [str (rt sv m), i64 ((m : Nat) : Int)]), (b2, 49, [.slice pL1 c.words.length cL1, str c.inp, str c.out, bl c.app]), (b1, 49, [.slice none 0 0, str (⟨#[]⟩), str (⟨#[]⟩), bl false])]) (T := RP pb tb CT sv j11 k11 n11 al el) (B := ([] ++ (TL1 ++ ([])))) (hO.to (by first | rfl | (simp only [RP, apd])) : Ow Try.prog (inT (RP pb tb CT sv j k n a er)) w _ ([(b3, 68, [str (rt sv m), i64 ((m : Nat) : Int)]), (b2, 49, [.slice pL1 c.words.length cL1, str c.inp, str c.out, bl c.app]), (b1, 49, [.slice none 0 0, str (⟨#[]⟩), str (⟨#[]⟩), bl false])] ++ (RP pb tb CT sv j11 k11 n11 al el ++ (([] ++ (TL1 ++ ([]))))))))).mono ?_))
       rintro en w56 ⟨v8, j12, k12, n12, a12, er12, rfl, hst8, hv12, hle8, hW⟩
       refine ⟨_, rfl, ?_⟩
       clear hA fr; intro fr hA
       replace hO := Ow.pass (A := [(b3, 68, [str (rt sv m), i64 ((m : Nat) : Int)]), (b2, 49, [.slice pL1 c.words.length cL1, str c.inp, str c.out, bl c.app]), (b1, 49, [.slice none 0 0, str (⟨#[]⟩), str (⟨#[]⟩), bl false])]) (T := RP pb tb CT sv j11 k11 n11 al el) (B := ([] ++ (TL1 ++ ([])))) (hO.to (by first | rfl | (simp only [RP, apd])) : Ow Try.prog (inT (RP pb tb CT sv j k n a er)) w _ ([(b3, 68, [str (rt sv m), i64 ((m : Nat) : Int)]), (b2, 49, [.slice pL1 c.words.length cL1, str c.inp, str c.out, bl c.app]), (b1, 49, [.slice none 0 0, str (⟨#[]⟩), str (⟨#[]⟩), bl false])] ++ (RP pb tb CT sv j11 k11 n11 al el ++ (([] ++ (TL1 ++ ([]))))))) hW; clear hW
       replace hO : Ow Try.prog (inT (RP pb tb CT sv j k n a er)) w _ ([(b3, 68, [str (rt sv m), i64 ((m : Nat) : Int)]), (b2, 49, [.slice pL1 c.words.length cL1, str c.inp, str c.out, bl c.app]), (b1, 49, [.slice none 0 0, str (⟨#[]⟩), str (⟨#[]⟩), bl false]), (pb, 66, [.slice (some (⟨tb, 2 * j12, none⟩ : Addr)) ((tks sv n12).length) k12, i64 ((a12 : Nat) : Int), i64 er12]), (tb, 68, CT)] ++ (TL1 ++ ([]))) := hO.to (by first | rfl | (simp only [RP, apd]))
       have hp12a := tks_pos sv n12
       have hp12b := hv12.pos
       have hgw_ := word_gt (by omega) hst8
       refine ⟨(hO.sub [0, 2, 4]), ?_⟩
       replace hA := hA.sb (e' := [(0, pt pb), (2, pt b1), (3, pt b2), (63, str v8), (66, bl (decide (kd sv m = 4)))])
       refine ckS (l := [5]) (r := [(6, false), (7, true), (8, false)]) (e' := [(0, pt pb), (2, pt b1), (3, pt b2), (63, str v8), (66, bl (decide (kd sv m = 4))), (67, pf b2 2)]) hA [] c0 ?_
       clear hA fr; intro fr hA
       refine plan_mem (mS (off := 2) (vc := [str v8]) 1 hA hO ?_)
       clear hO; intro w57 hO
       refine ⟨(hO.sub [0, 2, 4]), ?_⟩
       replace hA := hA.sb (e' := [(0, pt pb), (2, pt b1), (3, pt b2), (66, bl (decide (kd sv m = 4)))])
       refine ckS (l := [7]) (r := [(8, false)]) (e' := [(0, pt pb), (2, pt b1), (3, pt b2), (66, bl (decide (kd sv m = 4))), (68, pf b2 3)]) hA [] c0 ?_
       clear hA fr; intro fr hA
       refine plan_mem (mS (off := 3) (vc := [bl (decide (kd sv m = 4))]) 1 hA hO ?_)
       clear hO; intro w58 hO
       refine ⟨(hO.sub [0, 2, 4]), ?_⟩
       replace hA := hA.sb (e' := [(0, pt pb), (2, pt b1), (3, pt b2)])
       refine end_plan ?_
       refine then_normal ?_
       refine wp_exit ?_
       refine inBlock_other (by decide) ?_
       refine then_exit ?_
       refine inBlock_exit ?_
       refine then_normal ?_
       obtain ⟨g2, hg2, hlt2⟩ := meas (er := er12) (z := sv.size) (m := n12) (g := g) (fun q_ => by have := hgw_ q_; omega) (by omega)
       exact ⟨_, by omega, ⟨c.words, c.inp, v8, decide (kd sv m = 4)⟩, j12, k12, n12, a12, er12, f, g2, pL1, cL1, TL1, rfl, hA.sub [0, 2, 3] (by kernel_rfl), (Ow.subP (A := [(b3, 68, [str (rt sv m), i64 ((m : Nat) : Int)]), (b2, 49, [.slice pL1 c.words.length cL1, str c.inp, str v8, bl (decide (kd sv m = 4))]), (b1, 49, [.slice none 0 0, str (⟨#[]⟩), str (⟨#[]⟩), bl false]), (pb, 66, [.slice (some (⟨tb, 2 * j12, none⟩ : Addr)) ((tks sv n12).length) k12, i64 ((a12 : Nat) : Int), i64 er12]), (tb, 68, CT)]) (A' := [(b2, 49, [.slice pL1 c.words.length cL1, str c.inp, str v8, bl (decide (kd sv m = 4))]), (b1, 49, [.slice none 0 0, str (⟨#[]⟩), str (⟨#[]⟩), bl false]), (pb, 66, [.slice (some (⟨tb, 2 * j12, none⟩ : Addr)) ((tks sv n12).length) k12, i64 ((a12 : Nat) : Int), i64 er12]), (tb, 68, CT)]) (B := TL1 ++ ([])) hO (.cons _ (.cons_cons _ (.cons_cons _ (.cons_cons _ (.cons_cons _ .slnil)))))), hTL1, hv12.pos, hg2, (fun q_ => by have := hgw_ q_; omega), (by have q_ := cst_red hC (by omega) (by omega) (by omega) (by omega) hst8; rw [if_neg (show ¬ kd sv m = 2 by omega)] at q_; exact q_), (by have hz_ : c.words.length = (⟨c.words, c.inp, v8, decide (kd sv m = 4)⟩ : CmdL).words.length := rfl; by_cases q_ : er12 = 0; { exact .inl ⟨q_, by omega⟩ }; { exact .inr ⟨q_, by omega⟩ }), (by omega), (fun q_ => .inr (by have := hgw_ q_; omega)), hv12, trivial⟩
     rw [h14] at hA
     have h14p := of_decide_eq_false h14
     refine cF hA ?_
     refine wp_skip ?_
     refine inBlock_normal ?_
     refine then_normal ?_
     refine wp_seq ?_
     refine sC (e' := [(0, pt pb), (2, pt b1), (3, pt b2), (72, bl (((c.words.length : Nat) : Int) == 0))]) 4 hA [.slice pL1 c.words.length cL1] (cc (hO.l1 1 0 47 (.slice pL1 c.words.length cL1)) c0) ?_
     clear hA fr; intro fr hA
     rcases Bool.eq_false_or_eq_true (((c.words.length : Nat) : Int) == 0) with h15 | h15
     · rw [h15] at hA
       have h15p := eq_of_beq h15
       refine cT hA ?_
       refine rR (l := [0, 1]) ?_
       refine ck (l := [0]) (r := [1]) (e' := [(0, pt pb), (2, pt b1), (3, pt b2), (73, pt pb)]) hA [] c0 ?_
       clear hA fr; intro fr hA
       refine wpOps_cons' (mC (f := 27) (args := [pt pb, i64 3]) (d := (some 74)) hA Try.func27 ((rfail_any pb tb toks CT sv jl kl m al el _ hvl hs 3 (Ow.self (A := [(b3, 68, [str (rt sv m), i64 ((m : Nat) : Int)]), (b2, 49, [.slice pL1 c.words.length cL1, str c.inp, str c.out, bl c.app]), (b1, 49, [.slice none 0 0, str (⟨#[]⟩), str (⟨#[]⟩), bl false])]) (T := RP pb tb CT sv jl kl m al el) (B := ([] ++ (TL1 ++ ([])))) (hO.to (by first | rfl | (simp only [RP, apd])) : Ow Try.prog (inT (RP pb tb CT sv j k n a er)) w _ ([(b3, 68, [str (rt sv m), i64 ((m : Nat) : Int)]), (b2, 49, [.slice pL1 c.words.length cL1, str c.inp, str c.out, bl c.app]), (b1, 49, [.slice none 0 0, str (⟨#[]⟩), str (⟨#[]⟩), bl false])] ++ (RP pb tb CT sv jl kl m al el ++ (([] ++ (TL1 ++ ([]))))))))).mono ?_))
       rintro en w59 ⟨a13, er13, rfl, hfe5, hW⟩
       refine ⟨_, rfl, ?_⟩
       clear hA fr; intro fr hA
       replace hO := Ow.pass (A := [(b3, 68, [str (rt sv m), i64 ((m : Nat) : Int)]), (b2, 49, [.slice pL1 c.words.length cL1, str c.inp, str c.out, bl c.app]), (b1, 49, [.slice none 0 0, str (⟨#[]⟩), str (⟨#[]⟩), bl false])]) (T := RP pb tb CT sv jl kl m al el) (B := ([] ++ (TL1 ++ ([])))) (hO.to (by first | rfl | (simp only [RP, apd])) : Ow Try.prog (inT (RP pb tb CT sv j k n a er)) w _ ([(b3, 68, [str (rt sv m), i64 ((m : Nat) : Int)]), (b2, 49, [.slice pL1 c.words.length cL1, str c.inp, str c.out, bl c.app]), (b1, 49, [.slice none 0 0, str (⟨#[]⟩), str (⟨#[]⟩), bl false])] ++ (RP pb tb CT sv jl kl m al el ++ (([] ++ (TL1 ++ ([]))))))) hW; clear hW
       replace hO : Ow Try.prog (inT (RP pb tb CT sv j k n a er)) w _ ([(b3, 68, [str (rt sv m), i64 ((m : Nat) : Int)]), (b2, 49, [.slice pL1 c.words.length cL1, str c.inp, str c.out, bl c.app]), (b1, 49, [.slice none 0 0, str (⟨#[]⟩), str (⟨#[]⟩), bl false]), (pb, 66, [.slice (some (⟨tb, 2 * jl, none⟩ : Addr)) ((tks sv m).length) kl, i64 ((a13 : Nat) : Int), i64 er13]), (tb, 68, CT)] ++ (TL1 ++ ([]))) := hO.to (by first | rfl | (simp only [RP, apd]))
       replace hA := hA.sb (e' := [(0, pt pb), (2, pt b1), (3, pt b2)])
       refine end_ops ?_
       refine then_normal ?_
       refine sR (l := [0, 1]) ?_
       refine ck (l := [0]) (r := [1]) (e' := [(0, pt pb), (2, pt b1), (3, pt b2), (75, .agg #[.slice pL1 c.words.length cL1, str c.inp, str c.out, bl c.app])]) hA [.agg #[.slice pL1 c.words.length cL1, str c.inp, str c.out, bl c.app]] (cc (hO.ln 1 0 49 [.slice pL1 c.words.length cL1, str c.inp, str c.out, bl c.app]) c0) ?_
       clear hA fr; intro fr hA
       refine wpOps_cons' (mS (off := 0) (vc := [.slice pL1 c.words.length cL1, str c.inp, str c.out, bl c.app]) 2 hA hO ?_)
       clear hO; intro w60 hO
       replace hA := hA.sb (e' := [(0, pt pb), (2, pt b1), (3, pt b2)])
       refine end_ops ?_
       refine then_normal ?_
       refine wp_ret ?_
       refine inBlock_ret ?_
       refine then_ret ?_
       refine inBlock_ret ?_
       refine then_ret ?_
       refine cR (cs := [some (⟨b1, 0, none⟩, 49)]) (us := [.agg #[.slice pL1 c.words.length cL1, str c.inp, str c.out, bl c.app]]) hA [.agg #[.slice pL1 c.words.length cL1, str c.inp, str c.out, bl c.app]] ⟨(hO.ln 2 0 49 [.slice pL1 c.words.length cL1, str c.inp, str c.out, bl c.app]), trivial⟩ ?_
       exact ⟨c, jl, kl, m, a13, er13, _, _, _, rfl, hTL1, (.inr ⟨by omega, by rw [cst_none hC (by omega) (by omega) (by omega) (by omega)]; rcases hfe5 with ⟨_, h1_, h2_⟩ | ⟨h1_, _⟩; { rw [h1_, h2_] }; { exact absurd (by omega) h1_ }⟩), hvl, by omega, (fun q_ => by omega), ((Ow.subP (A := [(b3, 68, [str (rt sv m), i64 ((m : Nat) : Int)]), (b2, 49, [.slice pL1 c.words.length cL1, str c.inp, str c.out, bl c.app]), (b1, 49, [.slice pL1 c.words.length cL1, str c.inp, str c.out, bl c.app]), (pb, 66, [.slice (some (⟨tb, 2 * jl, none⟩ : Addr)) ((tks sv m).length) kl, i64 ((a13 : Nat) : Int), i64 er13]), (tb, 68, CT)]) (A' := [(pb, 66, [.slice (some (⟨tb, 2 * jl, none⟩ : Addr)) ((tks sv m).length) kl, i64 ((a13 : Nat) : Int), i64 er13]), (tb, 68, CT)]) (B := TL1 ++ ([])) hO (.cons _ (.cons _ (.cons _ (.cons_cons _ (.cons_cons _ .slnil))))))).to (by simp only [List.append_nil])⟩
     rw [h15] at hA
     have h15p := ne_of_beq_false h15
     refine cF hA ?_
     refine wp_skip ?_
     refine then_normal ?_
     refine sR (l := [0, 1]) ?_
     refine ck (l := [0]) (r := [1]) (e' := [(0, pt pb), (2, pt b1), (3, pt b2), (75, .agg #[.slice pL1 c.words.length cL1, str c.inp, str c.out, bl c.app])]) hA [.agg #[.slice pL1 c.words.length cL1, str c.inp, str c.out, bl c.app]] (cc (hO.ln 1 0 49 [.slice pL1 c.words.length cL1, str c.inp, str c.out, bl c.app]) c0) ?_
     clear hA fr; intro fr hA
     refine wpOps_cons' (mS (off := 0) (vc := [.slice pL1 c.words.length cL1, str c.inp, str c.out, bl c.app]) 2 hA hO ?_)
     clear hO; intro w61 hO
     replace hA := hA.sb (e' := [(0, pt pb), (2, pt b1), (3, pt b2)])
     refine end_ops ?_
     refine then_normal ?_
     refine wp_ret ?_
     refine inBlock_ret ?_
     refine then_ret ?_
     refine inBlock_ret ?_
     refine then_ret ?_
     refine cR (cs := [some (⟨b1, 0, none⟩, 49)]) (us := [.agg #[.slice pL1 c.words.length cL1, str c.inp, str c.out, bl c.app]]) hA [.agg #[.slice pL1 c.words.length cL1, str c.inp, str c.out, bl c.app]] ⟨(hO.ln 2 0 49 [.slice pL1 c.words.length cL1, str c.inp, str c.out, bl c.app]), trivial⟩ ?_
     first | exact ⟨c, jl, kl, m, al, el, _, _, _, rfl, hTL1, (.inl ⟨by omega, cst_end hC (by omega) (by omega) (by omega) (by omega)⟩), hvl, by omega, (fun q_ => by have := hgt2 q_; omega), ((Ow.subP (A := [(b3, 68, [str (rt sv m), i64 ((m : Nat) : Int)]), (b2, 49, [.slice pL1 c.words.length cL1, str c.inp, str c.out, bl c.app]), (b1, 49, [.slice pL1 c.words.length cL1, str c.inp, str c.out, bl c.app]), (pb, 66, [.slice (some (⟨tb, 2 * jl, none⟩ : Addr)) ((tks sv m).length) kl, i64 ((al : Nat) : Int), i64 el]), (tb, 68, CT)]) (A' := [(pb, 66, [.slice (some (⟨tb, 2 * jl, none⟩ : Addr)) ((tks sv m).length) kl, i64 ((al : Nat) : Int), i64 el]), (tb, 68, CT)]) (B := TL1 ++ ([])) hO (.cons _ (.cons _ (.cons _ (.cons_cons _ (.cons_cons _ .slnil))))))).to (by simp only [List.append_nil])⟩ | exact ⟨c, jl, kl, m, al, el, _, _, _, rfl, hTL1, (cst_err hC (by omega)), hvl, by omega, (fun q_ => absurd q_ (by omega)), ((Ow.subP (A := [(b3, 68, [str (rt sv m), i64 ((m : Nat) : Int)]), (b2, 49, [.slice pL1 c.words.length cL1, str c.inp, str c.out, bl c.app]), (b1, 49, [.slice pL1 c.words.length cL1, str c.inp, str c.out, bl c.app]), (pb, 66, [.slice (some (⟨tb, 2 * jl, none⟩ : Addr)) ((tks sv m).length) kl, i64 ((al : Nat) : Int), i64 el]), (tb, 68, CT)]) (A' := [(pb, 66, [.slice (some (⟨tb, 2 * jl, none⟩ : Addr)) ((tks sv m).length) kl, i64 ((al : Nat) : Int), i64 el]), (tb, 68, CT)]) (B := TL1 ++ ([])) hO (.cons _ (.cons _ (.cons _ (.cons_cons _ (.cons_cons _ .slnil))))))).to (by simp only [List.append_nil])⟩
   rw [h13] at hA
   have h13p := of_decide_eq_false h13
   refine ck (l := (rg 4 5)) (r := (rg 9 5)) (e' := [(0, pt pb), (2, pt b1), (3, pt b2), (4, pt b3), (53, bl ((rt sv m).toList == (⟨#[62, 62]⟩ : ByteArray).toList)), (54, bl ((rt sv m).toList == (⟨#[62, 62]⟩ : ByteArray).toList)), (55, bl ((rt sv m).toList == (⟨#[62, 62]⟩ : ByteArray).toList))]) hA [str (rt sv m)] (cc (hO.l1 0 0 9 (str (rt sv m))) c0) ?_
   clear hA fr; intro fr hA
   replace hA := hA.bool (f := fun z_ => [(0, pt pb), (2, pt b1), (3, pt b2), (4, pt b3), (53, .bool z_), (54, .bool z_), (55, .bool z_)]) (rt_app sv m : ((rt sv m).toList == (⟨#[62, 62]⟩ : ByteArray).toList) = (decide (kd sv m = 4)))
   rcases Bool.eq_false_or_eq_true (decide (kd sv m = 4)) with h16 | h16
   · rw [h16] at hA
     have h16p := of_decide_eq_true h16
     refine ck (l := (rg 9 5)) (r := []) (e' := [(0, pt pb), (2, pt b1), (3, pt b2), (4, pt b3), (46, bl (c.out.toList == (⟨#[]⟩ : ByteArray).toList))]) hA [str c.out] (cc (hO.l1 1 2 9 (str c.out)) c0) ?_
     clear hA fr; intro fr hA
     replace hA := hA.bool (f := fun z_ => [(0, pt pb), (2, pt b1), (3, pt b2), (4, pt b3), (46, .bool z_)]) (str_empty c.out : (c.out.toList == (⟨#[]⟩ : ByteArray).toList) = (decide (c.out.size = 0)))
     refine end_ops ?_
     refine then_normal ?_
     rcases Bool.eq_false_or_eq_true (decide (c.out.size = 0)) with h17 | h17
     · rw [h17] at hA
       have h17p := of_decide_eq_true h17
       refine cT hA ?_
       refine sR (l := [0, 1]) ?_
       refine ck (l := [0]) (r := [1]) (e' := [(0, pt pb), (2, pt b1), (3, pt b2), (4, pt b3), (60, pt pb)]) hA [] c0 ?_
       clear hA fr; intro fr hA
       refine wpOps_cons' (mC (f := 29) (args := [pt pb]) (d := (some 61)) hA Try.func29 ((rnext_any pb tb toks CT sv jl kl m al el _ hvl hs (Ow.self (A := [(b3, 68, [str (rt sv m), i64 ((m : Nat) : Int)]), (b2, 49, [.slice pL1 c.words.length cL1, str c.inp, str c.out, bl c.app]), (b1, 49, [.slice none 0 0, str (⟨#[]⟩), str (⟨#[]⟩), bl false])]) (T := RP pb tb CT sv jl kl m al el) (B := ([] ++ (TL1 ++ ([])))) (hO.to (by first | rfl | (simp only [RP, apd])) : Ow Try.prog (inT (RP pb tb CT sv j k n a er)) w _ ([(b3, 68, [str (rt sv m), i64 ((m : Nat) : Int)]), (b2, 49, [.slice pL1 c.words.length cL1, str c.inp, str c.out, bl c.app]), (b1, 49, [.slice none 0 0, str (⟨#[]⟩), str (⟨#[]⟩), bl false])] ++ (RP pb tb CT sv jl kl m al el ++ (([] ++ (TL1 ++ ([]))))))))).mono ?_))
       rintro en w62 ⟨j13, k13, n13, rfl, hnx5, hv13, hW⟩
       refine ⟨_, rfl, ?_⟩
       clear hA fr; intro fr hA
       replace hO := Ow.pass (A := [(b3, 68, [str (rt sv m), i64 ((m : Nat) : Int)]), (b2, 49, [.slice pL1 c.words.length cL1, str c.inp, str c.out, bl c.app]), (b1, 49, [.slice none 0 0, str (⟨#[]⟩), str (⟨#[]⟩), bl false])]) (T := RP pb tb CT sv jl kl m al el) (B := ([] ++ (TL1 ++ ([])))) (hO.to (by first | rfl | (simp only [RP, apd])) : Ow Try.prog (inT (RP pb tb CT sv j k n a er)) w _ ([(b3, 68, [str (rt sv m), i64 ((m : Nat) : Int)]), (b2, 49, [.slice pL1 c.words.length cL1, str c.inp, str c.out, bl c.app]), (b1, 49, [.slice none 0 0, str (⟨#[]⟩), str (⟨#[]⟩), bl false])] ++ (RP pb tb CT sv jl kl m al el ++ (([] ++ (TL1 ++ ([]))))))) hW; clear hW
       replace hO : Ow Try.prog (inT (RP pb tb CT sv j k n a er)) w _ ([(b3, 68, [str (rt sv m), i64 ((m : Nat) : Int)]), (b2, 49, [.slice pL1 c.words.length cL1, str c.inp, str c.out, bl c.app]), (b1, 49, [.slice none 0 0, str (⟨#[]⟩), str (⟨#[]⟩), bl false]), (pb, 66, [.slice (some (⟨tb, 2 * j13, none⟩ : Addr)) ((tks sv n13).length) k13, i64 ((al : Nat) : Int), i64 el]), (tb, 68, CT)] ++ (TL1 ++ ([]))) := hO.to (by first | rfl | (simp only [RP, apd]))
       have hp13a := tks_pos sv n13
       have hp13b := hv13.pos
       replace hA := hA.sb (e' := [(0, pt pb), (2, pt b1), (3, pt b2), (4, pt b3)])
       refine end_ops ?_
       refine then_normal ?_
       refine wp_seq ?_
       have hS : Ow Try.prog (inT (RP pb tb CT sv j k n a er)) w _ [(b3, 68, [str (rt sv m), i64 ((m : Nat) : Int)]), (b1, 49, [.slice none 0 0, str (⟨#[]⟩), str (⟨#[]⟩), bl false]), (tb, 68, CT)] := hO.sub [0, 2, 4]
       refine rP [(0, true), (2, true), (3, true), (4, true), (1, false), (5, true), (6, false), (7, true), (8, false)] hS ?_
       intro w63 ho; replace hO := hO.st ho; clear ho
       refine ckS (l := [0, 2, 3, 4]) (r := [(1, false), (5, true), (6, false), (7, true), (8, false)]) (e' := [(0, pt pb), (2, pt b1), (3, pt b2), (62, pt pb), (66, bl ((rt sv m).toList == (⟨#[62, 62]⟩ : ByteArray).toList))]) hA [str (rt sv m)] (cc (hS.s1 0 0 9 (str (rt sv m))) c0) ?_
       clear hA fr; intro fr hA
       replace hA := hA.bool (f := fun z_ => [(0, pt pb), (2, pt b1), (3, pt b2), (62, pt pb), (66, .bool z_)]) (rt_app sv m : ((rt sv m).toList == (⟨#[62, 62]⟩ : ByteArray).toList) = (decide (kd sv m = 4)))
       refine plan_mem (mC (f := 56) (args := [pt pb]) (d := (some 63)) hA Try.func56 ((rword_any pb tb toks CT sv j13 k13 n13 al el _ hv13 hs (Ow.self (A := [(b3, 68, [str (rt sv m), i64 ((m : Nat) : Int)]), (b2, 49, [.slice pL1 c.words.length cL1, str c.inp, str c.out, bl c.app]), (b1, 49, [.slice none 0 0, str (⟨#[]⟩), str (⟨#[]⟩), bl false])]) (T := RP pb tb CT sv j13 k13 n13 al el) (B := ([] ++ (TL1 ++ ([])))) (hO.to (by first | rfl | (simp only [RP, apd])) : Ow Try.prog (inT (RP pb tb CT sv j k n a er)) w _ ([(b3, 68, [str (rt sv m), i64 ((m : Nat) : Int)]), (b2, 49, [.slice pL1 c.words.length cL1, str c.inp, str c.out, bl c.app]), (b1, 49, [.slice none 0 0, str (⟨#[]⟩), str (⟨#[]⟩), bl false])] ++ (RP pb tb CT sv j13 k13 n13 al el ++ (([] ++ (TL1 ++ ([]))))))))).mono ?_))
       rintro en w64 ⟨v9, j14, k14, n14, a14, er14, rfl, hst9, hv14, hle9, hW⟩
       refine ⟨_, rfl, ?_⟩
       clear hA fr; intro fr hA
       replace hO := Ow.pass (A := [(b3, 68, [str (rt sv m), i64 ((m : Nat) : Int)]), (b2, 49, [.slice pL1 c.words.length cL1, str c.inp, str c.out, bl c.app]), (b1, 49, [.slice none 0 0, str (⟨#[]⟩), str (⟨#[]⟩), bl false])]) (T := RP pb tb CT sv j13 k13 n13 al el) (B := ([] ++ (TL1 ++ ([])))) (hO.to (by first | rfl | (simp only [RP, apd])) : Ow Try.prog (inT (RP pb tb CT sv j k n a er)) w _ ([(b3, 68, [str (rt sv m), i64 ((m : Nat) : Int)]), (b2, 49, [.slice pL1 c.words.length cL1, str c.inp, str c.out, bl c.app]), (b1, 49, [.slice none 0 0, str (⟨#[]⟩), str (⟨#[]⟩), bl false])] ++ (RP pb tb CT sv j13 k13 n13 al el ++ (([] ++ (TL1 ++ ([]))))))) hW; clear hW
       replace hO : Ow Try.prog (inT (RP pb tb CT sv j k n a er)) w _ ([(b3, 68, [str (rt sv m), i64 ((m : Nat) : Int)]), (b2, 49, [.slice pL1 c.words.length cL1, str c.inp, str c.out, bl c.app]), (b1, 49, [.slice none 0 0, str (⟨#[]⟩), str (⟨#[]⟩), bl false]), (pb, 66, [.slice (some (⟨tb, 2 * j14, none⟩ : Addr)) ((tks sv n14).length) k14, i64 ((a14 : Nat) : Int), i64 er14]), (tb, 68, CT)] ++ (TL1 ++ ([]))) := hO.to (by first | rfl | (simp only [RP, apd]))
       have hp14a := tks_pos sv n14
       have hp14b := hv14.pos
       have hgw_ := word_gt (by omega) hst9
       refine ⟨(hO.sub [0, 2, 4]), ?_⟩
       replace hA := hA.sb (e' := [(0, pt pb), (2, pt b1), (3, pt b2), (63, str v9), (66, bl (decide (kd sv m = 4)))])
       refine ckS (l := [5]) (r := [(6, false), (7, true), (8, false)]) (e' := [(0, pt pb), (2, pt b1), (3, pt b2), (63, str v9), (66, bl (decide (kd sv m = 4))), (67, pf b2 2)]) hA [] c0 ?_
       clear hA fr; intro fr hA
       refine plan_mem (mS (off := 2) (vc := [str v9]) 1 hA hO ?_)
       clear hO; intro w65 hO
       refine ⟨(hO.sub [0, 2, 4]), ?_⟩
       replace hA := hA.sb (e' := [(0, pt pb), (2, pt b1), (3, pt b2), (66, bl (decide (kd sv m = 4)))])
       refine ckS (l := [7]) (r := [(8, false)]) (e' := [(0, pt pb), (2, pt b1), (3, pt b2), (66, bl (decide (kd sv m = 4))), (68, pf b2 3)]) hA [] c0 ?_
       clear hA fr; intro fr hA
       refine plan_mem (mS (off := 3) (vc := [bl (decide (kd sv m = 4))]) 1 hA hO ?_)
       clear hO; intro w66 hO
       refine ⟨(hO.sub [0, 2, 4]), ?_⟩
       replace hA := hA.sb (e' := [(0, pt pb), (2, pt b1), (3, pt b2)])
       refine end_plan ?_
       refine then_normal ?_
       refine wp_exit ?_
       refine inBlock_other (by decide) ?_
       refine then_exit ?_
       refine inBlock_exit ?_
       refine then_normal ?_
       obtain ⟨g2, hg2, hlt2⟩ := meas (er := er14) (z := sv.size) (m := n14) (g := g) (fun q_ => by have := hgw_ q_; omega) (by omega)
       exact ⟨_, by omega, ⟨c.words, c.inp, v9, decide (kd sv m = 4)⟩, j14, k14, n14, a14, er14, f, g2, pL1, cL1, TL1, rfl, hA.sub [0, 2, 3] (by kernel_rfl), (Ow.subP (A := [(b3, 68, [str (rt sv m), i64 ((m : Nat) : Int)]), (b2, 49, [.slice pL1 c.words.length cL1, str c.inp, str v9, bl (decide (kd sv m = 4))]), (b1, 49, [.slice none 0 0, str (⟨#[]⟩), str (⟨#[]⟩), bl false]), (pb, 66, [.slice (some (⟨tb, 2 * j14, none⟩ : Addr)) ((tks sv n14).length) k14, i64 ((a14 : Nat) : Int), i64 er14]), (tb, 68, CT)]) (A' := [(b2, 49, [.slice pL1 c.words.length cL1, str c.inp, str v9, bl (decide (kd sv m = 4))]), (b1, 49, [.slice none 0 0, str (⟨#[]⟩), str (⟨#[]⟩), bl false]), (pb, 66, [.slice (some (⟨tb, 2 * j14, none⟩ : Addr)) ((tks sv n14).length) k14, i64 ((a14 : Nat) : Int), i64 er14]), (tb, 68, CT)]) (B := TL1 ++ ([])) hO (.cons _ (.cons_cons _ (.cons_cons _ (.cons_cons _ (.cons_cons _ .slnil)))))), hTL1, hv14.pos, hg2, (fun q_ => by have := hgw_ q_; omega), (by have q_ := cst_red hC (by omega) (by omega) (by omega) (by omega) hst9; rw [if_neg (show ¬ kd sv m = 2 by omega)] at q_; exact q_), (by have hz_ : c.words.length = (⟨c.words, c.inp, v9, decide (kd sv m = 4)⟩ : CmdL).words.length := rfl; by_cases q_ : er14 = 0; { exact .inl ⟨q_, by omega⟩ }; { exact .inr ⟨q_, by omega⟩ }), (by omega), (fun q_ => .inr (by have := hgw_ q_; omega)), hv14, trivial⟩
     rw [h17] at hA
     have h17p := of_decide_eq_false h17
     refine cF hA ?_
     refine wp_skip ?_
     refine inBlock_normal ?_
     refine then_normal ?_
     refine wp_seq ?_
     refine sC (e' := [(0, pt pb), (2, pt b1), (3, pt b2), (72, bl (((c.words.length : Nat) : Int) == 0))]) 4 hA [.slice pL1 c.words.length cL1] (cc (hO.l1 1 0 47 (.slice pL1 c.words.length cL1)) c0) ?_
     clear hA fr; intro fr hA
     rcases Bool.eq_false_or_eq_true (((c.words.length : Nat) : Int) == 0) with h18 | h18
     · rw [h18] at hA
       have h18p := eq_of_beq h18
       refine cT hA ?_
       refine rR (l := [0, 1]) ?_
       refine ck (l := [0]) (r := [1]) (e' := [(0, pt pb), (2, pt b1), (3, pt b2), (73, pt pb)]) hA [] c0 ?_
       clear hA fr; intro fr hA
       refine wpOps_cons' (mC (f := 27) (args := [pt pb, i64 3]) (d := (some 74)) hA Try.func27 ((rfail_any pb tb toks CT sv jl kl m al el _ hvl hs 3 (Ow.self (A := [(b3, 68, [str (rt sv m), i64 ((m : Nat) : Int)]), (b2, 49, [.slice pL1 c.words.length cL1, str c.inp, str c.out, bl c.app]), (b1, 49, [.slice none 0 0, str (⟨#[]⟩), str (⟨#[]⟩), bl false])]) (T := RP pb tb CT sv jl kl m al el) (B := ([] ++ (TL1 ++ ([])))) (hO.to (by first | rfl | (simp only [RP, apd])) : Ow Try.prog (inT (RP pb tb CT sv j k n a er)) w _ ([(b3, 68, [str (rt sv m), i64 ((m : Nat) : Int)]), (b2, 49, [.slice pL1 c.words.length cL1, str c.inp, str c.out, bl c.app]), (b1, 49, [.slice none 0 0, str (⟨#[]⟩), str (⟨#[]⟩), bl false])] ++ (RP pb tb CT sv jl kl m al el ++ (([] ++ (TL1 ++ ([]))))))))).mono ?_))
       rintro en w67 ⟨a15, er15, rfl, hfe6, hW⟩
       refine ⟨_, rfl, ?_⟩
       clear hA fr; intro fr hA
       replace hO := Ow.pass (A := [(b3, 68, [str (rt sv m), i64 ((m : Nat) : Int)]), (b2, 49, [.slice pL1 c.words.length cL1, str c.inp, str c.out, bl c.app]), (b1, 49, [.slice none 0 0, str (⟨#[]⟩), str (⟨#[]⟩), bl false])]) (T := RP pb tb CT sv jl kl m al el) (B := ([] ++ (TL1 ++ ([])))) (hO.to (by first | rfl | (simp only [RP, apd])) : Ow Try.prog (inT (RP pb tb CT sv j k n a er)) w _ ([(b3, 68, [str (rt sv m), i64 ((m : Nat) : Int)]), (b2, 49, [.slice pL1 c.words.length cL1, str c.inp, str c.out, bl c.app]), (b1, 49, [.slice none 0 0, str (⟨#[]⟩), str (⟨#[]⟩), bl false])] ++ (RP pb tb CT sv jl kl m al el ++ (([] ++ (TL1 ++ ([]))))))) hW; clear hW
       replace hO : Ow Try.prog (inT (RP pb tb CT sv j k n a er)) w _ ([(b3, 68, [str (rt sv m), i64 ((m : Nat) : Int)]), (b2, 49, [.slice pL1 c.words.length cL1, str c.inp, str c.out, bl c.app]), (b1, 49, [.slice none 0 0, str (⟨#[]⟩), str (⟨#[]⟩), bl false]), (pb, 66, [.slice (some (⟨tb, 2 * jl, none⟩ : Addr)) ((tks sv m).length) kl, i64 ((a15 : Nat) : Int), i64 er15]), (tb, 68, CT)] ++ (TL1 ++ ([]))) := hO.to (by first | rfl | (simp only [RP, apd]))
       replace hA := hA.sb (e' := [(0, pt pb), (2, pt b1), (3, pt b2)])
       refine end_ops ?_
       refine then_normal ?_
       refine sR (l := [0, 1]) ?_
       refine ck (l := [0]) (r := [1]) (e' := [(0, pt pb), (2, pt b1), (3, pt b2), (75, .agg #[.slice pL1 c.words.length cL1, str c.inp, str c.out, bl c.app])]) hA [.agg #[.slice pL1 c.words.length cL1, str c.inp, str c.out, bl c.app]] (cc (hO.ln 1 0 49 [.slice pL1 c.words.length cL1, str c.inp, str c.out, bl c.app]) c0) ?_
       clear hA fr; intro fr hA
       refine wpOps_cons' (mS (off := 0) (vc := [.slice pL1 c.words.length cL1, str c.inp, str c.out, bl c.app]) 2 hA hO ?_)
       clear hO; intro w68 hO
       replace hA := hA.sb (e' := [(0, pt pb), (2, pt b1), (3, pt b2)])
       refine end_ops ?_
       refine then_normal ?_
       refine wp_ret ?_
       refine inBlock_ret ?_
       refine then_ret ?_
       refine inBlock_ret ?_
       refine then_ret ?_
       refine cR (cs := [some (⟨b1, 0, none⟩, 49)]) (us := [.agg #[.slice pL1 c.words.length cL1, str c.inp, str c.out, bl c.app]]) hA [.agg #[.slice pL1 c.words.length cL1, str c.inp, str c.out, bl c.app]] ⟨(hO.ln 2 0 49 [.slice pL1 c.words.length cL1, str c.inp, str c.out, bl c.app]), trivial⟩ ?_
       exact ⟨c, jl, kl, m, a15, er15, _, _, _, rfl, hTL1, (.inr ⟨by omega, by rw [cst_none hC (by omega) (by omega) (by omega) (by omega)]; rcases hfe6 with ⟨_, h1_, h2_⟩ | ⟨h1_, _⟩; { rw [h1_, h2_] }; { exact absurd (by omega) h1_ }⟩), hvl, by omega, (fun q_ => by omega), ((Ow.subP (A := [(b3, 68, [str (rt sv m), i64 ((m : Nat) : Int)]), (b2, 49, [.slice pL1 c.words.length cL1, str c.inp, str c.out, bl c.app]), (b1, 49, [.slice pL1 c.words.length cL1, str c.inp, str c.out, bl c.app]), (pb, 66, [.slice (some (⟨tb, 2 * jl, none⟩ : Addr)) ((tks sv m).length) kl, i64 ((a15 : Nat) : Int), i64 er15]), (tb, 68, CT)]) (A' := [(pb, 66, [.slice (some (⟨tb, 2 * jl, none⟩ : Addr)) ((tks sv m).length) kl, i64 ((a15 : Nat) : Int), i64 er15]), (tb, 68, CT)]) (B := TL1 ++ ([])) hO (.cons _ (.cons _ (.cons _ (.cons_cons _ (.cons_cons _ .slnil))))))).to (by simp only [List.append_nil])⟩
     rw [h18] at hA
     have h18p := ne_of_beq_false h18
     refine cF hA ?_
     refine wp_skip ?_
     refine then_normal ?_
     refine sR (l := [0, 1]) ?_
     refine ck (l := [0]) (r := [1]) (e' := [(0, pt pb), (2, pt b1), (3, pt b2), (75, .agg #[.slice pL1 c.words.length cL1, str c.inp, str c.out, bl c.app])]) hA [.agg #[.slice pL1 c.words.length cL1, str c.inp, str c.out, bl c.app]] (cc (hO.ln 1 0 49 [.slice pL1 c.words.length cL1, str c.inp, str c.out, bl c.app]) c0) ?_
     clear hA fr; intro fr hA
     refine wpOps_cons' (mS (off := 0) (vc := [.slice pL1 c.words.length cL1, str c.inp, str c.out, bl c.app]) 2 hA hO ?_)
     clear hO; intro w69 hO
     replace hA := hA.sb (e' := [(0, pt pb), (2, pt b1), (3, pt b2)])
     refine end_ops ?_
     refine then_normal ?_
     refine wp_ret ?_
     refine inBlock_ret ?_
     refine then_ret ?_
     refine inBlock_ret ?_
     refine then_ret ?_
     refine cR (cs := [some (⟨b1, 0, none⟩, 49)]) (us := [.agg #[.slice pL1 c.words.length cL1, str c.inp, str c.out, bl c.app]]) hA [.agg #[.slice pL1 c.words.length cL1, str c.inp, str c.out, bl c.app]] ⟨(hO.ln 2 0 49 [.slice pL1 c.words.length cL1, str c.inp, str c.out, bl c.app]), trivial⟩ ?_
     first | exact ⟨c, jl, kl, m, al, el, _, _, _, rfl, hTL1, (.inl ⟨by omega, cst_end hC (by omega) (by omega) (by omega) (by omega)⟩), hvl, by omega, (fun q_ => by have := hgt2 q_; omega), ((Ow.subP (A := [(b3, 68, [str (rt sv m), i64 ((m : Nat) : Int)]), (b2, 49, [.slice pL1 c.words.length cL1, str c.inp, str c.out, bl c.app]), (b1, 49, [.slice pL1 c.words.length cL1, str c.inp, str c.out, bl c.app]), (pb, 66, [.slice (some (⟨tb, 2 * jl, none⟩ : Addr)) ((tks sv m).length) kl, i64 ((al : Nat) : Int), i64 el]), (tb, 68, CT)]) (A' := [(pb, 66, [.slice (some (⟨tb, 2 * jl, none⟩ : Addr)) ((tks sv m).length) kl, i64 ((al : Nat) : Int), i64 el]), (tb, 68, CT)]) (B := TL1 ++ ([])) hO (.cons _ (.cons _ (.cons _ (.cons_cons _ (.cons_cons _ .slnil))))))).to (by simp only [List.append_nil])⟩ | exact ⟨c, jl, kl, m, al, el, _, _, _, rfl, hTL1, (cst_err hC (by omega)), hvl, by omega, (fun q_ => absurd q_ (by omega)), ((Ow.subP (A := [(b3, 68, [str (rt sv m), i64 ((m : Nat) : Int)]), (b2, 49, [.slice pL1 c.words.length cL1, str c.inp, str c.out, bl c.app]), (b1, 49, [.slice pL1 c.words.length cL1, str c.inp, str c.out, bl c.app]), (pb, 66, [.slice (some (⟨tb, 2 * jl, none⟩ : Addr)) ((tks sv m).length) kl, i64 ((al : Nat) : Int), i64 el]), (tb, 68, CT)]) (A' := [(pb, 66, [.slice (some (⟨tb, 2 * jl, none⟩ : Addr)) ((tks sv m).length) kl, i64 ((al : Nat) : Int), i64 el]), (tb, 68, CT)]) (B := TL1 ++ ([])) hO (.cons _ (.cons _ (.cons _ (.cons_cons _ (.cons_cons _ .slnil))))))).to (by simp only [List.append_nil])⟩
   rw [h16] at hA
   have h16p := of_decide_eq_false h16
   refine ck (l := (rg 9 5)) (r := []) (e' := [(0, pt pb), (2, pt b1), (3, pt b2), (4, pt b3), (46, bl false)]) hA [] c0 ?_
   clear hA fr; intro fr hA
   refine end_ops ?_
   refine then_normal ?_
   refine cF hA ?_
   refine wp_skip ?_
   refine inBlock_normal ?_
   refine then_normal ?_
   refine wp_seq ?_
   refine sC (e' := [(0, pt pb), (2, pt b1), (3, pt b2), (72, bl (((c.words.length : Nat) : Int) == 0))]) 4 hA [.slice pL1 c.words.length cL1] (cc (hO.l1 1 0 47 (.slice pL1 c.words.length cL1)) c0) ?_
   clear hA fr; intro fr hA
   rcases Bool.eq_false_or_eq_true (((c.words.length : Nat) : Int) == 0) with h19 | h19
   · rw [h19] at hA
     have h19p := eq_of_beq h19
     refine cT hA ?_
     refine rR (l := [0, 1]) ?_
     refine ck (l := [0]) (r := [1]) (e' := [(0, pt pb), (2, pt b1), (3, pt b2), (73, pt pb)]) hA [] c0 ?_
     clear hA fr; intro fr hA
     refine wpOps_cons' (mC (f := 27) (args := [pt pb, i64 3]) (d := (some 74)) hA Try.func27 ((rfail_any pb tb toks CT sv jl kl m al el _ hvl hs 3 (Ow.self (A := [(b3, 68, [str (rt sv m), i64 ((m : Nat) : Int)]), (b2, 49, [.slice pL1 c.words.length cL1, str c.inp, str c.out, bl c.app]), (b1, 49, [.slice none 0 0, str (⟨#[]⟩), str (⟨#[]⟩), bl false])]) (T := RP pb tb CT sv jl kl m al el) (B := ([] ++ (TL1 ++ ([])))) (hO.to (by first | rfl | (simp only [RP, apd])) : Ow Try.prog (inT (RP pb tb CT sv j k n a er)) w _ ([(b3, 68, [str (rt sv m), i64 ((m : Nat) : Int)]), (b2, 49, [.slice pL1 c.words.length cL1, str c.inp, str c.out, bl c.app]), (b1, 49, [.slice none 0 0, str (⟨#[]⟩), str (⟨#[]⟩), bl false])] ++ (RP pb tb CT sv jl kl m al el ++ (([] ++ (TL1 ++ ([]))))))))).mono ?_))
     rintro en w70 ⟨a16, er16, rfl, hfe7, hW⟩
     refine ⟨_, rfl, ?_⟩
     clear hA fr; intro fr hA
     replace hO := Ow.pass (A := [(b3, 68, [str (rt sv m), i64 ((m : Nat) : Int)]), (b2, 49, [.slice pL1 c.words.length cL1, str c.inp, str c.out, bl c.app]), (b1, 49, [.slice none 0 0, str (⟨#[]⟩), str (⟨#[]⟩), bl false])]) (T := RP pb tb CT sv jl kl m al el) (B := ([] ++ (TL1 ++ ([])))) (hO.to (by first | rfl | (simp only [RP, apd])) : Ow Try.prog (inT (RP pb tb CT sv j k n a er)) w _ ([(b3, 68, [str (rt sv m), i64 ((m : Nat) : Int)]), (b2, 49, [.slice pL1 c.words.length cL1, str c.inp, str c.out, bl c.app]), (b1, 49, [.slice none 0 0, str (⟨#[]⟩), str (⟨#[]⟩), bl false])] ++ (RP pb tb CT sv jl kl m al el ++ (([] ++ (TL1 ++ ([]))))))) hW; clear hW
     replace hO : Ow Try.prog (inT (RP pb tb CT sv j k n a er)) w _ ([(b3, 68, [str (rt sv m), i64 ((m : Nat) : Int)]), (b2, 49, [.slice pL1 c.words.length cL1, str c.inp, str c.out, bl c.app]), (b1, 49, [.slice none 0 0, str (⟨#[]⟩), str (⟨#[]⟩), bl false]), (pb, 66, [.slice (some (⟨tb, 2 * jl, none⟩ : Addr)) ((tks sv m).length) kl, i64 ((a16 : Nat) : Int), i64 er16]), (tb, 68, CT)] ++ (TL1 ++ ([]))) := hO.to (by first | rfl | (simp only [RP, apd]))
     replace hA := hA.sb (e' := [(0, pt pb), (2, pt b1), (3, pt b2)])
     refine end_ops ?_
     refine then_normal ?_
     refine sR (l := [0, 1]) ?_
     refine ck (l := [0]) (r := [1]) (e' := [(0, pt pb), (2, pt b1), (3, pt b2), (75, .agg #[.slice pL1 c.words.length cL1, str c.inp, str c.out, bl c.app])]) hA [.agg #[.slice pL1 c.words.length cL1, str c.inp, str c.out, bl c.app]] (cc (hO.ln 1 0 49 [.slice pL1 c.words.length cL1, str c.inp, str c.out, bl c.app]) c0) ?_
     clear hA fr; intro fr hA
     refine wpOps_cons' (mS (off := 0) (vc := [.slice pL1 c.words.length cL1, str c.inp, str c.out, bl c.app]) 2 hA hO ?_)
     clear hO; intro w71 hO
     replace hA := hA.sb (e' := [(0, pt pb), (2, pt b1), (3, pt b2)])
     refine end_ops ?_
     refine then_normal ?_
     refine wp_ret ?_
     refine inBlock_ret ?_
     refine then_ret ?_
     refine inBlock_ret ?_
     refine then_ret ?_
     refine cR (cs := [some (⟨b1, 0, none⟩, 49)]) (us := [.agg #[.slice pL1 c.words.length cL1, str c.inp, str c.out, bl c.app]]) hA [.agg #[.slice pL1 c.words.length cL1, str c.inp, str c.out, bl c.app]] ⟨(hO.ln 2 0 49 [.slice pL1 c.words.length cL1, str c.inp, str c.out, bl c.app]), trivial⟩ ?_
     exact ⟨c, jl, kl, m, a16, er16, _, _, _, rfl, hTL1, (.inr ⟨by omega, by rw [cst_none hC (by omega) (by omega) (by omega) (by omega)]; rcases hfe7 with ⟨_, h1_, h2_⟩ | ⟨h1_, _⟩; { rw [h1_, h2_] }; { exact absurd (by omega) h1_ }⟩), hvl, by omega, (fun q_ => by omega), ((Ow.subP (A := [(b3, 68, [str (rt sv m), i64 ((m : Nat) : Int)]), (b2, 49, [.slice pL1 c.words.length cL1, str c.inp, str c.out, bl c.app]), (b1, 49, [.slice pL1 c.words.length cL1, str c.inp, str c.out, bl c.app]), (pb, 66, [.slice (some (⟨tb, 2 * jl, none⟩ : Addr)) ((tks sv m).length) kl, i64 ((a16 : Nat) : Int), i64 er16]), (tb, 68, CT)]) (A' := [(pb, 66, [.slice (some (⟨tb, 2 * jl, none⟩ : Addr)) ((tks sv m).length) kl, i64 ((a16 : Nat) : Int), i64 er16]), (tb, 68, CT)]) (B := TL1 ++ ([])) hO (.cons _ (.cons _ (.cons _ (.cons_cons _ (.cons_cons _ .slnil))))))).to (by simp only [List.append_nil])⟩
   rw [h19] at hA
   have h19p := ne_of_beq_false h19
   refine cF hA ?_
   refine wp_skip ?_
   refine then_normal ?_
   refine sR (l := [0, 1]) ?_
   refine ck (l := [0]) (r := [1]) (e' := [(0, pt pb), (2, pt b1), (3, pt b2), (75, .agg #[.slice pL1 c.words.length cL1, str c.inp, str c.out, bl c.app])]) hA [.agg #[.slice pL1 c.words.length cL1, str c.inp, str c.out, bl c.app]] (cc (hO.ln 1 0 49 [.slice pL1 c.words.length cL1, str c.inp, str c.out, bl c.app]) c0) ?_
   clear hA fr; intro fr hA
   refine wpOps_cons' (mS (off := 0) (vc := [.slice pL1 c.words.length cL1, str c.inp, str c.out, bl c.app]) 2 hA hO ?_)
   clear hO; intro w72 hO
   replace hA := hA.sb (e' := [(0, pt pb), (2, pt b1), (3, pt b2)])
   refine end_ops ?_
   refine then_normal ?_
   refine wp_ret ?_
   refine inBlock_ret ?_
   refine then_ret ?_
   refine inBlock_ret ?_
   refine then_ret ?_
   refine cR (cs := [some (⟨b1, 0, none⟩, 49)]) (us := [.agg #[.slice pL1 c.words.length cL1, str c.inp, str c.out, bl c.app]]) hA [.agg #[.slice pL1 c.words.length cL1, str c.inp, str c.out, bl c.app]] ⟨(hO.ln 2 0 49 [.slice pL1 c.words.length cL1, str c.inp, str c.out, bl c.app]), trivial⟩ ?_
   first | exact ⟨c, jl, kl, m, al, el, _, _, _, rfl, hTL1, (.inl ⟨by omega, cst_end hC (by omega) (by omega) (by omega) (by omega)⟩), hvl, by omega, (fun q_ => by have := hgt2 q_; omega), ((Ow.subP (A := [(b3, 68, [str (rt sv m), i64 ((m : Nat) : Int)]), (b2, 49, [.slice pL1 c.words.length cL1, str c.inp, str c.out, bl c.app]), (b1, 49, [.slice pL1 c.words.length cL1, str c.inp, str c.out, bl c.app]), (pb, 66, [.slice (some (⟨tb, 2 * jl, none⟩ : Addr)) ((tks sv m).length) kl, i64 ((al : Nat) : Int), i64 el]), (tb, 68, CT)]) (A' := [(pb, 66, [.slice (some (⟨tb, 2 * jl, none⟩ : Addr)) ((tks sv m).length) kl, i64 ((al : Nat) : Int), i64 el]), (tb, 68, CT)]) (B := TL1 ++ ([])) hO (.cons _ (.cons _ (.cons _ (.cons_cons _ (.cons_cons _ .slnil))))))).to (by simp only [List.append_nil])⟩ | exact ⟨c, jl, kl, m, al, el, _, _, _, rfl, hTL1, (cst_err hC (by omega)), hvl, by omega, (fun q_ => absurd q_ (by omega)), ((Ow.subP (A := [(b3, 68, [str (rt sv m), i64 ((m : Nat) : Int)]), (b2, 49, [.slice pL1 c.words.length cL1, str c.inp, str c.out, bl c.app]), (b1, 49, [.slice pL1 c.words.length cL1, str c.inp, str c.out, bl c.app]), (pb, 66, [.slice (some (⟨tb, 2 * jl, none⟩ : Addr)) ((tks sv m).length) kl, i64 ((al : Nat) : Int), i64 el]), (tb, 68, CT)]) (A' := [(pb, 66, [.slice (some (⟨tb, 2 * jl, none⟩ : Addr)) ((tks sv m).length) kl, i64 ((al : Nat) : Int), i64 el]), (tb, 68, CT)]) (B := TL1 ++ ([])) hO (.cons _ (.cons _ (.cons _ (.cons_cons _ (.cons_cons _ .slnil))))))).to (by simp only [List.append_nil])⟩
 rw [h1] at hA
 have h1p := ne_of_beq_false h1
 refine cF hA ?_
 refine wp_exit ?_
 refine then_exit ?_
 refine then_exit ?_
 refine inBlock_exit ?_
 refine then_normal ?_
 refine sR (l := [0, 1]) ?_
 refine ck (l := [0]) (r := [1]) (e' := [(2, pt b1), (76, .agg #[.slice pL1 c.words.length cL1, str c.inp, str c.out, bl c.app])]) hA [.agg #[.slice pL1 c.words.length cL1, str c.inp, str c.out, bl c.app]] (cc (hO.ln 0 0 49 [.slice pL1 c.words.length cL1, str c.inp, str c.out, bl c.app]) c0) ?_
 clear hA fr; intro fr hA
 refine wpOps_cons' (mS (off := 0) (vc := [.slice pL1 c.words.length cL1, str c.inp, str c.out, bl c.app]) 1 hA hO ?_)
 clear hO; intro w73 hO
 replace hA := hA.sb (e' := [(2, pt b1)])
 refine end_ops ?_
 refine then_normal ?_
 refine wp_ret ?_
 refine cR (cs := [some (⟨b1, 0, none⟩, 49)]) (us := [.agg #[.slice pL1 c.words.length cL1, str c.inp, str c.out, bl c.app]]) hA [.agg #[.slice pL1 c.words.length cL1, str c.inp, str c.out, bl c.app]] ⟨(hO.ln 1 0 49 [.slice pL1 c.words.length cL1, str c.inp, str c.out, bl c.app]), trivial⟩ ?_
 first | exact ⟨c, jl, kl, m, al, el, _, _, _, rfl, hTL1, (.inl ⟨by omega, cst_end hC (by omega) (by omega) (by omega) (by omega)⟩), hvl, by omega, (fun q_ => by have := hgt2 q_; omega), ((Ow.subP (A := [(b2, 49, [.slice pL1 c.words.length cL1, str c.inp, str c.out, bl c.app]), (b1, 49, [.slice pL1 c.words.length cL1, str c.inp, str c.out, bl c.app]), (pb, 66, [.slice (some (⟨tb, 2 * jl, none⟩ : Addr)) ((tks sv m).length) kl, i64 ((al : Nat) : Int), i64 el]), (tb, 68, CT)]) (A' := [(pb, 66, [.slice (some (⟨tb, 2 * jl, none⟩ : Addr)) ((tks sv m).length) kl, i64 ((al : Nat) : Int), i64 el]), (tb, 68, CT)]) (B := TL1 ++ ([])) hO (.cons _ (.cons _ (.cons_cons _ (.cons_cons _ .slnil)))))).to (by simp only [List.append_nil])⟩ | exact ⟨c, jl, kl, m, al, el, _, _, _, rfl, hTL1, (cst_err hC (by omega)), hvl, by omega, (fun q_ => absurd q_ (by omega)), ((Ow.subP (A := [(b2, 49, [.slice pL1 c.words.length cL1, str c.inp, str c.out, bl c.app]), (b1, 49, [.slice pL1 c.words.length cL1, str c.inp, str c.out, bl c.app]), (pb, 66, [.slice (some (⟨tb, 2 * jl, none⟩ : Addr)) ((tks sv m).length) kl, i64 ((al : Nat) : Int), i64 el]), (tb, 68, CT)]) (A' := [(pb, 66, [.slice (some (⟨tb, 2 * jl, none⟩ : Addr)) ((tks sv m).length) kl, i64 ((al : Nat) : Int), i64 el]), (tb, 68, CT)]) (B := TL1 ++ ([])) hO (.cons _ (.cons _ (.cons_cons _ (.cons_cons _ .slnil)))))).to (by simp only [List.append_nil])⟩

end Go.Proofs.Ytfhcpegemapbkaa
