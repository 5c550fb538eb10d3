/- The layer command: printing a command. -/
import Derived.Test.YtfhcpegemapbkaaBuilder
set_option linter.unusedVariables false
set_option linter.unusedSimpArgs false
set_option maxRecDepth 10000
namespace Go.Proofs.Ytfhcpegemapbkaa
open Go Go.Shelf Go.RowKit Go.Proofs Go.Proofs.Sx

theorem bstring_any (b : Nat) (q : Value) (p : Option Addr) (c : Nat) (l : List UInt8) (T : OwL) (w : World) (h0 : Ow Try.prog (inT ((b, 76, [q, .slice p (bI l).length c]) :: T)) w w ((b, 76, [q, .slice p (bI l).length c]) :: T)) (hT : One fB 5 1 p c (bI l) T) (hl : l.length ≤ 1000000) :
    Calls Try.prog 33 #[pt b] w fun e w' => e = .returned (str (bA l)) ∧ Only (inT ((b, 76, [q, .slice p (bI l).length c]) :: T)) w w' := by
 rcases hT with ⟨rfl, rfl, h1, rfl⟩ | ⟨g, r, rfl, h1, h2, h3, rfl⟩
 · have hl0 : l = [] := by cases l with | nil => rfl | cons x r => simp [bI] at h1
   subst hl0
   exact bstring_nil b q w h0
 by_cases hl0 : l = []
 · subst hl0
   by_cases hc : c = 0
   · subst hc; exact bstring_zero b q g _ w h0
   exact bstring_room b q g c _ hc w h0
 refine bstring_row b q g c r l hl0 hl ?_ w h0
 rw [bI_len] at h1
 have : l.length ≠ 0 := by simpa using hl0
 omega

theorem write_any (b : Nat) (q : Value) (p : Option Addr) (c : Nat) (xs : List Int) (T : OwL) (s : ByteArray) (w : World) (hq : q = .pointer none ∨ q = pt b) (h0 : Ow Try.prog (inT ([(b, 76, [q, .slice p xs.length c])] ++ (T ++ []))) w w ([(b, 76, [q, .slice p xs.length c])] ++ (T ++ []))) (hT : One fB 5 1 p c xs T) (hu : U8s xs) (hl : xs.length + s.size ≤ 1000000) :
    Calls Try.prog 31 #[pt b, str s] w fun e w' => ∃ p' c' T', e = .returned (.tuple #[i64 ((s.size : Nat) : Int), .nilIface]) ∧ Ow Try.prog (inT ([(b, 76, [q, .slice p xs.length c])] ++ (T ++ []))) w w' ([(b, 76, [pt b, .slice p' (xs ++ sI s).length c'])] ++ (T' ++ [])) ∧ One fB 5 1 p' c' (xs ++ sI s) T' := by
 refine c_enter (args := [pt b, str s]) (m := 17) (n := 19) Try.func31 rfl (by kernel_rfl) (by kernel_rfl) fun fr hA => ?_
 have hO : Ow Try.prog (inT ([(b, 76, [q, .slice p xs.length c])] ++ (T ++ []))) w w ([(b, 76, [q, .slice p xs.length c])] ++ (T ++ ([]))) := h0
 refine sC (e' := [(0, pt b), (1, str s), (4, i64 0), (5, .nilIface)]) 2 hA [] c0 ?_
 clear hA fr; intro fr hA
 refine sR (l := [0, 1]) ?_
 refine ck (l := [0]) (r := [1]) (e' := [(0, pt b), (1, str s), (4, i64 0), (5, .nilIface), (6, pt b)]) hA [] c0 ?_
 clear hA fr; intro fr hA
 refine wpOps_cons' (mC (f := 50) (args := [pt b]) (d := (some 7)) hA Try.func50 ((check_any b q (.slice p xs.length c) _ hq (Ow.self (A := []) (T := [(b, 76, [q, .slice p xs.length c])]) (B := ([] ++ (T ++ ([])))) (hO.to (by first | rfl | (simp only [TP, apd])))) (hO.b 0)).mono ?_))
 rintro en w1 ⟨rfl, hW⟩
 refine ⟨_, rfl, ?_⟩
 clear hA fr; intro fr hA
 replace hO := Ow.pass (A := []) (T := [(b, 76, [q, .slice p xs.length c])]) (B := ([] ++ (T ++ ([])))) (hO.to (by first | rfl | (simp only [TP, apd]))) hW; clear hW
 replace hO : Ow Try.prog (inT ([(b, 76, [q, .slice p xs.length c])] ++ (T ++ []))) w w1 ([(b, 76, [pt b, .slice p xs.length c])] ++ (T ++ ([]))) := hO.to (by first | rfl | (simp only [TP, apd]))
 replace hA := hA.sb (e' := [(0, pt b), (1, str s), (4, i64 0), (5, .nilIface)])
 refine end_ops ?_
 refine then_normal ?_
 refine sR (l := (rg 0 10)) ?_
 refine ck (l := (rg 0 6)) (r := [6, 7, 8, 9]) (e' := [(1, str s), (4, i64 0), (5, .nilIface), (8, pt b), (12, .slice p xs.length c), (13, str s)]) hA [.slice p xs.length c] (cc (hO.l1 0 1 74 (.slice p xs.length c)) c0) ?_
 clear hA fr; intro fr hA
 replace hO : Ow Try.prog (inT ([(b, 76, [q, .slice p xs.length c])] ++ (T ++ []))) w w1 ([(b, 76, [pt b, .slice p xs.length c])] ++ (T ++ ([]))) := hO
 refine wpOps_cons' (mA (f := fB) (el := 5) (sz := 1) (bytes := 1) (p := p) (c := c) (l := xs) (l' := sI s) (T := T) (t := 74) (tx := 9) (ty := 74) (x := str s) (d := 14) [(b, 76, [pt b, .slice p xs.length c])] ([]) encB hA hO hT (Src.str (by kernel_rfl) _) (by rw [sI_len]; omega) (by unfold maxLen; rw [sI_len]; omega) ?_)
 clear hA hO fr; intro fr w2 p1 c1 T1 hA hO hT1
 have huT1 : U8s (xs ++ (sI s)) := (U8s.app hu (sI_u8 _))
 replace hA := hA.sb (e' := [(1, str s), (4, i64 0), (5, .nilIface), (8, pt b), (14, .slice p1 ((xs ++ (sI s)).length) c1)])
 refine ck (l := [7, 8]) (r := [9]) (e' := [(1, str s), (4, i64 0), (5, .nilIface), (14, .slice p1 ((xs ++ (sI s)).length) c1), (16, pf b 1)]) hA [] c0 ?_
 clear hA fr; intro fr hA
 refine wpOps_cons' (mS (off := 1) (vc := [.slice p1 ((xs ++ (sI s)).length) c1]) 0 hA hO ?_)
 clear hO; intro w3 hO
 replace hA := hA.sb (e' := [(1, str s), (4, i64 0), (5, .nilIface)])
 refine end_ops ?_
 refine then_normal ?_
 refine sC (e' := [(4, i64 ((s.size : Nat) : Int)), (5, .nilIface)]) 4 hA [] c0 ?_
 clear hA fr; intro fr hA
 refine wp_ret ?_
 refine cR (cs := [none, none]) (us := [i64 ((s.size : Nat) : Int), .nilIface]) hA [] trivial ?_
 exact ⟨_, _, _, rfl, hO, hT1⟩

theorem clone_any (ad : Addr) (c : Nat) (us : List ByteArray) (w : World) (hv : Vw fT w (.slice (some ad) us.length c) us) (hl : us.length ≤ 1000000) :
    Calls Try.prog 51 #[.slice (some ad) us.length c] w fun e w' => ∃ p' c' T', e = .returned (.slice p' us.length c') ∧ Ow Try.prog none' w w' T' ∧ One fT 9 1 p' c' us T' := by
 refine c_enter (args := [.slice (some ad) us.length c]) (m := 7) (n := 8) Try.func51 rfl (by kernel_rfl) (by kernel_rfl) fun fr hA => ?_
 have hO := Ow.nil Try.prog none' w
 have hn_ : ([] : List ByteArray) ++ us = us := rfl
 refine sC (e' := [(0, .slice (some ad) us.length c), (2, .slice none 0 0)]) 1 hA [] c0 ?_
 clear hA fr; intro fr hA
 refine wp_seq ?_
 refine sC (e' := [(0, .slice (some ad) us.length c), (2, .slice none 0 0), (4, bl false)]) 2 hA [] c0 ?_
 clear hA fr; intro fr hA
 refine cF hA ?_
 refine wp_skip ?_
 refine then_normal ?_
 refine sR (l := [0, 1, 2, 3]) ?_
 refine wpOps_cons' (mN (l := []) (t := 9) (v := fun b => .slice (some ⟨b, 0, none⟩) 0 0) (d := 5) hA hO ?_)
 clear hA hO fr; intro fr w1 b1 hA hO
 replace hA := hA.sb (e' := [(0, .slice (some ad) us.length c), (2, .slice none 0 0), (5, .slice (some ⟨b1, 0, none⟩) 0 0)])
 refine ck (l := [1]) (r := [2, 3]) (e' := [(2, .slice none 0 0), (5, .slice (some ⟨b1, 0, none⟩) 0 0), (6, .slice (some ad) us.length c)]) hA [] c0 ?_
 clear hA fr; intro fr hA
 have hT1 : One fT 9 1 (some ⟨b1, 0, none⟩) 0 ([] : List ByteArray) [(b1, 9, [])] := One.ofBlk (r := []) (by kernel_rfl) (by first | decide | simp) (by decide) (by kernel_rfl)
 replace hO := Ow.move (A := []) (B := []) (C := []) (x := (b1, 9, [])) hO
 replace hO : Ow Try.prog none' w w1 ([] ++ ([(b1, 9, [])] ++ ([]))) := hO.to (by first | rfl | (simp only [TP, apd]))
 replace hO : Ow Try.prog none' w w1 ([] ++ ([(b1, 9, [])] ++ ([]))) := hO
 refine wpOps_cons' (mA (f := fT) (el := 9) (sz := 1) (bytes := 16) (p := some ⟨b1, 0, none⟩) (c := 0) (l := ([] : List ByteArray)) (l' := us) (T := [(b1, 9, [])]) (t := 47) (tx := 47) (ty := 47) (x := .slice (some ad) us.length c) (d := 7) [] ([]) encT hA hO hT1 (Vw.src (e' := 9) encT (hv.keep hO.only) (by kernel_rfl)) (by first | omega | (simp only [List.length_append, List.length_cons, List.length_nil]; omega)) (by unfold maxLen; first | omega | (simp only [List.length_append, List.length_cons, List.length_nil]; omega)) ?_)
 clear hA hO fr; intro fr w2 p1 c1 T2 hA hO hT2
 rw [show (([] : List ByteArray) ++ us) = us from rfl] at hA hT2
 replace hA := hA.sb (e' := [(2, .slice none 0 0), (7, .slice p1 us.length c1)])
 refine ck (l := [3]) (r := []) (e' := [(2, .slice p1 us.length c1)]) hA [] c0 ?_
 clear hA fr; intro fr hA
 refine end_ops ?_
 refine then_normal ?_
 refine wp_ret ?_
 refine cR (cs := [none]) (us := [.slice p1 us.length c1]) hA [] trivial ?_
 exact ⟨_, _, _, rfl, ((hO : Ow Try.prog none' w _ ([] ++ (T2 ++ ([]))))).to (by simp only [List.nil_append, List.append_nil]), hT2⟩

/-- The words of a command's canonical form. -/
def extL (d : CmdL) : List ByteArray := (if d.inp.size = 0 then [] else [⟨#[60]⟩, d.inp]) ++ (if d.app = true then [⟨#[62, 62]⟩, d.out] else if d.out.size = 0 then [] else [⟨#[62]⟩, d.out])
def prC (d : CmdL) : List UInt8 := Lib.join ((d.words ++ extL d).map (·.data.toList)) [32]
theorem prC_of {d : CmdL} {l : List ByteArray} (h : l = d.words ++ extL d) : bA (Lib.join (l.map (·.data.toList)) (⟨#[32]⟩ : ByteArray).data.toList) = bA (prC d) := by rw [h]; rfl
theorem join_snoc {xs : List (List UInt8)} (h : xs ≠ []) (y : List UInt8) : Lib.join (xs ++ [y]) [32] = Lib.join xs [32] ++ (32 :: y) := by
 cases xs with
 | nil => exact absurd rfl h
 | cons x r => rw [List.cons_append, Lib.join_cons, Lib.join_cons]; simp [Lib.joinTail]
theorem isw_size {s : ByteArray} (h : isWordB s = true) : 1 ≤ s.size ∧ s.size ≤ 60 := by
 unfold isWordB at h
 rw [Bool.and_eq_true] at h
 exact of_decide_eq_true h.2
theorem optB_size {s : ByteArray} (h : optB s = true) : s.size ≤ 60 := by
 unfold optB at h
 rw [Bool.or_eq_true] at h
 rcases h with h | h
 · have := of_decide_eq_true h; omega
 exact (isw_size h).2
theorem join_le : ∀ (xs : List ByteArray), (∀ x ∈ xs, x.size ≤ 60) → (Lib.join (xs.map (·.data.toList)) [32]).length ≤ xs.length * 61
  | [], _ => by simp [Lib.join_nil]
  | x :: r, h => by
    rw [List.map_cons, Lib.join_cons]
    have hx : x.data.toList.length ≤ 60 := by rw [size_list]; exact h x List.mem_cons_self
    have ht : ∀ (q : List ByteArray), (∀ x ∈ q, x.size ≤ 60) → (Lib.joinTail [32] (q.map (·.data.toList))).length ≤ q.length * 61 := fun q hq => by
      induction q with
      | nil => simp [Lib.joinTail]
      | cons y q ih =>
        have hy : y.data.toList.length ≤ 60 := by rw [size_list]; exact hq y List.mem_cons_self
        have h2 := ih fun z hz => hq z (List.mem_cons_of_mem _ hz)
        simp only [Lib.joinTail, List.map_cons, List.flatten_cons, List.length_append, List.length_cons, List.length_nil] at h2 ⊢
        omega
    have := ht r fun z hz => h z (List.mem_cons_of_mem _ hz)
    rw [List.length_append, List.length_cons]
    omega
theorem validC_facts {d : CmdL} (h : validC d = true) : (∀ u ∈ d.words, isWordB u = true) ∧ (1 ≤ d.words.length ∧ d.words.length ≤ 4) ∧ optB d.inp = true ∧ optB d.out = true ∧ (d.app = true → d.out.size ≠ 0) := by
 unfold validC at h
 simp only [Bool.and_eq_true, Bool.or_eq_true, Bool.not_eq_true', decide_eq_true_eq, decide_eq_false_iff_not, List.all_eq_true] at h
 refine ⟨h.1, h.2.1, h.2.2.1, h.2.2.2.1, fun ha => ?_⟩
 rcases h.2.2.2.2 with q | q
 · rw [ha] at q; cases q
 exact q
theorem extL_le (d : CmdL) : (extL d).length ≤ 4 := by unfold extL; split <;> split <;> (try split) <;> simp
theorem ext_sz {d : CmdL} (h : validC d = true) : ∀ x ∈ d.words ++ extL d, x.size ≤ 60 := by
 obtain ⟨h1, _, h3, h4, _⟩ := validC_facts h
 have hi := optB_size h3
 have ho := optB_size h4
 intro x hx
 rcases List.mem_append.1 hx with hx | hx
 · exact (isw_size (h1 x hx)).2
 unfold extL at hx
 have k1 : (⟨#[60]⟩ : ByteArray).size = 1 := rfl
 have k2 : (⟨#[62, 62]⟩ : ByteArray).size = 2 := rfl
 have k3 : (⟨#[62]⟩ : ByteArray).size = 1 := rfl
 rcases List.mem_append.1 hx with hx | hx
 · split at hx
   · simp at hx
   simp only [List.mem_cons, List.not_mem_nil, or_false] at hx; rcases hx with rfl | rfl <;> omega
 split at hx
 · simp only [List.mem_cons, List.not_mem_nil, or_false] at hx; rcases hx with rfl | rfl <;> omega
 split at hx
 · simp at hx
 simp only [List.mem_cons, List.not_mem_nil, or_false] at hx; rcases hx with rfl | rfl <;> omega
theorem prC_len {d : CmdL} (h : validC d = true) : (prC d).length ≤ 488 := by
 have h1 := join_le _ (ext_sz h)
 have h2 := (validC_facts h).2.1
 have h3 := extL_le d
 rw [List.length_append] at h1
 unfold prC
 omega
theorem One.jn {p : Option Addr} {c : Nat} {l : List ByteArray} {T : OwL} (h : One fT 9 1 p c l T) : (∀ ad, p = some ad → ad = ⟨ad.block, ad.off, none⟩) ∧ l.length ≤ c := by
 rcases h with ⟨rfl, rfl, rfl, _⟩ | ⟨b, r, rfl, h1, _⟩
 · exact ⟨fun ad h => (by cases h), Nat.le_refl _⟩
 exact ⟨fun ad h => (by cases h; rfl), h1⟩

theorem print_any (p : Option Addr) (c : Nat) (d : CmdL) (w : World) (hv : Vw fT w (.slice p d.words.length c) d.words) (hvd : validC d = true) :
    Calls Try.prog 32 #[.agg #[.slice p d.words.length c, str d.inp, str d.out, bl d.app]] w fun e w' => e = .returned (str (bA (prC d))) ∧ Only none' w w' := by
 refine c_enter (args := [.agg #[.slice p d.words.length c, str d.inp, str d.out, bl d.app]]) (m := 33) (n := 34) Try.func32 rfl (by kernel_rfl) (by kernel_rfl) fun fr hA => ?_
 have hO := Ow.nil Try.prog none' w
 have hlw := (validC_facts hvd).2.1
 obtain ⟨ad_, rfl⟩ := hv.pos (by omega)
 refine sR (l := [0, 1]) ?_
 refine wpOps_cons' (mN (l := [.slice (some ad_) d.words.length c, str d.inp, str d.out, bl d.app]) (t := 54) (v := pt) (d := 1) hA hO ?_)
 clear hA hO fr; intro fr w1 b1 hA hO
 replace hA := hA.sb (e' := [(1, pt b1)])
 refine ck (l := [1]) (r := []) (e' := [(1, pt b1), (2, str (⟨#[]⟩))]) hA [] c0 ?_
 clear hA fr; intro fr hA
 refine end_ops ?_
 refine then_normal ?_
 refine sR (l := [0, 1, 2, 3]) ?_
 refine ck (l := [0, 1]) (r := [2, 3]) (e' := [(1, pt b1), (2, str (⟨#[]⟩)), (5, .slice (some ad_) d.words.length c)]) hA [.slice (some ad_) d.words.length c] (cc (hO.l1 0 0 47 (.slice (some ad_) d.words.length c)) c0) ?_
 clear hA fr; intro fr hA
 refine wpOps_cons' (mC (f := 51) (args := [.slice (some ad_) d.words.length c]) (d := (some 6)) hA Try.func51 ((clone_any ad_ c d.words _ (hv.keep hO.only) (by omega)).mono ?_))
 rintro en w2 ⟨p1, c1, T1, rfl, hW, hT1⟩
 refine ⟨_, rfl, ?_⟩
 clear hA fr; intro fr hA
 replace hO : Ow Try.prog none' w _ ([(b1, 54, [.slice (some ad_) d.words.length c, str d.inp, str d.out, bl d.app])]) := hO; replace hO := Ow.join hO hW; clear hW
 replace hO : Ow Try.prog none' w w2 ([(b1, 54, [.slice (some ad_) d.words.length c, str d.inp, str d.out, bl d.app])] ++ (T1 ++ ([]))) := hO.to (by first | rfl | (simp only [TP, apd]))
 replace hA := hA.sb (e' := [(1, pt b1), (2, str (⟨#[]⟩)), (6, .slice p1 d.words.length c1)])
 refine ck (l := [3]) (r := []) (e' := [(1, pt b1), (2, str (⟨#[]⟩)), (3, .slice p1 d.words.length c1)]) hA [] c0 ?_
 clear hA fr; intro fr hA
 refine end_ops ?_
 refine then_normal ?_
 refine wp_seq ?_
 refine sC (e' := [(1, pt b1), (2, str (⟨#[]⟩)), (3, .slice p1 d.words.length c1), (9, bl (!(d.inp.toList == (⟨#[]⟩ : ByteArray).toList)))]) 3 hA [str d.inp] (cc (hO.l1 0 1 9 (str d.inp)) c0) ?_
 clear hA fr; intro fr hA
 replace hA := hA.bool (f := fun z_ => [(1, pt b1), (2, str (⟨#[]⟩)), (3, .slice p1 d.words.length c1), (9, .bool !z_)]) (str_empty d.inp : (d.inp.toList == (⟨#[]⟩ : ByteArray).toList) = (decide (d.inp.size = 0)))
 rcases Bool.eq_false_or_eq_true (decide (d.inp.size = 0)) with h1 | h1
 · rw [h1] at hA
   have h1p := of_decide_eq_true h1
   refine cF hA ?_
   refine wp_skip ?_
   refine then_normal ?_
   refine wp_seq ?_
   refine wp_block ?_
   refine sC (e' := [(1, pt b1), (2, str (⟨#[]⟩)), (3, .slice p1 d.words.length c1), (15, bl d.app)]) 3 hA [bl d.app] (cc (hO.l1 0 3 4 (bl d.app)) c0) ?_
   clear hA fr; intro fr hA
   rcases Bool.eq_false_or_eq_true (d.app) with h2 | h2
   · rw [h2] at hA
     refine cT hA ?_
     refine rR (l := (rg 0 6)) ?_
     refine ck (l := [0, 1, 2]) (r := [3, 4, 5]) (e' := [(2, str (⟨#[]⟩)), (3, .slice p1 d.words.length c1), (18, .slice p1 d.words.length c1), (20, str d.out)]) hA [str d.out] (cc (hO.l1 0 2 9 (str d.out)) c0) ?_
     clear hA fr; intro fr hA
     refine wpOps_cons' (mN (l := [str (⟨#[62, 62]⟩), str d.out]) (t := 9) (v := fun b => .slice (some ⟨b, 0, none⟩) 2 2) (d := 21) hA hO ?_)
     clear hA hO fr; intro fr w3 b2 hA hO
     replace hA := hA.sb (e' := [(2, str (⟨#[]⟩)), (3, .slice p1 d.words.length c1), (18, .slice p1 d.words.length c1), (21, .slice (some ⟨b2, 0, none⟩) 2 2)])
     replace hO : Ow Try.prog none' w w3 ([(b2, 9, [str (⟨#[62, 62]⟩), str d.out]), (b1, 54, [.slice (some ad_) d.words.length c, str d.inp, str d.out, bl d.app])] ++ (T1 ++ ([]))) := hO
     refine wpOps_cons' (mA (f := fT) (el := 9) (sz := 1) (bytes := 16) (p := p1) (c := c1) (l := d.words) (l' := ([⟨#[62, 62]⟩, d.out] : List ByteArray)) (T := T1) (t := 47) (tx := 47) (ty := 47) (x := .slice (some ⟨b2, 0, none⟩) 2 2) (d := 22) [(b2, 9, [str (⟨#[62, 62]⟩), str d.out]), (b1, 54, [.slice (some ad_) d.words.length c, str d.inp, str d.out, bl d.app])] ([]) encT hA hO hT1 (Vw.src (e' := 9) encT ((hO.b 0).vw (off := 0) (xs := ([⟨#[62, 62]⟩, d.out] : List ByteArray)) (by kernel_rfl)) (by kernel_rfl)) (by first | omega | (simp only [List.length_append, List.length_cons, List.length_nil]; omega)) (by unfold maxLen; first | omega | (simp only [List.length_append, List.length_cons, List.length_nil]; omega)) ?_)
     clear hA hO fr; intro fr w4 p2 c2 T2 hA hO hT2
     replace hA := hA.sb (e' := [(2, str (⟨#[]⟩)), (3, .slice p1 d.words.length c1), (22, .slice p2 ((d.words ++ ([⟨#[62, 62]⟩, d.out] : List ByteArray)).length) c2)])
     refine ck (l := [5]) (r := []) (e' := [(2, str (⟨#[]⟩)), (3, .slice p2 ((d.words ++ ([⟨#[62, 62]⟩, d.out] : List ByteArray)).length) c2)]) hA [] c0 ?_
     clear hA fr; intro fr hA
     refine end_ops ?_
     refine inBlock_normal ?_
     refine then_normal ?_
     refine sR (l := [0, 1, 2]) ?_
     refine ck (l := [0]) (r := [1, 2]) (e' := [(2, str (⟨#[]⟩)), (32, .slice p2 ((d.words ++ ([⟨#[62, 62]⟩, d.out] : List ByteArray)).length) c2)]) hA [] c0 ?_
     clear hA fr; intro fr hA
     have heq_ : d.words ++ ([⟨#[62, 62]⟩, d.out] : List ByteArray) = d.words ++ extL d := by unfold extL; simp_all
     refine wpOps_cons' (mK (f := 52) (args := [.slice p2 ((d.words ++ ([⟨#[62, 62]⟩, d.out] : List ByteArray)).length) c2, str (⟨#[32]⟩)]) (d := (some 33)) (v := str (bA (prC d))) hA hO Try.func52 (rs (join_any p2 c2 (d.words ++ ([⟨#[62, 62]⟩, d.out] : List ByteArray)) (⟨#[32]⟩ : ByteArray) _ (hT2.vw (A := [(b2, 9, [str (⟨#[62, 62]⟩), str d.out]), (b1, 54, [.slice (some ad_) d.words.length c, str d.inp, str d.out, bl d.app])]) (B := []) hO.m) (One.jn hT2).1 (by first | omega | (simp only [List.length_append]; omega)) (by first | omega | (simp only [List.length_append, List.length_cons, List.length_nil]; omega)) (One.jn hT2).2 (by rw [heq_]; have := prC_len hvd; unfold prC at this; exact Nat.le_trans this (by decide))) (congrArg Value.string (prC_of heq_))) ?_)
     clear hA hO fr; intro fr w5 hA hO
     replace hA := hA.sb (e' := [(2, str (⟨#[]⟩)), (33, str (bA (prC d)))])
     refine ck (l := [2]) (r := []) (e' := [(2, str (bA (prC d)))]) hA [] c0 ?_
     clear hA fr; intro fr hA
     refine end_ops ?_
     refine then_normal ?_
     refine wp_ret ?_
     refine cR (cs := [none]) (us := [str (bA (prC d))]) hA [] trivial ?_
     have hF := hO.only; clear hA hO
     exact ⟨rfl, hF⟩
   rw [h2] at hA
   refine cF hA ?_
   refine sC (e' := [(1, pt b1), (2, str (⟨#[]⟩)), (3, .slice p1 d.words.length c1), (23, bl (!(d.out.toList == (⟨#[]⟩ : ByteArray).toList)))]) 4 hA [str d.out] (cc (hO.l1 0 2 9 (str d.out)) c0) ?_
   clear hA fr; intro fr hA
   replace hA := hA.bool (f := fun z_ => [(1, pt b1), (2, str (⟨#[]⟩)), (3, .slice p1 d.words.length c1), (23, .bool !z_)]) (str_empty d.out : (d.out.toList == (⟨#[]⟩ : ByteArray).toList) = (decide (d.out.size = 0)))
   rcases Bool.eq_false_or_eq_true (decide (d.out.size = 0)) with h3 | h3
   · rw [h3] at hA
     have h3p := of_decide_eq_true h3
     refine cF hA ?_
     refine wp_skip ?_
     refine inBlock_normal ?_
     refine then_normal ?_
     refine sR (l := [0, 1, 2]) ?_
     refine ck (l := [0]) (r := [1, 2]) (e' := [(2, str (⟨#[]⟩)), (32, .slice p1 d.words.length c1)]) hA [] c0 ?_
     clear hA fr; intro fr hA
     have heq_ : d.words = d.words ++ extL d := by unfold extL; simp_all
     refine wpOps_cons' (mK (f := 52) (args := [.slice p1 d.words.length c1, str (⟨#[32]⟩)]) (d := (some 33)) (v := str (bA (prC d))) hA hO Try.func52 (rs (join_any p1 c1 d.words (⟨#[32]⟩ : ByteArray) _ (hT1.vw (A := [(b1, 54, [.slice (some ad_) d.words.length c, str d.inp, str d.out, bl d.app])]) (B := []) hO.m) (One.jn hT1).1 (by first | omega | (simp only [List.length_append]; omega)) (by first | omega | (simp only [List.length_append, List.length_cons, List.length_nil]; omega)) (One.jn hT1).2 (by rw [heq_]; have := prC_len hvd; unfold prC at this; exact Nat.le_trans this (by decide))) (congrArg Value.string (prC_of heq_))) ?_)
     clear hA hO fr; intro fr w6 hA hO
     replace hA := hA.sb (e' := [(2, str (⟨#[]⟩)), (33, str (bA (prC d)))])
     refine ck (l := [2]) (r := []) (e' := [(2, str (bA (prC d)))]) hA [] c0 ?_
     clear hA fr; intro fr hA
     refine end_ops ?_
     refine then_normal ?_
     refine wp_ret ?_
     refine cR (cs := [none]) (us := [str (bA (prC d))]) hA [] trivial ?_
     have hF := hO.only; clear hA hO
     exact ⟨rfl, hF⟩
   rw [h3] at hA
   have h3p := of_decide_eq_false h3
   refine cT hA ?_
   refine rR (l := (rg 0 6)) ?_
   refine ck (l := [0, 1, 2]) (r := [3, 4, 5]) (e' := [(2, str (⟨#[]⟩)), (3, .slice p1 d.words.length c1), (27, .slice p1 d.words.length c1), (29, str d.out)]) hA [str d.out] (cc (hO.l1 0 2 9 (str d.out)) c0) ?_
   clear hA fr; intro fr hA
   refine wpOps_cons' (mN (l := [str (⟨#[62]⟩), str d.out]) (t := 9) (v := fun b => .slice (some ⟨b, 0, none⟩) 2 2) (d := 30) hA hO ?_)
   clear hA hO fr; intro fr w7 b3 hA hO
   replace hA := hA.sb (e' := [(2, str (⟨#[]⟩)), (3, .slice p1 d.words.length c1), (27, .slice p1 d.words.length c1), (30, .slice (some ⟨b3, 0, none⟩) 2 2)])
   replace hO : Ow Try.prog none' w w7 ([(b3, 9, [str (⟨#[62]⟩), str d.out]), (b1, 54, [.slice (some ad_) d.words.length c, str d.inp, str d.out, bl d.app])] ++ (T1 ++ ([]))) := hO
   refine wpOps_cons' (mA (f := fT) (el := 9) (sz := 1) (bytes := 16) (p := p1) (c := c1) (l := d.words) (l' := ([⟨#[62]⟩, d.out] : List ByteArray)) (T := T1) (t := 47) (tx := 47) (ty := 47) (x := .slice (some ⟨b3, 0, none⟩) 2 2) (d := 31) [(b3, 9, [str (⟨#[62]⟩), str d.out]), (b1, 54, [.slice (some ad_) d.words.length c, str d.inp, str d.out, bl d.app])] ([]) encT hA hO hT1 (Vw.src (e' := 9) encT ((hO.b 0).vw (off := 0) (xs := ([⟨#[62]⟩, d.out] : List ByteArray)) (by kernel_rfl)) (by kernel_rfl)) (by first | omega | (simp only [List.length_append, List.length_cons, List.length_nil]; omega)) (by unfold maxLen; first | omega | (simp only [List.length_append, List.length_cons, List.length_nil]; omega)) ?_)
   clear hA hO fr; intro fr w8 p3 c3 T3 hA hO hT3
   replace hA := hA.sb (e' := [(2, str (⟨#[]⟩)), (3, .slice p1 d.words.length c1), (31, .slice p3 ((d.words ++ ([⟨#[62]⟩, d.out] : List ByteArray)).length) c3)])
   refine ck (l := [5]) (r := []) (e' := [(2, str (⟨#[]⟩)), (3, .slice p3 ((d.words ++ ([⟨#[62]⟩, d.out] : List ByteArray)).length) c3)]) hA [] c0 ?_
   clear hA fr; intro fr hA
   refine end_ops ?_
   refine inBlock_normal ?_
   refine then_normal ?_
   refine sR (l := [0, 1, 2]) ?_
   refine ck (l := [0]) (r := [1, 2]) (e' := [(2, str (⟨#[]⟩)), (32, .slice p3 ((d.words ++ ([⟨#[62]⟩, d.out] : List ByteArray)).length) c3)]) hA [] c0 ?_
   clear hA fr; intro fr hA
   have heq_ : d.words ++ ([⟨#[62]⟩, d.out] : List ByteArray) = d.words ++ extL d := by unfold extL; simp_all
   refine wpOps_cons' (mK (f := 52) (args := [.slice p3 ((d.words ++ ([⟨#[62]⟩, d.out] : List ByteArray)).length) c3, str (⟨#[32]⟩)]) (d := (some 33)) (v := str (bA (prC d))) hA hO Try.func52 (rs (join_any p3 c3 (d.words ++ ([⟨#[62]⟩, d.out] : List ByteArray)) (⟨#[32]⟩ : ByteArray) _ (hT3.vw (A := [(b3, 9, [str (⟨#[62]⟩), str d.out]), (b1, 54, [.slice (some ad_) d.words.length c, str d.inp, str d.out, bl d.app])]) (B := []) hO.m) (One.jn hT3).1 (by first | omega | (simp only [List.length_append]; omega)) (by first | omega | (simp only [List.length_append, List.length_cons, List.length_nil]; omega)) (One.jn hT3).2 (by rw [heq_]; have := prC_len hvd; unfold prC at this; exact Nat.le_trans this (by decide))) (congrArg Value.string (prC_of heq_))) ?_)
   clear hA hO fr; intro fr w9 hA hO
   replace hA := hA.sb (e' := [(2, str (⟨#[]⟩)), (33, str (bA (prC d)))])
   refine ck (l := [2]) (r := []) (e' := [(2, str (bA (prC d)))]) hA [] c0 ?_
   clear hA fr; intro fr hA
   refine end_ops ?_
   refine then_normal ?_
   refine wp_ret ?_
   refine cR (cs := [none]) (us := [str (bA (prC d))]) hA [] trivial ?_
   have hF := hO.only; clear hA hO
   exact ⟨rfl, hF⟩
 rw [h1] at hA
 have h1p := of_decide_eq_false h1
 refine cT hA ?_
 refine rR (l := (rg 0 6)) ?_
 refine ck (l := [0, 1, 2]) (r := [3, 4, 5]) (e' := [(1, pt b1), (2, str (⟨#[]⟩)), (10, .slice p1 d.words.length c1), (12, str d.inp)]) hA [str d.inp] (cc (hO.l1 0 1 9 (str d.inp)) c0) ?_
 clear hA fr; intro fr hA
 refine wpOps_cons' (mN (l := [str (⟨#[60]⟩), str d.inp]) (t := 9) (v := fun b => .slice (some ⟨b, 0, none⟩) 2 2) (d := 13) hA hO ?_)
 clear hA hO fr; intro fr w10 b4 hA hO
 replace hA := hA.sb (e' := [(1, pt b1), (2, str (⟨#[]⟩)), (10, .slice p1 d.words.length c1), (13, .slice (some ⟨b4, 0, none⟩) 2 2)])
 replace hO : Ow Try.prog none' w w10 ([(b4, 9, [str (⟨#[60]⟩), str d.inp]), (b1, 54, [.slice (some ad_) d.words.length c, str d.inp, str d.out, bl d.app])] ++ (T1 ++ ([]))) := hO
 refine wpOps_cons' (mA (f := fT) (el := 9) (sz := 1) (bytes := 16) (p := p1) (c := c1) (l := d.words) (l' := ([⟨#[60]⟩, d.inp] : List ByteArray)) (T := T1) (t := 47) (tx := 47) (ty := 47) (x := .slice (some ⟨b4, 0, none⟩) 2 2) (d := 14) [(b4, 9, [str (⟨#[60]⟩), str d.inp]), (b1, 54, [.slice (some ad_) d.words.length c, str d.inp, str d.out, bl d.app])] ([]) encT hA hO hT1 (Vw.src (e' := 9) encT ((hO.b 0).vw (off := 0) (xs := ([⟨#[60]⟩, d.inp] : List ByteArray)) (by kernel_rfl)) (by kernel_rfl)) (by first | omega | (simp only [List.length_append, List.length_cons, List.length_nil]; omega)) (by unfold maxLen; first | omega | (simp only [List.length_append, List.length_cons, List.length_nil]; omega)) ?_)
 clear hA hO fr; intro fr w11 p4 c4 T4 hA hO hT4
 replace hA := hA.sb (e' := [(1, pt b1), (2, str (⟨#[]⟩)), (14, .slice p4 ((d.words ++ ([⟨#[60]⟩, d.inp] : List ByteArray)).length) c4)])
 refine ck (l := [5]) (r := []) (e' := [(1, pt b1), (2, str (⟨#[]⟩)), (3, .slice p4 ((d.words ++ ([⟨#[60]⟩, d.inp] : List ByteArray)).length) c4)]) hA [] c0 ?_
 clear hA fr; intro fr hA
 refine end_ops ?_
 refine then_normal ?_
 refine wp_seq ?_
 refine wp_block ?_
 refine sC (e' := [(1, pt b1), (2, str (⟨#[]⟩)), (3, .slice p4 ((d.words ++ ([⟨#[60]⟩, d.inp] : List ByteArray)).length) c4), (15, bl d.app)]) 3 hA [bl d.app] (cc (hO.l1 1 3 4 (bl d.app)) c0) ?_
 clear hA fr; intro fr hA
 rcases Bool.eq_false_or_eq_true (d.app) with h4 | h4
 · rw [h4] at hA
   refine cT hA ?_
   refine rR (l := (rg 0 6)) ?_
   refine ck (l := [0, 1, 2]) (r := [3, 4, 5]) (e' := [(2, str (⟨#[]⟩)), (3, .slice p4 ((d.words ++ ([⟨#[60]⟩, d.inp] : List ByteArray)).length) c4), (18, .slice p4 ((d.words ++ ([⟨#[60]⟩, d.inp] : List ByteArray)).length) c4), (20, str d.out)]) hA [str d.out] (cc (hO.l1 1 2 9 (str d.out)) c0) ?_
   clear hA fr; intro fr hA
   refine wpOps_cons' (mN (l := [str (⟨#[62, 62]⟩), str d.out]) (t := 9) (v := fun b => .slice (some ⟨b, 0, none⟩) 2 2) (d := 21) hA hO ?_)
   clear hA hO fr; intro fr w12 b5 hA hO
   replace hA := hA.sb (e' := [(2, str (⟨#[]⟩)), (3, .slice p4 ((d.words ++ ([⟨#[60]⟩, d.inp] : List ByteArray)).length) c4), (18, .slice p4 ((d.words ++ ([⟨#[60]⟩, d.inp] : List ByteArray)).length) c4), (21, .slice (some ⟨b5, 0, none⟩) 2 2)])
   replace hO : Ow Try.prog none' w w12 ([(b5, 9, [str (⟨#[62, 62]⟩), str d.out]), (b4, 9, [str (⟨#[60]⟩), str d.inp]), (b1, 54, [.slice (some ad_) d.words.length c, str d.inp, str d.out, bl d.app])] ++ (T4 ++ ([]))) := hO
   refine wpOps_cons' (mA (f := fT) (el := 9) (sz := 1) (bytes := 16) (p := p4) (c := c4) (l := d.words ++ ([⟨#[60]⟩, d.inp] : List ByteArray)) (l' := ([⟨#[62, 62]⟩, d.out] : List ByteArray)) (T := T4) (t := 47) (tx := 47) (ty := 47) (x := .slice (some ⟨b5, 0, none⟩) 2 2) (d := 22) [(b5, 9, [str (⟨#[62, 62]⟩), str d.out]), (b4, 9, [str (⟨#[60]⟩), str d.inp]), (b1, 54, [.slice (some ad_) d.words.length c, str d.inp, str d.out, bl d.app])] ([]) encT hA hO hT4 (Vw.src (e' := 9) encT ((hO.b 0).vw (off := 0) (xs := ([⟨#[62, 62]⟩, d.out] : List ByteArray)) (by kernel_rfl)) (by kernel_rfl)) (by first | omega | (simp only [List.length_append, List.length_cons, List.length_nil]; omega)) (by unfold maxLen; first | omega | (simp only [List.length_append, List.length_cons, List.length_nil]; omega)) ?_)
   clear hA hO fr; intro fr w13 p5 c5 T5 hA hO hT5
   replace hA := hA.sb (e' := [(2, str (⟨#[]⟩)), (3, .slice p4 ((d.words ++ ([⟨#[60]⟩, d.inp] : List ByteArray)).length) c4), (22, .slice p5 (((d.words ++ ([⟨#[60]⟩, d.inp] : List ByteArray)) ++ ([⟨#[62, 62]⟩, d.out] : List ByteArray)).length) c5)])
   refine ck (l := [5]) (r := []) (e' := [(2, str (⟨#[]⟩)), (3, .slice p5 (((d.words ++ ([⟨#[60]⟩, d.inp] : List ByteArray)) ++ ([⟨#[62, 62]⟩, d.out] : List ByteArray)).length) c5)]) hA [] c0 ?_
   clear hA fr; intro fr hA
   refine end_ops ?_
   refine inBlock_normal ?_
   refine then_normal ?_
   refine sR (l := [0, 1, 2]) ?_
   refine ck (l := [0]) (r := [1, 2]) (e' := [(2, str (⟨#[]⟩)), (32, .slice p5 (((d.words ++ ([⟨#[60]⟩, d.inp] : List ByteArray)) ++ ([⟨#[62, 62]⟩, d.out] : List ByteArray)).length) c5)]) hA [] c0 ?_
   clear hA fr; intro fr hA
   have heq_ : (d.words ++ ([⟨#[60]⟩, d.inp] : List ByteArray)) ++ ([⟨#[62, 62]⟩, d.out] : List ByteArray) = d.words ++ extL d := by unfold extL; simp_all
   refine wpOps_cons' (mK (f := 52) (args := [.slice p5 (((d.words ++ ([⟨#[60]⟩, d.inp] : List ByteArray)) ++ ([⟨#[62, 62]⟩, d.out] : List ByteArray)).length) c5, str (⟨#[32]⟩)]) (d := (some 33)) (v := str (bA (prC d))) hA hO Try.func52 (rs (join_any p5 c5 ((d.words ++ ([⟨#[60]⟩, d.inp] : List ByteArray)) ++ ([⟨#[62, 62]⟩, d.out] : List ByteArray)) (⟨#[32]⟩ : ByteArray) _ (hT5.vw (A := [(b5, 9, [str (⟨#[62, 62]⟩), str d.out]), (b4, 9, [str (⟨#[60]⟩), str d.inp]), (b1, 54, [.slice (some ad_) d.words.length c, str d.inp, str d.out, bl d.app])]) (B := []) hO.m) (One.jn hT5).1 (by first | omega | (simp only [List.length_append]; omega)) (by first | omega | (simp only [List.length_append, List.length_cons, List.length_nil]; omega)) (One.jn hT5).2 (by rw [heq_]; have := prC_len hvd; unfold prC at this; exact Nat.le_trans this (by decide))) (congrArg Value.string (prC_of heq_))) ?_)
   clear hA hO fr; intro fr w14 hA hO
   replace hA := hA.sb (e' := [(2, str (⟨#[]⟩)), (33, str (bA (prC d)))])
   refine ck (l := [2]) (r := []) (e' := [(2, str (bA (prC d)))]) hA [] c0 ?_
   clear hA fr; intro fr hA
   refine end_ops ?_
   refine then_normal ?_
   refine wp_ret ?_
   refine cR (cs := [none]) (us := [str (bA (prC d))]) hA [] trivial ?_
   have hF := hO.only; clear hA hO
   exact ⟨rfl, hF⟩
 rw [h4] at hA
 refine cF hA ?_
 refine sC (e' := [(1, pt b1), (2, str (⟨#[]⟩)), (3, .slice p4 ((d.words ++ ([⟨#[60]⟩, d.inp] : List ByteArray)).length) c4), (23, bl (!(d.out.toList == (⟨#[]⟩ : ByteArray).toList)))]) 4 hA [str d.out] (cc (hO.l1 1 2 9 (str d.out)) c0) ?_
 clear hA fr; intro fr hA
 replace hA := hA.bool (f := fun z_ => [(1, pt b1), (2, str (⟨#[]⟩)), (3, .slice p4 ((d.words ++ ([⟨#[60]⟩, d.inp] : List ByteArray)).length) c4), (23, .bool !z_)]) (str_empty d.out : (d.out.toList == (⟨#[]⟩ : ByteArray).toList) = (decide (d.out.size = 0)))
 rcases Bool.eq_false_or_eq_true (decide (d.out.size = 0)) with h5 | h5
 · rw [h5] at hA
   have h5p := of_decide_eq_true h5
   refine cF hA ?_
   refine wp_skip ?_
   refine inBlock_normal ?_
   refine then_normal ?_
   refine sR (l := [0, 1, 2]) ?_
   refine ck (l := [0]) (r := [1, 2]) (e' := [(2, str (⟨#[]⟩)), (32, .slice p4 ((d.words ++ ([⟨#[60]⟩, d.inp] : List ByteArray)).length) c4)]) hA [] c0 ?_
   clear hA fr; intro fr hA
   have heq_ : d.words ++ ([⟨#[60]⟩, d.inp] : List ByteArray) = d.words ++ extL d := by unfold extL; simp_all
   refine wpOps_cons' (mK (f := 52) (args := [.slice p4 ((d.words ++ ([⟨#[60]⟩, d.inp] : List ByteArray)).length) c4, str (⟨#[32]⟩)]) (d := (some 33)) (v := str (bA (prC d))) hA hO Try.func52 (rs (join_any p4 c4 (d.words ++ ([⟨#[60]⟩, d.inp] : List ByteArray)) (⟨#[32]⟩ : ByteArray) _ (hT4.vw (A := [(b4, 9, [str (⟨#[60]⟩), str d.inp]), (b1, 54, [.slice (some ad_) d.words.length c, str d.inp, str d.out, bl d.app])]) (B := []) hO.m) (One.jn hT4).1 (by first | omega | (simp only [List.length_append]; omega)) (by first | omega | (simp only [List.length_append, List.length_cons, List.length_nil]; omega)) (One.jn hT4).2 (by rw [heq_]; have := prC_len hvd; unfold prC at this; exact Nat.le_trans this (by decide))) (congrArg Value.string (prC_of heq_))) ?_)
   clear hA hO fr; intro fr w15 hA hO
   replace hA := hA.sb (e' := [(2, str (⟨#[]⟩)), (33, str (bA (prC d)))])
   refine ck (l := [2]) (r := []) (e' := [(2, str (bA (prC d)))]) hA [] c0 ?_
   clear hA fr; intro fr hA
   refine end_ops ?_
   refine then_normal ?_
   refine wp_ret ?_
   refine cR (cs := [none]) (us := [str (bA (prC d))]) hA [] trivial ?_
   have hF := hO.only; clear hA hO
   exact ⟨rfl, hF⟩
 rw [h5] at hA
 have h5p := of_decide_eq_false h5
 refine cT hA ?_
 refine rR (l := (rg 0 6)) ?_
 refine ck (l := [0, 1, 2]) (r := [3, 4, 5]) (e' := [(2, str (⟨#[]⟩)), (3, .slice p4 ((d.words ++ ([⟨#[60]⟩, d.inp] : List ByteArray)).length) c4), (27, .slice p4 ((d.words ++ ([⟨#[60]⟩, d.inp] : List ByteArray)).length) c4), (29, str d.out)]) hA [str d.out] (cc (hO.l1 1 2 9 (str d.out)) c0) ?_
 clear hA fr; intro fr hA
 refine wpOps_cons' (mN (l := [str (⟨#[62]⟩), str d.out]) (t := 9) (v := fun b => .slice (some ⟨b, 0, none⟩) 2 2) (d := 30) hA hO ?_)
 clear hA hO fr; intro fr w16 b6 hA hO
 replace hA := hA.sb (e' := [(2, str (⟨#[]⟩)), (3, .slice p4 ((d.words ++ ([⟨#[60]⟩, d.inp] : List ByteArray)).length) c4), (27, .slice p4 ((d.words ++ ([⟨#[60]⟩, d.inp] : List ByteArray)).length) c4), (30, .slice (some ⟨b6, 0, none⟩) 2 2)])
 replace hO : Ow Try.prog none' w w16 ([(b6, 9, [str (⟨#[62]⟩), str d.out]), (b4, 9, [str (⟨#[60]⟩), str d.inp]), (b1, 54, [.slice (some ad_) d.words.length c, str d.inp, str d.out, bl d.app])] ++ (T4 ++ ([]))) := hO
 refine wpOps_cons' (mA (f := fT) (el := 9) (sz := 1) (bytes := 16) (p := p4) (c := c4) (l := d.words ++ ([⟨#[60]⟩, d.inp] : List ByteArray)) (l' := ([⟨#[62]⟩, d.out] : List ByteArray)) (T := T4) (t := 47) (tx := 47) (ty := 47) (x := .slice (some ⟨b6, 0, none⟩) 2 2) (d := 31) [(b6, 9, [str (⟨#[62]⟩), str d.out]), (b4, 9, [str (⟨#[60]⟩), str d.inp]), (b1, 54, [.slice (some ad_) d.words.length c, str d.inp, str d.out, bl d.app])] ([]) encT hA hO hT4 (Vw.src (e' := 9) encT ((hO.b 0).vw (off := 0) (xs := ([⟨#[62]⟩, d.out] : List ByteArray)) (by kernel_rfl)) (by kernel_rfl)) (by first | omega | (simp only [List.length_append, List.length_cons, List.length_nil]; omega)) (by unfold maxLen; first | omega | (simp only [List.length_append, List.length_cons, List.length_nil]; omega)) ?_)
 clear hA hO fr; intro fr w17 p6 c6 T6 hA hO hT6
 replace hA := hA.sb (e' := [(2, str (⟨#[]⟩)), (3, .slice p4 ((d.words ++ ([⟨#[60]⟩, d.inp] : List ByteArray)).length) c4), (31, .slice p6 (((d.words ++ ([⟨#[60]⟩, d.inp] : List ByteArray)) ++ ([⟨#[62]⟩, d.out] : List ByteArray)).length) c6)])
 refine ck (l := [5]) (r := []) (e' := [(2, str (⟨#[]⟩)), (3, .slice p6 (((d.words ++ ([⟨#[60]⟩, d.inp] : List ByteArray)) ++ ([⟨#[62]⟩, d.out] : List ByteArray)).length) c6)]) hA [] c0 ?_
 clear hA fr; intro fr hA
 refine end_ops ?_
 refine inBlock_normal ?_
 refine then_normal ?_
 refine sR (l := [0, 1, 2]) ?_
 refine ck (l := [0]) (r := [1, 2]) (e' := [(2, str (⟨#[]⟩)), (32, .slice p6 (((d.words ++ ([⟨#[60]⟩, d.inp] : List ByteArray)) ++ ([⟨#[62]⟩, d.out] : List ByteArray)).length) c6)]) hA [] c0 ?_
 clear hA fr; intro fr hA
 have heq_ : (d.words ++ ([⟨#[60]⟩, d.inp] : List ByteArray)) ++ ([⟨#[62]⟩, d.out] : List ByteArray) = d.words ++ extL d := by unfold extL; simp_all
 refine wpOps_cons' (mK (f := 52) (args := [.slice p6 (((d.words ++ ([⟨#[60]⟩, d.inp] : List ByteArray)) ++ ([⟨#[62]⟩, d.out] : List ByteArray)).length) c6, str (⟨#[32]⟩)]) (d := (some 33)) (v := str (bA (prC d))) hA hO Try.func52 (rs (join_any p6 c6 ((d.words ++ ([⟨#[60]⟩, d.inp] : List ByteArray)) ++ ([⟨#[62]⟩, d.out] : List ByteArray)) (⟨#[32]⟩ : ByteArray) _ (hT6.vw (A := [(b6, 9, [str (⟨#[62]⟩), str d.out]), (b4, 9, [str (⟨#[60]⟩), str d.inp]), (b1, 54, [.slice (some ad_) d.words.length c, str d.inp, str d.out, bl d.app])]) (B := []) hO.m) (One.jn hT6).1 (by first | omega | (simp only [List.length_append]; omega)) (by first | omega | (simp only [List.length_append, List.length_cons, List.length_nil]; omega)) (One.jn hT6).2 (by rw [heq_]; have := prC_len hvd; unfold prC at this; exact Nat.le_trans this (by decide))) (congrArg Value.string (prC_of heq_))) ?_)
 clear hA hO fr; intro fr w18 hA hO
 replace hA := hA.sb (e' := [(2, str (⟨#[]⟩)), (33, str (bA (prC d)))])
 refine ck (l := [2]) (r := []) (e' := [(2, str (bA (prC d)))]) hA [] c0 ?_
 clear hA fr; intro fr hA
 refine end_ops ?_
 refine then_normal ?_
 refine wp_ret ?_
 refine cR (cs := [none]) (us := [str (bA (prC d))]) hA [] trivial ?_
 have hF := hO.only; clear hA hO
 exact ⟨rfl, hF⟩

end Go.Proofs.Ytfhcpegemapbkaa
