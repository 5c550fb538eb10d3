/- The layer exe: Equal, the law ExeUnique. -/
import Derived.Test.YtkfnkcpdabdboaaDoorAwake
set_option linter.unusedVariables false
set_option linter.unusedSimpArgs false
set_option maxRecDepth 10000
namespace Go.Proofs.YtkfnkcpdabdboaaDoor
open Go Go.RowKit Go.Proofs.Sx

theorem equal_any (cp dp : Option Addr) (kc kd : Nat) (cs ds : List Int) (z et : Int) (cp' dp' : Option Addr) (kc' kd' : Nat) (cs' ds' : List Int) (z' et' : Int) (w : World) (hs : SlI w (.slice cp cs.length kc) cs) (hs2 : SlI w (.slice dp ds.length kd) ds) (hs' : SlI w (.slice cp' cs'.length kc') cs') (hs2' : SlI w (.slice dp' ds'.length kd') ds') :
    Calls Tryd.prog 14 #[.agg #[.slice cp cs.length kc, .slice dp ds.length kd, i64 z, i64 et], .agg #[.slice cp' cs'.length kc', .slice dp' ds'.length kd', i64 z', i64 et']] w fun e w' => e = .returned (.bool (decide (cs = cs' ∧ ds = ds' ∧ z = z' ∧ et = et'))) ∧ Only none' w w' := by
  refine c_enter (args := [.agg #[.slice cp cs.length kc, .slice dp ds.length kd, i64 z, i64 et], .agg #[.slice cp' cs'.length kc', .slice dp' ds'.length kd', i64 z', i64 et']]) (m := 29) (n := 31) Tryd.func14 rfl (by kernel_rfl) (by kernel_rfl) fun fr hA => ?_
  have hO := Ow.nil Tryd.prog none' w
  refine sR (l := [0, 1, 2]) ?_
  refine wpOps_cons' (mN (l := [.slice cp cs.length kc, .slice dp ds.length kd, i64 z, i64 et]) (t := 24) (v := pt) (d := 2) hA hO ?_)
  clear hA hO fr; intro fr w1 b1 hA hO
  replace hA := hA.sb (e' := [(1, .agg #[.slice cp' cs'.length kc', .slice dp' ds'.length kd', i64 z', i64 et']), (2, pt b1)])
  refine wpOps_cons' (mN (l := [.slice cp' cs'.length kc', .slice dp' ds'.length kd', i64 z', i64 et']) (t := 24) (v := pt) (d := 3) hA hO ?_)
  clear hA hO fr; intro fr w2 b2 hA hO
  replace hA := hA.sb (e' := [(2, pt b1), (3, pt b2)])
  refine ck (l := [2]) (r := []) (e' := [(2, pt b1), (3, pt b2), (4, bl false)]) hA [] c0 ?_
  clear hA fr; intro fr hA
  refine end_ops ?_
  refine then_normal ?_
  refine sR (l := (rg 0 27)) ?_
  refine ck (l := [0, 1, 2, 3]) (r := (rg 4 23)) (e' := [(2, pt b1), (3, pt b2), (4, bl false), (6, .slice cp cs.length kc), (8, .slice cp' cs'.length kc')]) hA [.slice cp cs.length kc, .slice cp' cs'.length kc'] (cc (hO.l1 1 0 22 (.slice cp cs.length kc)) (cc (hO.l1 0 0 22 (.slice cp' cs'.length kc')) c0)) ?_
  clear hA fr; intro fr hA
  refine wpOps_cons' (mK (f := 13) (args := [.slice cp cs.length kc, .slice cp' cs'.length kc']) (d := (some 9)) (v := bl (decide (cs = cs'))) hA hO Tryd.func13 (same_any cs cs' _ _ _ (hs.keep hO.only) (hs'.keep hO.only)) ?_)
  clear hA hO fr; intro fr w3 hA hO
  replace hA := hA.sb (e' := [(2, pt b1), (3, pt b2), (4, bl false), (9, bl (decide (cs = cs')))])
  refine ck (l := [5]) (r := (rg 6 21)) (e' := [(2, pt b1), (3, pt b2), (4, bl false), (9, bl (decide (cs = cs'))), (10, bl (decide (cs = cs')))]) hA [] c0 ?_
  clear hA fr; intro fr hA
  rcases Bool.eq_false_or_eq_true (decide (cs = cs')) with h1 | h1
  ·
    replace hA := hA.bool (f := fun z_ => [(2, pt b1), (3, pt b2), (4, bl false), (9, .bool z_), (10, .bool z_)]) h1
    have h1p := of_decide_eq_true h1
    refine ck (l := [6, 7, 8, 9]) (r := (rg 10 17)) (e' := [(2, pt b1), (3, pt b2), (4, bl false), (10, bl true), (12, .slice dp ds.length kd), (14, .slice dp' ds'.length kd')]) hA [.slice dp ds.length kd, .slice dp' ds'.length kd'] (cc (hO.l1 1 1 22 (.slice dp ds.length kd)) (cc (hO.l1 0 1 22 (.slice dp' ds'.length kd')) c0)) ?_
    clear hA fr; intro fr hA
    refine wpOps_cons' (mK (f := 13) (args := [.slice dp ds.length kd, .slice dp' ds'.length kd']) (d := (some 15)) (v := bl (decide (ds = ds'))) hA hO Tryd.func13 (same_any ds ds' _ _ _ (hs2.keep hO.only) (hs2'.keep hO.only)) ?_)
    clear hA hO fr; intro fr w4 hA hO
    replace hA := hA.sb (e' := [(2, pt b1), (3, pt b2), (4, bl false), (10, bl true), (15, bl (decide (ds = ds')))])
    refine ck (l := [11, 12]) (r := (rg 13 14)) (e' := [(2, pt b1), (3, pt b2), (4, bl false), (15, bl (decide (ds = ds'))), (16, bl (decide (ds = ds'))), (17, bl (decide (ds = ds')))]) hA [] c0 ?_
    clear hA fr; intro fr hA
    rcases Bool.eq_false_or_eq_true (decide (ds = ds')) with h2 | h2
    ·
      replace hA := hA.bool (f := fun z_ => [(2, pt b1), (3, pt b2), (4, bl false), (15, .bool z_), (16, .bool z_), (17, .bool z_)]) h2
      have h2p := of_decide_eq_true h2
      refine ck (l := (rg 13 7)) (r := (rg 20 7)) (e' := [(2, pt b1), (3, pt b2), (4, bl false), (22, bl (z == z')), (23, bl (z == z')), (24, bl (z == z'))]) hA [i64 z, i64 z'] (cc (hO.l1 1 2 3 (i64 z)) (cc (hO.l1 0 2 3 (i64 z')) c0)) ?_
      clear hA fr; intro fr hA
      rcases Bool.eq_false_or_eq_true (z == z') with h3 | h3
      ·
        replace hA := hA.bool (f := fun z_ => [(2, pt b1), (3, pt b2), (4, bl false), (22, .bool z_), (23, .bool z_), (24, .bool z_)]) h3
        have h3p := eq_of_beq h3
        refine ck (l := (rg 20 7)) (r := []) (e' := [(4, bl (et == et'))]) hA [i64 et, i64 et'] (cc (hO.l1 1 3 3 (i64 et)) (cc (hO.l1 0 3 3 (i64 et')) c0)) ?_
        clear hA fr; intro fr hA
        refine end_ops ?_
        refine then_normal ?_
        refine wp_ret ?_
        refine cR (cs := [none]) (us := [bl (et == et')]) hA [] trivial ?_
        have hF := hO.only; clear hA hO
        exact ⟨by first | (simp_all [pack]; done) | (simp_all [pack]; rfl), hF⟩
      ·
        replace hA := hA.bool (f := fun z_ => [(2, pt b1), (3, pt b2), (4, bl false), (22, .bool z_), (23, .bool z_), (24, .bool z_)]) h3
        have h3p := ne_of_beq_false h3
        refine ck (l := (rg 20 7)) (r := []) (e' := [(4, bl false)]) hA [] c0 ?_
        clear hA fr; intro fr hA
        refine end_ops ?_
        refine then_normal ?_
        refine wp_ret ?_
        refine cR (cs := [none]) (us := [bl false]) hA [] trivial ?_
        have hF := hO.only; clear hA hO
        exact ⟨by first | (simp_all [pack]; done) | (simp_all [pack]; rfl), hF⟩
    ·
      replace hA := hA.bool (f := fun z_ => [(2, pt b1), (3, pt b2), (4, bl false), (15, .bool z_), (16, .bool z_), (17, .bool z_)]) h2
      have h2p := of_decide_eq_false h2
      refine ck (l := (rg 13 14)) (r := []) (e' := [(4, bl false)]) hA [] c0 ?_
      clear hA fr; intro fr hA
      refine end_ops ?_
      refine then_normal ?_
      refine wp_ret ?_
      refine cR (cs := [none]) (us := [bl false]) hA [] trivial ?_
      have hF := hO.only; clear hA hO
      exact ⟨by first | (simp_all [pack]; done) | (simp_all [pack]; rfl), hF⟩
  ·
    replace hA := hA.bool (f := fun z_ => [(2, pt b1), (3, pt b2), (4, bl false), (9, .bool z_), (10, .bool z_)]) h1
    have h1p := of_decide_eq_false h1
    refine ck (l := (rg 6 21)) (r := []) (e' := [(4, bl false)]) hA [] c0 ?_
    clear hA fr; intro fr hA
    refine end_ops ?_
    refine then_normal ?_
    refine wp_ret ?_
    refine cR (cs := [none]) (us := [bl false]) hA [] trivial ?_
    have hF := hO.only; clear hA hO
    exact ⟨by first | (simp_all [pack]; done) | (simp_all [pack]; rfl), hF⟩

theorem make_no (cp dp : Option Addr) (kc kd : Nat) (cs ds : List Int) (z et : Int) (w : World) (hc : cs.length ≤ 2000) (hd : ds.length ≤ 2000) (hT : Tab w) (hs : SlI w (.slice cp cs.length kc) cs) (hkc : cs.length ≤ kc) (hs2 : SlI w (.slice dp ds.length kd) ds) (hno : ¬ (validB cs ((ds.length : Nat) : Int) z et = true ∧ (fileL cs ds z et).length ≤ 1536)) (hz : inK .i64 z) (het : inK .i64 et) : Calls Tryd.prog 12 #[.agg #[.slice cp cs.length kc, .slice dp ds.length kd, i64 z, i64 et]] w fun e w' => ∃ er : Int, e = .returned (.tuple #[.slice none 0 0, .int .i64 er]) ∧ er ≠ 0 ∧ Only none' w w' := by
  cases hv : validB cs ((ds.length : Nat) : Int) z et with
  | false => exact (make_bad cp dp kc kd cs ds z et w hc hd hT hs hkc hs2 hv).mono fun e w' h => ⟨1, h.1, by decide, h.2⟩
  | true => exact (make_big cp dp kc kd cs ds z et w hc hd hT hs hkc hs2 hv hz het (Nat.lt_of_not_le fun h => hno ⟨hv, h⟩)).mono fun e w' h => ⟨6, h.1, by decide, h.2⟩

end Go.Proofs.YtkfnkcpdabdboaaDoor
