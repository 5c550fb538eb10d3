/- The library's strings.Join and strconv.Itoa at this program. -/
import Derived.Test.YtkfnkcpdabdboaaDoorProg
import Derived.Test.YtkfnkcpdabdboaaDoorSy
import Derived.Shelf.LaysM
import Derived.Shelf.Strings.OnBuilder
import Derived.Shelf.Strconv.Itoa3
set_option linter.unusedVariables false
set_option maxRecDepth 100000
namespace Go.Proofs.YtkfnkcpdabdboaaDoor
open Go Go.Shelf Go.RowKit Go.Proofs Go.Proofs.Sx

def laysJoin_ren : Go.Shelf.Ren := ⟨fun | 156 => 46 | 165 => 54 | 166 => 55 | 169 => 56 | 240 => 61 | 241 => 62 | 276 => 68 | 277 => 69 | n => n, fun | 31 => 40 | 9 => 9 | 3 => 3 | 4 => 4 | 0 => 0 | 20 => 20 | 72 => 81 | 76 => 85 | 70 => 79 | 37 => 22 | 75 => 84 | 127 => 93 | 164 => 100 | 5 => 5 | 80 => 87 | n => n, fun n => n⟩
theorem laysJoin : Lays.n156 Tryd.prog laysJoin_ren where
  mixed := by kernel_rfl
  f156 := Tryd.func46.trans (congrArg some (by kernel_rfl))
  f165 := Tryd.func54.trans (congrArg some (by kernel_rfl))
  f166 := Tryd.func55.trans (congrArg some (by kernel_rfl))
  f169 := Tryd.func56.trans (congrArg some (by kernel_rfl))
  f240 := Tryd.func61.trans (congrArg some (by kernel_rfl))
  f241 := Tryd.func62.trans (congrArg some (by kernel_rfl))
  f276 := Tryd.func68.trans (congrArg some (by kernel_rfl))
  f277 := Tryd.func69.trans (congrArg some (by kernel_rfl))
  t0 := Tryd.underlying0
  a0 := Tryd.isAgg0
  z0 := Tryd.sizeOf0
  v0 := Tryd.zeroValue0
  t3 := Tryd.underlying3
  a3 := Tryd.isAgg3
  z3 := Tryd.sizeOf3
  v3 := Tryd.zeroValue3
  t4 := Tryd.underlying4
  a4 := Tryd.isAgg4
  z4 := Tryd.sizeOf4
  v4 := Tryd.zeroValue4
  t9 := Tryd.underlying9
  a9 := Tryd.isAgg9
  z9 := Tryd.sizeOf9
  v9 := Tryd.zeroValue9
  t20 := Tryd.underlying20
  a20 := Tryd.isAgg20
  z20 := Tryd.sizeOf20
  v20 := Tryd.zeroValue20
  t31 := Tryd.underlying40
  a31 := Tryd.isAgg40
  z31 := Tryd.sizeOf40
  v31 := Tryd.zeroValue40
  t37 := Tryd.underlying22
  a37 := Tryd.isAgg22
  z37 := Tryd.sizeOf22
  v37 := Tryd.zeroValue22
  t70 := Tryd.underlying79
  a70 := Tryd.isAgg79
  z70 := Tryd.sizeOf79
  v70 := Tryd.zeroValue79
  t72 := Tryd.underlying81
  a72 := Tryd.isAgg81
  z72 := Tryd.sizeOf81
  v72 := Tryd.zeroValue81
  t75 := Tryd.underlying84
  a75 := Tryd.isAgg84
  z75 := Tryd.sizeOf84
  v75 := Tryd.zeroValue84
  t76 := Tryd.underlying85
  a76 := Tryd.isAgg85
  z76 := Tryd.sizeOf85
  v76 := Tryd.zeroValue85
  t127 := Tryd.underlying93
  a127 := Tryd.isAgg93
  z127 := Tryd.sizeOf93
  v127 := Tryd.zeroValue93
  t164 := Tryd.underlying100
  a164 := Tryd.isAgg100
  z164 := Tryd.sizeOf100
  v164 := Tryd.zeroValue100
def laysItoa_ren : Go.Shelf.Ren := ⟨fun | 171 => 35 | 243 => 45 | 246 => 53 | 283 => 57 | 284 => 58 | 285 => 59 | 286 => 60 | 129 => 64 | 317 => 63 | 318 => 65 | 319 => 66 | 320 => 67 | 337 => 70 | 338 => 71 | n => n, fun | 3 => 3 | 9 => 9 | 2 => 2 | 4 => 4 | 171 => 88 | 0 => 0 | 53 => 54 | 37 => 22 | 5 => 5 | 173 => 91 | 212 => 95 | 51 => 96 | 20 => 20 | 213 => 97 | 46 => 67 | 232 => 103 | 233 => 104 | n => n, fun | 17 => 1 | 18 => 3 | 19 => 4 | n => n⟩
theorem laysItoa : LaysM.n171 Tryd.prog laysItoa_ren where
  mixed := by kernel_rfl
  f129 := Tryd.func64.trans (congrArg some (by kernel_rfl))
  f171 := Tryd.func35.trans (congrArg some (by kernel_rfl))
  f243 := Tryd.func45.trans (congrArg some (by kernel_rfl))
  f246 := Tryd.func53.trans (congrArg some (by kernel_rfl))
  f283 := Tryd.func57.trans (congrArg some (by kernel_rfl))
  f284 := Tryd.func58.trans (congrArg some (by kernel_rfl))
  f285 := Tryd.func59.trans (congrArg some (by kernel_rfl))
  f286 := Tryd.func60.trans (congrArg some (by kernel_rfl))
  f317 := Tryd.func63.trans (congrArg some (by kernel_rfl))
  f318 := Tryd.func65.trans (congrArg some (by kernel_rfl))
  f319 := Tryd.func66.trans (congrArg some (by kernel_rfl))
  f320 := Tryd.func67.trans (congrArg some (by kernel_rfl))
  f337 := Tryd.func70.trans (congrArg some (by kernel_rfl))
  f338 := Tryd.func71.trans (congrArg some (by kernel_rfl))
  t0 := Tryd.underlying0
  a0 := Tryd.isAgg0
  z0 := Tryd.sizeOf0
  v0 := Tryd.zeroValue0
  t2 := Tryd.underlying2
  a2 := Tryd.isAgg2
  z2 := Tryd.sizeOf2
  v2 := Tryd.zeroValue2
  t3 := Tryd.underlying3
  a3 := Tryd.isAgg3
  z3 := Tryd.sizeOf3
  v3 := Tryd.zeroValue3
  t4 := Tryd.underlying4
  a4 := Tryd.isAgg4
  z4 := Tryd.sizeOf4
  v4 := Tryd.zeroValue4
  t5 := Tryd.underlying5
  a5 := Tryd.isAgg5
  z5 := Tryd.sizeOf5
  v5 := Tryd.zeroValue5
  t9 := Tryd.underlying9
  a9 := Tryd.isAgg9
  z9 := Tryd.sizeOf9
  v9 := Tryd.zeroValue9
  t20 := Tryd.underlying20
  a20 := Tryd.isAgg20
  z20 := Tryd.sizeOf20
  v20 := Tryd.zeroValue20
  t37 := Tryd.underlying22
  a37 := Tryd.isAgg22
  z37 := Tryd.sizeOf22
  v37 := Tryd.zeroValue22
  t46 := Tryd.underlying67
  a46 := Tryd.isAgg67
  z46 := Tryd.sizeOf67
  v46 := Tryd.zeroValue67
  t51 := Tryd.underlying96
  a51 := Tryd.isAgg96
  z51 := Tryd.sizeOf96
  v51 := Tryd.zeroValue96
  t53 := Tryd.underlying54
  a53 := Tryd.isAgg54
  z53 := Tryd.sizeOf54
  v53 := Tryd.zeroValue54
  t171 := Tryd.underlying88
  a171 := Tryd.isAgg88
  z171 := Tryd.sizeOf88
  v171 := Tryd.zeroValue88
  t173 := Tryd.underlying91
  a173 := Tryd.isAgg91
  z173 := Tryd.sizeOf91
  v173 := Tryd.zeroValue91
  t212 := Tryd.underlying95
  a212 := Tryd.isAgg95
  z212 := Tryd.sizeOf95
  v212 := Tryd.zeroValue95
  t213 := Tryd.underlying97
  a213 := Tryd.isAgg97
  z213 := Tryd.sizeOf97
  t232 := Tryd.underlying103
  a232 := Tryd.isAgg103
  z232 := Tryd.sizeOf103
  v232 := Tryd.zeroValue103
  t233 := Tryd.underlying104
  a233 := Tryd.isAgg104
  z233 := Tryd.sizeOf104
  v233 := Tryd.zeroValue104
  g17 := by kernel_rfl
  g18 := by kernel_rfl
  g19 := by kernel_rfl
  i0 := by kernel_rfl
  i2 := by kernel_rfl
  i3 := by kernel_rfl
  i4 := by kernel_rfl
  i5 := by kernel_rfl
  i9 := by kernel_rfl
  i20 := by kernel_rfl
  i37 := by kernel_rfl
  i46 := by kernel_rfl
  i51 := by kernel_rfl
  i53 := by kernel_rfl
  i171 := by kernel_rfl
  i173 := by kernel_rfl
  i212 := by kernel_rfl
  i232 := by kernel_rfl
  i233 := by kernel_rfl
  m17 := by kernel_rfl
  m18 := by kernel_rfl
  m19 := by kernel_rfl
theorem joinExtra : Builder.Extra Tryd.prog laysJoin_ren where
  sizeBuilder := by kernel_rfl
  liesBuilder := by kernel_rfl
  t5 := laysItoa.t5
  a5 := laysItoa.a5
  z5 := laysItoa.z5
  v5 := laysItoa.v5
  infoByte := by kernel_rfl
  cellsByte := by kernel_rfl
  sizeByte := by kernel_rfl
  neB5 := by decide
/-- The decimal numeral of a number. -/
def itoaS (n : Int) : ByteArray := ⟨(Lib.itoa n).toArray⟩
/-- The table of the powers of ten reads as laid. -/
def Pow (w : World) : Prop := Lib.TabIs Tryd.prog w "internal/strconv.uint64pow10" .u64 Lib.pow10Tab
theorem Pow.keep {w w' : World} (h : Pow w) (k : Only none' w w') : Pow w' := by
  unfold Pow Lib.TabIs World.var? at h ⊢
  cases hg : Tryd.prog.globalNamed "internal/strconv.uint64pow10" with
  | none => simp [hg] at h
  | some g =>
    simp only [hg, Option.bind_some] at h ⊢
    have hlt : g < w.heap.size := by
      rcases Nat.lt_or_ge g w.heap.size with h' | h'
      · exact h'
      · simp [Array.getElem?_eq_none h'] at h
    rw [k.block g hlt (fun hx => hx)]
    exact h
theorem dec_len : ∀ u : Nat, (Lib.decDigits u).length ≤ u + 1 := fun u => by
  induction u using Nat.strongRecOn with
  | ind u ih =>
    rw [Lib.decDigits]
    split
    · simp
    · have := ih (u / 10) (by omega)
      rw [List.length_append, List.length_singleton]; omega
theorem itoaS_len (n : Int) : (itoaS n).data.toList.length ≤ n.natAbs + 2 := by
  unfold itoaS Lib.itoa
  split
  · have := dec_len n.natAbs; simp; omega
  · have := dec_len n.toNat; simp; omega
theorem itoa_any (n : Int) (w : World) (hn : inK .i64 n) (hP : Pow w) : Calls Tryd.prog 35 #[.int .i64 n] w fun e w' => e = .returned (.string (itoaS n)) ∧ Only none' w w' := by
  have h1 : -9223372036854775808 ≤ n ∧ n ≤ 9223372036854775807 := hn
  refine (Any.strconv_Itoa laysItoa n h1.1 h1.2 w hP).mono fun e w' ⟨he, k, os, hw⟩ => ⟨he, ?_⟩
  subst hw
  refine ⟨rfl, rfl, rfl, ?_, fun i hi _ => ?_⟩
  · show w.heap.size ≤ (w.heap ++ os).size
    rw [Array.size_append]; omega
  · show (w.heap ++ os)[i]? = _
    rw [Array.getElem?_append, if_pos hi]
theorem join_any (b o c : Nat) (xs : List ByteArray) (sep : ByteArray) (w : World) (hc : ∀ (j : Nat) x, xs[j]? = some x → w.cell? ⟨b, o + j, none⟩ = some (.string x)) (hb : b < w.heap.size) (hn : xs.length ≤ 1000000) (hcap : xs.length ≤ c) (hl : (Lib.join (xs.map (·.data.toList)) sep.data.toList).length ≤ 140737488355328) :
    Calls Tryd.prog 46 #[.slice (some ⟨b, o, none⟩) xs.length c, .string sep] w fun e w' => e = .returned (.string ⟨(Lib.join (xs.map (·.data.toList)) sep.data.toList).toArray⟩) ∧ Only none' w w' :=
  (Any.strings_Join laysJoin joinExtra b o c xs sep w hc hb (by omega) hcap hl).mono fun e w' h => ⟨h.1, Only.of_below h.2⟩

end Go.Proofs.YtkfnkcpdabdboaaDoor
