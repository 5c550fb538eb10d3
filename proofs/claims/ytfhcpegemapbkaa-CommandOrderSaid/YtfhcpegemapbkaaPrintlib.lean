/- The layer command: printing: the library. -/
import Derived.Test.YtfhcpegemapbkaaCopies
import Derived.Shelf.LaysM
import Derived.Shelf.Strings.OnBuilder
import Derived.Shelf.Strings.Builder1
set_option linter.unusedVariables false
set_option linter.unusedSimpArgs false
set_option maxRecDepth 10000
namespace Go.Proofs.Ytfhcpegemapbkaa
open Go Go.Shelf Go.RowKit Go.Proofs Go.Proofs.Sx

def laysJoin_ren : Go.Shelf.Ren := ⟨fun | 156 => 52 | 165 => 58 | 166 => 31 | 169 => 33 | 240 => 50 | 241 => 63 | 276 => 57 | 277 => 65 | n => n, fun | 31 => 47 | 9 => 9 | 3 => 3 | 4 => 4 | 0 => 0 | 20 => 20 | 72 => 76 | 76 => 79 | 70 => 73 | 37 => 74 | 75 => 78 | 127 => 93 | 164 => 97 | 5 => 5 | 80 => 81 | n => n, fun n => n⟩
theorem laysJoin : Lays.n156 Try.prog laysJoin_ren where
  mixed := by kernel_rfl
  f156 := Try.func52.trans (congrArg some (by kernel_rfl))
  f165 := Try.func58.trans (congrArg some (by kernel_rfl))
  f166 := Try.func31.trans (congrArg some (by kernel_rfl))
  f169 := Try.func33.trans (congrArg some (by kernel_rfl))
  f240 := Try.func50.trans (congrArg some (by kernel_rfl))
  f241 := Try.func63.trans (congrArg some (by kernel_rfl))
  f276 := Try.func57.trans (congrArg some (by kernel_rfl))
  f277 := Try.func65.trans (congrArg some (by kernel_rfl))
  t0 := Try.underlying0
  a0 := Try.isAgg0
  z0 := Try.sizeOf0
  v0 := Try.zeroValue0
  t3 := Try.underlying3
  a3 := Try.isAgg3
  z3 := Try.sizeOf3
  v3 := Try.zeroValue3
  t4 := Try.underlying4
  a4 := Try.isAgg4
  z4 := Try.sizeOf4
  v4 := Try.zeroValue4
  t9 := Try.underlying9
  a9 := Try.isAgg9
  z9 := Try.sizeOf9
  v9 := Try.zeroValue9
  t20 := Try.underlying20
  a20 := Try.isAgg20
  z20 := Try.sizeOf20
  v20 := Try.zeroValue20
  t31 := Try.underlying47
  a31 := Try.isAgg47
  z31 := Try.sizeOf47
  v31 := Try.zeroValue47
  t37 := Try.underlying74
  a37 := Try.isAgg74
  z37 := Try.sizeOf74
  v37 := Try.zeroValue74
  t70 := Try.underlying73
  a70 := Try.isAgg73
  z70 := Try.sizeOf73
  v70 := Try.zeroValue73
  t72 := Try.underlying76
  a72 := Try.isAgg76
  z72 := Try.sizeOf76
  v72 := Try.zeroValue76
  t75 := Try.underlying78
  a75 := Try.isAgg78
  z75 := Try.sizeOf78
  v75 := Try.zeroValue78
  t76 := Try.underlying79
  a76 := Try.isAgg79
  z76 := Try.sizeOf79
  v76 := Try.zeroValue79
  t127 := Try.underlying93
  a127 := Try.isAgg93
  z127 := Try.sizeOf93
  v127 := Try.zeroValue93
  t164 := Try.underlying97
  a164 := Try.isAgg97
  z164 := Try.sizeOf97
  v164 := Try.zeroValue97

theorem joinExtra : Builder.Extra Try.prog laysJoin_ren where
  sizeBuilder := by kernel_rfl
  liesBuilder := by kernel_rfl
  t5 := Try.underlying5
  a5 := Try.isAgg5
  z5 := Try.sizeOf5
  v5 := Try.zeroValue5
  infoByte := by kernel_rfl
  cellsByte := by kernel_rfl
  sizeByte := by kernel_rfl
  neB5 := by decide
theorem laysCheck : Lays.n240 Try.prog laysJoin_ren := { laysJoin with }
theorem laysString : Lays.n169 Try.prog laysJoin_ren := { laysJoin with }
/-- Bytes as a string. -/
def bA (l : List UInt8) : ByteArray := ⟨l.toArray⟩
theorem bA_size (l : List UInt8) : (bA l).size = l.length := by simp [bA, ByteArray.size]
theorem bA_list (l : List UInt8) : (bA l).data.toList = l := by simp [bA]
theorem bA_of (s : ByteArray) : bA s.data.toList = s := ba_ext (bA_list _)
theorem bA_app (l : List UInt8) (s : ByteArray) : bA l ++ s = bA (l ++ s.data.toList) := ba_ext (by rw [bA_list, ByteArray.data_append, Array.toList_append, bA_list])
theorem str_app (s t : ByteArray) : (s ++ t).data.toList = s.data.toList ++ t.data.toList := by rw [ByteArray.data_append, Array.toList_append]
/-- The bytes as numbers. -/
def bI (l : List UInt8) : List Int := l.map fun b => (b.toNat : Int)
theorem bI_app (l : List UInt8) (s : ByteArray) : bI l ++ sI s = bI (l ++ s.data.toList) := by unfold bI sI; rw [List.map_append]
theorem bI_len (l : List UInt8) : (bI l).length = l.length := List.length_map _
theorem join_any (p : Option Addr) (c : Nat) (xs : List ByteArray) (sep : ByteArray) (w : World) (h : Vw fT w (.slice p xs.length c) xs) (hz : ∀ ad, p = some ad → ad = ⟨ad.block, ad.off, none⟩) (h1 : 1 ≤ xs.length) (hn : xs.length ≤ 1000000) (hcap : xs.length ≤ c) (hl : (Lib.join (xs.map (·.data.toList)) sep.data.toList).length ≤ 140737488355328) :
    Calls Try.prog 52 #[.slice p xs.length c, .string sep] w fun e w' => e = .returned (.string (bA (Lib.join (xs.map (·.data.toList)) sep.data.toList))) ∧ Only none' w w' := by
  obtain ⟨ad, rfl⟩ := h.pos (by omega)
  have hz := hz ad rfl
  obtain ⟨b, o, sp⟩ := ad
  simp only [Addr.mk.injEq, true_and] at hz
  subst hz
  have hc : ∀ (j : Nat) x, xs[j]? = some x → w.cell? ⟨b, o + j, none⟩ = some (.string x) := fun j x hj => by
    have := h.cell encT (k := 0) hj (v := .string x) rfl
    rwa [Nat.mul_one, Nat.add_zero, add_off] at this
  exact (Any.strings_Join laysJoin joinExtra b o c xs sep w hc (World.block_lt_of_cell? w _ (hc 0 _ (getD_at xs ⟨#[]⟩ (by omega)))) (by omega) hcap hl).mono fun e w' h => ⟨h.1, Only.of_below h.2⟩
theorem blk_setCell {w : World} {b i : Nat} {t : TypeId} {l : List Value} {v : Value} (h : Blk w b t l) : Blk (w.setCell ⟨b, i, none⟩ v) b t (l.set i v) ∧ Only (fun k => k = b) w (w.setCell ⟨b, i, none⟩ v) := by
 obtain ⟨fr, hg, hf⟩ := h
 have hlt : b < w.heap.size := (Array.getElem?_eq_some_iff.1 hg).1
 have hvv : w.heap[b] = .cells l.toArray t fr := (Array.getElem?_eq_some_iff.1 hg).2
 refine ⟨⟨fr, ?_, by simpa using hf⟩, ⟨rfl, rfl, rfl, by simp [World.setCell], fun k hk hn => by simp [World.setCell, Array.getElem?_modify, Ne.symm hn]⟩⟩
 unfold World.setCell
 simp only
 rw [Array.getElem?_eq_getElem (by simpa using hlt), Array.getElem_modify]
 simp [hvv]
/-- copyCheck: the builder knows its own place. -/
theorem check_any (b : Nat) (q v : Value) (w : World) (hq : q = .pointer none ∨ q = pt b) (h0 : Ow Try.prog (inT [(b, 76, [q, v])]) w w [(b, 76, [q, v])]) (h1 : Blk w b 76 [q, v]) :
    Calls Try.prog 50 #[pt b] w fun e w' => e = .returned (.tuple #[]) ∧ Ow Try.prog (inT [(b, 76, [q, v])]) w w' [(b, 76, [pt b, v])] := by
 rcases hq with rfl | rfl
 · refine (Any.Builder_copyCheck_fresh laysCheck joinExtra.toX72 b w (h1.cell (i := 0) rfl) (by obtain ⟨fr, hg, _⟩ := h1; unfold World.shape?; rw [hg]; rfl) (h1.frozen 0 (by simp))).mono fun e w' ⟨he, hw⟩ => ⟨he, ?_⟩
   subst hw
   have h2 := blk_setCell h1 (i := 0) (v := pt b)
   exact h0.turn 0 h2.2 h2.1 (by simp)
 refine (Any.Builder_copyCheck_used laysCheck joinExtra.toX72 b w (h1.cell (i := 0) rfl)).mono fun e w' ⟨he, hw⟩ => ⟨he, ?_⟩
 subst hw
 exact h0

end Go.Proofs.Ytfhcpegemapbkaa
