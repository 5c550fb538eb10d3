import Derived.Test.YtdljjajjonfjbaaDoorShStore
set_option linter.unusedVariables false
set_option linter.unusedSimpArgs false
namespace Go.Proofs.Sx
open Go Go.RowKit
theorem rep_at {α:Type} {f : α->List Value} {x0 : α} {sz:Nat} (h:(f x0).length=sz) (h0 : 0 < sz) : ∀ (m k:Nat),k < m*sz->((List.replicate m x0).flatMap f)[k]? = (f x0)[k % sz]?
  | 0,k,hk=>by omega
  | m+1,k,hk=>by
    rw [List.replicate_succ,List.flatMap_cons]
    by_cases hl:k < sz
    · rw [List.getElem?_append_left (by omega),Nat.mod_eq_of_lt hl]
    · rw [List.getElem?_append_right (by omega),h,rep_at h h0 m (k - sz) (by rw [Nat.succ_mul] at hk; omega),← Nat.mod_eq_sub_mod (by omega)]
theorem made_flat {α:Type} {f : α->List Value} {x0 : α} {z:Value} {sz m:Nat} (E:Enc f sz) (hz:z.cells.toList=f x0) (h0 : 0 < sz):(madeCells z.cells (m*sz)).toList=(List.replicate m x0).flatMap f:=by
  have hs:z.cells.size=sz:=by rw [← Array.length_toList,hz,E.len]
  apply List.ext_getElem?
  intro k
  by_cases hk:k < m*sz
  · rw [rep_at (E.len x0) h0 m k hk,← hz]
    have:k % sz < z.cells.size:=by rw [hs]; exact Nat.mod_lt _ h0
    simp [madeCells,hk,hs,List.getElem?_eq_getElem,this]
    rw [getElem!_pos z.cells (k % sz) this]
    exact (Array.getElem?_eq_getElem this).symm
  · rw [List.getElem?_eq_none (by rw [Array.length_toList,size_madeCells]; omega),List.getElem?_eq_none (by rw [E.flen,List.length_replicate]; omega)]
section
variable {P:Program} {ops:Array Oper} {Q:Exit->Act->World->Prop} {n:Nat} {ds:List Deferred} {a:Act} {e:Env} {w:World} {K:Act->World->Prop} {i:Nat}
theorem mMG {α:Type} {f : α->List Value} {el sz bytes:Nat} (x0 : α) {z:Value} {L:OwL} {X:Nat->Prop} {w₀:World} {t:TypeId} {m:Nat} {d:Nat} {k k':IntKind} (E:Enc f sz)
    (hA:Holds n ds a e) (hO:Ow P X w₀ w L) (hb:bytes*m<=281474976710656) (hm:m<=maxLen) (h0 : 0 < sz)
    (hK : ∀ a' w' ad T,Holds n ds a' ((d,.slice (some ad) m m)::e)->Ow P X w₀ w' (L++T)->One f el sz (some ad) m (List.replicate m x0) T->K a' w')
    (he:makeAt ops e i=some (t,.int k (m:Int),.int k' (m:Int),some d):=by kernel_rfl) (hd:Nat.blt d n=true:=by kernel_rfl) (ht:P.underlying t=some (.slice el):=by kernel_rfl)
    (hi:(P.info? el).map (fun i=>(i.zero,i.size,i.bytes))=some (some z,sz,bytes):=by kernel_rfl) (hz1:z.cells.toList=f x0:=by rfl):wpOp P ops Q i K a w:=by
  obtain ⟨inf,hinf,hq⟩:=Option.map_eq_some_iff.1 hi
  simp only [Prod.mk.injEq] at hq
  obtain ⟨q1,q2,q3⟩:=hq
  have h63:(m:Int)<=9223372036854775807:=by simp only [maxLen] at hm; omega
  have hb':(inf.bytes:Int)*(m:Int)<=281474976710656:=by
    have h:((inf.bytes*m:Nat):Int)<=281474976710656:=by rw [q3]; omega
    rwa [Int.natCast_mul] at h
  have hr:=run_make (P:=P) w t el inf z ht hinf q1 k k' m m (by omega) (Int.le_refl _) hb' h63
  simp only [Int.toNat_natCast,q2] at hr
  unfold makeAt at he
  repeat' split at he
  all_goals try (cases he; done)
  rename_i o ho _ t' lo co hop _ lv hl _ cv hc
  simp only [Option.some.injEq,Prod.mk.injEq] at he
  obtain ⟨rfl,rfl,rfl,hdst⟩:=he
  refine wpOp_of hA ho ?_
  have hrun:(execOp a.eval o).run P w = .ok (.value (.slice (some ⟨w.heap.size,0,none⟩) m m)) (w.alloc (.cells (madeCells z.cells (m*sz)) el)):=by
    unfold execOp
    simp only [hop,hA.eval hl,hA.eval hc,Sem.run_bind,Sem.run_pure,Result.andThen_ok,run_program,hr]
  unfold Oper.wp
  rw [hrun]
  have hfl:=made_flat (m:=m) E hz1 h0
  refine hK _ _ ⟨w.heap.size,0,none⟩ [(w.heap.size,el,(List.replicate m x0).flatMap f++[])] ?_ ?_ (.inr ⟨_,[],rfl,by rw [List.length_replicate]; exact Nat.le_refl _,hm,by rw [List.append_nil,E.flen,List.length_replicate],rfl⟩)
  · rw [hdst]; exact hA.put _ (by simpa [Nat.blt_eq] using hd)
  · have h2:Ow P X w₀ (w.alloc (.cells (madeCells z.cells (m*sz)) el)) ((w.heap.size,el,(List.replicate m x0).flatMap f++[])::L):=by
      refine hO.add (only_push _) (.of0 ?_) (Nat.le_refl _)
      rw [List.append_nil,← hfl,Array.toArray_toList]
      exact heap_alloc_new w _
    refine (h2.m.perm ?_).o
    exact (List.perm_append_singleton _ L).symm
end
end Go.Proofs.Sx
