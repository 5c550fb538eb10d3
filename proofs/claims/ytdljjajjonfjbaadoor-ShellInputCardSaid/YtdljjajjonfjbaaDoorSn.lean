import Derived.Test.YtdljjajjonfjbaaDoorProg
import Derived.Test.YtdljjajjonfjbaaDoorSz
import Derived.Test.YtdljjajjonfjbaaDoorCmdBase
import Derived.Shelf.LaysM
import Derived.Shelf.Small.Strs
import Derived.Shelf.Strings.Prefix
import Derived.Test.YtdljjajjonfjbaaDoorSx
set_option linter.unusedVariables false
set_option linter.unusedSimpArgs false
set_option maxRecDepth 10000
namespace Go.Proofs.YtdljjajjonfjbaaDoor
open Go Go.Shelf Go.RowKit Go.Proofs Go.Proofs.Sx
def laysIndexByte_ren:Go.Shelf.Ren:=⟨fun | 137=>40 | 217=>54 | 266=>60 | n=>n,fun | 9=>9 | 5=>5 | 3=>3 | n=>n,fun n=>n⟩
theorem laysIndexByte:Lays.n137 Tryd.prog laysIndexByte_ren where
  mixed:=by kernel_rfl
  f137:=Tryd.func40.trans (congrArg some (by kernel_rfl))
  f217:=Tryd.func54.trans (congrArg some (by kernel_rfl))
  f266:=Tryd.func60.trans (congrArg some (by kernel_rfl))
  t3:=Tryd.underlying3
  a3:=Tryd.isAgg3
  z3:=Tryd.sizeOf3
  v3:=Tryd.zeroValue3
  t5:=Tryd.underlying5
  a5:=Tryd.isAgg5
  z5:=Tryd.sizeOf5
  v5:=Tryd.zeroValue5
  t9:=Tryd.underlying9
  a9:=Tryd.isAgg9
  z9:=Tryd.sizeOf9
  v9:=Tryd.zeroValue9
def laysHasPrefix_ren:Go.Shelf.Ren:=⟨fun | 99=>77 | 206=>82 | n=>n,fun | 9=>9 | 4=>4 | 3=>3 | n=>n,fun n=>n⟩
theorem laysHasPrefix:Lays.n99 Tryd.prog laysHasPrefix_ren where
  mixed:=by kernel_rfl
  f99:=Tryd.func77.trans (congrArg some (by kernel_rfl))
  f206:=Tryd.func82.trans (congrArg some (by kernel_rfl))
  t3:=Tryd.underlying3
  a3:=Tryd.isAgg3
  z3:=Tryd.sizeOf3
  v3:=Tryd.zeroValue3
  t4:=Tryd.underlying4
  a4:=Tryd.isAgg4
  z4:=Tryd.sizeOf4
  v4:=Tryd.zeroValue4
  t9:=Tryd.underlying9
  a9:=Tryd.isAgg9
  z9:=Tryd.sizeOf9
  v9:=Tryd.zeroValue9
theorem indexByte_any (s:ByteArray) (c:Int) (w:World):Calls Tryd.prog 40 #[.string s,.int .u8 c] w fun e w'=>e = .returned (.int .i64 (Lib.indexByte s.data.toList c.toNat.toUInt8))/\Only none' w w' :=
  (Any.strings_IndexByte laysIndexByte s c w).mono fun e w' ⟨he,hw⟩=>⟨he,by subst hw; exact Only.refl _ _⟩
theorem hasPrefix_any (s p:ByteArray) (w:World):Calls Tryd.prog 77 #[.string s,.string p] w fun e w'=>e = .returned (.bool (Lib.hasPrefix s.data.toList p.data.toList))/\Only none' w w' :=
  (Any.strings_HasPrefix laysHasPrefix s p w).mono fun e w' ⟨he,hw⟩=>⟨he,by subst hw; exact Only.refl _ _⟩
end Go.Proofs.YtdljjajjonfjbaaDoor
namespace Go.Proofs.Sx
open Go Go.RowKit
theorem get_in (e:Env) : ∀ l t v,t∈l->get e t=some v->get (restrict e l) t=some v
  | k::r,t,v,hm,h=>by
    by_cases hk:k=t
    · subst hk; simp only [restrict,h,get]; rw [Nat.beq_refl]; rfl
    · have hr:=get_in e r t v ((List.mem_cons.1 hm).resolve_left fun x=>hk x.symm) h
      simp only [restrict]
      cases get e k with
      | none=>exact hr
      | some u=>simp only [get]; rw [beq_false hk]; exact hr
theorem mem_fsts : ∀ (e:Env) t v,get e t=some v->t∈fsts e
  | (k,u)::r,t,v,h=>by
    by_cases hk:k=t
    · subst hk; exact List.mem_cons_self ..
    · simp only [get] at h; rw [beq_false hk] at h; exact List.mem_cons_of_mem _ (mem_fsts r t v h)
def full (e:Env):Env:=restrict e (fsts e)
theorem Holds.unf {n:Nat} {ds:List Deferred} {a:Act} {e:Env} (h:Holds n ds a (full e)):Holds n ds a e :=
  ⟨h.size,h.dfr,fun t v ht=>h.slot t v (get_in e _ t v (mem_fsts e t v ht) ht)⟩
section
variable {P:Program} {ops:Array Oper} {Q:Exit->Act->World->Prop} {n:Nat} {ds:List Deferred} {a:Act} {e:Env} {w:World} {K:Act->World->Prop} {i id:Nat} {y:Code} {S:World->Prop} {Cs:List Prop} {L:List Nat} {Lp:List (Nat×Bool)}
theorem Kb (m:Nat) (e1:Env) (hA:Holds n ds a e) (vs:List Value) (hC:conj Cs) (hK : ∀ a',Holds n ds a' (e1++e)->wpOps P ops Q (L.drop m) a' w)
    (hl:Nat.beq (opsAt ops (L.take m)).length (L.take m).length=true:=by kernel_rfl) (hev:evalQ P (Ld P w) n ops (fsts (e1++e)) (opsAt ops (L.take m)) e vs=some (full (e1++e),Cs):=by kernel_rfl):wpOps P ops Q L a w:=by
  have h:=chunk (P:=P) (Q:=Q) (r:=L.drop m) hA vs _ hl hev hC fun a' h=>hK a' h.unf
  rwa [List.take_append_drop] at h
theorem Ka (m:Nat) (e1:Env) (hA:Holds n ds a e) (hK : ∀ a',Holds n ds a' (e1++e)->wpOps P ops Q (L.drop m) a' w)
    (hl:Nat.beq (opsAt ops (L.take m)).length (L.take m).length=true:=by kernel_rfl) (hev:evalQ P (Ld P w) n ops (fsts (e1++e)) (opsAt ops (L.take m)) e []=some (full (e1++e),[]):=by kernel_rfl):wpOps P ops Q L a w:=Kb m e1 hA [] c0 hK hl hev
theorem Ke (m:Nat) (e1:Env) (hA:Holds n ds a e) (vs:List Value) (hC:conj Cs) (hK : ∀ a',Holds n ds a' (e1++e)->wpPlan P ops Q S (Lp.drop m) a' w)
    (hq:quietP ((Lp.take m).map (·.1))=Lp.take m:=by kernel_rfl) (hl:Nat.beq (opsAt ops ((Lp.take m).map (·.1))).length ((Lp.take m).map (·.1)).length=true:=by kernel_rfl) (hev:evalQ P (LdS P S) n ops (fsts (e1++e)) (opsAt ops ((Lp.take m).map (·.1))) e vs=some (full (e1++e),Cs):=by kernel_rfl):wpPlan P ops Q S Lp a w:=by
  have h:=chunkS (P:=P) (Q:=Q) (S:=S) (w:=w) (r:=Lp.drop m) hA vs _ hl hev hC fun a' h=>hK a' h.unf
  rwa [hq,List.take_append_drop] at h
theorem Kd (m:Nat) (e1:Env) (hA:Holds n ds a e) (hK : ∀ a',Holds n ds a' (e1++e)->wpPlan P ops Q S (Lp.drop m) a' w)
    (hq:quietP ((Lp.take m).map (·.1))=Lp.take m:=by kernel_rfl) (hl:Nat.beq (opsAt ops ((Lp.take m).map (·.1))).length ((Lp.take m).map (·.1)).length=true:=by kernel_rfl) (hev:evalQ P (LdS P S) n ops (fsts (e1++e)) (opsAt ops ((Lp.take m).map (·.1))) e []=some (full (e1++e),[]):=by kernel_rfl):wpPlan P ops Q S Lp a w:=Ke m e1 hA [] c0 hK hq hl hev
theorem Kt (l:List Nat) {r:PT} (e1:Env) (hA:Holds n ds a e) (vs:List Value) (hC:conj Cs) (hK : ∀ a',Holds n ds a' (e1++e)->wpTree P ops Q S r a' w)
    (hl:Nat.beq (opsAt ops l).length l.length=true:=by kernel_rfl) (hev:evalQ P (LdS P S) n ops (fsts (e1++e)) (opsAt ops l) e vs=some (full (e1++e),Cs):=by kernel_rfl):wpTree P ops Q S (quietT l r) a w :=
  wpTree_chain (K:=fun a'=>Holds n ds a' (full (e1++e))) (fun a' h=>hK a' h.unf) l a (Nat.eq_of_beq_eq_true hl) (evalQ_sound (S:=S) (L:=LdS P S) (fun ad t v h w' hw=>h w' hw) _ _ _ _ _ _ hA hev hC)
theorem Qc (e1:Env) (hA:Holds n ds a e) (vs:List Value) (hC:conj Cs) (hK : ∀ a',Holds n ds a' (e1++e)->K a' w) (hl:Nat.beq (opsAt ops [i]).length 1=true:=by kernel_rfl) (hev:evalQ P (Ld P w) n ops (fsts (e1++e)) (opsAt ops [i]) e vs=some (full (e1++e),Cs):=by kernel_rfl) :
    wpOp P ops Q i K a w:=m_quiet hA vs _ hl hev hC fun a' h=>hK a' h.unf
theorem Rc (e1:Env) (hA:Holds n ds a e) (vs:List Value) (hC:conj Cs) (hK : ∀ a',Holds n ds a' (e1++e)->Q .normal a' w)
    (hl:Nat.beq (opsAt ops (List.range ops.size)).length (List.range ops.size).length=true:=by kernel_rfl) (hev:evalQ P (Ld P w) n ops (fsts (e1++e)) (opsAt ops (List.range ops.size)) e vs=some (full (e1++e),Cs):=by kernel_rfl) :
    (Code.region id ops false).wp P Q a w:=by
  refine wp_region ?_
  have:=chunk (P:=P) (Q:=Q) (r:=[]) hA vs _ hl hev hC fun a' h=>hK a' h.unf
  simpa using this
theorem Sb (e1:Env) (hA:Holds n ds a e) (vs:List Value) (hC:conj Cs) (hK : ∀ a',Holds n ds a' (e1++e)->y.wp P Q a' w)
    (hl:Nat.beq (opsAt ops (List.range ops.size)).length (List.range ops.size).length=true:=by kernel_rfl) (hev:evalQ P (Ld P w) n ops (fsts (e1++e)) (opsAt ops (List.range ops.size)) e vs=some (full (e1++e),Cs):=by kernel_rfl) :
    (Code.seq (.region id ops false) y).wp P Q a w:=wp_seq (Rc e1 hA vs hC hK hl hev)
theorem Sa (e1:Env) (hA:Holds n ds a e) (hK : ∀ a',Holds n ds a' (e1++e)->y.wp P Q a' w)
    (hl:Nat.beq (opsAt ops (List.range ops.size)).length (List.range ops.size).length=true:=by kernel_rfl) (hev:evalQ P (Ld P w) n ops (fsts (e1++e)) (opsAt ops (List.range ops.size)) e []=some (full (e1++e),[]):=by kernel_rfl) :
    (Code.seq (.region id ops false) y).wp P Q a w:=Sb e1 hA [] c0 hK hl hev
theorem Holds.ss {e':Env} (h:Holds n ds a e) (he:restrict e (fsts e')=e':=by kernel_rfl):Holds n ds a e':=h.sub _ he
theorem Ow.tt {P:Program} {X:Nat->Prop} {w₀ w:World} {L L':OwL} (h:Ow P X w₀ w L) (e:L=L':=by first | rfl | simp only [List.append_assoc,List.cons_append,List.nil_append,List.append_nil]):Ow P X w₀ w L':=e ▸ h
section
variable {X:Nat->Prop} {w₀:World} {M:OwL} {r:List Nat}
theorem Ms (off:Nat) (vc:List Value) (j:Nat) (hA:Holds n ds a e) (hO:Ow P X w₀ w M) (hK : ∀ w',Ow P X w₀ w' (oS M j (setL (oC M j) off vc))->wpOps P ops Q r a w')
    (hs:storeAtE P ops e i=some (⟨oB M j,off,none⟩,vc,vc.length):=by kernel_rfl) (hone:vc.all (·.oneCell')=true:=by kernel_rfl) (hlen:Nat.ble (off+vc.length) (oC M j).length=true:=by kernel_rfl) (hj:Nat.blt j M.length=true:=by kernel_rfl) :
    wpOps P ops Q (i::r) a w:=wpOps_cons' (mS j hA hO hK hs hone hlen hj)
theorem Mn (l:List Value) (t:TypeId) (d:Nat) (hA:Holds n ds a e) (hO:Ow P X w₀ w M) (hK : ∀ a' w' b,Holds n ds a' ((d,pt b)::e)->Ow P X w₀ w' ((b,t,l)::M)->wpOps P ops Q r a' w')
    (hn : ∀ b,newAt P ops e i b=some (.cells l.toArray t (0,0),pt b,some d):=by intro b; kernel_rfl) (hd:Nat.blt d n=true:=by kernel_rfl):wpOps P ops Q (i::r) a w:=wpOps_cons' (mN hA hO hK hn hd)
theorem Mv (l:List Value) (t:TypeId) (k d:Nat) (hA:Holds n ds a e) (hO:Ow P X w₀ w M) (hK : ∀ a' w' b,Holds n ds a' ((d,.slice (some ⟨b,0,none⟩) k k)::e)->Ow P X w₀ w' ((b,t,l)::M)->wpOps P ops Q r a' w')
    (hn : ∀ b,newAt P ops e i b=some (.cells l.toArray t (0,0),.slice (some ⟨b,0,none⟩) k k,some d):=by intro b; kernel_rfl) (hd:Nat.blt d n=true:=by kernel_rfl):wpOps P ops Q (i::r) a w:=wpOps_cons' (mN (v:=fun b=> .slice (some ⟨b,0,none⟩) k k) hA hO hK hn hd)
theorem Mk (d:Nat) {f:FuncId} {args:List Value} {v:Value} {fn:Func} (hA:Holds n ds a e) (hO:Ow P X w₀ w M) (hf:P.funcs[f]? = some fn) (h:Calls P f args.toArray w fun en w'=>en = .returned v/\Only none' w w')
    (hK : ∀ a' w',Holds n ds a' ((d,v)::e)->Ow P X w₀ w' M->wpOps P ops Q r a' w') (hc:callAt ops e i=some (f,args,some d):=by kernel_rfl) (hd:ltO (some d) n=true:=by kernel_rfl) (hn:(fn.name == "runtime.NumGoroutine")=false:=by kernel_rfl) (hbd:fn.body.isNone=false:=by kernel_rfl):wpOps P ops Q (i::r) a w :=
  wpOps_cons' (mK (d:=some d) hA hO hf h hK hc hd hn hbd)
end
theorem Ow.pk {P:Program} {X:Nat->Prop} {w₀ w:World} {L:OwL} (h:Ow P X w₀ w L) (l:List Nat) (hn:noDup l=true:=by kernel_rfl) (hl:l.all (fun i=>Nat.blt i L.length)=true:=by kernel_rfl):Ow P X w₀ w (oPick L l):=h.sub l rfl hn hl
theorem resC_none (P:Program) (w:World) : ∀ us:List Value,resC P w (us.map fun _=>none) us
  | []=>trivial
  | _::r=>resC_none P w r
theorem cv {fn:Func} {R:Ending->World->Prop} (us:List Value) (hA:Holds n [] a e) (hR:R (.returned (pack us)) w) (hr:resE e fn.results.toList []=some (us.map (fun _=>none),us):=by kernel_rfl):bodyPost P fn R .ret a w:=c_ret hA [] hr (resC_none P w us) hR
theorem sr (k:Nat) (h:wpOps P ops (Exit.then (y.wp P Q) Q) (rg 0 k) a w) (hl:List.range ops.size=rg 0 k:=by kernel_rfl):(Code.seq (.region id ops false) y).wp P Q a w:=sR h hl
theorem rr (k:Nat) (h:wpOps P ops Q (rg 0 k) a w) (hl:List.range ops.size=rg 0 k:=by kernel_rfl):(Code.region id ops false).wp P Q a w:=rR h hl
end
end Go.Proofs.Sx
