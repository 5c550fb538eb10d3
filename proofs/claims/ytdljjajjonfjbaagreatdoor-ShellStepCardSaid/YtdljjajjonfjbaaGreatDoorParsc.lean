import Derived.Test.YtdljjajjonfjbaaGreatDoorProg
import Derived.Test.YtdljjajjonfjbaaGreatDoorCmdBase
import Derived.Shelf.LaysM
import Derived.Shelf.Small.Strs
import Derived.Shelf.Strings.Prefix
import Derived.Test.YtdljjajjonfjbaaGreatDoorChecked
set_option linter.unusedVariables false
set_option linter.unusedSimpArgs false
set_option maxRecDepth 10000
open Go.Value renaming slice->D
open Option renaming some->E,none->F
open Go.Proofs.Tryz renaming prog->jP
open Go.Ending renaming returned->jQ
open List renaming length_cons->jS,length_nil->jT,mem_cons_self->jX,not_mem_nil->jY,mem_cons_of_mem->kE
open ByteArray renaming size_extract->kH
namespace Go.Proofs.YtdljjajjonfjbaaGreatDoor
open Go Go.Shelf Go.RowKit Go.Proofs Go.Proofs.Sx
def Kh:Go.Shelf.Ren:=⟨fun | 137=>91 | 217=>110 | 266=>118 | n=>n,fun | 9=>9 | 5=>5 | 3=>3 | n=>n,fun n=>n⟩
theorem N0:Lays.n137 jP Kh where
 mixed:=by kernel_rfl
 f137:=Tryz.func91.trans (congrArg E (by kernel_rfl))
 f217:=Tryz.func110.trans (congrArg E (by kernel_rfl))
 f266:=Tryz.func118.trans (congrArg E (by kernel_rfl))
 t3:=Tryz.underlying3
 a3:=Tryz.isAgg3
 z3:=Tryz.sizeOf3
 v3:=Tryz.zeroValue3
 t5:=Tryz.underlying5
 a5:=Tryz.isAgg5
 z5:=Tryz.sizeOf5
 v5:=Tryz.zeroValue5
 t9:=Tryz.underlying9
 a9:=Tryz.isAgg9
 z9:=Tryz.sizeOf9
 v9:=Tryz.zeroValue9
def Ki:Go.Shelf.Ren:=⟨fun | 99=>136 | 206=>141 | n=>n,fun | 9=>9 | 4=>4 | 3=>3 | n=>n,fun n=>n⟩
theorem N1:Lays.n99 jP Ki where
 mixed:=by kernel_rfl
 f99:=Tryz.func136.trans (congrArg E (by kernel_rfl))
 f206:=Tryz.func141.trans (congrArg E (by kernel_rfl))
 t3:=Tryz.underlying3
 a3:=Tryz.isAgg3
 z3:=Tryz.sizeOf3
 v3:=Tryz.zeroValue3
 t4:=Tryz.underlying4
 a4:=Tryz.isAgg4
 z4:=Tryz.sizeOf4
 v4:=Tryz.zeroValue4
 t9:=Tryz.underlying9
 a9:=Tryz.isAgg9
 z9:=Tryz.sizeOf9
 v9:=Tryz.zeroValue9
theorem Cf (s:ByteArray) (c:Int) (w:World):Calls jP 91 #[.string s,.int .u8 c] w fun e w'=>e = .returned (.int .i64 (Lib.indexByte s.data.toList c.toNat.toUInt8))/\Only Ag w w' :=
 (Any.strings_IndexByte N0 s c w).mono fun e w' ⟨he,hw⟩=>⟨he,by subst hw; exact Only.refl _ _⟩
theorem Jf (s p:ByteArray) (w:World):Calls jP 136 #[.string s,.string p] w fun e w'=>e = .returned (.bool (Lib.hasPrefix s.data.toList p.data.toList))/\Only Ag w w' :=
 (Any.strings_HasPrefix N1 s p w).mono fun e w' ⟨he,hw⟩=>⟨he,by subst hw; exact Only.refl _ _⟩
end Go.Proofs.YtdljjajjonfjbaaGreatDoor
namespace Go.Proofs.Sx
open Go Go.RowKit
theorem Zv (e:Env) : ∀ l t v,t∈l->get e t=E v->get (B9 e l) t=E v
 | k::r,t,v,hm,h=>by
  by_cases hk:k=t
  · subst hk; simp only [B9,h,get]; rw [Nat.beq_refl]; rfl
  · have hr:=Zv e r t v ((List.mem_cons.1 hm).resolve_left fun x=>hk x.symm) h
    simp only [B9]
    cases get e k with
    | none=>exact hr
    | some u=>simp only [get]; rw [Gb hk]; exact hr
theorem Rd : ∀ (e:Env) t v,get e t=E v->t∈Ho e
 | (k,u)::r,t,v,h=>by
  by_cases hk:k=t
  · subst hk; exact jX ..
  · simp only [get] at h; rw [Gb hk] at h; exact kE _ (Rd r t v h)
def Nj (e:Env):Env:=B9 e (Ho e)
theorem Holds.unf {n:Nat} {ds:List Deferred} {a:Act} {e:Env} (h:Holds n ds a (Nj e)):Holds n ds a e :=
 ⟨h.size,h.dfr,fun t v ht=>h.slot t v (Zv e _ t v (Rd e t v ht) ht)⟩
section
variable {P:Program} {ops:Array Oper} {Q:Exit->Act->World->Prop} {n:Nat} {ds:List Deferred} {a:Act} {e:Env} {w:World} {K:Act->World->Prop} {i id:Nat} {y:Code} {S:World->Prop} {Cs:List Prop} {L:List Nat} {Lp:List (Nat×Bool)}
theorem Kb (m:Nat) (e1:Env) (V:Holds n ds a e) (vs:List Value) (hC:Ec Cs) (hK : ∀ a',Holds n ds a' (e1++e)->wpOps P ops Q (L.drop m) a' w)
 (hl:Nat.beq (Bd ops (L.take m)).length (L.take m).length=true:=by kernel_rfl) (hev:D2 P (Ld P w) n ops (Ho (e1++e)) (Bd ops (L.take m)) e vs=E (Nj (e1++e),Cs):=by kernel_rfl):wpOps P ops Q L a w:=by
 have h:=Vp (P:=P) (Q:=Q) (r:=L.drop m) V vs _ hl hev hC fun a' h=>hK a' h.unf
 rwa [List.take_append_drop] at h
theorem Ka (m:Nat) (e1:Env) (V:Holds n ds a e) (hK : ∀ a',Holds n ds a' (e1++e)->wpOps P ops Q (L.drop m) a' w)
 (hl:Nat.beq (Bd ops (L.take m)).length (L.take m).length=true:=by kernel_rfl) (hev:D2 P (Ld P w) n ops (Ho (e1++e)) (Bd ops (L.take m)) e []=E (Nj (e1++e),[]):=by kernel_rfl):wpOps P ops Q L a w:=Kb m e1 V [] c0 hK hl hev
theorem Ke (m:Nat) (e1:Env) (V:Holds n ds a e) (vs:List Value) (hC:Ec Cs) (hK : ∀ a',Holds n ds a' (e1++e)->Ci P ops Q S (Lp.drop m) a' w)
 (hq:M2 ((Lp.take m).map (·.1))=Lp.take m:=by kernel_rfl) (hl:Nat.beq (Bd ops ((Lp.take m).map (·.1))).length ((Lp.take m).map (·.1)).length=true:=by kernel_rfl) (hev:D2 P (LdS P S) n ops (Ho (e1++e)) (Bd ops ((Lp.take m).map (·.1))) e vs=E (Nj (e1++e),Cs):=by kernel_rfl):Ci P ops Q S Lp a w:=by
 have h:=jC (P:=P) (Q:=Q) (S:=S) (w:=w) (r:=Lp.drop m) V vs _ hl hev hC fun a' h=>hK a' h.unf
 rwa [hq,List.take_append_drop] at h
theorem Kd (m:Nat) (e1:Env) (V:Holds n ds a e) (hK : ∀ a',Holds n ds a' (e1++e)->Ci P ops Q S (Lp.drop m) a' w)
 (hq:M2 ((Lp.take m).map (·.1))=Lp.take m:=by kernel_rfl) (hl:Nat.beq (Bd ops ((Lp.take m).map (·.1))).length ((Lp.take m).map (·.1)).length=true:=by kernel_rfl) (hev:D2 P (LdS P S) n ops (Ho (e1++e)) (Bd ops ((Lp.take m).map (·.1))) e []=E (Nj (e1++e),[]):=by kernel_rfl):Ci P ops Q S Lp a w:=Ke m e1 V [] c0 hK hq hl hev
theorem Kt (l:List Nat) {r:PT} (e1:Env) (V:Holds n ds a e) (vs:List Value) (hC:Ec Cs) (hK : ∀ a',Holds n ds a' (e1++e)->Cn P ops Q S r a' w)
 (hl:Nat.beq (Bd ops l).length l.length=true:=by kernel_rfl) (hev:D2 P (LdS P S) n ops (Ho (e1++e)) (Bd ops l) e vs=E (Nj (e1++e),Cs):=by kernel_rfl):Cn P ops Q S (Sr l r) a w :=
 Jx (K:=fun a'=>Holds n ds a' (Nj (e1++e))) (fun a' h=>hK a' h.unf) l a (Nat.eq_of_beq_eq_true hl) (C4 (S:=S) (L:=LdS P S) (fun ad t v h w' hw=>h w' hw) _ _ _ _ _ _ V hev hC)
theorem Qc (e1:Env) (V:Holds n ds a e) (vs:List Value) (hC:Ec Cs) (hK : ∀ a',Holds n ds a' (e1++e)->K a' w) (hl:Nat.beq (Bd ops [i]).length 1=true:=by kernel_rfl) (hev:D2 P (Ld P w) n ops (Ho (e1++e)) (Bd ops [i]) e vs=some (Nj (e1++e),Cs):=by kernel_rfl) :
 wpOp P ops Q i K a w:=cO V vs _ hl hev hC fun a' h=>hK a' h.unf
theorem Rc (e1:Env) (V:Holds n ds a e) (vs:List Value) (hC:Ec Cs) (hK : ∀ a',Holds n ds a' (e1++e)->Q .normal a' w)
 (hl:Nat.beq (Bd ops (List.range ops.size)).length (List.range ops.size).length=true:=by kernel_rfl) (hev:D2 P (Ld P w) n ops (Ho (e1++e)) (Bd ops (List.range ops.size)) e vs=E (Nj (e1++e),Cs):=by kernel_rfl) :
 (Code.region id ops false).wp P Q a w:=by
 refine wp_region ?_
 have:=Vp (P:=P) (Q:=Q) (r:=[]) V vs _ hl hev hC fun a' h=>hK a' h.unf
 simpa using this
theorem Sb (e1:Env) (V:Holds n ds a e) (vs:List Value) (hC:Ec Cs) (hK : ∀ a',Holds n ds a' (e1++e)->y.wp P Q a' w)
 (hl:Nat.beq (Bd ops (List.range ops.size)).length (List.range ops.size).length=true:=by kernel_rfl) (hev:D2 P (Ld P w) n ops (Ho (e1++e)) (Bd ops (List.range ops.size)) e vs=E (Nj (e1++e),Cs):=by kernel_rfl) :
 (Code.seq (.region id ops false) y).wp P Q a w:=wp_seq (Rc e1 V vs hC hK hl hev)
theorem Sa (e1:Env) (V:Holds n ds a e) (hK : ∀ a',Holds n ds a' (e1++e)->y.wp P Q a' w)
 (hl:Nat.beq (Bd ops (List.range ops.size)).length (List.range ops.size).length=true:=by kernel_rfl) (hev:D2 P (Ld P w) n ops (Ho (e1++e)) (Bd ops (List.range ops.size)) e []=E (Nj (e1++e),[]):=by kernel_rfl) :
 (Code.seq (.region id ops false) y).wp P Q a w:=Sb e1 V [] c0 hK hl hev
theorem Holds.ss {e':Env} (h:Holds n ds a e) (he:B9 e (Ho e')=e':=by kernel_rfl):Holds n ds a e':=h.sub _ he
theorem Ow.tt {P:Program} {X:Nat->Prop} {w₀ w:World} {L L':OwL} (h:Ow P X w₀ w L) (e:L=L':=by first | rfl | (simp +zetaDelta only [List.append_assoc,List.cons_append,List.nil_append,List.append_nil] <;> rfl)):Ow P X w₀ w L':=e ▸ h
section
variable {X:Nat->Prop} {w₀:World} {M:OwL} {r:List Nat}
theorem Ms (off:Nat) (vc:List Value) (j:Nat) (V:Holds n ds a e) (O:Ow P X w₀ w M) (hK : ∀ w',Ow P X w₀ w' (oS M j (D5 (oC M j) off vc))->wpOps P ops Q r a w')
 (hs:Hd P ops e i=E (⟨oB M j,off,F⟩,vc,vc.length):=by kernel_rfl) (hone:vc.all (·.oneCell')=true:=by kernel_rfl) (hlen:Nat.ble (off+vc.length) (oC M j).length=true:=by kernel_rfl) (hj:Nat.blt j M.length=true:=by kernel_rfl) :
 wpOps P ops Q (i::r) a w:=Ae (mS j V O hK hs hone hlen hj)
theorem Mn (l:List Value) (t:TypeId) (d:Nat) (V:Holds n ds a e) (O:Ow P X w₀ w M) (hK : ∀ a' w' b,Holds n ds a' ((d,pt b)::e)->Ow P X w₀ w' ((b,t,l)::M)->wpOps P ops Q r a' w')
 (hn : ∀ b,Q8 P ops e i b=E (.cells l.toArray t (0,0),pt b,E d):=by intro b; kernel_rfl) (hd:Nat.blt d n=true:=by kernel_rfl):wpOps P ops Q (i::r) a w:=Ae (mN V O hK hn hd)
theorem Mv (l:List Value) (t:TypeId) (k d:Nat) (V:Holds n ds a e) (O:Ow P X w₀ w M) (hK : ∀ a' w' b,Holds n ds a' ((d,D (E ⟨b,0,F⟩) k k)::e)->Ow P X w₀ w' ((b,t,l)::M)->wpOps P ops Q r a' w')
 (hn : ∀ b,Q8 P ops e i b=E (.cells l.toArray t (0,0),D (E ⟨b,0,F⟩) k k,E d):=by intro b; kernel_rfl) (hd:Nat.blt d n=true:=by kernel_rfl):wpOps P ops Q (i::r) a w:=Ae (mN (v:=fun b=> D (E ⟨b,0,F⟩) k k) V O hK hn hd)
theorem Mk (d:Nat) {f:FuncId} {args:List Value} {v:Value} {fn:Func} (V:Holds n ds a e) (O:Ow P X w₀ w M) (hf:P.funcs[f]? = E fn) (h:Calls P f args.toArray w fun en w'=>en = .returned v/\Only Ag w w')
 (hK : ∀ a' w',Holds n ds a' ((d,v)::e)->Ow P X w₀ w' M->wpOps P ops Q r a' w') (hc:Ht ops e i=E (f,args,E d):=by kernel_rfl) (hd:ltO (E d) n=true:=by kernel_rfl) (hn:(fn.name == "runtime.NumGoroutine")=false:=by kernel_rfl) (hbd:fn.body.isNone=false:=by kernel_rfl):wpOps P ops Q (i::r) a w :=
 Ae (mK (d:=E d) V O hf h hK hc hd hn hbd)
theorem Ow.cn {l z:OwL} {x:Nat×TypeId×List Value} {w:World} (h:Ow P X w₀ w (x::(l++z))):Ow P X w₀ w ((x::l)++z):=h
theorem Ow.j0 {l T:OwL} {w w':World} (h:Ow P X w₀ w l) (h':Ow P Ag w w' T):Ow P X w₀ w' (l++(T++[])):=(h.join h').tt
theorem Ow.j1 {l T A:OwL} {w w':World} (h:Ow P X w₀ w (l++(A++[]))) (h':Ow P Ag w w' T):Ow P X w₀ w' (l++(A++(T++[]))):=(h.join h').tt
theorem Ow.j2 {l T A B:OwL} {w w':World} (h:Ow P X w₀ w (l++(A++(B++[])))) (h':Ow P Ag w w' T):Ow P X w₀ w' (l++(A++(B++(T++[])))):=(h.join h').tt
theorem Ow.j3 {l T A B C:OwL} {w w':World} (h:Ow P X w₀ w (l++(A++(B++(C++[]))))) (h':Ow P Ag w w' T):Ow P X w₀ w' (l++(A++(B++(C++(T++[]))))):=(h.join h').tt
end
theorem dC (p:Prop) [Decidable p]:decide p=true/\p\/decide p=false/\¬p:=by by_cases h:p; exact .inl ⟨jN h,h⟩; exact .inr ⟨jO h,h⟩
theorem bC {α:Type} [BEq α] [LawfulBEq α] (a b : α):(a == b)=true/\a=b\/(a == b)=false/\a≠b:=by
 cases h:a == b; exact .inr ⟨rfl,ne_of_beq_false h⟩; exact .inl ⟨rfl,eq_of_beq h⟩
theorem rB {a b:Bool} (h:a=b):jQ (.bool a) = .returned (.bool b):=h ▸ rfl
theorem oo {p:Prop} (h:p:=by omega):p:=h
theorem kR {p:Prop} (h:p:=by kernel_rfl):p:=h
theorem aM {p:Prop} (h:p:=by assumption):p:=h
theorem dD {p:Prop} (h:p:=by decide):p:=h
theorem tm {S:World->Prop} {i:Nat} {r:PT} {a:Act} {w:World} {ops:Array Oper} {P:Program} {Q:Exit->Act->World->Prop} (h:wpOp P ops Q i (fun a' w'=>S w'/\Cn P ops Q S r a' w') a w):Cn P ops Q S (.m i r .non) a w:=⟨h,trivial⟩
abbrev mm:List Nat->PT
 | []=> .fin
 | i::l=> .m i (mm l) .non
theorem Ow.pk {P:Program} {X:Nat->Prop} {w₀ w:World} {L:OwL} (h:Ow P X w₀ w L) (l:List Nat) (hn:Q6 l=true:=by kernel_rfl) (hl:l.all (fun i=>Nat.blt i L.length)=true:=by kernel_rfl):Ow P X w₀ w (Lo L l):=h.sub l rfl hn hl
theorem Oc (P:Program) (w:World) : ∀ us:List Value,Qr P w (us.map fun _=>F) us
 | []=>trivial
 | _::r=>Oc P w r
theorem cv {fn:Func} {R:Ending->World->Prop} (us:List Value) (V:Holds n [] a e) (hR:R (.returned (Pn us)) w) (hr:L2 e fn.results.toList []=some (us.map (fun _=>none),us):=by kernel_rfl):bodyPost P fn R .ret a w:=bB V [] hr (Oc P w us) hR
theorem sr (k:Nat) (h:wpOps P ops (Exit.then (y.wp P Q) Q) (rg 0 k) a w) (hl:List.range ops.size=rg 0 k:=by kernel_rfl):(Code.seq (.region id ops false) y).wp P Q a w:=sR h hl
theorem rr (k:Nat) (h:wpOps P ops Q (rg 0 k) a w) (hl:List.range ops.size=rg 0 k:=by kernel_rfl):(Code.region id ops false).wp P Q a w:=rR h hl
end
end Go.Proofs.Sx
namespace Go.Proofs.YtdljjajjonfjbaaGreatDoor
open Go Go.Shelf Go.RowKit Go.Proofs Go.Proofs.Sx
def ixI (c:Int):Int:=if c=46 then 0 else if c=45 then 1 else if c=95 then 2 else if c=47 then 3 else -1
theorem Be (c:Int):ixI c ≥ 0↔c=46\/c=45\/c=95\/c=47:=by unfold ixI; (repeat' split) <;> omega
theorem L9 {c:Int} (h0 : 0<=c) (h1:c<=255):Lib.indexByte [46,45,95,47] c.toNat.toUInt8=ixI c:=by
 obtain ⟨k,rfl⟩:=Int.eq_ofNat_of_zero_le h0;have h2:k < 256:=oo
 have : ∀ k:Fin 256,Lib.indexByte [46,45,95,47] (((k.val:Nat):Int).toNat.toUInt8)=ixI ((k.val:Nat):Int):=by decide +kernel
 exact this ⟨k,h2⟩
theorem H3 (c:Int) (w:World) (lo : 0<=c) (hi:c<=255) :
 Calls jP 88 #[u8 c] w fun e w'=>e = .returned (.bool (A2 c))/\Only Ag w w':=by
 refine Ak (args:=[u8 c]) (m:=32) (n:=33) Tryz.func88 rfl kR kR fun J V=>?_;have O:=Ow.nil jP Ag w;refine Sa [(2,I false)] V fun J V=>sr 31 (Ka 3 [(4,I (decide (c ≥ 97))),(5,I (decide (c ≥ 97)))] V fun J V=>?_);rcases dC (c ≥ 97) with ⟨h1,h1p⟩|⟨h1,h1p⟩
 · rw [h1] at V;refine Ka 4 [(7,I (decide (c<=122))),(8,I (decide (c<=122))),(9,I (decide (c<=122)))] V fun J V=>?_;rcases dC (c<=122) with ⟨h2,h2p⟩|⟨h2,h2p⟩
   · rw [h2] at V;exact Ka 24 [(2,I true)] V fun J V=>Ab (Aa (wp_ret (cv [I true] V (⟨rB (by have hx_:=Be c; unfold A2; exact (jN oo).symm),O.only⟩))))
   rw [h2] at V;refine Ka 3 [(9,I false),(11,I (decide (c ≥ 48))),(12,I (decide (c ≥ 48)))] V fun J V=>?_;rcases dC (c ≥ 48) with ⟨h3,h3p⟩|⟨h3,h3p⟩
   · rw [h3] at V;refine Ka 5 [(14,I (decide (c<=57))),(15,I (decide (c<=57))),(16,I (decide (c<=57))),(17,I (decide (c<=57)))] V fun J V=>?_;rcases dC (c<=57) with ⟨h4,h4p⟩|⟨h4,h4p⟩
     · rw [h4] at V;exact Ka 16 [(2,I true)] V fun J V=>Ab (Aa (wp_ret (cv [I true] V (⟨rB (by have hx_:=Be c; unfold A2; exact (jN oo).symm),O.only⟩))))
     rw [h4] at V;refine Ka 4 [(19,I (c == 46)),(20,I (c == 46)),(21,I (c == 46))] V fun J V=>?_;rcases bC c 46 with ⟨h5,h5p⟩|⟨h5,h5p⟩
     · rw [h5] at V;exact Ka 12 [(2,I true)] V fun J V=>Ab (Aa (wp_ret (cv [I true] V (⟨rB (by have hx_:=Be c; unfold A2; exact (jN oo).symm),O.only⟩))))
     rw [h5] at V;refine Ka 4 [(23,I (c == 45)),(24,I (c == 45)),(25,I (c == 45))] V fun J V=>?_;rcases bC c 45 with ⟨h6,h6p⟩|⟨h6,h6p⟩
     · rw [h6] at V;exact Ka 8 [(2,I true)] V fun J V=>Ab (Aa (wp_ret (cv [I true] V (⟨rB (by have hx_:=Be c; unfold A2; exact (jN oo).symm),O.only⟩))))
     rw [h6] at V;refine Ka 4 [(27,I (c == 95)),(28,I (c == 95)),(29,I (c == 95))] V fun J V=>?_;rcases bC c 95 with ⟨h7,h7p⟩|⟨h7,h7p⟩
     · rw [h7] at V;exact Ka 4 [(2,I true)] V fun J V=>Ab (Aa (wp_ret (cv [I true] V (⟨rB (by have hx_:=Be c; unfold A2; exact (jN oo).symm),O.only⟩))))
     rw [h7] at V;exact Ka 4 [(2,I (c == 47))] V fun J V=>Ab (Aa (wp_ret (cv [I (c == 47)] V (⟨rB (by have hx_:=Be c; unfold A2; exact decide_eq_decide.2 oo),O.only⟩))))
   rw [h3] at V;refine Ka 9 [(19,I (c == 46)),(20,I (c == 46)),(21,I (c == 46))] V fun J V=>?_;rcases bC c 46 with ⟨h8,h8p⟩|⟨h8,h8p⟩
   · rw [h8] at V;exact Ka 12 [(2,I true)] V fun J V=>Ab (Aa (wp_ret (cv [I true] V (⟨rB (by have hx_:=Be c; unfold A2; exact (jN oo).symm),O.only⟩))))
   rw [h8] at V;refine Ka 4 [(23,I (c == 45)),(24,I (c == 45)),(25,I (c == 45))] V fun J V=>?_;rcases bC c 45 with ⟨h9,h9p⟩|⟨h9,h9p⟩
   · rw [h9] at V;exact Ka 8 [(2,I true)] V fun J V=>Ab (Aa (wp_ret (cv [I true] V (⟨rB (by have hx_:=Be c; unfold A2; exact (jN oo).symm),O.only⟩))))
   rw [h9] at V;refine Ka 4 [(27,I (c == 95)),(28,I (c == 95)),(29,I (c == 95))] V fun J V=>?_;rcases bC c 95 with ⟨h10,h10p⟩|⟨h10,h10p⟩
   · rw [h10] at V;exact Ka 4 [(2,I true)] V fun J V=>Ab (Aa (wp_ret (cv [I true] V (⟨rB (by have hx_:=Be c; unfold A2; exact (jN oo).symm),O.only⟩))))
   rw [h10] at V;exact Ka 4 [(2,I (c == 47))] V fun J V=>Ab (Aa (wp_ret (cv [I (c == 47)] V (⟨rB (by have hx_:=Be c; unfold A2; exact decide_eq_decide.2 oo),O.only⟩))))
 rw [h1] at V;refine Ka 7 [(9,I false),(11,I (decide (c ≥ 48))),(12,I (decide (c ≥ 48)))] V fun J V=>?_;rcases dC (c ≥ 48) with ⟨h11,h11p⟩|⟨h11,h11p⟩
 · rw [h11] at V;refine Ka 5 [(14,I (decide (c<=57))),(15,I (decide (c<=57))),(16,I (decide (c<=57))),(17,I (decide (c<=57)))] V fun J V=>?_;rcases dC (c<=57) with ⟨h12,h12p⟩|⟨h12,h12p⟩
   · rw [h12] at V;exact Ka 16 [(2,I true)] V fun J V=>Ab (Aa (wp_ret (cv [I true] V (⟨rB (by have hx_:=Be c; unfold A2; exact (jN oo).symm),O.only⟩))))
   rw [h12] at V;refine Ka 4 [(19,I (c == 46)),(20,I (c == 46)),(21,I (c == 46))] V fun J V=>?_;rcases bC c 46 with ⟨h13,h13p⟩|⟨h13,h13p⟩
   · rw [h13] at V;exact Ka 12 [(2,I true)] V fun J V=>Ab (Aa (wp_ret (cv [I true] V (⟨rB (by have hx_:=Be c; unfold A2; exact (jN oo).symm),O.only⟩))))
   rw [h13] at V;refine Ka 4 [(23,I (c == 45)),(24,I (c == 45)),(25,I (c == 45))] V fun J V=>?_;rcases bC c 45 with ⟨h14,h14p⟩|⟨h14,h14p⟩
   · rw [h14] at V;exact Ka 8 [(2,I true)] V fun J V=>Ab (Aa (wp_ret (cv [I true] V (⟨rB (by have hx_:=Be c; unfold A2; exact (jN oo).symm),O.only⟩))))
   rw [h14] at V;refine Ka 4 [(27,I (c == 95)),(28,I (c == 95)),(29,I (c == 95))] V fun J V=>?_;rcases bC c 95 with ⟨h15,h15p⟩|⟨h15,h15p⟩
   · rw [h15] at V;exact Ka 4 [(2,I true)] V fun J V=>Ab (Aa (wp_ret (cv [I true] V (⟨rB (by have hx_:=Be c; unfold A2; exact (jN oo).symm),O.only⟩))))
   rw [h15] at V;exact Ka 4 [(2,I (c == 47))] V fun J V=>Ab (Aa (wp_ret (cv [I (c == 47)] V (⟨rB (by have hx_:=Be c; unfold A2; exact decide_eq_decide.2 oo),O.only⟩))))
 rw [h11] at V;refine Ka 9 [(19,I (c == 46)),(20,I (c == 46)),(21,I (c == 46))] V fun J V=>?_;rcases bC c 46 with ⟨h16,h16p⟩|⟨h16,h16p⟩
 · rw [h16] at V;exact Ka 12 [(2,I true)] V fun J V=>Ab (Aa (wp_ret (cv [I true] V (⟨rB (by have hx_:=Be c; unfold A2; exact (jN oo).symm),O.only⟩))))
 rw [h16] at V;refine Ka 4 [(23,I (c == 45)),(24,I (c == 45)),(25,I (c == 45))] V fun J V=>?_;rcases bC c 45 with ⟨h17,h17p⟩|⟨h17,h17p⟩
 · rw [h17] at V;exact Ka 8 [(2,I true)] V fun J V=>Ab (Aa (wp_ret (cv [I true] V (⟨rB (by have hx_:=Be c; unfold A2; exact (jN oo).symm),O.only⟩))))
 rw [h17] at V;refine Ka 4 [(27,I (c == 95)),(28,I (c == 95)),(29,I (c == 95))] V fun J V=>?_;rcases bC c 95 with ⟨h18,h18p⟩|⟨h18,h18p⟩
 · rw [h18] at V;exact Ka 4 [(2,I true)] V fun J V=>Ab (Aa (wp_ret (cv [I true] V (⟨rB (by have hx_:=Be c; unfold A2; exact (jN oo).symm),O.only⟩))))
 rw [h18] at V;exact Ka 4 [(2,I (c == 47))] V fun J V=>Ab (Aa (wp_ret (cv [I (c == 47)] V (⟨rB (by have hx_:=Be c; unfold A2; exact decide_eq_decide.2 oo),O.only⟩))))
theorem Hj (c:Int) (w:World) (lo : 0<=c) (hi:c<=255) :
 Calls jP 115 #[u8 c] w fun e w'=>e = .returned (.bool (A2 c))/\Only Ag w w':=by
 let a:=[(2,I (decide ((ixI c) ≥ 0)))];let b:=[I (decide ((ixI c) ≥ 0))];let d:=[(17,I false),(18,u8 c)];refine Ak (args:=[u8 c]) (m:=21) (n:=22) Tryz.func115 rfl kR kR fun J V=>?_;have O:=Ow.nil jP Ag w;refine Sa [(2,I false)] V fun J V=>sr 20 (Ka 3 [(4,I (decide (c ≥ 97))),(5,I (decide (c ≥ 97)))] V fun J V=>?_);rcases dC (c ≥ 97) with ⟨h1,h1p⟩|⟨h1,h1p⟩
 · rw [h1] at V;refine Ka 4 [(7,I (decide (c<=122))),(8,I (decide (c<=122))),(9,I (decide (c<=122)))] V fun J V=>?_;rcases dC (c<=122) with ⟨h2,h2p⟩|⟨h2,h2p⟩
   · rw [h2] at V;exact Ka 13 [(2,I true)] V fun J V=>Ab (Aa (wp_ret (cv [I true] V (⟨rB (by have hx_:=Be c; unfold A2; exact (jN oo).symm),O.only⟩))))
   rw [h2] at V;refine Ka 3 [(9,I false),(11,I (decide (c ≥ 48))),(12,I (decide (c ≥ 48)))] V fun J V=>?_;rcases dC (c ≥ 48) with ⟨h3,h3p⟩|⟨h3,h3p⟩
   · rw [h3] at V;refine Ka 5 [(14,I (decide (c<=57))),(15,I (decide (c<=57))),(16,I (decide (c<=57))),(17,I (decide (c<=57)))] V fun J V=>?_;rcases dC (c<=57) with ⟨h4,h4p⟩|⟨h4,h4p⟩
     · rw [h4] at V;exact Ka 5 [(2,I true)] V fun J V=>Ab (Aa (wp_ret (cv [I true] V (⟨rB (by have hx_:=Be c; unfold A2; exact (jN oo).symm),O.only⟩))))
     rw [h4] at V;exact Ka 1 d V fun J V=>Mk 19 V O Tryz.func91 (rs (Cf (⟨#[46,45,95,47]⟩) c _) (congrArg (Value.int .i64) (L9 lo hi))) fun J w1 V O=>Ka 3 a V fun J V=>Ab (Aa (wp_ret (cv b V (⟨rB (by have hx_:=Be c; unfold A2; exact decide_eq_decide.2 oo),O.only⟩))))
   rw [h3] at V;exact Ka 6 d V fun J V=>Mk 19 V O Tryz.func91 (rs (Cf (⟨#[46,45,95,47]⟩) c _) (congrArg (Value.int .i64) (L9 lo hi))) fun J w2 V O=>Ka 3 a V fun J V=>Ab (Aa (wp_ret (cv b V (⟨rB (by have hx_:=Be c; unfold A2; exact decide_eq_decide.2 oo),O.only⟩))))
 rw [h1] at V;refine Ka 7 [(9,I false),(11,I (decide (c ≥ 48))),(12,I (decide (c ≥ 48)))] V fun J V=>?_;rcases dC (c ≥ 48) with ⟨h5,h5p⟩|⟨h5,h5p⟩
 · rw [h5] at V;refine Ka 5 [(14,I (decide (c<=57))),(15,I (decide (c<=57))),(16,I (decide (c<=57))),(17,I (decide (c<=57)))] V fun J V=>?_;rcases dC (c<=57) with ⟨h6,h6p⟩|⟨h6,h6p⟩
   · rw [h6] at V;exact Ka 5 [(2,I true)] V fun J V=>Ab (Aa (wp_ret (cv [I true] V (⟨rB (by have hx_:=Be c; unfold A2; exact (jN oo).symm),O.only⟩))))
   rw [h6] at V;exact Ka 1 d V fun J V=>Mk 19 V O Tryz.func91 (rs (Cf (⟨#[46,45,95,47]⟩) c _) (congrArg (Value.int .i64) (L9 lo hi))) fun J w3 V O=>Ka 3 a V fun J V=>Ab (Aa (wp_ret (cv b V (⟨rB (by have hx_:=Be c; unfold A2; exact decide_eq_decide.2 oo),O.only⟩))))
 rw [h5] at V;exact Ka 6 d V fun J V=>Mk 19 V O Tryz.func91 (rs (Cf (⟨#[46,45,95,47]⟩) c _) (congrArg (Value.int .i64) (L9 lo hi))) fun J w4 V O=>Ka 3 a V fun J V=>Ab (Aa (wp_ret (cv b V (⟨rB (by have hx_:=Be c; unfold A2; exact decide_eq_decide.2 oo),O.only⟩))))
theorem Gr (sv:ByteArray) (w:World) (hl:sv.size<=1000000) :
 Calls jP 104 #[Y sv] w fun e w'=>e = .returned (.bool (Az sv))/\Only Ag w w':=by
 refine Ak (args:=[Y sv]) (m:=21) (n:=22) Tryz.func104 rfl kR kR fun J V=>?_;have O:=Ow.nil jP Ag w;refine Sa [(2,I false)] V fun J V=>wp_seq (Sa [(5,Z ((sv.size:Nat):Int)),(6,Z 0)] V fun J V=>wp_block (Ay (fun mm J W=>∃ (i:Nat),mm=sv.size - i/\Holds 22 [] J [(0,Y sv),(2,I false),(5,Z ((sv.size:Nat):Int)),(6,Z ((i:Nat):Int))]/\Ow jP Ag w W []/\i<=sv.size/\okW sv i=true/\True) ?_ ?_))
 · exact ⟨_,0,rfl,V.ss,O.to,oo,rfl,trivial⟩
 rintro _ J w1 ⟨i,rfl,V,O,hi,ho,-⟩;have hsb:=Kw sv i;refine Sa [(7,I (decide (((i:Nat):Int) < ((sv.size:Nat):Int))))] V fun J V=>wp_seq ?_;rcases dC (((i:Nat):Int) < ((sv.size:Nat):Int)) with ⟨h1,h1p⟩|⟨h1,h1p⟩
 · rw [h1] at V;refine cT V (wp_skip (Aa (wp_seq (wp_block (Sa [(3,Z ((i:Nat):Int))] V fun J V=>sr 5 (Kb 3 [(11,u8 (sb sv i))] V [] (cc (oo:(0:Int)<=((i:Nat):Int)/\((i:Nat):Int) < ((sv.size:Nat):Int)) c0) fun J V=>Mk 12 V O Tryz.func115 (Hj (sb sv i) _ oo oo) fun J w2 V O=>Ka 1 [(13,I (!(A2 (sb sv i))))] V fun J V=>Ab (Aa ?_)))))));rcases jK (A2 (sb sv i)) with h2 | h2
   · rw [h2] at V;exact cF V (wp_skip (Af (Aa (Rc [(6,Z (((i:Nat):Int)+1))] V [I true] (cc ((An oo oo):inK .i64 (((i:Nat):Int)+1)) c0) fun J V=>Aa (⟨_,oo,i+1,rfl,V.ss,O.to,oo,(by simp only [okW,ho,Bool.true_and]; assumption),trivial⟩)))))
   rw [h2] at V;exact cT V (Sa [] V fun J V=>wp_ret (Ad (Ac (Ac (Ad (Ac (cv [I false] V (⟨rB (Zt aM oo).symm,O.only⟩))))))));all_goals (have ei:i=sv.size:=oo)
   all_goals (rw [ei] at ho)
   all_goals (refine ⟨rB ?_,hF⟩)
   all_goals (rw [Gs ho])
   all_goals (have hem:=Aw sv)
   all_goals (by_cases hz:sv.size=0)
   all_goals (rw [jO hz] at hem)
   all_goals ((exfalso; simp_all; done))
 rw [h1] at V;refine cF V (wp_exit (Ai (Ai (Aj (Aa (sr 8 (Ka 3 [(16,I (!(sv.toList == (⟨#[]⟩:ByteArray).toList))),(17,I (!(sv.toList == (⟨#[]⟩:ByteArray).toList)))] V fun J V=>?_)))))));rcases jK (sv.toList == (⟨#[]⟩:ByteArray).toList) with h3 | h3
 · rw [h3] at V;refine Ka 5 [] V fun J V=>Ab (Aa (wp_ret (cv [I false] V ?_)));have hF:=O.only; clear V O;skip
   all_goals (have ei:i=sv.size:=oo)
   all_goals (rw [ei] at ho)
   all_goals (refine ⟨rB ?_,hF⟩)
   all_goals (rw [Gs ho])
   all_goals (have hem:=Aw sv)
   all_goals (by_cases hz:sv.size=0)
   all_goals (first | rw [jN hz] at hem | rw [jO hz] at hem)
   all_goals (first | (exfalso; simp_all; done) | exact (jN oo).symm | exact (jO oo).symm | exact decide_eq_decide.2 oo)
 rw [h3] at V;refine Ka 5 [(2,I (decide (((sv.size:Nat):Int)<=60)))] V fun J V=>Ab (Aa (wp_ret (cv [I (decide (((sv.size:Nat):Int)<=60))] V ?_)));have hF:=O.only; clear V O;skip
 all_goals (have ei:i=sv.size:=oo)
 all_goals (rw [ei] at ho)
 all_goals (refine ⟨rB ?_,hF⟩)
 all_goals (rw [Gs ho])
 all_goals (have hem:=Aw sv)
 all_goals (by_cases hz:sv.size=0)
 all_goals (first | rw [jN hz] at hem | rw [jO hz] at hem)
 all_goals (first | (exfalso; simp_all; done) | exact (jN oo).symm | exact (jO oo).symm | exact decide_eq_decide.2 oo)
theorem Hg (sv:ByteArray) (w:World) (hl:sv.size<=1000000) :
 Calls jP 53 #[Y sv] w fun e w'=>e = .returned (.bool (Az sv))/\Only Ag w w':=by
 refine Ak (args:=[Y sv]) (m:=22) (n:=23) Tryz.func53 rfl kR kR fun J V=>?_;have O:=Ow.nil jP Ag w;refine Sa [(2,I false)] V fun J V=>wp_seq (Sa [(3,Z 0)] V fun J V=>wp_block (Ay (fun mm J W=>∃ (i:Nat),mm=sv.size - i/\Holds 23 [] J [(0,Y sv),(2,I false),(3,Z ((i:Nat):Int))]/\Ow jP Ag w W []/\i<=sv.size/\okW sv i=true/\True) ?_ ?_))
 · exact ⟨_,0,rfl,V.ss,O.to,oo,rfl,trivial⟩
 rintro _ J w1 ⟨i,rfl,V,O,hi,ho,-⟩;have hsb:=Kw sv i;refine wp_seq (Sa [(7,I (decide (((i:Nat):Int) < ((sv.size:Nat):Int))))] V fun J V=>?_);rcases dC (((i:Nat):Int) < ((sv.size:Nat):Int)) with ⟨h1,h1p⟩|⟨h1,h1p⟩
 · rw [h1] at V;refine cT V (wp_skip (Aa (wp_seq (wp_block (sr 5 (Kb 3 [(12,u8 (sb sv i))] V [] (cc (oo:(0:Int)<=((i:Nat):Int)/\((i:Nat):Int) < ((sv.size:Nat):Int)) c0) fun J V=>Mk 13 V O Tryz.func88 (H3 (sb sv i) _ oo oo) fun J w2 V O=>Ka 1 [(14,I (!(A2 (sb sv i))))] V fun J V=>Ab (Aa ?_)))))));rcases jK (A2 (sb sv i)) with h2 | h2
   · rw [h2] at V;exact cF V (wp_skip (Af (Aa (Rc [(3,Z (((i:Nat):Int)+1))] V [I true] (cc ((An oo oo):inK .i64 (((i:Nat):Int)+1)) c0) fun J V=>Aa (⟨_,oo,i+1,rfl,V.ss,O.to,oo,(by simp only [okW,ho,Bool.true_and]; assumption),trivial⟩)))))
   rw [h2] at V;exact cT V (Sa [] V fun J V=>wp_ret (Ad (Ac (Ac (Ad (Ac (cv [I false] V (⟨rB (Zt aM oo).symm,O.only⟩))))))));all_goals (have ei:i=sv.size:=oo)
   all_goals (rw [ei] at ho)
   all_goals (refine ⟨rB ?_,hF⟩)
   all_goals (rw [Gs ho])
   all_goals (have hem:=Aw sv)
   all_goals (by_cases hz:sv.size=0)
   all_goals (rw [jO hz] at hem)
   all_goals ((exfalso; simp_all; done))
 rw [h1] at V;refine cF V (wp_exit (Ai (Ai (Aj (Aa (sr 9 (Ka 4 [(17,I (decide (((sv.size:Nat):Int) ≥ 1))),(18,I (decide (((sv.size:Nat):Int) ≥ 1)))] V fun J V=>?_)))))));rcases dC (((sv.size:Nat):Int) ≥ 1) with ⟨h3,h3p⟩|⟨h3,h3p⟩
 · rw [h3] at V;refine Ka 5 [(2,I (decide (((sv.size:Nat):Int)<=60)))] V fun J V=>Ab (Aa (wp_ret (cv [I (decide (((sv.size:Nat):Int)<=60))] V ?_)));have hF:=O.only; clear V O;skip
   all_goals (have ei:i=sv.size:=oo)
   all_goals (rw [ei] at ho)
   all_goals (refine ⟨rB ?_,hF⟩)
   all_goals (rw [Gs ho])
   all_goals (have hem:=Aw sv)
   all_goals (by_cases hz:sv.size=0)
   all_goals (first | rw [jN hz] at hem | rw [jO hz] at hem)
   all_goals (exact decide_eq_decide.2 oo)
 rw [h3] at V;refine Ka 5 [] V fun J V=>Ab (Aa (wp_ret (cv [I false] V ?_)));have hF:=O.only; clear V O;skip
 all_goals (have ei:i=sv.size:=oo)
 all_goals (rw [ei] at ho)
 all_goals (refine ⟨rB ?_,hF⟩)
 all_goals (rw [Gs ho])
 all_goals (have hem:=Aw sv)
 all_goals (by_cases hz:sv.size=0)
 all_goals (first | rw [jN hz] at hem | rw [jO hz] at hem)
 all_goals (exact (jO oo).symm)
abbrev TP (pb:Nat) (s:ByteArray) (n:Nat):OwL:=[(pb,164,[Y s,Z ((n:Nat):Int),D F 0 0])]
abbrev pnc (n:Nat) (e:Int):List PanicEntry:=[{v:= .iface 160 (.agg #[Z ((n:Nat):Int),Z e]),recovered:=false}]
theorem Ow.pan {P:Program} {X:Nat->Prop} {w₀ w w':World} {A T B:OwL} (h:Ow P X w₀ w (A++(T++B))) (k:Only (inT T) w w'):Only X w₀ w' :=
 h.only.step k fun i hi hx=>by
  obtain ⟨x,hx,e⟩:=hx;rcases h.m.new x (List.mem_append_right _ (List.mem_append_left _ hx)) with hn | hX
  · omega
  · exact e ▸ hX
theorem Ow.pan0 {P:Program} {X:Nat->Prop} {w₀ w w':World} {L:OwL} (h:Ow P X w₀ w L) (k:Only Ag w w'):Only X w₀ w':=h.only.step k fun i hi hx=>hx.elim
theorem Qf (pb:Nat) (sv:ByteArray) (n:Nat) (w:World) (hn:n<=sv.size) (hs:sv.size<=1000000) (h0:Ow jP (inT (TP pb sv n)) w w (TP pb sv n)) :
 Calls jP 124 #[pt pb] w fun e w'=>e = .returned (.tuple #[])/\Ow jP (inT (TP pb sv n)) w w' (TP pb sv (sk sv n)):=by
 refine Ak (args:=[pt pb]) (m:=42) (n:=43) Tryz.func124 rfl kR kR fun J V=>?_;have O:Ow jP (inT (TP pb sv n)) w w [(pb,164,[Y sv,Z ((n:Nat):Int),D F 0 0])]:=h0;refine wp_block (Ay (fun mm J W=>∃ (m:Nat),mm=sv.size - m/\Holds 43 [] J [(0,pt pb)]/\Ow jP (inT (TP pb sv n)) w W [(pb,164,[Y sv,Z ((m:Nat):Int),D F 0 0])]/\m<=sv.size/\sk sv m=sk sv n/\True) ?_ ?_)
 · exact ⟨_,n,rfl,V.ss,O.to,hn,rfl,trivial⟩
 rintro _ J w1 ⟨m,rfl,V,O,hm,hk,-⟩;let a:=[(40,Z (((m:Nat):Int)+1)),(42,pf pb 1)];let b:=[Z ((m:Nat):Int),I true];let c:=[Y sv,Z ((m:Nat):Int)];refine wp_seq (wp_seq ?_);have hS:=O;refine rP [(0,true),(1,true),(2,true),(3,true),(4,true),(5,true),(6,true),(7,true),(8,true),(9,true),(10,true),(11,true),(12,true),(13,true),(14,true),(15,true),(16,true),(17,true),(18,true),(19,true),(20,true),(21,true),(22,true),(23,true),(24,true),(25,true),(26,true),(27,true),(28,true),(29,true),(30,true),(31,true),(32,true),(33,true)] hS ?_;intro w2 ho; replace O:=O.st ho; clear ho;refine Ke 11 [(11,I (decide (((m:Nat):Int) < ((sv.size:Nat):Int)))),(12,I (decide (((m:Nat):Int) < ((sv.size:Nat):Int))))] V [Z ((m:Nat):Int),Y sv] (cc (hS.s1 0 1 3 (Z ((m:Nat):Int))) (cc (hS.s1 0 0 9 (Y sv)) c0)) fun J V=>?_;rcases dC (((m:Nat):Int) < ((sv.size:Nat):Int)) with ⟨h1,h1p⟩|⟨h1,h1p⟩
 · rw [h1] at V;refine Ke 11 [(12,I true),(22,I ((sb sv m) == 32)),(23,I ((sb sv m) == 32))] V c (cc (hS.s1 0 0 9 (Y sv)) (cc (hS.s1 0 1 3 (Z ((m:Nat):Int))) (cc (oo:(0:Int)<=((m:Nat):Int)/\((m:Nat):Int) < ((sv.size:Nat):Int)) c0))) fun J V=>?_;rcases bC (sb sv m) 32 with ⟨h2,h2p⟩|⟨h2,h2p⟩
   · rw [h2] at V;exact Kd 12 [(35,I true)] V fun J V=>Ar (Aa (cT V (wp_skip (Aa (wp_block (rr 8 (Kb 7 a V b (cc (O.l1 0 1 3 (Z ((m:Nat):Int))) (cc ((An oo oo):inK .i64 (((m:Nat):Int)+1)) c0)) fun J V=>Ms 1 [Z (((m:Nat):Int)+1)] 0 V O fun w3 O=>Ab (Af (Aa (⟨_,oo,m+1,rfl,V.ss,O.to,oo,(by rw [← hk]; refine (L5 oo ?_).symm; unfold C6; refine jN ?_; omega),trivial⟩))))))))))
   rw [h2] at V;refine Ke 12 [(35,I ((sb sv m) == 9))] V c (cc (hS.s1 0 0 9 (Y sv)) (cc (hS.s1 0 1 3 (Z ((m:Nat):Int))) (cc (oo:(0:Int)<=((m:Nat):Int)/\((m:Nat):Int) < ((sv.size:Nat):Int)) c0))) fun J V=>Ar (Aa ?_);rcases bC (sb sv m) 9 with ⟨h3,h3p⟩|⟨h3,h3p⟩
   · rw [h3] at V;exact cT V (wp_skip (Aa (wp_block (rr 8 (Kb 7 a V b (cc (O.l1 0 1 3 (Z ((m:Nat):Int))) (cc ((An oo oo):inK .i64 (((m:Nat):Int)+1)) c0)) fun J V=>Ms 1 [Z (((m:Nat):Int)+1)] 0 V O fun w4 O=>Ab (Af (Aa (⟨_,oo,m+1,rfl,V.ss,O.to,oo,(by rw [← hk]; refine (L5 oo ?_).symm; unfold C6; refine jN ?_; omega),trivial⟩))))))))
   rw [h3] at V;refine cF V (wp_exit (Ai (Ai (Aj (Ew (cv [] V ?_))))));have e_:sk sv m=m:=Pa (by unfold C6; rintro ⟨q1,q2⟩; have q3:=jL q2; omega);rw [← hk,e_];exact ⟨rfl,O.tt⟩
 rw [h1] at V;refine Kd 23 [(35,I false)] V fun J V=>Ar (Aa (cF V (wp_exit (Ai (Ai (Aj (Ew (cv [] V ?_))))))));have e_:sk sv m=m:=Pa (by unfold C6; rintro ⟨q1,q2⟩; have q3:=jL q2; omega);rw [← hk,e_];exact ⟨rfl,O.tt⟩
theorem Hy {s:ByteArray} {n:Nat} (hn:n<=s.size):(s.extract n s.size).size=s.size - n:=by rw [kH]; omega
theorem B8 {s:ByteArray} {n i:Nat} (h:i < s.size - n):sb (s.extract n s.size) i=sb s (n+i):=Mu h
theorem P5 {a b:ByteArray} (h:a.data.toList=b.data.toList):a=b:=by
 cases a; cases b; simp only at h; exact congrArg ByteArray.mk (Array.toList_inj.1 h)
theorem Uf {s:ByteArray} {n k:Nat} (h:k<=s.size - n):(s.extract n s.size).extract 0 k=s.extract n (n+k):=by
 apply P5;rw [F4,F4,F4];simp only [List.drop_zero,List.take_take];congr 1
 omega
theorem Uc {s:ByteArray} {n k:Nat} (h:wl s n=k) (hk : 0 < k):(s.extract n s.size).extract 0 k=tk s n:=by
 have h1:=eZ s n;rw [Uf oo];have h2:=X7.1 (by omega : 0 < wl s n);have h3:=Bo s n;have h4:=Dx s n;unfold tk;rw [show tl s n=k by rcases h3 with h | h | ⟨_,hp,_⟩; {omega}; {omega}; {rw [h2.2] at hp; cases hp}]
theorem Vu {s:ByteArray} {n:Nat} {x y:UInt8} (h:n+1 < s.size) (hx:sb s n=(x.toNat:Int)) (hy:sb s (n+1)=(y.toNat:Int)):s.extract n (n+2)=⟨#[x,y]⟩:=by
 have h1:=O6 (s.extract n (n+2)) x y;exact Qb (eq_of_beq (h1.trans (jN ⟨by rw [kH]; omega,by rw [Mu oo,Nat.add_zero,hx],by rw [Mu oo,hy]⟩)))
theorem hasp (s:ByteArray) (x y:UInt8):Lib.hasPrefix s.data.toList [x,y]=decide (2<=s.size/\sb s 0=(x.toNat:Int)/\sb s 1=(y.toNat:Int)):=by
 have hs:=Bt s;have hb:=Qi s 0 x;have hc:=Qi s 1 y;rw [Bool.eq_iff_iff,decide_eq_true_eq];unfold Lib.hasPrefix;match hl:s.data.toList with
 | []=>rw [hl] at hs; simp only [jT] at hs; simp [List.isPrefixOf]; omega
 | [y']=>rw [hl] at hs; simp only [jS,jT] at hs; simp [List.isPrefixOf]; omega
 | x'::y'::r =>
  rw [hl] at hs hb hc;simp only [jS] at hs;have h1:=hb oo;have h2:=hc oo;simp only [List.getElem?_cons_zero,List.getElem?_cons_succ,Option.some.injEq] at h1 h2;rw [h1,h2];simp only [List.isPrefixOf,Bool.and_true,Bool.and_eq_true,beq_iff_eq];constructor
  · rintro ⟨rfl,rfl⟩; exact ⟨oo,rfl,rfl⟩
  · rintro ⟨_,rfl,rfl⟩; exact ⟨rfl,rfl⟩
def Je (c:Int):Int:=if c=60 then 0 else if c=62 then 1 else if c=59 then 2 else if c=38 then 3 else if c=124 then 4 else -1
theorem Oo (c:Int):Je c ≥ 0↔c=60\/c=62\/c=59\/c=38\/c=124:=by unfold Je; (repeat' split) <;> omega
theorem Vd {c:Int} (h0 : 0<=c) (h1:c<=255):Lib.indexByte [60,62,59,38,124] c.toNat.toUInt8=Je c:=by
 obtain ⟨k,rfl⟩:=Int.eq_ofNat_of_zero_le h0;have h2:k < 256:=oo
 have : ∀ k:Fin 256,Lib.indexByte [60,62,59,38,124] (((k.val:Nat):Int).toNat.toUInt8)=Je ((k.val:Nat):Int):=by decide +kernel
 exact this ⟨k,h2⟩
theorem Zo {s:ByteArray} {n:Nat} (hw:wl s n=0) (h:n < s.size):kd s n≠1:=fun e=>by
 have:=Dx s n;omega
theorem Q7 {s:ByteArray} {n:Nat} (hn:n<=s.size) (hw:wl s n=0) (h : 2<=(s.extract n s.size).size/\sb (s.extract n s.size) 0=(62:Int)/\sb (s.extract n s.size) 1=(62:Int)):(⟨#[62,62]⟩:ByteArray)=tk s n:=by
 rw [Hy hn] at h;rw [B8 (by omega),B8 (by omega),Nat.add_zero] at h;have h1:=Bo s n;have h2:=Zo hw (by omega);have h3:=Dx s n;unfold tk;rw [show tl s n=2 by omega];exact (Vu (by omega) (show sb s n=62 by omega) (show sb s (n+1)=62 by omega)).symm
theorem On {s:ByteArray} {n:Nat} (hn:n<=s.size) (hw:wl s n=0) (h : ¬ (2<=(s.extract n s.size).size/\sb (s.extract n s.size) 0=(62:Int)/\sb (s.extract n s.size) 1=(62:Int))) (h0 : ¬ (s.extract n s.size).size=0) (hm:Je (sb (s.extract n s.size) 0) ≥ 0):(s.extract n s.size).extract 0 1=tk s n:=by
 rw [Hy hn] at h h0;have hq : 2<=s.size - n->sb (s.extract n s.size) 1=sb s (n+1):=fun q=>B8 (by omega);rw [B8 (by omega),Nat.add_zero] at h hm;have h1:=Bo s n;have h2:=Zo hw (by omega);have h3:=Dx s n;have h4:=(Oo _).1 hm;unfold tk;rw [show tl s n=1 by omega];exact Uf (by omega)
theorem H0 {s:ByteArray} {n:Nat} (hn:n<=s.size) (hw:wl s n=0) (h : ¬ (2<=(s.extract n s.size).size/\sb (s.extract n s.size) 0=(62:Int)/\sb (s.extract n s.size) 1=(62:Int))) (hm : ¬ (s.extract n s.size).size=0->¬ Je (sb (s.extract n s.size) 0) ≥ 0):(⟨#[]⟩:ByteArray)=tk s n:=by
 rw [Hy hn] at h hm;have h1:=Bo s n;have h3:=Dx s n
 have ht:tl s n=0:=by
  by_cases hlt:n < s.size
  · have h2:=Zo hw hlt;have hq0:sb (s.extract n s.size) 0=sb s n:=by rw [B8 oo,Nat.add_zero]
    have hq1 : 2<=s.size - n->sb (s.extract n s.size) 1=sb s (n+1):=fun q=>B8 oo;rw [hq0] at hm;have h4 : ¬ (sb s n=60\/sb s n=62\/sb s n=59\/sb s n=38\/sb s n=124):=fun q=>hm oo ((Oo _).2 q);by_cases h5 : 2<=s.size - n
    · have h6:=hq1 h5;omega
    · omega
  · omega
 unfold tk;rw [ht];exact (P5 (by rw [F4]; simp))
theorem Cy (pb:Nat) (sv:ByteArray) (n:Nat) (w:World) (hn:n<=sv.size) (hs:sv.size<=1000000) (hB:Blk w pb 164 [Y sv,Z ((n:Nat):Int),D F 0 0]) :
 Calls jP 126 #[pt pb] w fun e w'=>e = .returned (Y (tk sv n))/\Only Ag w w':=by
 let c:=[(2,Y ((sv.extract n sv.size).extract 0 1))];let f:=[Y ((sv.extract n sv.size).extract 0 1)];let g:=(3,Y (sv.extract n sv.size));refine Ak (args:=[pt pb]) (m:=45) (n:=46) Tryz.func126 rfl kR kR fun J V=>?_;have O:=Ow.nil jP Ag w;have hrs:=Hy hn;refine Sa [(2,Y (⟨#[]⟩))] V fun J V=>wp_seq ?_;have hS:=O;refine rP [(0,true),(1,true),(2,true),(3,true),(4,true),(5,true),(6,true),(7,true),(8,true),(9,true)] hS ?_;intro w1 ho; replace O:=O.st ho; clear ho;refine Ke 10 [g] V [Y sv,Z ((n:Nat):Int)] (cc (hS.sx ⟨pb,0,F⟩ 9 (Y sv) fun _ O=>((hB.keep O.only (fun h=>h)).ld1 (i:=0) kR kR)) (cc (hS.sx ⟨pb,1,F⟩ 3 (Z ((n:Nat):Int)) fun _ O=>((hB.keep O.only (fun h=>h)).ld1 (i:=1) kR kR)) (cc (oo:(0:Int)<=((n:Nat):Int)/\(((n:Nat):Int):Int)<=((sv.size:Nat):Int)/\(((sv.size:Nat):Int):Int)<=((sv.size:Nat):Int)) c0))) fun J V=>Ar (Aa (Sa [(4,Z 0)] V fun J V=>wp_seq (wp_block (Ay (fun mm J W=>∃ (i:Nat),mm=sv.size - n - i/\Holds 46 [] J [(2,Y (⟨#[]⟩)),g,(4,Z ((i:Nat):Int))]/\Ow jP Ag w W []/\n+i<=sv.size/\wl sv (n+i)+i=wl sv n/\True) ?_ ?_))))
 · exact ⟨_,0,rfl,V.ss,O.to,oo,rfl,trivial⟩
 rintro _ J w2 ⟨i,rfl,V,O,hi,hk,-⟩;let a:=[(2,Y ((sv.extract n sv.size).extract 0 i))];let d:=[Y ((sv.extract n sv.size).extract 0 i)];have hsb:=Kw (sv.extract n sv.size) i;refine wp_seq (sr 10 (Ka 5 [(17,I (decide (((i:Nat):Int) < (((sv.extract n sv.size).size:Nat):Int)))),(18,I (decide (((i:Nat):Int) < (((sv.extract n sv.size).size:Nat):Int))))] V fun J V=>?_));rcases dC (((i:Nat):Int) < (((sv.extract n sv.size).size:Nat):Int)) with ⟨h1,h1p⟩|⟨h1,h1p⟩
 · rw [h1] at V;refine Kb 3 [(18,I true),(21,u8 (sb (sv.extract n sv.size) i))] V [] (cc (oo:(0:Int)<=((i:Nat):Int)/\((i:Nat):Int) < (((sv.extract n sv.size).size:Nat):Int)) c0) fun J V=>Mk 22 V O Tryz.func115 (Hj (sb (sv.extract n sv.size) i) _ oo oo) fun J w3 V O=>Ka 1 [(23,I (A2 (sb (sv.extract n sv.size) i)))] V fun J V=>Ab (Aa ?_);rcases jK (A2 (sb (sv.extract n sv.size) i)) with h2 | h2
   · rw [h2] at V;exact cT V (wp_skip (Aa (wp_block (Rc [(4,Z (((i:Nat):Int)+1))] V [I true] (cc ((An oo oo):inK .i64 (((i:Nat):Int)+1)) c0) fun J V=>Af (Aa (⟨_,oo,i+1,rfl,V.ss,O.to,oo,(by rw [← hk,L4 (n:=n+i) oo (by rw [← B8 oo]; assumption)]; rw [Nat.add_assoc n i 1]; omega),trivial⟩))))))
   rw [h2] at V;refine cF V (wp_exit (Ai (Ai (Aj (Aa (wp_seq (wp_block (Sa [(26,I (decide (((i:Nat):Int) > 0)))] V fun J V=>?_))))))));rcases dC (((i:Nat):Int) > 0) with ⟨h3,h3p⟩|⟨h3,h3p⟩
   · rw [h3] at V;refine cT V (Sb a V [] (cc (oo:(0:Int)<=0/\(0:Int)<=((i:Nat):Int)/\(((i:Nat):Int):Int)<=(((sv.extract n sv.size).size:Nat):Int)) c0) fun J V=>wp_ret (Ad (Ac (cv d V (⟨congrArg (fun b=>jQ (Y b)) ?_,O.only⟩)))));have hw:wl sv (n+i)=0:=Dn (by rintro ⟨q1,q2⟩; have q3:i < sv.size - n:=oo; rw [← B8 q3] at q2; simp_all);have hki:wl sv n=i:=oo;exact Uc hki oo
   rw [h3] at V;refine cF V (sr 3 (Ka 1 [(33,Y (sv.extract n sv.size))] V fun J V=>Mk 34 V O Tryz.func136 (rs (Jf (sv.extract n sv.size) (⟨#[62,62]⟩:ByteArray) _) (congrArg Value.bool (hasp _ 62 62))) fun J w4 V O=>Ka 1 [(32,I (decide (2<=(sv.extract n sv.size).size/\sb (sv.extract n sv.size) 0=(62:Int)/\sb (sv.extract n sv.size) 1=(62:Int))))] V fun J V=>Ab (Aa ?_)));rcases dC (2<=(sv.extract n sv.size).size/\sb (sv.extract n sv.size) 0=(62:Int)/\sb (sv.extract n sv.size) 1=(62:Int)) with ⟨h4,h4p⟩|⟨h4,h4p⟩
   · rw [h4] at V;refine cT V (Sa [(2,Y (⟨#[62,62]⟩))] V fun J V=>wp_ret (Ad (Ac (cv [Y (⟨#[62,62]⟩)] V (⟨congrArg (fun b=>jQ (Y b)) ?_,O.only⟩)))));have hw:wl sv (n+i)=0:=Dn (by rintro ⟨q1,q2⟩; have q3:i < sv.size - n:=oo; rw [← B8 q3] at q2; simp_all);have hki:wl sv n=i:=oo;have hw0:wl sv n=0:=oo;exact Q7 hn hw0 aM
   rw [h4] at V;refine cF V (sr 9 (Ka 3 [(37,I (!((sv.extract n sv.size).toList == (⟨#[]⟩:ByteArray).toList))),(38,I (!((sv.extract n sv.size).toList == (⟨#[]⟩:ByteArray).toList)))] V fun J V=>?_));rw [(Aw (sv.extract n sv.size):((sv.extract n sv.size).toList == (⟨#[]⟩:ByteArray).toList)=(decide ((sv.extract n sv.size).size=0)))] at V;rcases dC ((sv.extract n sv.size).size=0) with ⟨h5,h5p⟩|⟨h5,h5p⟩
   · rw [h5] at V;refine Ka 6 [(35,I false)] V fun J V=>Ab (Aa (cF V (wp_skip (Af (Aa (Sa [] V fun J V=>wp_ret (cv [Y (⟨#[]⟩)] V (⟨congrArg (fun b=>jQ (Y b)) ?_,O.only⟩))))))));have hw:wl sv (n+i)=0:=Dn (by rintro ⟨q1,q2⟩; have q3:i < sv.size - n:=oo; rw [← B8 q3] at q2; simp_all);have hki:wl sv n=i:=oo;have hw0:wl sv n=0:=oo;exact H0 hn hw0 aM (fun h=>by exact absurd aM h)
   rw [h5] at V;refine Kb 2 [(38,I true),(40,u8 (sb (sv.extract n sv.size) 0))] V [] (cc (oo:(0:Int)<=0/\0 < (((sv.extract n sv.size).size:Nat):Int)) c0) fun J V=>Mk 41 V O Tryz.func91 (rs (Cf (⟨#[60,62,59,38,124]⟩:ByteArray) (sb (sv.extract n sv.size) 0) _) (congrArg (Value.int .i64) (Vd (by have:=Kw (sv.extract n sv.size) 0; omega) (by have:=Kw (sv.extract n sv.size) 0; omega)))) fun J w5 V O=>Ka 3 [(35,I (decide ((Je (sb (sv.extract n sv.size) 0)) ≥ 0)))] V fun J V=>Ab (Aa ?_);rcases dC ((Je (sb (sv.extract n sv.size) 0)) ≥ 0) with ⟨h6,h6p⟩|⟨h6,h6p⟩
   · rw [h6] at V;refine cT V (Sb c V [] (cc (oo:(0:Int)<=0/\(0:Int)<=1/\(1:Int)<=(((sv.extract n sv.size).size:Nat):Int)) c0) fun J V=>wp_ret (Ad (Ac (cv f V (⟨congrArg (fun b=>jQ (Y b)) ?_,O.only⟩)))));have hw:wl sv (n+i)=0:=Dn (by rintro ⟨q1,q2⟩; have q3:i < sv.size - n:=oo; rw [← B8 q3] at q2; simp_all);have hki:wl sv n=i:=oo;have hw0:wl sv n=0:=oo;exact On hn hw0 aM aM aM
   rw [h6] at V;refine cF V (wp_skip (Af (Aa (Sa [] V fun J V=>wp_ret (cv [Y (⟨#[]⟩)] V (⟨congrArg (fun b=>jQ (Y b)) ?_,O.only⟩))))));have hw:wl sv (n+i)=0:=Dn (by rintro ⟨q1,q2⟩; have q3:i < sv.size - n:=oo; rw [← B8 q3] at q2; simp_all);have hki:wl sv n=i:=oo;have hw0:wl sv n=0:=oo;exact H0 hn hw0 aM (fun h=>aM)
 rw [h1] at V;refine Ka 5 [(23,I false)] V fun J V=>Ab (Aa (cF V (wp_exit (Ai (Ai (Aj (Aa (wp_seq (wp_block (Sa [(26,I (decide (((i:Nat):Int) > 0)))] V fun J V=>?_))))))))));rcases dC (((i:Nat):Int) > 0) with ⟨h7,h7p⟩|⟨h7,h7p⟩
 · rw [h7] at V;refine cT V (Sb a V [] (cc (oo:(0:Int)<=0/\(0:Int)<=((i:Nat):Int)/\(((i:Nat):Int):Int)<=(((sv.extract n sv.size).size:Nat):Int)) c0) fun J V=>wp_ret (Ad (Ac (cv d V (⟨congrArg (fun b=>jQ (Y b)) ?_,O.only⟩)))));have hw:wl sv (n+i)=0:=Dn (by rintro ⟨q1,q2⟩; have q3:i < sv.size - n:=oo; rw [← B8 q3] at q2; simp_all);have hki:wl sv n=i:=oo;exact Uc hki oo
 rw [h7] at V;refine cF V (sr 3 (Ka 1 [(33,Y (sv.extract n sv.size))] V fun J V=>Mk 34 V O Tryz.func136 (rs (Jf (sv.extract n sv.size) (⟨#[62,62]⟩:ByteArray) _) (congrArg Value.bool (hasp _ 62 62))) fun J w6 V O=>Ka 1 [(32,I (decide (2<=(sv.extract n sv.size).size/\sb (sv.extract n sv.size) 0=(62:Int)/\sb (sv.extract n sv.size) 1=(62:Int))))] V fun J V=>Ab (Aa ?_)));rcases dC (2<=(sv.extract n sv.size).size/\sb (sv.extract n sv.size) 0=(62:Int)/\sb (sv.extract n sv.size) 1=(62:Int)) with ⟨h8,h8p⟩|⟨h8,h8p⟩
 · rw [h8] at V;refine cT V (Sa [(2,Y (⟨#[62,62]⟩))] V fun J V=>wp_ret (Ad (Ac (cv [Y (⟨#[62,62]⟩)] V (⟨congrArg (fun b=>jQ (Y b)) ?_,O.only⟩)))));have hw:wl sv (n+i)=0:=Dn (by rintro ⟨q1,q2⟩; have q3:i < sv.size - n:=oo; rw [← B8 q3] at q2; simp_all);have hki:wl sv n=i:=oo;have hw0:wl sv n=0:=oo;exact Q7 hn hw0 aM
 rw [h8] at V;refine cF V (sr 9 (Ka 3 [(37,I (!((sv.extract n sv.size).toList == (⟨#[]⟩:ByteArray).toList))),(38,I (!((sv.extract n sv.size).toList == (⟨#[]⟩:ByteArray).toList)))] V fun J V=>?_));rw [(Aw (sv.extract n sv.size):((sv.extract n sv.size).toList == (⟨#[]⟩:ByteArray).toList)=(decide ((sv.extract n sv.size).size=0)))] at V;rcases dC ((sv.extract n sv.size).size=0) with ⟨h9,h9p⟩|⟨h9,h9p⟩
 · rw [h9] at V;refine Ka 6 [(35,I false)] V fun J V=>Ab (Aa (cF V (wp_skip (Af (Aa (Sa [] V fun J V=>wp_ret (cv [Y (⟨#[]⟩)] V (⟨congrArg (fun b=>jQ (Y b)) ?_,O.only⟩))))))));have hw:wl sv (n+i)=0:=Dn (by rintro ⟨q1,q2⟩; have q3:i < sv.size - n:=oo; rw [← B8 q3] at q2; simp_all);have hki:wl sv n=i:=oo;have hw0:wl sv n=0:=oo;exact H0 hn hw0 aM (fun h=>by exact absurd aM h)
 rw [h9] at V;refine Kb 2 [(38,I true),(40,u8 (sb (sv.extract n sv.size) 0))] V [] (cc (oo:(0:Int)<=0/\0 < (((sv.extract n sv.size).size:Nat):Int)) c0) fun J V=>Mk 41 V O Tryz.func91 (rs (Cf (⟨#[60,62,59,38,124]⟩:ByteArray) (sb (sv.extract n sv.size) 0) _) (congrArg (Value.int .i64) (Vd (by have:=Kw (sv.extract n sv.size) 0; omega) (by have:=Kw (sv.extract n sv.size) 0; omega)))) fun J w7 V O=>Ka 3 [(35,I (decide ((Je (sb (sv.extract n sv.size) 0)) ≥ 0)))] V fun J V=>Ab (Aa ?_);rcases dC ((Je (sb (sv.extract n sv.size) 0)) ≥ 0) with ⟨h10,h10p⟩|⟨h10,h10p⟩
 · rw [h10] at V;refine cT V (Sb c V [] (cc (oo:(0:Int)<=0/\(0:Int)<=1/\(1:Int)<=(((sv.extract n sv.size).size:Nat):Int)) c0) fun J V=>wp_ret (Ad (Ac (cv f V (⟨congrArg (fun b=>jQ (Y b)) ?_,O.only⟩)))));have hw:wl sv (n+i)=0:=Dn (by rintro ⟨q1,q2⟩; have q3:i < sv.size - n:=oo; rw [← B8 q3] at q2; simp_all);have hki:wl sv n=i:=oo;have hw0:wl sv n=0:=oo;exact On hn hw0 aM aM aM
 rw [h10] at V;refine cF V (wp_skip (Af (Aa (Sa [] V fun J V=>wp_ret (cv [Y (⟨#[]⟩)] V (⟨congrArg (fun b=>jQ (Y b)) ?_,O.only⟩))))));have hw:wl sv (n+i)=0:=Dn (by rintro ⟨q1,q2⟩; have q3:i < sv.size - n:=oo; rw [← B8 q3] at q2; simp_all);have hki:wl sv n=i:=oo;have hw0:wl sv n=0:=oo;exact H0 hn hw0 aM (fun h=>aM)
theorem Mo (pb:Nat) (sv:ByteArray) (n:Nat) (w:World) (hn:n<=sv.size) (hs:sv.size<=1000000) (t:ByteArray) (ht:n+t.size<=sv.size) (h0:Ow jP (inT (TP pb sv n)) w w (TP pb sv n)) :
 Calls jP 129 #[pt pb,Y t] w fun e w'=>e = .returned (.tuple #[])/\Ow jP (inT (TP pb sv n)) w w' (TP pb sv (sk sv (n+t.size))):=by
 refine Ak (args:=[pt pb,Y t]) (m:=13) (n:=15) Tryz.func129 rfl kR kR fun J V=>?_;have O:Ow jP (inT (TP pb sv n)) w w [(pb,164,[Y sv,Z ((n:Nat):Int),D F 0 0])]:=h0;refine sr 10 (Kb 9 [(10,Z (((n:Nat):Int)+((t.size:Nat):Int))),(12,pf pb 1)] V [Z ((n:Nat):Int),I true] (cc (O.l1 0 1 3 (Z ((n:Nat):Int))) (cc ((An oo oo):inK .i64 (((n:Nat):Int)+((t.size:Nat):Int))) c0)) fun J V=>Ms 1 [Z (((n:Nat):Int)+((t.size:Nat):Int))] 0 V O fun w1 O=>Ab (Aa (rr 2 (Ka 1 [(13,pt pb)] V fun J V=>Ae (mC (d:=(E 14)) V Tryz.func124 ((Qf pb sv (n+t.size) _ oo oo (Ow.self (A:=[]) (O.tt))).mono ?_))))));rintro en w2 ⟨rfl,hW⟩;refine ⟨_,rfl,?_⟩;clear V J; intro J V;replace O:=Ow.pass (A:=[]) O hW; clear hW;exact Ab (Ew (cv [] V (⟨rfl,O.tt⟩)))
theorem Pm {s:ByteArray} {n:Nat} (h : ¬ (kd s n=0\/kd s n=8)):A2 (sb (tk s n) 0)=decide (kd s n=1):=by
 have h1:=Bo s n;have h2:=Dx s n;rw [Lk oo,Nat.add_zero];rcases h1 with h1 | ⟨h1,_,h3⟩ | ⟨h1,h3,h4⟩
 · omega
 · rw [h3]; exact (jN h1).symm
 rw [h3]; exact (jO oo).symm
theorem eP {s:ByteArray} {n:Nat} (h : ¬ (kd s n=0\/kd s n=8)) (h1:kd s n≠1):(sb (tk s n) 0=60↔kd s n=2)/\(sb (tk s n) 0=62↔kd s n=3\/kd s n=4):=by
 have h3:=Bo s n;have h2:=Dx s n;rw [Lk oo,Nat.add_zero];omega
theorem Jw (sv:ByteArray) (n:Nat) (w:World) :
 Calls jP 125 #[Y (tk sv n)] w fun e w'=>e = .returned (.bool (Ce (kd sv n)))/\Only Ag w w':=by
 refine Ak (args:=[Y (tk sv n)]) (m:=19) (n:=20) Tryz.func125 rfl kR kR fun J V=>?_;have O:=Ow.nil jP Ag w;have htl:=Dx sv n;have htz:=Ek sv n;have hsb:=Kw (tk sv n) 0;have hby:=fun (q1 : ¬ (kd sv n=0\/kd sv n=8)) (q2:kd sv n≠1)=>eP q1 q2;refine Sa [(2,I false)] V fun J V=>sr 18 (Ka 3 [(4,I (!((tk sv n).toList == (⟨#[]⟩:ByteArray).toList))),(5,I (!((tk sv n).toList == (⟨#[]⟩:ByteArray).toList)))] V fun J V=>?_);rw [(Ue sv n:((tk sv n).toList == (⟨#[]⟩:ByteArray).toList)=(decide (kd sv n=0\/kd sv n=8)))] at V;rcases dC (kd sv n=0\/kd sv n=8) with ⟨h1,h1p⟩|⟨h1,h1p⟩
 · rw [h1] at V;refine Ka 15 [] V fun J V=>Ab (Aa (wp_ret (cv [I false] V (⟨rB ?_,O.only⟩))));unfold Ce;by_cases q1:kd sv n=0\/kd sv n=8
   · exact (jO oo).symm
   by_cases q2:kd sv n=1
   · (exfalso; omega)
   have q3:=hby q1 q2;exact (jO oo).symm
 rw [h1] at V;refine Kb 2 [(5,I true),(7,u8 (sb (tk sv n) 0))] V [] (cc (oo:(0:Int)<=0/\0 < (((tk sv n).size:Nat):Int)) c0) fun J V=>Mk 8 V O Tryz.func115 (Hj (sb (tk sv n) 0) _ oo oo) fun J w1 V O=>Ka 1 [(9,I (A2 (sb (tk sv n) 0)))] V fun J V=>?_;rw [(Pm oo:(A2 (sb (tk sv n) 0))=(decide (kd sv n=1)))] at V;rcases dC (kd sv n=1) with ⟨h2,h2p⟩|⟨h2,h2p⟩
 · rw [h2] at V;refine Ka 11 [(2,I true)] V fun J V=>Ab (Aa (wp_ret (cv [I true] V (⟨rB ?_,O.only⟩))));unfold Ce;by_cases q1:kd sv n=0\/kd sv n=8
   · (exfalso; omega)
   by_cases q2:kd sv n=1
   · exact (jN oo).symm
   have q3:=hby q1 q2;exact (jN oo).symm
 rw [h2] at V;refine Kb 5 [(12,I ((sb (tk sv n) 0) == 60)),(13,I ((sb (tk sv n) 0) == 60)),(14,I ((sb (tk sv n) 0) == 60))] V [] (cc (oo:(0:Int)<=0/\0 < (((tk sv n).size:Nat):Int)) c0) fun J V=>?_;rcases bC (sb (tk sv n) 0) 60 with ⟨h3,h3p⟩|⟨h3,h3p⟩
 · rw [h3] at V;refine Ka 6 [(2,I true)] V fun J V=>Ab (Aa (wp_ret (cv [I true] V (⟨rB ?_,O.only⟩))));unfold Ce;by_cases q1:kd sv n=0\/kd sv n=8
   · (exfalso; omega)
   by_cases q2:kd sv n=1
   · (exfalso; omega)
   have q3:=hby q1 q2;exact (jN oo).symm
 rw [h3] at V;refine Kb 6 [(2,I ((sb (tk sv n) 0) == 62))] V [] (cc (oo:(0:Int)<=0/\0 < (((tk sv n).size:Nat):Int)) c0) fun J V=>Ab (Aa (wp_ret (cv [I ((sb (tk sv n) 0) == 62)] V (⟨rB ?_,O.only⟩))));unfold Ce;by_cases q1:kd sv n=0\/kd sv n=8
 · (exfalso; omega)
 by_cases q2:kd sv n=1
 · (exfalso; omega)
 have q3:=hby q1 q2
 (rw [Bool.eq_iff_iff]; simp only [beq_iff_eq,decide_eq_true_eq]; omega)
theorem Cr (pb:Nat) (sv:ByteArray) (n:Nat) (w:World) (hn:n<=sv.size) (hs:sv.size<=1000000) (er:Int) (hB:Blk w pb 164 [Y sv,Z ((n:Nat):Int),D F 0 0]) :
 Calls jP 127 #[pt pb,Z er] w fun e w'=>e = .panicked (pnc n er)/\Only Ag w w':=by
 let a:=(.agg #[Z ((n:Nat):Int),Z er]:Value);refine Ak (args:=[pt pb,Z er]) (m:=9) (n:=11) Tryz.func127 rfl kR kR fun J V=>?_;have O:=Ow.nil jP Ag w;refine rr 8 (Kb 7 [(10,.iface 160 a)] V [Z ((n:Nat):Int)] (cc (((hB.keep O.only (fun h=>h)).ld1 (i:=1) kR kR):Ld jP w ⟨pb,1,F⟩ 3 (Z ((n:Nat):Int))) c0) fun J V=>Ae (cQ (t:=160) (v:=a) V ?_));show _/\_;exact ⟨V.dfr,rfl,O.only⟩
abbrev PP {α:Type} (r:PR α) (T:OwL) (w w':World) (e:Ending) (ok : α->Nat->Prop):Prop :=
 (∃ a b,r = .error (a,b)/\e = .panicked (pnc a b)/\Only (inT T) w w')\/∃ v m,r = .ok (v,m)/\ok v m
theorem B6 {s:ByteArray} {n m:Nat} {v:ByteArray} (hn:n<=s.size) (h:Bs s n = .ok (v,m)):v=tk s n/\m=nx s n/\m<=s.size/\n < m/\kd s n=1/\v.size<=60/\1<=v.size:=by
 unfold Bs at h;split at h
 · cases h
 rename_i h1
 split at h
 · cases h
 rename_i h2
 cases h;have h3:=Ek s n;have h4:=Dx s n;exact ⟨rfl,rfl,Jd hn,Ux oo,oo,oo,oo⟩
theorem Df (pb:Nat) (sv:ByteArray) (n:Nat) (w:World) (hn:n<=sv.size) (hs:sv.size<=1000000) (h0:Ow jP (inT (TP pb sv n)) w w (TP pb sv n)) :
 Calls jP 143 #[pt pb] w fun e w'=>PP (Bs sv n) (TP pb sv n) w w' e fun v m=>e = .returned (Y v)/\Ow jP (inT (TP pb sv n)) w w' (TP pb sv m):=by
 refine Ak (args:=[pt pb]) (m:=26) (n:=27) Tryz.func143 rfl kR kR fun J V=>?_;have O:Ow jP (inT (TP pb sv n)) w w [(pb,164,[Y sv,Z ((n:Nat):Int),D F 0 0])]:=h0;have htl:=Dx sv n;have htz:=Ek sv n;have hsb:=Kw (tk sv n) 0;refine Sa [(2,Y (⟨#[]⟩))] V fun J V=>sr 3 (Ka 1 [(4,pt pb)] V fun J V=>Mk 5 V O Tryz.func126 (Cy pb sv n _ oo oo (O.b 0)) fun J w1 V O=>Ka 1 [(3,Y (tk sv n))] V fun J V=>Ab (Aa (wp_seq (wp_block (sr 9 (Ka 3 [(8,I ((tk sv n).toList == (⟨#[]⟩:ByteArray).toList)),(9,I ((tk sv n).toList == (⟨#[]⟩:ByteArray).toList))] V fun J V=>?_))))));rw [(Ue sv n:((tk sv n).toList == (⟨#[]⟩:ByteArray).toList)=(decide (kd sv n=0\/kd sv n=8)))] at V;rcases dC (kd sv n=0\/kd sv n=8) with ⟨h1,h1p⟩|⟨h1,h1p⟩
 · rw [h1] at V;refine Ka 6 [(6,I true)] V fun J V=>Ab (Aa (cT V (rr 2 (Ka 1 [(15,pt pb)] V fun J V=>Ae (mP (d:=(E 16)) V Tryz.func127 ((Cr pb sv n _ oo oo 3 (O.b 0)).mono ?_))))));rintro en w2 ⟨rfl,hW⟩;refine .inr ⟨_,rfl,?_⟩;show _/\_;exact ⟨V.dfr,Or.inl ⟨_,_,(by unfold Bs; rw [if_pos oo]),rfl,Ow.pan0 O hW⟩⟩
 rw [h1] at V;refine Kb 2 [(9,I false),(11,u8 (sb (tk sv n) 0))] V [] (cc (oo:(0:Int)<=0/\0 < (((tk sv n).size:Nat):Int)) c0) fun J V=>Mk 12 V O Tryz.func115 (Hj (sb (tk sv n) 0) _ oo oo) fun J w3 V O=>Ka 3 [(6,I (!(A2 (sb (tk sv n) 0))))] V fun J V=>?_;rw [(Pm oo:(A2 (sb (tk sv n) 0))=(decide (kd sv n=1)))] at V;refine Ab (Aa ?_);rcases dC (kd sv n=1) with ⟨h2,h2p⟩|⟨h2,h2p⟩
 · rw [h2] at V;refine cF V (Sa [(17,I (decide ((((tk sv n).size:Nat):Int) > 60)))] V fun J V=>?_);rcases dC ((((tk sv n).size:Nat):Int) > 60) with ⟨h3,h3p⟩|⟨h3,h3p⟩
   · rw [h3] at V;refine cT V (rr 2 (Ka 1 [(21,pt pb)] V fun J V=>Ae (mP (d:=(E 22)) V Tryz.func127 ((Cr pb sv n _ oo oo 6 (O.b 0)).mono ?_))));rintro en w4 ⟨rfl,hW⟩;refine .inr ⟨_,rfl,?_⟩;show _/\_;exact ⟨V.dfr,Or.inl ⟨_,_,(by unfold Bs; rw [if_neg oo,if_pos oo]),rfl,Ow.pan0 O hW⟩⟩
   rw [h3] at V;refine cF V (wp_skip (Af (Aa (sr 3 (Ka 2 [(23,pt pb),(24,Y (tk sv n))] V fun J V=>Ae (mC (d:=(E 25)) V Tryz.func129 ((Mo pb sv n _ oo oo (tk sv n) (by (have:=Ek sv n; have:=N7 sv n; omega)) (Ow.self (A:=[]) (O.tt))).mono ?_)))))));rintro en w5 ⟨rfl,hW⟩;refine ⟨_,rfl,?_⟩;clear V J; intro J V;replace O:=Ow.pass (A:=[]) O hW; clear hW;exact Ab (Aa (Sa [(2,Y (tk sv n))] V fun J V=>wp_ret (cv [Y (tk sv n)] V (Or.inr ⟨_,_,by unfold Bs; rw [if_neg oo,if_neg oo],rfl,by unfold nx; rw [← htz]; exact O⟩))))
 rw [h2] at V;refine cT V (rr 2 (Ka 1 [(15,pt pb)] V fun J V=>Ae (mP (d:=(E 16)) V Tryz.func127 ((Cr pb sv n _ oo oo 3 (O.b 0)).mono ?_))));rintro en w6 ⟨rfl,hW⟩;refine .inr ⟨_,rfl,?_⟩;show _/\_;exact ⟨V.dfr,Or.inl ⟨_,_,(by unfold Bs; rw [if_pos oo]),rfl,Ow.pan0 O hW⟩⟩
open Go Go.RowKit Go.Proofs.Sx
structure CV where
 p:Option Addr
 c:Nat
 d:CmdL
structure JV where
 p:Option Addr
 c:Nat
 cmds:List CV
 bg:Bool
def CV0:CV:=⟨F,0,H8⟩
def JV0:JV:=⟨F,0,[],false⟩
def JV.d (x:JV):JobL:=⟨x.cmds.map (·.d),x.bg⟩
def fC (x:CV):List Value:=[D x.p x.d.words.length x.c,.string x.d.inp,.string x.d.out,.bool x.d.app]
def fJ (x:JV):List Value:=[D x.p x.cmds.length x.c,.bool x.bg]
theorem Bm:Enc fC 4:=⟨fun _=>rfl,fun x v hv=>by
 simp only [fC,List.mem_cons,jY,or_false] at hv
 rcases hv with rfl | rfl | rfl | rfl <;> rfl⟩
theorem Bg:Enc fJ 2:=⟨fun _=>rfl,fun x v hv=>by
 simp only [fJ,List.mem_cons,jY,or_false] at hv
 rcases hv with rfl | rfl <;> rfl⟩
def VC (w:World) (x:CV):Prop:=Vw fT w (D x.p x.d.words.length x.c) x.d.words
def VJ (w:World) (x:JV):Prop:=Vw fC w (D x.p x.cmds.length x.c) x.cmds/\∀ y∈x.cmds,VC w y
def VL (w:World) (v:Value) (l:List JV):Prop:=Vw fJ w v l/\∀ x∈l,VJ w x
section
variable {w w':World}
theorem VC.keep {x:CV} (h:VC w x) (k:Only Ag w w'):VC w' x:=Vw.keep h k
theorem VJ.keep {x:JV} (h:VJ w x) (k:Only Ag w w'):VJ w' x:=⟨h.1.keep k,fun y hy=>(h.2 y hy).keep k⟩
theorem VL.keep {v:Value} {l:List JV} (h:VL w v l) (k:Only Ag w w'):VL w' v l:=⟨h.1.keep k,fun y hy=>(h.2 y hy).keep k⟩
end
def InC (eT:TypeId):List CV->OwL->Prop
 | [],T=>T=[]
 | x::r,T=>∃ Tx Tr,One fT eT 1 x.p x.c x.d.words Tx/\InC eT r Tr/\T=Tx++Tr
def InJ (eC eT:TypeId):List JV->OwL->Prop
 | [],T=>T=[]
 | x::r,T=>∃ T0 Tc Tr,One fC eC 4 x.p x.c x.cmds T0/\InC eT x.cmds Tc/\InJ eC eT r Tr/\T=T0++(Tc++Tr)
def InW (eC:TypeId):List JV->OwL->Prop
 | [],T=>T=[]
 | x::r,T=>∃ T0 Tr,One fC eC 4 x.p x.c x.cmds T0/\InW eC r Tr/\T=T0++Tr
section
variable {eC eT:TypeId}
theorem InC.snoc {x:CV} {Tw:OwL} (h1:One fT eT 1 x.p x.c x.d.words Tw) : ∀ {l:List CV} {T:OwL},InC eT l T->InC eT (l++[x]) (T++Tw)
 | [],T,h=>by subst h; exact ⟨Tw,[],h1,rfl,by simp⟩
 | y::r,T,h=>by
  obtain ⟨Tx,Tr,a,b,rfl⟩:=h
  exact ⟨Tx,Tr++Tw,a,InC.snoc h1 b,by simp⟩
theorem InJ.snoc {x:JV} {T0 Tc:OwL} (h1:One fC eC 4 x.p x.c x.cmds T0) (h2:InC eT x.cmds Tc) : ∀ {l:List JV} {T:OwL},InJ eC eT l T->InJ eC eT (l++[x]) (T++(T0++Tc))
 | [],T,h=>by subst h; exact ⟨T0,Tc,[],h1,h2,rfl,by simp⟩
 | y::r,T,h=>by
  obtain ⟨Ta,Tb,Tr,a,b,c,rfl⟩:=h
  exact ⟨Ta,Tb,Tr++(T0++Tc),a,b,InJ.snoc h1 h2 c,by simp⟩
theorem InW.snoc {x:JV} {T0:OwL} (h1:One fC eC 4 x.p x.c x.cmds T0) : ∀ {l:List JV} {T:OwL},InW eC l T->InW eC (l++[x]) (T++T0)
 | [],T,h=>by subst h; exact ⟨T0,[],h1,rfl,by simp⟩
 | y::r,T,h=>by
  obtain ⟨Ta,Tr,a,c,rfl⟩:=h
  exact ⟨Ta,Tr++T0,a,InW.snoc h1 c,by simp⟩
variable {X:Nat->Prop} {w₀ w:World}
theorem InC.view : ∀ {l:List CV} {T A B:OwL},InC eT l T->OwM X w₀ w (A++(T++B))->∀ y∈l,VC w y
 | [],T,A,B,_,_,y,hy=>absurd hy jY
 | x::r,T,A,B,h,O,y,hy=>by
  obtain ⟨Tx,Tr,h1,h2,rfl⟩:=h
  rcases List.mem_cons.1 hy with rfl | hy
  · exact One.vw (A:=A) (B:=Tr++B) h1 (by simpa using O)
  · exact InC.view (A:=A++Tx) (B:=B) h2 (by simpa using O) y hy
theorem InJ.view : ∀ {l:List JV} {T A B:OwL},InJ eC eT l T->OwM X w₀ w (A++(T++B))->∀ y∈l,VJ w y
 | [],T,A,B,_,_,y,hy=>absurd hy jY
 | x::r,T,A,B,h,O,y,hy=>by
  obtain ⟨T0,Tc,Tr,h1,h2,h3,rfl⟩:=h
  rcases List.mem_cons.1 hy with rfl | hy
  · exact ⟨One.vw (A:=A) (B:=Tc++(Tr++B)) h1 (by simpa using O),InC.view (A:=A++T0) (B:=Tr++B) h2 (by simpa using O)⟩
  · exact InJ.view (A:=A++(T0++Tc)) (B:=B) h3 (by simpa using O) y hy
theorem InW.view : ∀ {l:List JV} {T A B:OwL},InW eC l T->OwM X w₀ w (A++(T++B))->(∀ x∈l,∀ y∈x.cmds,VC w y)->∀ y∈l,VJ w y
 | [],T,A,B,_,_,_,y,hy=>absurd hy jY
 | x::r,T,A,B,h,O,hv,y,hy=>by
  obtain ⟨T0,Tr,h1,h3,rfl⟩:=h
  rcases List.mem_cons.1 hy with rfl | hy
  · exact ⟨One.vw (A:=A) (B:=Tr++B) h1 (by simpa using O),fun z hz=>hv _ jX z hz⟩
  · exact InW.view (A:=A++T0) (B:=B) h3 (by simpa using O) (fun a ha=>hv a (kE _ ha)) y hy
end
theorem Dy (pb:Nat) (sv:ByteArray) (n:Nat) (w:World) (hn:n<=sv.size) (hs:sv.size<=1000000) (h0:Ow jP (inT (TP pb sv n)) w w (TP pb sv n)) :
 Calls jP 129 #[pt pb,Y (tk sv n)] w fun e w'=>e = .returned (.tuple #[])/\Ow jP (inT (TP pb sv n)) w w' (TP pb sv (nx sv n)):=by
 have h1:=Ek sv n;have h2:=N7 sv n;have h:=Mo pb sv n w hn hs (tk sv n) oo h0;rw [h1] at h;exact h
abbrev TC (cb:Nat) (p:Option Addr) (k:Nat) (c:CmdL):Nat×TypeId×List Value:=(cb,104,[D p c.words.length k,Y c.inp,Y c.out,I c.app])
abbrev TR (cb:Nat) (p:Option Addr) (k:Nat) (c:CmdL) (pb:Nat) (s:ByteArray) (n:Nat):OwL:=TC cb p k c::TP pb s n
theorem K0 {s:ByteArray} {n m:Nat} {c v:CmdL} (hn:n<=s.size) (h:A9 s c n = .ok (v,m)):v.words=c.words/\m<=s.size/\n < m:=by
 unfold A9 at h;split at h
 · cases h
 · cases hw:Bs s (nx s n) with
   | error e=>rw [hw] at h; cases h
   | ok q =>
    obtain ⟨u,k⟩:=q;rw [hw] at h;have h1:=Jd hn;obtain ⟨_,_,h2,h3,_⟩:=B6 h1 hw;have h4:n<=nx s n:=by unfold nx; have:=U5 s (n+tl s n); omega
    cases h;refine ⟨?_,h2,oo⟩;split <;> rfl
theorem Ph (cb:Nat) (p:Option Addr) (k:Nat) (c:CmdL) (pb:Nat) (sv:ByteArray) (n:Nat) (w:World) (hn:n<=sv.size) (hs:sv.size<=1000000) (hk:kd sv n=2\/kd sv n=3\/kd sv n=4) (h0:Ow jP (inT (TR cb p k c pb sv n)) w w (TR cb p k c pb sv n)) :
 Calls jP 142 #[pt pb,pt cb,Y (tk sv n)] w fun e w'=>PP (A9 sv c n) (TR cb p k c pb sv n) w w' e fun v m=>e = .returned (.tuple #[])/\Ow jP (inT (TR cb p k c pb sv n)) w w' (TR cb p k v pb sv m):=by
 let a:=(([(cb,104,[D p c.words.length k,Y c.inp,Y c.out,I c.app])]++(TP pb sv (nx sv n)++(([]++([]))))):OwL);let b:=[Y (tk sv (nx sv n))];let f:=[(38,pt cb),(39,pt cb),(40,pt pb)];let g:=[(28,pt pb),(29,Y (tk sv n))];let h:=[I (decide (kd sv n=4))];let i:=[(33,pt cb),(34,pt pb)];let j:=[(37,pf cb 1)];let l:=(45,pf cb 2);let o:=(47,pf cb 3);refine Ak (args:=[pt pb,pt cb,Y (tk sv n)]) (m:=45) (n:=48) Tryz.func142 rfl (by kernel_rfl) (by kernel_rfl) fun J V=>?_;have O:Ow jP (inT (TR cb p k c pb sv n)) w w [(cb,104,[D p c.words.length k,Y c.inp,Y c.out,I c.app]),(pb,164,[Y sv,Z ((n:Nat):Int),D F 0 0])]:=h0;have hnx:=Jd hn;refine wp_seq (sr 20 (Ka 3 [(7,I ((tk sv n).toList == (⟨#[60]⟩:ByteArray).toList)),(8,I ((tk sv n).toList == (⟨#[60]⟩:ByteArray).toList))] V fun J V=>?_));rw [(Mj sv n:((tk sv n).toList == (⟨#[60]⟩:ByteArray).toList)=(decide (kd sv n=2)))] at V;rcases dC (kd sv n=2) with ⟨h1,h1p⟩|⟨h1,h1p⟩
 · rw [h1] at V;refine Kb 7 [(13,I (!(c.inp.toList == (⟨#[]⟩:ByteArray).toList))),(14,I (!(c.inp.toList == (⟨#[]⟩:ByteArray).toList))),(15,I (!(c.inp.toList == (⟨#[]⟩:ByteArray).toList)))] V [Y c.inp] (cc (O.l1 0 1 9 (Y c.inp)) c0) fun J V=>?_;rw [(Aw c.inp:(c.inp.toList == (⟨#[]⟩:ByteArray).toList)=(decide (c.inp.size=0)))] at V;rcases dC (c.inp.size=0) with ⟨h2,h2p⟩|⟨h2,h2p⟩
   · rw [h2] at V;refine Ka 3 [(15,I false),(17,I (!((tk sv n).toList == (⟨#[60]⟩:ByteArray).toList))),(18,I (!((tk sv n).toList == (⟨#[60]⟩:ByteArray).toList)))] V fun J V=>?_;rw [(Mj sv n:((tk sv n).toList == (⟨#[60]⟩:ByteArray).toList)=(decide (kd sv n=2)))] at V;rcases dC (kd sv n=2) with ⟨h3,h3p⟩|⟨h3,h3p⟩
     · rw [h3] at V;refine Ka 7 [(25,I false)] V fun J V=>Ab (Aa (cF V (wp_skip (Aa (sr 3 (Ka 2 g V fun J V=>Ae (mC (d:=(E 30)) V Tryz.func129 ((Dy pb sv n _ (by omega) (by omega) (Ow.self (A:=[_]) (O.tt))).mono ?_))))))));rintro en w1 ⟨rfl,hW⟩;refine ⟨_,rfl,?_⟩;clear V J; intro J V;replace O:=Ow.pass (A:=[_]) O hW; clear hW;refine Ab (Aa (wp_seq (Sa [(32,I ((tk sv n).toList == (⟨#[60]⟩:ByteArray).toList))] V fun J V=>?_)));rw [(Mj sv n:((tk sv n).toList == (⟨#[60]⟩:ByteArray).toList)=(decide (kd sv n=2)))] at V;rcases dC (kd sv n=2) with ⟨h4,h4p⟩|⟨h4,h4p⟩
       · rw [h4] at V;refine cT V (sr 6 (Ka 2 i V fun J V=>Ae (mP (d:=(E 35)) V Tryz.func143 ((Df pb sv (nx sv n) _ (by omega) (by omega) (Ow.self (A:=[_]) (O.tt))).mono ?_))));rintro en w2 (⟨ea,ee,hr,rfl,hW⟩ | ⟨vv,mm,hr,rfl,hW⟩)
         · refine .inr ⟨_,rfl,?_⟩;show _/\_;exact ⟨V.dfr,Or.inl ⟨_,_,(by unfold A9; rw [if_neg oo,hr]),rfl,Ow.pan (A:=[_]) (O.tt:Ow jP (inT (TR cb p k c pb sv n)) w _ a) hW⟩⟩
         refine .inl ⟨_,rfl,?_⟩;clear V J; intro J V;obtain ⟨rfl,rfl,hq11,hq12,hq13,hq14,hq15⟩:=B6 (by omega) hr;replace O:=Ow.pass (A:=[_]) O hW; clear hW;exact Ka 2 j V fun J V=>Ms 1 b 0 V O fun w3 O=>Ab (Aa (wp_ret (Ac (cv [] V (Or.inr ⟨⟨c.words,(tk sv (nx sv n)),c.out,c.app⟩,_,by unfold A9; rw [if_neg (by omega),hr]; simp only [if_pos (show kd sv n=2 by omega)],rfl,O⟩)))))
       rw [h4] at V;refine cF V (wp_skip (Aa (rr 12 (Ka 3 f V fun J V=>Ae (mP (d:=(E 41)) V Tryz.func143 ((Df pb sv (nx sv n) _ oo oo (Ow.self (A:=[_]) (O.tt))).mono ?_))))));rintro en w4 (⟨ea,ee,hr,rfl,hW⟩ | ⟨vv,mm,hr,rfl,hW⟩)
       · refine .inr ⟨_,rfl,?_⟩;show _/\_;exact ⟨V.dfr,Or.inl ⟨_,_,(by unfold A9; rw [if_neg oo,hr]),rfl,Ow.pan (A:=[_]) (O.tt:Ow jP (inT (TR cb p k c pb sv n)) w _ a) hW⟩⟩
       refine .inl ⟨_,rfl,?_⟩;clear V J; intro J V;obtain ⟨rfl,rfl,hq21,hq22,hq23,hq24,hq25⟩:=B6 (by omega) hr;replace O:=Ow.pass (A:=[_]) O hW; clear hW;refine Ka 4 [(43,I ((tk sv n).toList == (⟨#[62,62]⟩:ByteArray).toList)),l] V fun J V=>?_;rw [(Mm sv n:((tk sv n).toList == (⟨#[62,62]⟩:ByteArray).toList)=(decide (kd sv n=4)))] at V;exact Ms 2 b 0 V O fun w5 O=>Ka 2 [(43,I (decide (kd sv n=4))),o] V fun J V=>Ms 3 h 0 V O fun w6 O=>Ab (Ew (cv [] V (Or.inr ⟨⟨c.words,c.inp,(tk sv (nx sv n)),(decide (kd sv n=4))⟩,_,by unfold A9; rw [if_neg (by omega),hr]; simp only [if_neg (show ¬ kd sv n=2 by omega)],rfl,O⟩)))
     rw [h3] at V;refine Kb 7 [(25,I (!(c.out.toList == (⟨#[]⟩:ByteArray).toList)))] V [Y c.out] (cc (O.l1 0 2 9 (Y c.out)) c0) fun J V=>?_;rw [(Aw c.out:(c.out.toList == (⟨#[]⟩:ByteArray).toList)=(decide (c.out.size=0)))] at V;refine Ab (Aa ?_);rcases dC (c.out.size=0) with ⟨h5,h5p⟩|⟨h5,h5p⟩
     · rw [h5] at V;refine cF V (wp_skip (Aa (sr 3 (Ka 2 g V fun J V=>Ae (mC (d:=(E 30)) V Tryz.func129 ((Dy pb sv n _ (by omega) (by omega) (Ow.self (A:=[_]) (O.tt))).mono ?_))))));rintro en w7 ⟨rfl,hW⟩;refine ⟨_,rfl,?_⟩;clear V J; intro J V;replace O:=Ow.pass (A:=[_]) O hW; clear hW;refine Ab (Aa (wp_seq (Sa [(32,I ((tk sv n).toList == (⟨#[60]⟩:ByteArray).toList))] V fun J V=>?_)));rw [(Mj sv n:((tk sv n).toList == (⟨#[60]⟩:ByteArray).toList)=(decide (kd sv n=2)))] at V;rcases dC (kd sv n=2) with ⟨h6,h6p⟩|⟨h6,h6p⟩
       · rw [h6] at V;refine cT V (sr 6 (Ka 2 i V fun J V=>Ae (mP (d:=(E 35)) V Tryz.func143 ((Df pb sv (nx sv n) _ oo oo (Ow.self (A:=[_]) (O.tt))).mono ?_))));rintro en w8 (⟨ea,ee,hr,rfl,hW⟩ | ⟨vv,mm,hr,rfl,hW⟩)
         · refine .inr ⟨_,rfl,?_⟩;show _/\_;exact ⟨V.dfr,Or.inl ⟨_,_,(by unfold A9; rw [if_neg oo,hr]),rfl,Ow.pan (A:=[_]) (O.tt:Ow jP (inT (TR cb p k c pb sv n)) w _ a) hW⟩⟩
         refine .inl ⟨_,rfl,?_⟩;clear V J; intro J V;obtain ⟨rfl,rfl,hq31,hq32,hq33,hq34,hq35⟩:=B6 (by omega) hr;replace O:=Ow.pass (A:=[_]) O hW; clear hW;exact Ka 2 j V fun J V=>Ms 1 b 0 V O fun w9 O=>Ab (Aa (wp_ret (Ac (cv [] V (Or.inr ⟨⟨c.words,(tk sv (nx sv n)),c.out,c.app⟩,_,by unfold A9; rw [if_neg (by omega),hr]; simp only [if_pos (show kd sv n=2 by omega)],rfl,O⟩)))))
       rw [h6] at V;refine cF V (wp_skip (Aa (rr 12 (Ka 3 f V fun J V=>Ae (mP (d:=(E 41)) V Tryz.func143 ((Df pb sv (nx sv n) _ oo oo (Ow.self (A:=[_]) (O.tt))).mono ?_))))));rintro en w10 (⟨ea,ee,hr,rfl,hW⟩ | ⟨vv,mm,hr,rfl,hW⟩)
       · refine .inr ⟨_,rfl,?_⟩;show _/\_;exact ⟨V.dfr,Or.inl ⟨_,_,(by unfold A9; rw [if_neg oo,hr]),rfl,Ow.pan (A:=[_]) (O.tt:Ow jP (inT (TR cb p k c pb sv n)) w _ a) hW⟩⟩
       refine .inl ⟨_,rfl,?_⟩;clear V J; intro J V;obtain ⟨rfl,rfl,hq41,hq42,hq43,hq44,hq45⟩:=B6 (by omega) hr;replace O:=Ow.pass (A:=[_]) O hW; clear hW;refine Ka 4 [(43,I ((tk sv n).toList == (⟨#[62,62]⟩:ByteArray).toList)),l] V fun J V=>?_;rw [(Mm sv n:((tk sv n).toList == (⟨#[62,62]⟩:ByteArray).toList)=(decide (kd sv n=4)))] at V;exact Ms 2 b 0 V O fun w11 O=>Ka 2 [(43,I (decide (kd sv n=4))),o] V fun J V=>Ms 3 h 0 V O fun w12 O=>Ab (Ew (cv [] V (Or.inr ⟨⟨c.words,c.inp,(tk sv (nx sv n)),(decide (kd sv n=4))⟩,_,by unfold A9; rw [if_neg (by omega),hr]; simp only [if_neg (show ¬ kd sv n=2 by omega)],rfl,O⟩)))
     rw [h5] at V;refine cT V (rr 2 (Ka 1 [(26,pt pb)] V fun J V=>Ae (mP (d:=(E 27)) V Tryz.func127 ((Cr pb sv n _ oo oo 3 (O.b 1)).mono ?_))));rintro en w13 ⟨rfl,hW⟩;refine .inr ⟨_,rfl,?_⟩;show _/\_;exact ⟨V.dfr,Or.inl ⟨_,_,(by unfold A9; rw [if_pos oo]),rfl,Ow.pan0 O hW⟩⟩
   rw [h2] at V;refine Ka 10 [(25,I true)] V fun J V=>Ab (Aa (cT V (rr 2 (Ka 1 [(26,pt pb)] V fun J V=>Ae (mP (d:=(E 27)) V Tryz.func127 ((Cr pb sv n _ oo oo 3 (O.b 1)).mono ?_))))));rintro en w14 ⟨rfl,hW⟩;refine .inr ⟨_,rfl,?_⟩;show _/\_;exact ⟨V.dfr,Or.inl ⟨_,_,(by unfold A9; rw [if_pos oo]),rfl,Ow.pan0 O hW⟩⟩
 rw [h1] at V;refine Ka 10 [(15,I false),(17,I (!((tk sv n).toList == (⟨#[60]⟩:ByteArray).toList))),(18,I (!((tk sv n).toList == (⟨#[60]⟩:ByteArray).toList)))] V fun J V=>?_;rw [(Mj sv n:((tk sv n).toList == (⟨#[60]⟩:ByteArray).toList)=(decide (kd sv n=2)))] at V;rcases dC (kd sv n=2) with ⟨h7,h7p⟩|⟨h7,h7p⟩
 · rw [h7] at V;refine Ka 7 [(25,I false)] V fun J V=>Ab (Aa (cF V (wp_skip (Aa (sr 3 (Ka 2 g V fun J V=>Ae (mC (d:=(E 30)) V Tryz.func129 ((Dy pb sv n _ (by omega) (by omega) (Ow.self (A:=[_]) (O.tt))).mono ?_))))))));rintro en w15 ⟨rfl,hW⟩;refine ⟨_,rfl,?_⟩;clear V J; intro J V;replace O:=Ow.pass (A:=[_]) O hW; clear hW;refine Ab (Aa (wp_seq (Sa [(32,I ((tk sv n).toList == (⟨#[60]⟩:ByteArray).toList))] V fun J V=>?_)));rw [(Mj sv n:((tk sv n).toList == (⟨#[60]⟩:ByteArray).toList)=(decide (kd sv n=2)))] at V;rcases dC (kd sv n=2) with ⟨h8,h8p⟩|⟨h8,h8p⟩
   · rw [h8] at V;refine cT V (sr 6 (Ka 2 i V fun J V=>Ae (mP (d:=(E 35)) V Tryz.func143 ((Df pb sv (nx sv n) _ oo oo (Ow.self (A:=[_]) (O.tt))).mono ?_))));rintro en w16 (⟨ea,ee,hr,rfl,hW⟩ | ⟨vv,mm,hr,rfl,hW⟩)
     · refine .inr ⟨_,rfl,?_⟩;show _/\_;exact ⟨V.dfr,Or.inl ⟨_,_,(by unfold A9; rw [if_neg oo,hr]),rfl,Ow.pan (A:=[_]) (O.tt:Ow jP (inT (TR cb p k c pb sv n)) w _ a) hW⟩⟩
     refine .inl ⟨_,rfl,?_⟩;clear V J; intro J V;obtain ⟨rfl,rfl,hq51,hq52,hq53,hq54,hq55⟩:=B6 (by omega) hr;replace O:=Ow.pass (A:=[_]) O hW; clear hW;exact Ka 2 j V fun J V=>Ms 1 b 0 V O fun w17 O=>Ab (Aa (wp_ret (Ac (cv [] V (Or.inr ⟨⟨c.words,(tk sv (nx sv n)),c.out,c.app⟩,_,by unfold A9; rw [if_neg (by omega),hr]; simp only [if_pos (show kd sv n=2 by omega)],rfl,O⟩)))))
   rw [h8] at V;refine cF V (wp_skip (Aa (rr 12 (Ka 3 f V fun J V=>Ae (mP (d:=(E 41)) V Tryz.func143 ((Df pb sv (nx sv n) _ oo oo (Ow.self (A:=[_]) (O.tt))).mono ?_))))));rintro en w18 (⟨ea,ee,hr,rfl,hW⟩ | ⟨vv,mm,hr,rfl,hW⟩)
   · refine .inr ⟨_,rfl,?_⟩;show _/\_;exact ⟨V.dfr,Or.inl ⟨_,_,(by unfold A9; rw [if_neg oo,hr]),rfl,Ow.pan (A:=[_]) (O.tt:Ow jP (inT (TR cb p k c pb sv n)) w _ a) hW⟩⟩
   refine .inl ⟨_,rfl,?_⟩;clear V J; intro J V;obtain ⟨rfl,rfl,hq61,hq62,hq63,hq64,hq65⟩:=B6 (by omega) hr;replace O:=Ow.pass (A:=[_]) O hW; clear hW;refine Ka 4 [(43,I ((tk sv n).toList == (⟨#[62,62]⟩:ByteArray).toList)),l] V fun J V=>?_;rw [(Mm sv n:((tk sv n).toList == (⟨#[62,62]⟩:ByteArray).toList)=(decide (kd sv n=4)))] at V;exact Ms 2 b 0 V O fun w19 O=>Ka 2 [(43,I (decide (kd sv n=4))),o] V fun J V=>Ms 3 h 0 V O fun w20 O=>Ab (Ew (cv [] V (Or.inr ⟨⟨c.words,c.inp,(tk sv (nx sv n)),(decide (kd sv n=4))⟩,_,by unfold A9; rw [if_neg (by omega),hr]; simp only [if_neg (show ¬ kd sv n=2 by omega)],rfl,O⟩)))
 rw [h7] at V;refine Kb 7 [(25,I (!(c.out.toList == (⟨#[]⟩:ByteArray).toList)))] V [Y c.out] (cc (O.l1 0 2 9 (Y c.out)) c0) fun J V=>?_;rw [(Aw c.out:(c.out.toList == (⟨#[]⟩:ByteArray).toList)=(decide (c.out.size=0)))] at V;refine Ab (Aa ?_);rcases dC (c.out.size=0) with ⟨h9,h9p⟩|⟨h9,h9p⟩
 · rw [h9] at V;refine cF V (wp_skip (Aa (sr 3 (Ka 2 g V fun J V=>Ae (mC (d:=(E 30)) V Tryz.func129 ((Dy pb sv n _ (by omega) (by omega) (Ow.self (A:=[_]) (O.tt))).mono ?_))))));rintro en w21 ⟨rfl,hW⟩;refine ⟨_,rfl,?_⟩;clear V J; intro J V;replace O:=Ow.pass (A:=[_]) O hW; clear hW;refine Ab (Aa (wp_seq (Sa [(32,I ((tk sv n).toList == (⟨#[60]⟩:ByteArray).toList))] V fun J V=>?_)));rw [(Mj sv n:((tk sv n).toList == (⟨#[60]⟩:ByteArray).toList)=(decide (kd sv n=2)))] at V;rcases dC (kd sv n=2) with ⟨h10,h10p⟩|⟨h10,h10p⟩
   · rw [h10] at V;refine cT V (sr 6 (Ka 2 i V fun J V=>Ae (mP (d:=(E 35)) V Tryz.func143 ((Df pb sv (nx sv n) _ oo oo (Ow.self (A:=[_]) (O.tt))).mono ?_))));rintro en w22 (⟨ea,ee,hr,rfl,hW⟩ | ⟨vv,mm,hr,rfl,hW⟩)
     · refine .inr ⟨_,rfl,?_⟩;show _/\_;exact ⟨V.dfr,Or.inl ⟨_,_,(by unfold A9; rw [if_neg oo,hr]),rfl,Ow.pan (A:=[_]) (O.tt:Ow jP (inT (TR cb p k c pb sv n)) w _ a) hW⟩⟩
     refine .inl ⟨_,rfl,?_⟩;clear V J; intro J V;obtain ⟨rfl,rfl,hq71,hq72,hq73,hq74,hq75⟩:=B6 (by omega) hr;replace O:=Ow.pass (A:=[_]) O hW; clear hW;exact Ka 2 j V fun J V=>Ms 1 b 0 V O fun w23 O=>Ab (Aa (wp_ret (Ac (cv [] V (Or.inr ⟨⟨c.words,(tk sv (nx sv n)),c.out,c.app⟩,_,by unfold A9; rw [if_neg (by omega),hr]; simp only [if_pos (show kd sv n=2 by omega)],rfl,O⟩)))))
   rw [h10] at V;refine cF V (wp_skip (Aa (rr 12 (Ka 3 f V fun J V=>Ae (mP (d:=(E 41)) V Tryz.func143 ((Df pb sv (nx sv n) _ oo oo (Ow.self (A:=[_]) (O.tt))).mono ?_))))));rintro en w24 (⟨ea,ee,hr,rfl,hW⟩ | ⟨vv,mm,hr,rfl,hW⟩)
   · refine .inr ⟨_,rfl,?_⟩;show _/\_;exact ⟨V.dfr,Or.inl ⟨_,_,(by unfold A9; rw [if_neg oo,hr]),rfl,Ow.pan (A:=[_]) (O.tt:Ow jP (inT (TR cb p k c pb sv n)) w _ a) hW⟩⟩
   refine .inl ⟨_,rfl,?_⟩;clear V J; intro J V;obtain ⟨rfl,rfl,hq81,hq82,hq83,hq84,hq85⟩:=B6 (by omega) hr;replace O:=Ow.pass (A:=[_]) O hW; clear hW;refine Ka 4 [(43,I ((tk sv n).toList == (⟨#[62,62]⟩:ByteArray).toList)),l] V fun J V=>?_;rw [(Mm sv n:((tk sv n).toList == (⟨#[62,62]⟩:ByteArray).toList)=(decide (kd sv n=4)))] at V;exact Ms 2 b 0 V O fun w25 O=>Ka 2 [(43,I (decide (kd sv n=4))),o] V fun J V=>Ms 3 h 0 V O fun w26 O=>Ab (Ew (cv [] V (Or.inr ⟨⟨c.words,c.inp,(tk sv (nx sv n)),(decide (kd sv n=4))⟩,_,by unfold A9; rw [if_neg (by omega),hr]; simp only [if_neg (show ¬ kd sv n=2 by omega)],rfl,O⟩)))
 rw [h9] at V;refine cT V (rr 2 (Ka 1 [(26,pt pb)] V fun J V=>Ae (mP (d:=(E 27)) V Tryz.func127 ((Cr pb sv n _ oo oo 3 (O.b 1)).mono ?_))));rintro en w27 ⟨rfl,hW⟩;refine .inr ⟨_,rfl,?_⟩;show _/\_;exact ⟨V.dfr,Or.inl ⟨_,_,(by unfold A9; rw [if_pos oo]),rfl,Ow.pan0 O hW⟩⟩
end Go.Proofs.YtdljjajjonfjbaaGreatDoor
