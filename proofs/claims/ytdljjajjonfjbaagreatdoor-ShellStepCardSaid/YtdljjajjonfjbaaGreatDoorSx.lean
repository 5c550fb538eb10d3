import Derived.WalkKit
import Derived.OrdersHeld
import Derived.ChangeKeysEq
import Derived.KernelRfl
set_option linter.unusedVariables false
open List renaming not_mem_nil->jY
open Bool renaming and_eq_true->kK
namespace Go.Proofs.Sx
open Go Go.RowKit
abbrev Env:=List (Nat×Value)
def get:Env->Nat->Option Value
 | [],_=>none
 | (k,v)::r,t=>cond (Nat.beq k t) (some v) (get r t)
structure Holds (n:Nat) (ds:List Deferred) (a:Act) (e:Env):Prop where
 size:a.tmps.size=n
 dfr:a.defers=ds
 slot : ∀ t v,get e t=some v->a.tmps.getD t undef=v
def val (e:Env):Operand->Option Value
 | .tmp t=>get e t
 | .const v=>some v
 | .global g=>some (.pointer (some ⟨g,0,none⟩))
 | .func f=>some (.func (.func f) #[] #[])
def rho (e:Env) (x:Operand):Value:=match val e x with | some v=>v | none=>undef
section
variable {n:Nat} {ds:List Deferred} {a:Act} {e:Env}
theorem Holds.eval (h:Holds n ds a e) {x:Operand} {v:Value} (hx:val e x=some v):a.eval x=v:=by
 cases x with
 | tmp t=>exact h.slot t v hx
 | const u=>simpa [val,Act.eval] using hx
 | global g=>simpa [val,Act.eval] using hx
 | func f=>simpa [val,Act.eval] using hx
theorem Holds.evalRho (h:Holds n ds a e) {x:Operand} (hx:(val e x).isSome=true):a.eval x=rho e x:=by
 cases hv:val e x with
 | none=>simp [hv] at hx
 | some v=>rw [h.eval hv]; simp [rho,hv]
theorem Nx {a b:Nat} (h:a=b):Nat.beq a b=true:=by subst h; exact Nat.beq_refl a
theorem Gb {a b:Nat} (h:a≠b):Nat.beq a b=false:=by
 cases hb:Nat.beq a b
 · rfl
 · exact absurd (Nat.eq_of_beq_eq_true hb) h
theorem Zw (x:Array Value) (d t:Nat) (v:Value) (hd:d < x.size):(x.setIfInBounds d v).getD t undef=if d=t then v else x.getD t undef:=by
 simp only [Array.getD_eq_getD_getElem?,Array.getElem?_setIfInBounds]
 split
 · simp
 · rfl
theorem Holds.put (h:Holds n ds a e) {d:Nat} (v:Value) (hd:d < n):Holds n ds (a.put (some d) v) ((d,v)::e):=by
 refine ⟨by simp [Act.put,h.size],h.dfr,fun t u ht=>?_⟩
 simp only [Act.put]
 rw [Zw _ _ _ _ (by rw [h.size]; exact hd)]
 simp only [get] at ht
 by_cases hdt:d=t
 · rw [if_pos hdt]; rw [Nx hdt] at ht; simpa using ht
 · rw [if_neg hdt]; rw [Gb hdt] at ht; exact h.slot t u ht
def B9 (e:Env):List Nat->Env
 | []=>[]
 | t::r=>match get e t with
  | some v=>(t,v)::B9 e r
  | none=>B9 e r
theorem Gw (e:Env) : ∀ l t v,get (B9 e l) t=some v->get e t=some v
 | [],_,_,h=>by simp [B9,get] at h
 | k::r,t,v,h=>by
  simp only [B9] at h
  cases hk:get e k with
  | none=>rw [hk] at h; exact Gw e r t v h
  | some u =>
   rw [hk] at h
   simp only [get] at h
   by_cases hkt:k=t
   · rw [Nx hkt] at h; subst hkt; simp only [cond_true,Option.some.injEq] at h; rw [hk,h]
   · rw [Gb hkt] at h; exact Gw e r t v h
theorem Holds.keep (h:Holds n ds a e) (l:List Nat):Holds n ds a (B9 e l) :=
 ⟨h.size,h.dfr,fun t v ht=>h.slot t v (Gw e l t v ht)⟩
theorem Holds.sub (h:Holds n ds a e) {e':Env} (l:List Nat) (he:B9 e l=e'):Holds n ds a e':=he ▸ h.keep l
theorem Holds.cast (h:Holds n ds a e) {e':Env} (he:e=e'):Holds n ds a e':=he ▸ h
theorem Holds.bool {f:Bool->Env} {b z:Bool} (h:Holds n ds a (f b)) (hb:b=z):Holds n ds a (f z):=hb ▸ h
theorem Holds.int {f:Int->Env} {x y:Int} (h:Holds n ds a (f x)) (hx:x=y):Holds n ds a (f y):=hx ▸ h
def Mp (args:List Value):Nat->Env
 | k=>match args with
  | []=>[]
  | v::r=>(k,v)::Mp r (k+1)
theorem Ov : ∀ (args:List Value) (k t:Nat) (v:Value),get (Mp args k) t=some v->k<=t/\args[t - k]? = some v
 | [],_,_,_,h=>by simp [Mp,get] at h
 | u::r,k,t,v,h=>by
  simp only [Mp,get] at h
  by_cases hkt:k=t
  · rw [Nx hkt] at h; subst hkt; simp only [cond_true,Option.some.injEq] at h; simp [h]
  · rw [Gb hkt] at h
    obtain ⟨h1,h2⟩:=Ov r (k+1) t v h
    refine ⟨by omega,?_⟩
    rw [show t - k=(t - (k+1))+1 from by omega]
    simpa using h2
theorem Holds.begin (args:List Value) (m:Nat):Holds (args.length+m) [] {tmps:=args.toArray++Array.replicate m undef,defers:=[]} (Mp args 0):=by
 refine ⟨by simp,rfl,fun t v ht=>?_⟩
 obtain ⟨_,h2⟩:=Ov args 0 t v ht
 have hlt:t < args.length:=by
  rcases Nat.lt_or_ge t args.length with h | h
  · exact h
  · simp [List.getElem?_eq_none h] at h2
 simp only [Nat.sub_zero] at h2
 simp [Array.getD_eq_getD_getElem?,Array.getElem?_append,hlt]
 simpa [List.getElem?_eq_getElem hlt] using h2
end
abbrev Z (x:Int):Value:= .int .i64 x
abbrev i32 (x:Int):Value:= .int .i32 x
abbrev u8 (x:Int):Value:= .int .u8 x
abbrev u64 (x:Int):Value:= .int .u64 x
abbrev I (b:Bool):Value:= .bool b
abbrev Y (s:ByteArray):Value:= .string s
abbrev pt (b:Nat):Value:= .pointer (some ⟨b,0,none⟩)
abbrev pf (b k:Nat):Value:= .pointer (some ⟨b,k,none⟩)
def rg (i:Nat):Nat->List Nat
 | 0=>[]
 | n+1=>i::rg (i+1) n
def Ec:List Prop->Prop
 | []=>True
 | c::r=>c/\Ec r
abbrev Res:=Option (Env×List Prop)
def Res.ask (c:Prop):Res->Res
 | some (e,cs)=>some (e,c::cs)
 | none=>none
def K3 (P:Program):Sem Next->(Value->Res)->Res
 | .pure (.value v),K=>K v
 | .program k,K=>K3 P (k P) K
 | _,_=>none
section
variable {P:Program} {L:Addr->TypeId->Value->Prop}
theorem Res.ask_some {c:Prop} {r:Res} {e:Env} {cs:List Prop} (h:r.ask c=some (e,cs)) : ∃ cs',r=some (e,cs')/\cs=c::cs':=by
 cases r with
 | none=>simp [Res.ask] at h
 | some p=>obtain ⟨e',cs'⟩:=p; simp only [Res.ask,Option.some.injEq,Prod.mk.injEq] at h; exact ⟨cs',by rw [h.1],h.2.symm⟩
theorem Pk (s:Sem Next) : ∀ (K:Value->Res) (e':Env) (Cs:List Prop),
 K3 P s K=some (e',Cs)->∃ v,K v=some (e',Cs)/\∀ w,s.run P w = .ok (.value v) w:=by
 induction s with
 | pure x =>
  intro K e' Cs h
  cases x <;> first | (exact ⟨_,h,fun w=>rfl⟩) | (simp [K3] at h)
 | program k ih =>
  intro K e' Cs h
  simp only [K3] at h
  obtain ⟨v,h1,h3⟩:=ih P K e' Cs h
  exact ⟨v,h1,fun w=>h3 w⟩
 | _=>intro K e' Cs h; simp [K3] at h
end
def De (ad:Addr) (sz:Nat) (i:Int):Addr:=ad.add (cond (Nat.beq sz 1) i.toNat (i.toNat*sz))
theorem Fu (ad:Addr) (sz:Nat) (i:Int):De ad sz i=ad.add (i.toNat*sz):=by
 unfold De
 cases h:Nat.beq sz 1
 · rfl
 · rw [Nat.eq_of_beq_eq_true h]; simp
def sb (s:ByteArray) (i:Nat):Int:=((s.data.toList.getD i 0).toNat:Int)
def Fh (e:Env) (d:Int):Option Operand->Option Int
 | none=>some d
 | some x=>match val e x with
  | some (.int _ i)=>some i
  | _=>none
def EqG (P:Program) (t:TypeId) (u v:Value) (b:Bool):Prop :=
 ∀ w,(∀ op x y,(eqGuard op t x y u v).run P w = .ok () w)/\(Op.equal t u v).run P w = .ok b w
def S7 (P:Program) (e:Env) (t:TypeId) (x ix:Operand) (vs:List Value) (K:Value->List Value->Res):Res :=
 match P.underlying t with
 | some .string=>match val e x with
  | some (.string s)=>match val e ix with
   | some (.int _ i)=>(K (.int .u8 (sb s i.toNat)) vs).ask (0<=i/\i < (s.size:Int))
   | _=>none
  | _=>none
 | some (.array len el)=>match val e x with
  | some (.agg cs)=>match val e ix with
   | some (.int _ i)=>match P.info? el with
    | some inf=>match vs with
     | v::vs=>match P.underlying el with
      | some (.struct _)=>none
      | some (.array _ _)=>none
      | some _=>(K v vs).ask (0<=i/\i < (len:Int)/\cs[i.toNat*inf.size]? = some v)
      | none=>none
     | []=>none
    | none=>none
   | _=>none
  | _=>none
 | _=>none
def Jq (P:Program) (e:Env) (t:TypeId) (x ix:Operand) (vs:List Value) (K:Value->List Value->Res):Res :=
 match P.underlying t with
 | some (.slice el)=>match val e x with
  | some (.slice (some ad) len _)=>match val e ix with
   | some (.int _ i)=>match P.info? el with
    | some inf=>(K (.pointer (some (De ad inf.size i))) vs).ask (0<=i/\i < (len:Int))
    | none=>none
   | _=>none
  | _=>none
 | some (.array len el)=>match val e x with
  | some (.pointer (some ad))=>match val e ix with
   | some (.int _ i)=>match P.info? el with
    | some inf=>(K (.pointer (some (De ad inf.size i))) vs).ask (0<=i/\i < (len:Int))
    | none=>none
   | _=>none
  | _=>none
 | _=>none
def offB (ad:Option Addr) (sz:Nat) (l:Int):Option Addr:=match ad with | some ad=>some (De ad sz l) | none=>none
def Si (P:Program) (e:Env) (t:TypeId) (x:Operand) (lo hi mx:Option Operand) (vs:List Value) (K:Value->List Value->Res):Res :=
 match mx.isSome && hi.isNone with
 | true=>none
 | false=>match P.underlying t with
  | some .string=>match mx with
   | none=>match val e x with
    | some (.string s)=>match Fh e 0 lo with
     | some l=>match Fh e (s.size:Int) hi with
      | some h=>(K (.string (s.extract l.toNat h.toNat)) vs).ask (0<=l/\l<=h/\h<=(s.size:Int))
      | none=>none
     | none=>none
    | _=>none
   | some _=>none
  | some (.slice el)=>match val e x with
   | some (.slice ad len cap)=>match Fh e (cap:Int) mx with
    | some m=>match Fh e (len:Int) hi with
     | some h=>match Fh e 0 lo with
      | some l=>match P.info? el with
       | some inf=>match vs with
        | .bool true::vs=>(K (.slice (offB ad inf.size l) (h.toNat - l.toNat) (m.toNat - l.toNat)) vs).ask (0<=l/\l<=h/\h<=m/\m<=(cap:Int)/\l < m)
        | .bool false::vs=>(K (.slice ad (h.toNat - l.toNat) (m.toNat - l.toNat)) vs).ask (0<=l/\l<=h/\h<=m/\m<=(cap:Int)/\(l=m\/l=0))
        | _=>none
       | none=>none
      | none=>none
     | none=>none
    | none=>none
   | _=>none
  | some (.array len el)=>match val e x with
   | some (.pointer (some ad))=>match Fh e (len:Int) mx with
    | some m=>match Fh e (len:Int) hi with
     | some h=>match Fh e 0 lo with
      | some l=>match P.info? el with
       | some inf=>match vs with
        | .bool true::vs=>(K (.slice (some (De ad inf.size l)) (h.toNat - l.toNat) (m.toNat - l.toNat)) vs).ask (0<=l/\l<=h/\h<=m/\m<=(len:Int)/\l < m)
        | .bool false::vs=>(K (.slice (some ad) (h.toNat - l.toNat) (m.toNat - l.toNat)) vs).ask (0<=l/\l<=h/\h<=m/\m<=(len:Int)/\(l=m\/l=0))
        | _=>none
       | none=>none
      | none=>none
     | none=>none
    | none=>none
   | _=>none
  | _=>none
def inK:IntKind->Int->Prop
 | .i8,x=>-128<=x/\x<=127
 | .i16,x=>-32768<=x/\x<=32767
 | .i32,x=>-2147483648<=x/\x<=2147483647
 | .i64,x=>-9223372036854775808<=x/\x<=9223372036854775807
 | .u8,x=>0<=x/\x<=255
 | .u16,x=>0<=x/\x<=65535
 | .u32,x=>0<=x/\x<=4294967295
 | .u64,x=>0<=x/\x<=18446744073709551615
theorem An {x:Int} (h : -9223372036854775808<=x) (h':x<=9223372036854775807):inK .i64 x:=⟨h,h'⟩
theorem Gv {x:Int} (h : 0<=x) (h':x<=255):inK .u8 x:=⟨h,h'⟩
theorem dU {x:Int} (h : 0<=x) (h':x<=18446744073709551615):inK .u64 x:=⟨h,h'⟩
theorem inK.wrap {k:IntKind} {x:Int} (h:inK k x):k.wrap x=x:=by
 cases k <;> simp only [inK] at h <;> simp [IntKind.wrap,IntKind.bits,IntKind.signed] <;> omega
def Q4 (k:IntKind) (x:Int) (vs:List Value) (K:Value->List Value->Res):Res :=
 match vs with
 | .bool true::vs=>(K (.int k x) vs).ask (inK k x)
 | .bool false::vs=>K (.int k (k.wrap x)) vs
 | _=>none
def Sj (op:BinOp) (e:Env) (x y:Operand) (vs:List Value) (K:Value->List Value->Res):Res :=
 match val e x with
 | some (.int k i)=>match val e y with
  | some (.int _ j)=>match op with
   | .shl=>Q4 k (i*2 ^ (min j.toNat k.bits)) vs fun v vs=>(K v vs).ask (0<=j)
   | .shr=>match vs with
    | .bool false::vs=>(K (.int k (i / 2 ^ (min j.toNat k.bits))) vs).ask (0<=j)
    | _=>none
   | _=>none
  | _=>none
 | _=>none
def iS (op:BinOp) (e:Env) (x y:Operand) (vs:List Value) (K:Value->List Value->Res):Res :=
 match val e x with
 | some (.int k i)=>match val e y with
  | some (.int k' j)=>match decEq k k' with
   | .isTrue _=>match op with
    | .quo=>match vs with
     | .bool true::vs=>(K (.int k (i / j)) vs).ask (0<=i/\0 < j/\inK k i)
     | .bool false::vs=>(K (.int k (k.wrap (i.tdiv j))) vs).ask (j≠0)
     | _=>none
    | .rem=>match vs with
     | .bool true::vs=>(K (.int k (i % j)) vs).ask (0<=i/\0 < j/\inK k i)
     | .bool false::vs=>(K (.int k (i.tmod j)) vs).ask (j≠0)
     | _=>none
    | _=>none
   | .isFalse _=>none
  | _=>none
 | _=>none
def gL (op:BinOp) (e:Env) (x y:Operand) (vs:List Value) (K:Value->List Value->Res):Res :=
 match val e x with
 | some (.int k i)=>match val e y with
  | some (.int k' j)=>match decEq k k' with
   | .isTrue _=>match op with
    | .add=>Q4 k (i+j) vs K
    | .sub=>Q4 k (i - j) vs K
    | .mul=>Q4 k (i*j) vs K
    | _=>none
   | .isFalse _=>none
  | _=>none
 | some (.string s)=>match val e y with
  | some (.string s')=>match op with
   | .add=>(K (.string (s++s')) vs).ask (s.size+s'.size<=9223372036854775807)
   | _=>none
  | _=>none
 | _=>none
def S0 (o:Op):Option (Bool×Operand×Operand) :=
 match o with
 | .call c=>match c.callee with
  | .builtin .min=>match c.args.toList with
   | [x,y]=>some (true,x,y)
   | _=>none
  | .builtin .max=>match c.args.toList with
   | [x,y]=>some (false,x,y)
   | _=>none
  | _=>none
 | _=>none
def X9 (P:Program) (e:Env) (src dst:TypeId) (x:Operand):Option (IntKind×Int) :=
 match P.underlying dst with
 | some (.int k)=>match val e x with
  | some (.int _ i)=>match P.underlying src with
   | some _=>some (k,i)
   | none=>none
  | _=>none
 | _=>none
def Rw (e:Env) (x y:Operand):Option (Value×Value) :=
 match val e x with
 | some (.agg cs)=>match val e y with
  | some (.agg ds)=>some (.agg cs,.agg ds)
  | _=>none
 | _=>none
def Nw (P:Program) (e:Env) (src dst:TypeId) (x:Operand):Option (Addr×Nat×TypeId) :=
 match P.underlying dst with
 | some .string=>match P.underlying src with
  | some (.slice el)=>match P.underlying el with
   | some (.int .u8)=>match val e x with
    | some (.slice (some ad) len _)=>some (ad,len,el)
    | _=>none
   | _=>none
  | _=>none
 | _=>none
def Oq (e:Env):List Operand->Bool
 | []=>true
 | x::r=>match val e x with
  | some _=>Oq e r
  | none=>false
def Gk (P:Program) (e:Env) (o:Oper) (vs:List Value) (K:Value->List Value->Res):Res :=
 match Oq e o.op.operands.toList with
 | true=>K3 P (execOp (rho e) o) fun v=>K v vs
 | false=>none
def jJ (P:Program) (t:TypeId):Bool :=
 match P.underlying t with
 | some (.array _ el)=>match P.underlying el with
  | some (.struct _)=>true
  | some (.array _ _)=>true
  | _=>false
 | _=>false
def opK (P:Program) (L:Addr->TypeId->Value->Prop) (e:Env) (o:Oper) (vs:List Value) (K:Value->List Value->Res):Res :=
 match o.op with
 | .move x=>match val e x with | some v=>K v vs | none=>none
 | .assign x=>match val e x with | some v=>K v vs | none=>none
 | .pick c x y=>match val e c with
  | some (.bool true)=>match val e x with | some v=>K v vs | none=>none
  | some (.bool false)=>match val e y with | some v=>K v vs | none=>none
  | _=>none
 | .extract x i=>match val e x with
  | some (.tuple us)=>match us[i]? with | some v=>K v vs | none=>none
  | _=>none
 | .load t x=>match val e x with
  | some (.pointer (some ad))=>match vs with
   | v::vs=>(K v vs).ask (L ad t v)
   | []=>none
  | _=>none
 | .indexAddr t x ix=>Jq P e t x ix vs K
 | .index t x ix=>match jJ P t with
  | true=>Gk P e o vs K
  | false=>S7 P e t x ix vs K
 | .slice t x lo hi mx=>Si P e t x lo hi mx vs K
 | .binOp op t x y _=>match op with
  | .shl | .shr=>Sj op e x y vs K
  | .quo | .rem=>iS op e x y vs K
  | .eql | .neq=>match Rw e x y with
   | some (u,v)=>match vs with
    | .bool b::vs=>match op with
     | .eql=>(K (.bool b) vs).ask (EqG P t u v b)
     | _=>(K (.bool !b) vs).ask (EqG P t u v b)
    | _=>none
   | none=>Gk P e o vs K
  | .add | .sub | .mul=>gL op e x y vs K
  | _=>Gk P e o vs K
 | .convert src dst x=>match Nw P e src dst x with
  | some (ad,len,el)=>match vs with
   | .string s::vs=>(K (.string s) vs).ask (s.size=len/\∀ i,i < len->L (ad.add i) el (.int .u8 (sb s i)))
   | _=>none
  | none=>match X9 P e src dst x with
   | some (k,i)=>Q4 k i vs K
   | none=>Gk P e o vs K
 | .unOp op _ x=>match op with
  | .neg=>match val e x with
   | some (.int k i)=>Q4 k (0 - i) vs K
   | _=>none
  | _=>Gk P e o vs K
 | .call c=>match S0 (.call c) with
  | some (mn,x,y)=>match val e x with
   | some (.int k i)=>match val e y with
    | some (.int _ j)=>K (.int k (cond mn (min i j) (max i j))) vs
    | _=>none
   | _=>none
  | none=>Gk P e o vs K
 | .select _ _=>none
 | _=>Gk P e o vs K
def Gf (ops:Array Oper) (e:Env) (o:Oper):Option Bool :=
 match o.guard with
 | none=>some true
 | some (j,want)=>match ops[j]? with
  | some oj=>match oj.dst with
   | some d=>match get e d with
    | some (.bool x)=>some (x == want)
    | some _=>some false
    | none=>none
   | none=>none
  | none=>none
def D2 (P:Program) (L:Addr->TypeId->Value->Prop) (n:Nat) (ops:Array Oper) (live:List Nat):List Oper->Env->List Value->Res
 | [],e,_=>some (B9 e live,[])
 | o::r,e,vs=>match o.dst with
  | none=>none
  | some d=>match Nat.blt d n with
   | false=>none
   | true=>match Gf ops e o with
    | some true=>opK P L e o vs fun v vs'=>D2 P L n ops live r ((d,v)::e) vs'
    | some false=>D2 P L n ops live r ((d,undef)::e) vs
    | none=>none
def Lh (P:Program) (ops:Array Oper) (S:World->Prop):List Oper->Act->(Act->Prop)->Prop
 | [],a,K=>K a
 | o::r,a,K=>∃ v,YieldsIf P ops S o v a/\Lh P ops S r (a.put o.dst v) K
section
variable {P:Program} {L:Addr->TypeId->Value->Prop} {S:World->Prop} {n:Nat} {ds:List Deferred} {a:Act} {e:Env}
def Lz (P:Program) (S:World->Prop) (a:Act) (o:Oper) (K:Value->List Value->Res) (e':Env):Prop :=
 ∃ v vs' Cs',K v vs'=some (e',Cs')/\Ec Cs'/\∀ w,S w->(execOp a.eval o).run P w = .ok (.value v) w
theorem Jo : ∀ (l:List Operand),Oq e l=true->∀ x∈l,(val e x).isSome=true
 | [],_,x,hx=>by cases hx
 | y::r,h,x,hx=>by
  simp only [Oq] at h
  cases hv:val e y with
  | none=>rw [hv] at h; cases h
  | some u =>
   rw [hv] at h
   rcases List.mem_cons.1 hx with rfl | hx
   · simp [hv]
   · exact Jo r h x hx
theorem Ca (V:Holds n ds a e) {o:Oper} (hsel : ∀ cs b,o.op≠ .select cs b) {vs:List Value} {K:Value->List Value->Res} {e':Env} {Cs:List Prop}
 (h:Gk P e o vs K=some (e',Cs)) (hC:Ec Cs):Lz P S a o K e':=by
 unfold Gk at h
 cases hk:Oq e o.op.operands.toList with
 | false=>rw [hk] at h; cases h
 | true =>
  rw [hk] at h
  have he:execOp a.eval o=execOp (rho e) o:=execOp_congr o hsel fun x hx=>V.evalRho (Jo _ hk x (by simpa using hx))
  obtain ⟨v,h1,h3⟩:=Pk _ _ e' Cs h
  exact ⟨v,vs,Cs,h1,hC,fun w _=>by rw [he]; exact h3 w⟩
end
section
variable {P:Program} {S:World->Prop} {n:Nat} {ds:List Deferred} {a:Act} {e:Env} {w:World}
theorem J4 {t el:TypeId} {inf:TypeInfo} {ad:Addr} {len cap:Nat} {k:IntKind} {i:Int} (ht:P.underlying t=some (.slice el)) (hinf:P.info? el=some inf) (h0 : 0<=i) (h1:i < (len:Int)) :
 (Instr.indexAt t (.slice (some ad) len cap) (.int k i)).run P w = .ok (.pointer (some (ad.add (i.toNat*inf.size)))) w:=by
 simp [Instr.indexAt,asIntOf,run_underlying ht,sizeOf,typeInfo,hinf,h0,h1]
theorem J5 {t el:TypeId} {inf:TypeInfo} {ad:Addr} {len:Nat} {k:IntKind} {i:Int} (ht:P.underlying t=some (.array len el)) (hinf:P.info? el=some inf) (h0 : 0<=i) (h1:i < (len:Int)) :
 (Instr.indexAt t (.pointer (some ad)) (.int k i)).run P w = .ok (.pointer (some (ad.add (i.toNat*inf.size)))) w:=by
 simp [Instr.indexAt,asIntOf,run_underlying ht,sizeOf,typeInfo,hinf,h0,h1,Instr.sureAddr]
theorem Rq {s:ByteArray} {k:Nat} (h:k < s.size):s[k]? = some (s.data.toList.getD k 0):=by
 have h':k < s.data.toList.length:=by simpa using h
 rw [getElem?_pos s k h,List.getD_eq_getElem?_getD,List.getElem?_eq_getElem h']
 rfl
theorem Ky {t:TypeId} {s:ByteArray} {k:IntKind} {i:Int} (ht:P.underlying t=some .string) (h0 : 0<=i) (h1:i < (s.size:Int)) :
 (Instr.index t (.string s) (.int k i)).run P w = .ok (.int .u8 (sb s i.toNat)) w:=by
 have hk:i.toNat < s.size:=by omega
 simp [Instr.index,asIntOf,run_underlying ht,h0,Rq hk,sb]
theorem L1 {t el:TypeId} {inf:TypeInfo} {cs:Array Value} {len:Nat} {k:IntKind} {i:Int} {v:Value} {d:TypeDesc} (ht:P.underlying t=some (.array len el)) (hinf:P.info? el=some inf) (hd:P.underlying el=some d)
 (hd1 : ∀ fs,d≠ .struct fs) (hd2 : ∀ m u,d≠ .array m u) (h0 : 0<=i) (h1:i < (len:Int)) (hv:cs[i.toNat*inf.size]? = some v) :
 (Instr.index t (.agg cs) (.int k i)).run P w = .ok v w:=by
 have:(isAgg el).run P w = .ok false w:=by
  simp only [isAgg,Sem.run_bind,run_underlying hd,Result.andThen_ok]
  cases d <;> simp_all
 simp [Instr.index,asIntOf,run_underlying ht,sizeOf,typeInfo,hinf,h0,h1,part,this,hv]
theorem E4 {x:Int} {k:IntKind} {y:Nat} {c:BoundsCode} (h0 : 0<=x) (h1:x<=(y:Int)):(Instr.sliceBound (.int k x) y c).run P w = .ok x.toNat w:=by
 simp [Instr.sliceBound,asIntOf,h0,h1]
def isB (d:Int) (i:Int):Option Value->Prop
 | none=>i=d
 | some v=>∃ k,v = .int k i
theorem Jm {isS:Bool} {len cap:Nat} {lo hi mx:Option Value} {l h m:Int} (hm:isB (cap:Int) m mx) (hh:isB (len:Int) h hi) (hl:isB 0 l lo) (hx:mx.isSome=true->hi.isSome=true) (h0 : 0<=l) (h1:l<=h) (h2:h<=m) (h3:m<=(cap:Int)) :
 (Instr.sliceBounds isS len cap lo hi mx).run P w = .ok (l.toNat,h.toNat,m.toNat) w:=by
 have e1:((h.toNat:Nat):Int)=h:=by omega
 have e2:((m.toNat:Nat):Int)=m:=by omega
 cases mx with
 | none =>
  have hm':m=(cap:Int):=hm
  subst hm'
  cases hi with
  | none =>
   have hh':h=(len:Int):=hh
   subst hh'
   cases lo with
   | none=>have hl':l=0:=hl; subst hl'; simp [Instr.sliceBounds]
   | some u=>obtain ⟨k,rfl⟩:=hl; simp [Instr.sliceBounds,E4 (P:=P) (w:=w) (k:=k) (c:= .sliceB) h0 h1]
  | some u =>
   obtain ⟨k,rfl⟩:=hh
   have hb:=fun c=>E4 (P:=P) (w:=w) (k:=k) (c:=c) (Int.le_trans h0 h1) h2
   cases lo with
   | none=>have hl':l=0:=hl; subst hl'; simp [Instr.sliceBounds,hb]
   | some u=>obtain ⟨k',rfl⟩:=hl; simp [Instr.sliceBounds,hb,E4 (P:=P) (w:=w) (k:=k') (y:=h.toNat) (c:= .sliceB) h0 (by omega)]
 | some q =>
  obtain ⟨km,rfl⟩:=hm
  have hbm:=fun c=>E4 (P:=P) (w:=w) (k:=km) (c:=c) (Int.le_trans h0 (Int.le_trans h1 h2)) h3
  cases hi with
  | none=>simp at hx
  | some u =>
   obtain ⟨k,rfl⟩:=hh
   have hb:=fun c=>E4 (P:=P) (w:=w) (k:=k) (y:=m.toNat) (c:=c) (Int.le_trans h0 h1) (by omega)
   cases lo with
   | none=>have hl':l=0:=hl; subst hl'; simp [Instr.sliceBounds,hb,hbm]
   | some u=>obtain ⟨k',rfl⟩:=hl; simp [Instr.sliceBounds,hb,hbm,E4 (P:=P) (w:=w) (k:=k') (y:=h.toNat) (c:= .slice3C) h0 (by omega)]
theorem Kx {t:TypeId} {s:ByteArray} {lo hi:Option Value} {l h:Int} (ht:P.underlying t=some .string) (hh:isB (s.size:Int) h hi) (hl:isB 0 l lo) (h0 : 0<=l) (h1:l<=h) (h2:h<=(s.size:Int)) :
 (Instr.sliceAt t (.string s) lo hi none).run P w = .ok (.string (s.extract l.toNat h.toNat)) w:=by
 simp [Instr.sliceAt,Instr.slice,run_underlying ht,Jm (P:=P) (w:=w) (isS:=false) (len:=s.size) (mx:=none) rfl hh hl (by simp) h0 h1 h2 (Int.le_refl _)]
theorem G5 {t el:TypeId} {inf:TypeInfo} {ad:Option Addr} {len cap:Nat} {lo hi mx:Option Value} {l h m:Int} (ht:P.underlying t=some (.slice el)) (hinf:P.info? el=some inf) (hm:isB (cap:Int) m mx) (hh:isB (len:Int) h hi) (hl:isB 0 l lo)
 (hx:mx.isSome=true->hi.isSome=true) (h0 : 0<=l) (h1:l<=h) (h2:h<=m) (h3:m<=(cap:Int)) :
 (Instr.sliceAt t (.slice ad len cap) lo hi mx).run P w = .ok (.slice (if m.toNat=l.toNat then ad else ad.map (·.add (l.toNat*inf.size))) (h.toNat - l.toNat) (m.toNat - l.toNat)) w:=by
 simp [Instr.sliceAt,Instr.slice,run_underlying ht,sizeOf,typeInfo,hinf,Jm (P:=P) (w:=w) (isS:=true) (len:=len) hm hh hl hx h0 h1 h2 h3]
theorem G6 {t el:TypeId} {inf:TypeInfo} {ad:Addr} {len:Nat} {lo hi mx:Option Value} {l h m:Int} (ht:P.underlying t=some (.array len el)) (hinf:P.info? el=some inf) (hm:isB (len:Int) m mx) (hh:isB (len:Int) h hi) (hl:isB 0 l lo)
 (hx:mx.isSome=true->hi.isSome=true) (h0 : 0<=l) (h1:l<=h) (h2:h<=m) (h3:m<=(len:Int)) :
 (Instr.sliceAt t (.pointer (some ad)) lo hi mx).run P w = .ok (.slice (some (if m.toNat=l.toNat then ad else ad.add (l.toNat*inf.size))) (h.toNat - l.toNat) (m.toNat - l.toNat)) w:=by
 simp [Instr.sliceAt,Instr.sureAddr,run_underlying ht,sizeOf,typeInfo,hinf,Jm (P:=P) (w:=w) (isS:=false) (len:=len) hm hh hl hx h0 h1 h2 h3]
theorem bU {t:TypeId} {k k':IntKind} {i j:Int} (h : 0<=j):(binOp .shl t (.int k i) (.int k' j)).run P w = .ok (.int k (k.wrap (i*2 ^ (min j.toNat k.bits)))) w:=by
 have : ¬ j < 0:=by omega
 simp [binOp,Op.shift,this]
theorem bT {t:TypeId} {k k':IntKind} {i j:Int} (h : 0<=j):(binOp .shr t (.int k i) (.int k' j)).run P w = .ok (.int k (i.fdiv (2 ^ (min j.toNat k.bits)))) w:=by
 have : ¬ j < 0:=by omega
 simp [binOp,Op.shift,this]
theorem Un {t:TypeId} {k:IntKind} {i j:Int} (h:j≠0):(binOp .quo t (.int k i) (.int k j)).run P w = .ok (.int k (k.wrap (i.tdiv j))) w:=by
 simp [binOp,Op.intDiv,h]
theorem Um {t:TypeId} {k:IntKind} {i j:Int} (h:j≠0):(binOp .rem t (.int k i) (.int k j)).run P w = .ok (.int k (i.tmod j)) w:=by
 simp [binOp,Op.intDiv,h]
theorem bytes_of (s:ByteArray):(List.range s.size).map (fun i=>s.data.toList.getD i 0)=s.data.toList:=by
 apply List.ext_getElem
 · simp
 · intro i h1 h2
   simp only [List.getElem_map,List.getElem_range,List.getD_eq_getElem?_getD,List.getElem?_eq_getElem h2]
   rfl
theorem Fb (ad:Addr) (f:Nat->Value) : ∀ (n i:Nat) (acc:Array Value),(∀ j,j < n->(load (ad.add (i+j))).run P w = .ok (f (i+j)) w) ->
 (loadCellsFrom ad i n acc).run P w = .ok (acc++((List.range n).map fun j=>f (i+j)).toArray) w
 | 0,i,acc,_=>by simp [loadCellsFrom]
 | n+1,i,acc,h=>by
  have h0:=h 0 (by omega)
  simp only [Nat.add_zero] at h0
  simp only [loadCellsFrom,Sem.run_bind,h0,Result.andThen_ok]
  rw [Fb ad f n (i+1) _ (fun j hj=>by have:=h (j+1) (by omega); simpa [Nat.add_assoc,Nat.add_comm 1 j] using this)]
  congr 1
  rw [List.range_succ_eq_map]
  simp [Function.comp_def,Nat.add_assoc,Nat.add_comm 1]
theorem Pd {src dst el:TypeId} {ad:Addr} {len cap:Nat} {s:ByteArray} (hd:P.underlying dst=some .string) (hs:P.underlying src=some (.slice el)) (he:P.underlying el=some (.int .u8))
 (hl:s.size=len) (hc : ∀ i,i < len->(loadVar el (ad.add i)).run P w = .ok (.int .u8 (sb s i)) w) :
 (convert src dst (.slice (some ad) len cap)).run P w = .ok (.string s) w:=by
 have hag:(isAgg el).run P w = .ok false w:=by simp [isAgg,run_underlying he]
 have hld : ∀ x,(loadVar el x).run P w=(load x).run P w:=fun x=>by simp [loadVar,hag]
 have h1:=Fb (P:=P) (w:=w) ad (fun i=> .int .u8 (sb s i)) len 0 #[] (fun j hj=>by rw [← hld,Nat.zero_add]; exact hc j hj)
 have h2:(loadCells ad len).run P w = .ok ((s.data.toList.map (fun b=>(b.toNat:Int))).map (Value.int .u8)).toArray w:=by
  unfold loadCells
  rw [h1]
  subst hl
  rw [← bytes_of s]
  simp [Function.comp_def,sb]
 have hlen:((s.data.toList.map (fun b=>(b.toNat:Int)))).length=len:=by simpa using hl
 rw [run_convert_bytes_string w src dst el (some ad) len cap hs he hd,run_bytesToString w ad len cap _ h2,foldl_push_byteCells]
 have he0:ByteArray.empty.data=#[]:=rfl
 rw [he0]
 simp
abbrev gE (P:Program) (S:World->Prop) (L:Addr->TypeId->Value->Prop):Prop:=∀ ad t v,L ad t v->∀ w,S w->(loadVar t ad).run P w = .ok v w
theorem Ea {e:Env} {d i:Int} {x:Option Operand} (h:Fh e d x=some i) {a:Act} (V:Holds n ds a e):isB d i (x.map a.eval):=by
 cases x with
 | none=>simp only [Fh,Option.some.injEq] at h; exact h.symm
 | some x =>
  simp only [Fh] at h
  split at h
  · rename_i k j hv; simp only [Option.some.injEq] at h; exact ⟨k,by simp [V.eval hv,h]⟩
  · cases h
theorem K9 (V:Holds n ds a e) {o:Oper} {t:TypeId} {x ix:Operand} (ho:o.op = .indexAddr t x ix) {vs:List Value} {K:Value->List Value->Res} {e':Env} {Cs:List Prop}
 (h:Jq P e t x ix vs K=some (e',Cs)) (hC:Ec Cs):Lz P S a o K e':=by
 unfold Jq at h
 split at h
 · split at h
   · split at h
     · split at h
       · rename_i el ht _ ad len cap hx _ k i hi _ inf hinf
         obtain ⟨cs',h1,rfl⟩:=Res.ask_some h
         refine ⟨_,_,_,h1,hC.2,fun w _=>?_⟩
         unfold execOp
         simp only [ho,V.eval hx,V.eval hi,Sem.run_bind,J4 ht hinf hC.1.1 hC.1.2,Result.andThen_ok,Sem.run_pure,Fu]
       · cases h
     · cases h
   · cases h
 · split at h
   · split at h
     · split at h
       · rename_i len el ht _ ad hx _ k i hi _ inf hinf
         obtain ⟨cs',h1,rfl⟩:=Res.ask_some h
         refine ⟨_,_,_,h1,hC.2,fun w _=>?_⟩
         unfold execOp
         simp only [ho,V.eval hx,V.eval hi,Sem.run_bind,J5 ht hinf hC.1.1 hC.1.2,Result.andThen_ok,Sem.run_pure,Fu]
       · cases h
     · cases h
   · cases h
 · cases h
theorem Pv (V:Holds n ds a e) {o:Oper} {t:TypeId} {x ix:Operand} (ho:o.op = .index t x ix) {vs:List Value} {K:Value->List Value->Res} {e':Env} {Cs:List Prop}
 (h:S7 P e t x ix vs K=some (e',Cs)) (hC:Ec Cs):Lz P S a o K e':=by
 unfold S7 at h
 split at h
 · split at h
   · split at h
     · rename_i ht _ s hx _ k i hi
       obtain ⟨cs',h1,rfl⟩:=Res.ask_some h
       refine ⟨_,_,_,h1,hC.2,fun w _=>?_⟩
       unfold execOp
       simp only [ho,V.eval hx,V.eval hi,Sem.run_bind,Ky ht hC.1.1 hC.1.2,Result.andThen_ok,Sem.run_pure]
     · cases h
   · cases h
 · split at h
   · split at h
     · split at h
       · split at h
         · split at h
           · cases h
           · cases h
           · rename_i len el ht _ cs hx _ k i hi _ inf hinf _ v vs _ d hd1 hd2 hd
             obtain ⟨cs',h1,rfl⟩:=Res.ask_some h
             refine ⟨_,_,_,h1,hC.2,fun w _=>?_⟩
             unfold execOp
             simp only [ho,V.eval hx,V.eval hi,Sem.run_bind,L1 ht hinf hd (fun fs hfs=>hd1 fs (by rw [hfs])) (fun m u hmu=>hd2 m u (by rw [hmu])) hC.1.1 hC.1.2.1 hC.1.2.2,Result.andThen_ok,Sem.run_pure]
           · cases h
         · cases h
       · cases h
     · cases h
   · cases h
 · cases h
theorem Es {o:Oper} {t:TypeId} {x:Operand} {lo hi mx:Option Operand} (ho:o.op = .slice t x lo hi mx) {u v:Value} (hx:a.eval x=u) (hr:(Instr.sliceAt t u (lo.map a.eval) (hi.map a.eval) (mx.map a.eval)).run P w = .ok v w) :
 (execOp a.eval o).run P w = .ok (.value v) w:=by
 unfold execOp
 simp only [ho,hx,Sem.run_bind,hr,Result.andThen_ok,Sem.run_pure]
theorem Mf {mx hi:Option Operand} (h:(mx.isSome && hi.isNone)=false) {f:Operand->Value}:(mx.map f).isSome=true->(hi.map f).isSome=true:=by
 cases mx <;> cases hi <;> simp_all
theorem Mq {l m:Int} {ad:Option Addr} {k:Nat} (h0 : 0<=l) (h1:l=m\/l=0):(if m.toNat=l.toNat then ad else ad.map (·.add (l.toNat*k)))=ad:=by
 rcases h1 with rfl | rfl
 · simp
 · split
   · rfl
   · cases ad <;> simp [Addr.add]
theorem O9 (V:Holds n ds a e) {o:Oper} {t:TypeId} {x:Operand} {lo hi mx:Option Operand} (ho:o.op = .slice t x lo hi mx) {vs:List Value} {K:Value->List Value->Res} {e':Env} {Cs:List Prop}
 (h:Si P e t x lo hi mx vs K=some (e',Cs)) (hC:Ec Cs):Lz P S a o K e':=by
 unfold Si at h
 repeat' split at h
 all_goals try (cases h; done)
 · rename_i ht _ hmx _ s hx _ l hl _ h' hh
   obtain ⟨cs',h1,rfl⟩:=Res.ask_some h
   refine ⟨_,_,_,h1,hC.2,fun w _=>Es ho (V.eval hx) ?_⟩
   exact Kx ht (Ea hh V) (Ea hl V) hC.1.1 hC.1.2.1 hC.1.2.2
 · rename_i hb _ el ht _ ad len cap hx _ m hm _ h' hh _ l hl _ inf hinf _ vs'
   obtain ⟨cs',h1,rfl⟩:=Res.ask_some h
   refine ⟨_,_,_,h1,hC.2,fun w _=>Es ho (V.eval hx) ?_⟩
   rw [G5 ht hinf (Ea hm V) (Ea hh V) (Ea hl V) (Mf hb) hC.1.1 hC.1.2.1 hC.1.2.2.1 hC.1.2.2.2.1]
   have hne : ¬ m.toNat=l.toNat:=by have:=hC.1.2.2.2.2; have:=hC.1.1; omega
   rw [if_neg hne]
   cases ad <;> simp [offB,Fu]
 · rename_i hb _ el ht _ ad len cap hx _ m hm _ h' hh _ l hl _ inf hinf _ vs'
   obtain ⟨cs',h1,rfl⟩:=Res.ask_some h
   refine ⟨_,_,_,h1,hC.2,fun w _=>Es ho (V.eval hx) ?_⟩
   rw [G5 ht hinf (Ea hm V) (Ea hh V) (Ea hl V) (Mf hb) hC.1.1 hC.1.2.1 hC.1.2.2.1 hC.1.2.2.2.1,Mq hC.1.1 hC.1.2.2.2.2]
 · rename_i hb _ len el ht _ ad hx _ m hm _ h' hh _ l hl _ inf hinf _ vs'
   obtain ⟨cs',h1,rfl⟩:=Res.ask_some h
   refine ⟨_,_,_,h1,hC.2,fun w _=>Es ho (V.eval hx) ?_⟩
   rw [G6 ht hinf (Ea hm V) (Ea hh V) (Ea hl V) (Mf hb) hC.1.1 hC.1.2.1 hC.1.2.2.1 hC.1.2.2.2.1]
   have hne : ¬ m.toNat=l.toNat:=by have:=hC.1.2.2.2.2; have:=hC.1.1; omega
   rw [if_neg hne,Fu]
 · rename_i hb _ len el ht _ ad hx _ m hm _ h' hh _ l hl _ inf hinf _ vs'
   obtain ⟨cs',h1,rfl⟩:=Res.ask_some h
   refine ⟨_,_,_,h1,hC.2,fun w _=>Es ho (V.eval hx) ?_⟩
   rw [G6 ht hinf (Ea hm V) (Ea hh V) (Ea hl V) (Mf hb) hC.1.1 hC.1.2.1 hC.1.2.2.1 hC.1.2.2.2.1]
   have:=Mq (m:=m) (l:=l) (ad:=some ad) (k:=inf.size) hC.1.1 hC.1.2.2.2.2
   split
   · rfl
   · rename_i hne; rw [if_neg hne] at this; simpa using this
theorem Ct {o:Oper} {op:BinOp} {t yt:TypeId} {x y:Operand} (ho:o.op = .binOp op t x y yt) {u u' v:Value} (hx:a.eval x=u) (hy:a.eval y=u') (hop:op≠ .eql/\op≠ .neq) (hr:(binOp op t u u').run P w = .ok v w) :
 (execOp a.eval o).run P w = .ok (.value v) w:=by
 unfold execOp
 have hg:(eqGuard op t x y u u').run P w = .ok () w:=by cases op <;> first | exact absurd rfl hop.1 | exact absurd rfl hop.2 | rfl
 simp only [ho,hx,hy,Sem.run_bind,hg,hr,Result.andThen_ok,Sem.run_pure]
theorem E7 {k:IntKind} {x:Int} {vs:List Value} {K:Value->List Value->Res} {e':Env} {Cs:List Prop} (h:Q4 k x vs K=some (e',Cs)) (hC:Ec Cs) :
 ∃ y vs' Cs',K (.int k y) vs'=some (e',Cs')/\Ec Cs'/\k.wrap x=y:=by
 unfold Q4 at h
 repeat' split at h
 all_goals try (cases h; done)
 · obtain ⟨cs',h1,rfl⟩:=Res.ask_some h
   exact ⟨_,_,_,h1,hC.2,hC.1.wrap⟩
 · exact ⟨_,_,_,h,hC,rfl⟩
theorem J3 (V:Holds n ds a e) {o:Oper} {op:BinOp} {t yt:TypeId} {x y:Operand} (ho:o.op = .binOp op t x y yt) {vs:List Value} {K:Value->List Value->Res} {e':Env} {Cs:List Prop}
 (h:Sj op e x y vs K=some (e',Cs)) (hC:Ec Cs):Lz P S a o K e':=by
 unfold Sj at h
 repeat' split at h
 all_goals try (cases h; done)
 · rename_i k i hx _ k' j hy _
   obtain ⟨z,vs',Cs',h1,h2,h3⟩:=E7 h hC
   obtain ⟨cs',h4,rfl⟩:=Res.ask_some h1
   exact ⟨_,_,_,h4,h2.2,fun w _=>Ct ho (V.eval hx) (V.eval hy) ⟨by simp,by simp⟩ (h3 ▸ bU h2.1)⟩
 · rename_i k i hx _ k' j hy _ _ _
   obtain ⟨cs',h1,rfl⟩:=Res.ask_some h
   refine ⟨_,_,_,h1,hC.2,fun w _=>Ct ho (V.eval hx) (V.eval hy) ⟨by simp,by simp⟩ ?_⟩
   rw [bT hC.1,Int.fdiv_eq_ediv_of_nonneg]
   exact Int.le_of_lt (Int.pow_pos (by decide))
theorem Vv {k:IntKind} {i j:Int} (h : 0<=i/\0 < j/\inK k i):k.wrap (i.tdiv j)=i / j:=by
 rw [Int.tdiv_eq_ediv_of_nonneg h.1]
 refine inK.wrap ?_
 have h1 : 0<=i / j:=Int.ediv_nonneg h.1 (Int.le_of_lt h.2.1)
 have h2:i / j<=i:=Int.ediv_le_self _ h.1
 have h3:=h.2.2
 have h0:=h.1
 cases k <;> simp only [inK] at h3 ⊢ <;> omega
theorem No (V:Holds n ds a e) {o:Oper} {op:BinOp} {t yt:TypeId} {x y:Operand} (ho:o.op = .binOp op t x y yt) {vs:List Value} {K:Value->List Value->Res} {e':Env} {Cs:List Prop}
 (h:iS op e x y vs K=some (e',Cs)) (hC:Ec Cs):Lz P S a o K e':=by
 unfold iS at h
 repeat' split at h
 all_goals try (cases h; done)
 · rename_i k i hx _ k' j hy _ hk _ _ _ _
   subst hk
   obtain ⟨cs',h1,rfl⟩:=Res.ask_some h
   exact ⟨_,_,_,h1,hC.2,fun w _=>Ct ho (V.eval hx) (V.eval hy) ⟨by simp,by simp⟩ (Vv hC.1 ▸ Un (by have:=hC.1.2.1; omega))⟩
 · rename_i k i hx _ k' j hy _ hk _ _ _ _
   subst hk
   obtain ⟨cs',h1,rfl⟩:=Res.ask_some h
   exact ⟨_,_,_,h1,hC.2,fun w _=>Ct ho (V.eval hx) (V.eval hy) ⟨by simp,by simp⟩ (Un hC.1)⟩
 · rename_i k i hx _ k' j hy _ hk _ _ _ _
   subst hk
   obtain ⟨cs',h1,rfl⟩:=Res.ask_some h
   exact ⟨_,_,_,h1,hC.2,fun w _=>Ct ho (V.eval hx) (V.eval hy) ⟨by simp,by simp⟩ (Int.tmod_eq_emod_of_nonneg hC.1.1 ▸ Um (by have:=hC.1.2.1; omega))⟩
 · rename_i k i hx _ k' j hy _ hk _ _ _ _
   subst hk
   obtain ⟨cs',h1,rfl⟩:=Res.ask_some h
   exact ⟨_,_,_,h1,hC.2,fun w _=>Ct ho (V.eval hx) (V.eval hy) ⟨by simp,by simp⟩ (Um hC.1)⟩
theorem Jk (V:Holds n ds a e) {o:Oper} {op:BinOp} {t yt:TypeId} {x y:Operand} (ho:o.op = .binOp op t x y yt) {vs:List Value} {K:Value->List Value->Res} {e':Env} {Cs:List Prop}
 (h:gL op e x y vs K=some (e',Cs)) (hC:Ec Cs):Lz P S a o K e':=by
 unfold gL at h
 repeat' split at h
 all_goals try (cases h; done)
 · rename_i k i hx _ k' j hy _ hk _ _
   subst hk
   obtain ⟨z,vs',Cs',h1,h2,h3⟩:=E7 h hC
   exact ⟨_,_,_,h1,h2,fun w _=>Ct ho (V.eval hx) (V.eval hy) ⟨by simp,by simp⟩ (by simp [binOp,Op.intArith,h3])⟩
 · rename_i k i hx _ k' j hy _ hk _ _
   subst hk
   obtain ⟨z,vs',Cs',h1,h2,h3⟩:=E7 h hC
   exact ⟨_,_,_,h1,h2,fun w _=>Ct ho (V.eval hx) (V.eval hy) ⟨by simp,by simp⟩ (by simp [binOp,Op.intArith,h3])⟩
 · rename_i k i hx _ k' j hy _ hk _ _
   subst hk
   obtain ⟨z,vs',Cs',h1,h2,h3⟩:=E7 h hC
   exact ⟨_,_,_,h1,h2,fun w _=>Ct ho (V.eval hx) (V.eval hy) ⟨by simp,by simp⟩ (by simp [binOp,Op.intArith,h3])⟩
 · rename_i s hx _ s' hy _
   obtain ⟨cs',h1,rfl⟩:=Res.ask_some h
   have hm : ¬ ((s.size+s'.size:Nat):Int) > IntKind.i64.max:=by
    have:=hC.1
    have hmax:IntKind.i64.max=9223372036854775807:=by decide
    rw [hmax]; omega
   exact ⟨_,_,_,h1,hC.2,fun w _=>Ct ho (V.eval hx) (V.eval hy) ⟨by simp,by simp⟩ (by simp only [binOp,Op.stringOp,hm,if_false]; rfl)⟩
theorem Rb {o:Op} {mn:Bool} {x y:Operand} (h:S0 o=some (mn,x,y)) : ∃ c,o = .call c/\c.callee = .builtin (cond mn .min .max)/\c.args=#[x,y]:=by
 unfold S0 at h
 repeat' split at h
 all_goals try (cases h; done)
 all_goals
  rename_i c _ hc _ _ _ hargs
  simp only [Option.some.injEq,Prod.mk.injEq] at h
  obtain ⟨rfl,rfl,rfl⟩:=h
  exact ⟨c,rfl,hc,Array.toList_inj.1 (by simpa using hargs)⟩
theorem Sf {src dst:TypeId} {x:Operand} {k:IntKind} {i:Int} (h:X9 P e src dst x=some (k,i)):P.underlying dst=some (.int k)/\(∃ k',val e x=some (.int k' i))/\∃ d,P.underlying src=some d:=by
 unfold X9 at h
 repeat' split at h
 all_goals try (cases h; done)
 rename_i hd _ k' i' hx _ d hs
 simp only [Option.some.injEq,Prod.mk.injEq] at h
 obtain ⟨rfl,rfl⟩:=h
 exact ⟨hd,⟨k',hx⟩,d,hs⟩
theorem Nn {x y:Operand} {u v:Value} (h:Rw e x y=some (u,v)):val e x=some u/\val e y=some v:=by
 unfold Rw at h
 repeat' split at h
 all_goals try (cases h; done)
 rename_i cs hx _ ds hy
 simp only [Option.some.injEq,Prod.mk.injEq] at h
 exact ⟨h.1 ▸ hx,h.2 ▸ hy⟩
theorem Oz {x y:Operand} {u v:Value} (h:Rw e x y=some (u,v)) : ∃ xs ys,u = .agg xs/\v = .agg ys:=by
 unfold Rw at h
 repeat' split at h
 all_goals try (cases h; done)
 simp only [Option.some.injEq,Prod.mk.injEq] at h
 exact ⟨_,_,h.1.symm,h.2.symm⟩
theorem N4 {src dst el:TypeId} {x:Operand} {ad:Addr} {len:Nat} (h:Nw P e src dst x=some (ad,len,el)) :
 P.underlying dst=some .string/\P.underlying src=some (.slice el)/\P.underlying el=some (.int .u8)/\∃ cap,val e x=some (.slice (some ad) len cap):=by
 unfold Nw at h
 repeat' split at h
 all_goals try (cases h; done)
 rename_i hd _ el' hs _ he _ ad' len' cap hx
 simp only [Option.some.injEq,Prod.mk.injEq] at h
 obtain ⟨rfl,rfl,rfl⟩:=h
 exact ⟨hd,hs,he,cap,hx⟩
theorem Xg {L:Addr->TypeId->Value->Prop} (hL:gE P S L) (V:Holds n ds a e) {o:Oper} {vs:List Value} {K:Value->List Value->Res} {e':Env} {Cs:List Prop}
 (h:opK P L e o vs K=some (e',Cs)) (hC:Ec Cs):Lz P S a o K e':=by
 unfold opK at h
 split at h
 · rename_i x ho
   split at h
   · rename_i v hx; exact ⟨v,vs,Cs,h,hC,fun w _=>by unfold execOp; simp only [ho,V.eval hx]; rfl⟩
   · cases h
 · rename_i x ho
   split at h
   · rename_i v hx; exact ⟨v,vs,Cs,h,hC,fun w _=>by unfold execOp; simp only [ho,V.eval hx]; rfl⟩
   · cases h
 · rename_i c x y ho
   split at h
   · rename_i hc
     split at h
     · rename_i v hx; exact ⟨v,vs,Cs,h,hC,fun w _=>by unfold execOp; simp only [ho,V.eval hc,asBool,Sem.run_bind,Sem.run_pure,Result.andThen_ok,if_true,V.eval hx]⟩
     · cases h
   · rename_i hc
     split at h
     · rename_i v hx; exact ⟨v,vs,Cs,h,hC,fun w _=>by unfold execOp; simp only [ho,V.eval hc,asBool,Sem.run_bind,Sem.run_pure,Result.andThen_ok,Bool.false_eq_true,if_false,V.eval hx]⟩
     · cases h
   · cases h
 · rename_i x i ho
   split at h
   · rename_i us hx
     split at h
     · rename_i v hv; exact ⟨v,vs,Cs,h,hC,fun w _=>by unfold execOp; simp only [ho,V.eval hx,Instr.extract,hv,Sem.run_bind,Sem.run_pure,Result.andThen_ok]⟩
     · cases h
   · cases h
 · rename_i t x ho
   split at h
   · rename_i ad hx
     split at h
     · rename_i v vs
       obtain ⟨cs',h1,rfl⟩:=Res.ask_some h
       exact ⟨_,_,_,h1,hC.2,fun w hw=>by unfold execOp; simp only [ho,V.eval hx,Instr.loadAt,Instr.sureAddr,Sem.run_bind,Sem.run_pure,Result.andThen_ok,hL _ _ _ hC.1 w hw]⟩
     · cases h
   · cases h
 · rename_i t x ix ho; exact K9 V ho h hC
 · rename_i t x ix ho
   split at h
   · exact Ca V (fun cs b=>by rw [ho]; intro hh; cases hh) h hC
   · exact Pv V ho h hC
 · rename_i t x lo hi mx ho; exact O9 V ho h hC
 · rename_i op t x y yt ho
   have hsel : ∀ cs b,o.op≠ .select cs b:=fun cs b=>by rw [ho]; exact fun h=>by cases h
   split at h
   · exact J3 V ho h hC
   · exact J3 V ho h hC
   · exact No V ho h hC
   · exact No V ho h hC
   · split at h
     · rename_i u v huv
       obtain ⟨hx,hy⟩:=Nn huv
       split at h
       · obtain ⟨cs',h1,rfl⟩:=Res.ask_some h
         refine ⟨_,_,_,h1,hC.2,fun w _=>?_⟩
         obtain ⟨hg,hq⟩:=hC.1 w
         obtain ⟨us,us',rfl,rfl⟩:=Oz huv
         unfold execOp
         simp only [ho,V.eval hx,V.eval hy,Sem.run_bind,hg,Result.andThen_ok]
         simp only [binOp,Sem.run_bind,hq,Result.andThen_ok,Sem.run_pure]
       · cases h
     · exact Ca V hsel h hC
   · split at h
     · rename_i u v huv
       obtain ⟨hx,hy⟩:=Nn huv
       split at h
       · obtain ⟨cs',h1,rfl⟩:=Res.ask_some h
         refine ⟨_,_,_,h1,hC.2,fun w _=>?_⟩
         obtain ⟨hg,hq⟩:=hC.1 w
         obtain ⟨us,us',rfl,rfl⟩:=Oz huv
         unfold execOp
         simp only [ho,V.eval hx,V.eval hy,Sem.run_bind,hg,Result.andThen_ok]
         simp only [binOp,Sem.run_bind,hq,Result.andThen_ok,Sem.run_pure]
       · cases h
     · exact Ca V hsel h hC
   · exact Jk V ho h hC
   · exact Jk V ho h hC
   · exact Jk V ho h hC
   · exact Ca V hsel h hC
 · rename_i src dst x ho
   have hsel : ∀ cs b,o.op≠ .select cs b:=fun cs b=>by rw [ho]; exact fun h=>by cases h
   split at h
   · rename_i ad len el hb
     obtain ⟨hd,hs,he,cap,hx⟩:=N4 hb
     split at h
     · obtain ⟨cs',h1,rfl⟩:=Res.ask_some h
       refine ⟨_,_,_,h1,hC.2,fun w hw=>?_⟩
       unfold execOp
       simp only [ho,V.eval hx,Sem.run_bind,Pd (P:=P) (w:=w) hd hs he hC.1.1 (fun i hi=>hL _ _ _ (hC.1.2 i hi) w hw),Result.andThen_ok,Sem.run_pure]
     · cases h
   · split at h
     · rename_i k i hk
       obtain ⟨hd,⟨k',hx⟩,d,hs⟩:=Sf hk
       obtain ⟨z,vs',Cs',h1,h2,h3⟩:=E7 h hC
       refine ⟨_,_,_,h1,h2,fun w _=>?_⟩
       unfold execOp
       simp only [ho,V.eval hx,Sem.run_bind]
       have:(convert src dst (.int k' i)).run P w = .ok (.int k z) w:=by
        unfold convert
        simp [run_underlying hd,run_underlying hs,Conv.intToInt,h3]
       rw [this]; rfl
     · exact Ca V hsel h hC
 · rename_i op t x ho
   have hsel : ∀ cs b,o.op≠ .select cs b:=fun cs b=>by rw [ho]; exact fun h=>by cases h
   split at h
   · split at h
     · rename_i k i hx
       obtain ⟨z,vs',Cs',h1,h2,h3⟩:=E7 h hC
       refine ⟨_,_,_,h1,h2,fun w _=>?_⟩
       unfold execOp
       simp only [ho,V.eval hx,Op.unary,Op.intArith,Sem.run_bind,Sem.run_pure,Result.andThen_ok,h3]
     · cases h
   · exact Ca V hsel h hC
 · rename_i c ho
   have hsel : ∀ cs b,o.op≠ .select cs b:=fun cs b=>by rw [ho]; exact fun h=>by cases h
   split at h
   · rename_i mn x y hm
     obtain ⟨c',hc',hcal,hargs⟩:=Rb hm
     cases hc'
     repeat' split at h
     all_goals try (cases h; done)
     rename_i k i hx _ k' j hy
     refine ⟨_,_,_,h,hC,fun w _=>?_⟩
     unfold execOp
     simp only [ho,resolve,hcal,hargs]
     cases mn
     · simp [invoke,builtin,Builtin.max_,Builtin.max2,V.eval hx,V.eval hy]
       split <;> omega
     · simp [invoke,builtin,Builtin.min_,Builtin.min2,V.eval hx,V.eval hy]
       split <;> omega
   · exact Ca V hsel h hC
 · cases h
 · rename_i h1 h2 h3 h4 h5 h6 h7 h8 h9 h10 h11 h12 h13
   exact Ca V (fun cs b hs=>h13 cs b hs) h hC
def asB:Value->Option Bool
 | .bool b=>some b
 | _=>none
theorem R9 {ops:Array Oper} {tmps:Array Value} {j d:Nat} {oj:Oper} (hj:ops[j]? = some oj) (hd:oj.dst=some d):yielded ops tmps j=asB (tmps.getD d undef):=by
 unfold yielded
 rw [hj]
 simp only [Option.bind_some,hd,Array.getD_eq_getD_getElem?]
 cases hget:tmps[d]? with
 | none=>rfl
 | some u=>cases u <;> rfl
theorem E0 {ops:Array Oper} (V:Holds n ds a e) {o:Oper} {b:Bool} (h:Gf ops e o=some b):Region.wanted o (yielded ops a.tmps)=b:=by
 unfold Gf at h
 unfold Region.wanted
 cases hg:o.guard with
 | none=>rw [hg] at h; simpa using h
 | some p =>
  obtain ⟨j,want⟩:=p
  rw [hg] at h
  simp only at h ⊢
  cases hj:ops[j]? with
  | none=>rw [hj] at h; cases h
  | some oj =>
   rw [hj] at h
   simp only at h
   cases hd:oj.dst with
   | none=>rw [hd] at h; cases h
   | some d =>
    rw [hd] at h
    simp only at h
    rw [R9 hj hd]
    cases hv:get e d with
    | none=>rw [hv] at h; cases h
    | some v =>
     rw [V.slot d v hv]
     rw [hv] at h
     cases v <;> simp only [Option.some.injEq,asB] at h ⊢
     case bool x=>subst h; cases x <;> cases want <;> rfl
     all_goals (subst h; rfl)
theorem C4 {L:Addr->TypeId->Value->Prop} (hL:gE P S L) {ops:Array Oper} {live:List Nat} : ∀ (l:List Oper) (e:Env) (vs:List Value) (e':Env) (Cs:List Prop) (a:Act),
 Holds n ds a e->D2 P L n ops live l e vs=some (e',Cs)->Ec Cs->Lh P ops S l a (fun a'=>Holds n ds a' e')
 | [],e,vs,e',Cs,a,V,h,hC=>by
  simp only [D2,Option.some.injEq,Prod.mk.injEq] at h
  exact h.1 ▸ V.keep live
 | o::r,e,vs,e',Cs,a,V,h,hC=>by
  simp only [D2] at h
  cases hd:o.dst with
  | none=>rw [hd] at h; cases h
  | some d =>
   rw [hd] at h
   simp only at h
   cases hlt:Nat.blt d n with
   | false=>rw [hlt] at h; cases h
   | true =>
    have hdn:d < n:=by simpa [Nat.blt_eq] using hlt
    rw [hlt] at h
    simp only at h
    cases hw:Gf ops e o with
    | none=>rw [hw] at h; cases h
    | some b =>
     rw [hw] at h
     cases b with
     | true =>
      simp only at h
      obtain ⟨v,vs',Cs',h1,h2,h3⟩:=Xg hL V h hC
      exact ⟨v,.inl ⟨E0 V hw,h3⟩,by rw [hd]; exact C4 hL r _ _ _ _ _ (V.put v hdn) h1 h2⟩
     | false =>
      simp only at h
      exact ⟨undef,.inr ⟨E0 V hw,rfl⟩,by rw [hd]; exact C4 hL r _ _ _ _ _ (V.put undef hdn) h hC⟩
end
section
variable {P:Program} {ops:Array Oper} {Q:Exit->Act->World->Prop} {n:Nat} {ds:List Deferred} {a:Act} {e:Env} {w:World}
def Ld (P:Program) (w:World) (ad:Addr) (t:TypeId) (v:Value):Prop:=(loadVar t ad).run P w = .ok v w
def LdS (P:Program) (S:World->Prop) (ad:Addr) (t:TypeId) (v:Value):Prop:=∀ w,S w->Ld P w ad t v
def Bd (ops:Array Oper):List Nat->List Oper
 | []=>[]
 | i::r=>match ops[i]? with
  | some o=>o::Bd ops r
  | none=>[]
theorem Ae {i:Nat} {r:List Nat} (h:wpOp P ops Q i (wpOps P ops Q r) a w):wpOps P ops Q (i::r) a w:=by rw [wpOps_cons]; exact h
theorem Li {r:List Nat} {K:Act->Prop} (hK : ∀ a',K a'->wpOps P ops Q r a' w) : ∀ (l:List Nat) (a:Act),(Bd ops l).length=l.length->Lh P ops (· = w) (Bd ops l) a K->wpOps P ops Q (l++r) a w
 | [],a,_,h=>hK a h
 | i::l,a,hl,h=>by
  simp only [Bd] at hl h
  cases hi:ops[i]? with
  | none=>rw [hi] at hl; simp at hl
  | some o =>
   rw [hi] at hl h
   obtain ⟨v,hy,hr⟩:=h
   refine Ae ?_
   exact hy.wpOp hi rfl (Li hK l _ (by simpa using hl) hr)
theorem Vp {l r:List Nat} (V:Holds n ds a e) (vs:List Value) (live:List Nat) {e':Env} {Cs:List Prop}
 (hl:Nat.beq (Bd ops l).length l.length=true) (hev:D2 P (Ld P w) n ops live (Bd ops l) e vs=some (e',Cs)) (hC:Ec Cs) (hK : ∀ a',Holds n ds a' e'->wpOps P ops Q r a' w) :
 wpOps P ops Q (l++r) a w :=
 Li hK l a (Nat.eq_of_beq_eq_true hl) (C4 (S:=(· = w)) (L:=Ld P w) (fun ad t v h w' hw=>by subst hw; exact h) _ _ _ _ _ _ V hev hC)
def Ci (P:Program) (ops:Array Oper) (Q:Exit->Act->World->Prop) (S:World->Prop):List (Nat×Bool)->Act->World->Prop
 | [],a,w=>Q .normal a w
 | (i,true)::r,a,w=>∃ o v,ops[i]? = some o/\YieldsIf P ops S o v a/\Ci P ops Q S r (a.put o.dst v) w
 | (i,false)::r,a,w=>wpOp P ops Q i (fun a' w'=>S w'/\Ci P ops Q S r a' w') a w
def Gj (ops:Array Oper):List (Nat×Bool)->Array Bool->Nat->Bool
 | [],listed,_=>(Region.ready .any ops listed).isEmpty
 | (_,_)::_,_,0=>false
 | (i,true)::r,listed,k+1=>Region.free .any ops listed i && (Region.ready .any ops listed).contains i && Gj ops r (listed.setIfInBounds i true) k
 | (i,false)::r,listed,k+1=>(Region.ready .any ops listed == [i]) && Gj ops r (listed.setIfInBounds i true) k
theorem Gd {S:World->Prop} (hs:Region.noSelect ops=true) (hQ : ∀ d v c a w,Q (.panic c) (a.put d v) w->Q (.panic c) a w) :
 ∀ (plan:List (Nat×Bool)) (listed:Array Bool) (k:Nat) (a:Act) (w:World),Gj ops plan listed k=true->S w->Ci P ops Q S plan a w->wpAnyH P .any ops Q S k listed a w
 | [],listed,k,a,w,h,_,hp=>wpAnyH_done (by simpa [Gj] using h) hp k
 | (_,_)::_,_,0,_,_,h,_,_=>by simp [Gj] at h
 | (i,true)::r,listed,k+1,a,w,h,hS,hp=>by
  simp only [Gj,kK] at h
  obtain ⟨o,v,hi,hy,hr⟩:=hp
  exact wpAnyH_take hi hs h.1.1 h.1.2 (fun c a w=>hQ o.dst v c a w) hy hS (Gd hs hQ r _ k _ _ h.2 hS hr)
 | (i,false)::r,listed,k+1,a,w,h,hS,hp=>by
  simp only [Gj,kK,beq_iff_eq] at h
  refine wpAnyH_all h.1 (by simp) fun j hj=>?_
  rw [List.mem_singleton] at hj
  subst hj
  exact wpOp_mono (fun a' w' hh=>⟨hh.1,Gd hs hQ r _ k _ _ h.2 hh.1 hh.2⟩) hp
theorem Am {S:World->Prop} {i:Nat} {r:List (Nat×Bool)} (h:wpOp P ops Q i (fun a' w'=>S w'/\Ci P ops Q S r a' w') a w):Ci P ops Q S ((i,false)::r) a w:=h
theorem Ar {S:World->Prop} (h:Q .normal a w):Ci P ops Q S [] a w:=h
theorem Ab (h:Q .normal a w):wpOps P ops Q [] a w:=h
def M2:List Nat->List (Nat×Bool)
 | []=>[]
 | i::r=>(i,true)::M2 r
theorem Jy {S:World->Prop} {r:List (Nat×Bool)} {K:Act->Prop} (hK : ∀ a',K a'->Ci P ops Q S r a' w) : ∀ (l:List Nat) (a:Act),(Bd ops l).length=l.length->Lh P ops S (Bd ops l) a K->Ci P ops Q S (M2 l++r) a w
 | [],a,_,h=>hK a h
 | i::l,a,hl,h=>by
  simp only [Bd] at hl h
  cases hi:ops[i]? with
  | none=>rw [hi] at hl; simp at hl
  | some o =>
   rw [hi] at hl h
   obtain ⟨v,hy,hr⟩:=h
   exact ⟨o,v,hi,hy,Jy hK l _ (by simpa using hl) hr⟩
theorem jC {S:World->Prop} {l:List Nat} {r:List (Nat×Bool)} (V:Holds n ds a e) (vs:List Value) (live:List Nat) {e':Env} {Cs:List Prop}
 (hl:Nat.beq (Bd ops l).length l.length=true) (hev:D2 P (LdS P S) n ops live (Bd ops l) e vs=some (e',Cs)) (hC:Ec Cs) (hK : ∀ a',Holds n ds a' e'->Ci P ops Q S r a' w) :
 Ci P ops Q S (M2 l++r) a w :=
 Jy hK l a (Nat.eq_of_beq_eq_true hl) (C4 (S:=S) (L:=LdS P S) (fun ad t v h w' hw=>h w' hw) _ _ _ _ _ _ V hev hC)
end
def Oh (P:Program) (t:TypeId) (cs:Array Value) (off:Nat):Option Value :=
 match P.underlying t with
 | some (.struct _)=>match P.info? t with
  | some inf=>some (.agg (cs.extract off (off+inf.size)))
  | none=>none
 | some (.array _ _)=>match P.info? t with
  | some inf=>some (.agg (cs.extract off (off+inf.size)))
  | none=>none
 | some _=>cs[off]?
 | none=>none
def Xr (f:TypeId->Value->Value->Option Bool) (P:Program) (xs ys:Array Value):List Field->Option Bool
 | []=>some true
 | g::fs=>match decEq g.name "_" with
  | .isTrue _=>Xr f P xs ys fs
  | .isFalse _=>match Oh P g.type xs g.offset with
   | some a=>match Oh P g.type ys g.offset with
    | some b=>match f g.type a b with
     | some r=>match Xr f P xs ys fs with
      | some r'=>some (r && r')
      | none=>none
     | none=>none
    | none=>none
   | none=>none
def aB (f:Value->Value->Option Bool) (P:Program) (el:TypeId) (m:Nat) (xs ys:Array Value):List Nat->Option Bool
 | []=>some true
 | i::is=>match Oh P el xs (i*m) with
  | some a=>match Oh P el ys (i*m) with
   | some b=>match f a b with
    | some r=>match aB f P el m xs ys is with
     | some r'=>some (r && r')
     | none=>none
    | none=>none
   | none=>none
  | none=>none
def eqF (P:Program):Nat->TypeId->Value->Value->Option Bool
 | 0,_,_,_=>none
 | d+1,t,u,v=>match P.underlying t with
  | some (.int _)=>match u with
   | .int k a=>match v with
    | .int k' b=>match decEq k k' with
     | .isTrue _=>some (a == b)
     | .isFalse _=>none
    | _=>none
   | _=>none
  | some .bool=>match u with
   | .bool a=>match v with
    | .bool b=>some (a == b)
    | _=>none
   | _=>none
  | some .string=>match u with
   | .string a=>match v with
    | .string b=>some (a.toList == b.toList)
    | _=>none
   | _=>none
  | some (.struct fs)=>match u with
   | .agg xs=>match v with
    | .agg ys=>match P.stoodInHeld t with
     | false=>Xr (eqF P d) P xs ys fs.toList
     | true=>none
    | _=>none
   | _=>none
  | some (.array n el)=>match u with
   | .agg xs=>match v with
    | .agg ys=>match P.info? el with
     | some _=>aB (eqF P d el) P el (P.cellsOf el) xs ys (List.range n)
     | none=>none
    | _=>none
   | _=>none
  | _=>none
section
variable {P:Program} {w:World}
theorem Hx {t:TypeId} {cs:Array Value} {off:Nat} {v:Value} (h:Oh P t cs off=some v):(part t cs off).run P w = .ok v w:=by
 unfold Oh at h
 repeat' split at h
 all_goals try (cases h; done)
 · rename_i fs hd _ inf hi
   cases h
   simp [part,isAgg,run_underlying hd,sizeOf,typeInfo,hi]
 · rename_i m u hd _ inf hi
   cases h
   simp [part,isAgg,run_underlying hd,sizeOf,typeInfo,hi]
 · rename_i d h1 h2 hd
   have hag:(isAgg t).run P w = .ok false w:=by
    simp only [isAgg,Sem.run_bind,run_underlying hd,Result.andThen_ok]
    cases d <;> simp_all
   simp [part,hag,h]
theorem Mx {d:Nat} (ih : ∀ t u v b,eqF P d t u v=some b->∀ w,(Op.equalIn d t u v).run P w = .ok b w) {xs ys:Array Value} : ∀ (fs:List Field) (b:Bool),Xr (eqF P d) P xs ys fs=some b->(Op.eqFields d xs ys fs).run P w = .ok b w
 | [],b,h=>by simp only [Xr,Option.some.injEq] at h; subst h; rfl
 | g::fs,b,h=>by
  simp only [Xr] at h
  split at h
  · rename_i hn _
    simp only [Op.eqFields,hn,ne_eq,not_true_eq_false,if_false]
    exact Mx ih fs b h
  · rename_i hn _
    repeat' split at h
    all_goals try (cases h; done)
    rename_i x hx _ y hy _ r hr _ r' hr'
    cases h
    simp only [Op.eqFields,ne_eq,hn,not_false_eq_true,if_true,Sem.run_bind,Hx hx,Hx hy,Result.andThen_ok,ih _ _ _ _ hr]
    cases r
    · simp
    · simp [Mx ih fs r' hr']
theorem Qo {d:Nat} {el:TypeId} {m:Nat} (ih : ∀ t u v b,eqF P d t u v=some b->∀ w,(Op.equalIn d t u v).run P w = .ok b w) {xs ys:Array Value} : ∀ (is:List Nat) (b:Bool),aB (eqF P d el) P el m xs ys is=some b ->
 (Op.eqItems d el m xs ys is).run P w = .ok b w
 | [],b,h=>by simp only [aB,Option.some.injEq] at h; subst h; rfl
 | i::is,b,h=>by
  simp only [aB] at h
  repeat' split at h
  all_goals try (cases h; done)
  rename_i x hx _ y hy _ r hr _ r' hr'
  cases h
  simp only [Op.eqItems,Sem.run_bind,Hx hx,Hx hy,Result.andThen_ok,ih _ _ _ _ hr]
  cases r
  · simp
  · simp [Qo ih is r' hr']
theorem Pc : ∀ (d:Nat) (t:TypeId) (u v:Value) (b:Bool),eqF P d t u v=some b->∀ w,(Op.equalIn d t u v).run P w = .ok b w
 | 0,_,_,_,_,h,_=>by simp [eqF] at h
 | d+1,t,u,v,b,h,w=>by
  unfold eqF at h
  cases hd:P.underlying t with
  | none=>rw [hd] at h; cases h
  | some D =>
   rw [hd] at h
   cases D with
   | int kk =>
    cases u with
    | int k a =>
     cases v with
     | int k' c =>
      simp only at h
      split at h
      · rename_i hk _
        subst hk
        cases h
        exact run_equalIn_int w d t k kk a c hd
      · cases h
     | _=>cases h
    | _=>cases h
   | bool =>
    cases u with
    | bool a =>
     cases v with
     | bool c=>cases h; exact run_equalIn_bool' w d t a c hd
     | _=>cases h
    | _=>cases h
   | string =>
    cases u with
    | string a =>
     cases v with
     | string c=>cases h; exact run_equalIn_string w d t a c hd
     | _=>cases h
    | _=>cases h
   | struct fs =>
    cases u with
    | agg xs =>
     cases v with
     | agg ys =>
      simp only at h
      cases hst:P.stoodInHeld t with
      | true=>rw [hst] at h; cases h
      | false =>
       rw [hst] at h
       have hf:P.fieldsOf t=fs:=by unfold Program.fieldsOf; rw [hd]
       rw [run_equalIn_struct w d t xs ys (by rw [hf]; exact hd) hst,hf]
       exact Mx (Pc d) _ b h
     | _=>cases h
    | _=>cases h
   | array m el =>
    cases u with
    | agg xs =>
     cases v with
     | agg ys =>
      simp only at h
      cases hi:P.info? el with
      | none=>rw [hi] at h; cases h
      | some inf =>
       rw [hi] at h
       rw [run_equalIn_array (w:=w) d xs ys hd hi]
       exact Qo (Pc d) _ b h
     | _=>cases h
    | _=>cases h
   | _=>cases h
theorem Lf {t:TypeId} {xs ys:Array Value} {b:Bool} (hg:P.eqGuardType P.depth t=false) (h:eqF P 10000 t (.agg xs) (.agg ys)=some b):EqG P t (.agg xs) (.agg ys) b :=
 fun w=>⟨fun op x y=>run_eqGuard_agg w op t x y xs ys hg,Pc 10000 t _ _ b h w⟩
end
structure Only (X:Nat->Prop) (w w':World):Prop where
 os:w'.os=w.os
 tape:w'.tape=w.tape
 output:w'.output=w.output
 size:w.heap.size<=w'.heap.size
 block : ∀ i,i < w.heap.size->¬ X i->w'.heap[i]? = w.heap[i]?
def Ag:Nat->Prop:=fun _=>False
theorem Only.refl (X:Nat->Prop) (w:World):Only X w w:=⟨rfl,rfl,rfl,Nat.le_refl _,fun _ _ _=>rfl⟩
theorem Only.trans {X Y:Nat->Prop} {a b c:World} (h:Only X a b) (k:Only Y b c):Only (fun i=>X i\/Y i) a c :=
 ⟨k.os.trans h.os,k.tape.trans h.tape,k.output.trans h.output,Nat.le_trans h.size k.size,fun i hi hn =>
  (k.block i (Nat.lt_of_lt_of_le hi h.size) fun hy=>hn (.inr hy)).trans (h.block i hi fun hx=>hn (.inl hx))⟩
theorem Only.mono {X Y:Nat->Prop} {a b:World} (h:Only X a b) (hXY : ∀ i,i < a.heap.size->X i->Y i):Only Y a b :=
 ⟨h.os,h.tape,h.output,h.size,fun i hi hn=>h.block i hi fun hx=>hn (hXY i hi hx)⟩
theorem Only.step {X Y:Nat->Prop} {a b c:World} (h:Only X a b) (k:Only Y b c) (hY : ∀ i,i < a.heap.size->Y i->X i):Only X a c :=
 (h.trans k).mono fun i hi hx=>hx.elim id (hY i hi)
theorem Only.below {a b:World} (h:Only Ag a b):Below a.heap.size a b:=⟨h.os,h.tape,h.output,h.size,fun i hi=>h.block i hi fun hx=>hx⟩
theorem Only.of_below {a b:World} (h:Below a.heap.size a b):Only Ag a b:=⟨h.os,h.tape,h.output,h.size,fun i hi _=>h.block i hi⟩
theorem Only.drew {X:Nat->Prop} {a b:World} (h:Only X a b) (k:Nat):Only X a {b with drawn:=k}:=⟨h.os,h.tape,h.output,h.size,h.block⟩
theorem Only.draw (w:World) (k:Nat):Only Ag w {w with drawn:=k}:=(Only.refl _ _).drew k
theorem Only.cell {X:Nat->Prop} {w w':World} (h:Only X w w') {ad:Addr} {v:Value} (hc:w.cell? ad=some v) (hX : ¬ X ad.block):w'.cell? ad=some v:=by
 have hlt:ad.block < w.heap.size:=by
  rcases Nat.lt_or_ge ad.block w.heap.size with h | h
  · exact h
  · simp [World.cell?,Array.getElem?_eq_none h] at hc
 have:=h.block ad.block hlt hX
 unfold World.cell? at hc ⊢
 rw [this]; exact hc
def Blk (w:World) (b:Nat) (t:TypeId) (l:List Value):Prop:=∃ J:Nat×Nat,w.heap[b]? = some (.cells l.toArray t J)/\(J.1=J.2\/l.length<=J.1)
theorem Blk.of0 {w:World} {b:Nat} {t:TypeId} {l:List Value} (h:w.heap[b]? = some (.cells l.toArray t (0,0))):Blk w b t l:=⟨(0,0),h,.inl rfl⟩
section
variable {P:Program} {ops:Array Oper} {Q:Exit->Act->World->Prop} {a:Act} {w:World}
theorem Qs {id:Nat} {S:World->Prop} (plan:List (Nat×Bool)) (hm:P.follows .mixedOrders=true) (hs:Region.noSelect ops=true) (hp:Gj ops plan (Array.replicate ops.size false) ops.size=true)
 (hQ : ∀ d v c a w,Q (.panic c) (a.put d v) w->Q (.panic c) a w) (hS : ∀ w',Only Ag w w'->S w') (h : ∀ w',Only Ag w w'->S w'->Ci P ops Q S plan a w'):(Code.region id ops true).wp P Q a w :=
 wp_region_held hm (Gd hs hQ plan _ _ _ _ hp (hS _ (Only.draw _ _)) (h _ (Only.draw _ _) (hS _ (Only.draw _ _))))
end
section
variable {P:Program} {w w':World} {b:Nat} {t:TypeId} {l:List Value}
theorem Blk.lt (h:Blk w b t l):b < w.heap.size:=by
 rcases Nat.lt_or_ge b w.heap.size with h' | h'
 · exact h'
 · obtain ⟨J,h,_⟩:=h; rw [Array.getElem?_eq_none h'] at h; cases h
theorem Blk.keep {X:Nat->Prop} (h:Blk w b t l) (hx:Only X w w') (hb : ¬ X b):Blk w' b t l:=by
 obtain ⟨J,h1,h2⟩:=h
 exact ⟨J,(hx.block b (Blk.lt ⟨J,h1,h2⟩) hb).trans h1,h2⟩
theorem Blk.cell (h:Blk w b t l) {i:Nat} {v:Value} (hv:l[i]? = some v):w.cell? ⟨b,i,none⟩=some v:=by
 obtain ⟨J,h,_⟩:=h
 simp [World.cell?,h,hv]
theorem Blk.frozen (h:Blk w b t l) (i:Nat) (hi:i < l.length):w.frozen? ⟨b,i,none⟩=false:=by
 obtain ⟨J,h,hf⟩:=h
 have : ¬ (J.1<=i/\i < J.2):=by omega
 simp only [World.frozen?,h]
 cases h1:decide (J.1<=i) with
 | false=>rfl
 | true =>
  cases h2:decide (i < J.2) with
  | false=>rfl
  | true=>exact absurd ⟨of_decide_eq_true h1,of_decide_eq_true h2⟩ this
theorem Blk.ne {b':Nat} (h:Blk w b t l) (hge:w.heap.size<=b'):b≠b':=Nat.ne_of_lt (Nat.lt_of_lt_of_le h.lt hge)
def K6 (P:Program) (t:TypeId):Bool :=
 match P.underlying t with
 | some (.struct _)=>false
 | some (.array _ _)=>false
 | some _=>true
 | none=>false
def Tv (P:Program) (t:TypeId):Option Nat :=
 match P.underlying t with
 | some (.struct _)=>(P.info? t).map (·.size)
 | some (.array _ _)=>(P.info? t).map (·.size)
 | _=>none
theorem E1 (ht:K6 P t=true) {ad:Addr} {v:Value} (h:w.cell? ad=some v):Ld P w ad t v:=by
 unfold K6 at ht
 have hag:(isAgg t).run P w = .ok false w:=by
  cases hd:P.underlying t with
  | none=>rw [hd] at ht; cases ht
  | some d=>rw [hd] at ht; simp only [isAgg,Sem.run_bind,run_underlying hd,Result.andThen_ok]; cases d <;> simp_all
 unfold Ld
 simp [loadVar,hag,load,Sem.run,h]
theorem S4 {m:Nat} {cs:List Value} (ht:Tv P t=some m) (hl:cs.length=m) {ad:Addr} (h : ∀ j v,cs[j]? = some v->w.cell? (ad.add j)=some v):Ld P w ad t (.agg cs.toArray):=by
 unfold Tv at ht
 have hh:(isAgg t).run P w = .ok true w/\(sizeOf t).run P w = .ok m w:=by
  cases hd:P.underlying t with
  | none=>rw [hd] at ht; cases ht
  | some d =>
   rw [hd] at ht
   cases d with
   | struct fs =>
    simp only [Option.map_eq_some_iff] at ht
    obtain ⟨inf,hi,rfl⟩:=ht
    simp [isAgg,run_underlying hd,sizeOf,typeInfo,hi]
   | array k u =>
    simp only [Option.map_eq_some_iff] at ht
    obtain ⟨inf,hi,rfl⟩:=ht
    simp [isAgg,run_underlying hd,sizeOf,typeInfo,hi]
   | _=>cases ht
 unfold Ld
 have hc:=run_loadCells_list (P:=P) w ad cs h
 rw [hl] at hc
 simp [loadVar,hh.1,hh.2,hc]
theorem Blk.ld1 (h:Blk w b t l) {u:TypeId} {i:Nat} {v:Value} (ht:K6 P u=true) (hv:l[i]? = some v):Ld P w ⟨b,i,none⟩ u v:=E1 ht (h.cell hv)
theorem E3 (b j:Nat):(⟨b,0,none⟩:Addr).add j=⟨b,j,none⟩:=by unfold Addr.add; split <;> simp_all
theorem Er (b i j:Nat):(⟨b,i,none⟩:Addr).add j=⟨b,i+j,none⟩:=by unfold Addr.add; split <;> simp_all
theorem Blk.ldn (h:Blk w b t l) {u:TypeId} {i m:Nat} {cs:List Value} (ht:Tv P u=some m) (hv:(l.drop i).take m=cs) (hl:cs.length=m):Ld P w ⟨b,i,none⟩ u (.agg cs.toArray) :=
 S4 ht hl fun j v hj=>by
  rw [Er]
  refine h.cell ?_
  subst hv
  have hjm:j < m:=by
   have:=(List.getElem?_eq_some_iff.1 hj).1
   omega
  rw [List.getElem?_take,if_pos hjm,List.getElem?_drop] at hj
  exact hj
end
abbrev OwL:=List (Nat×TypeId×List Value)
def oB:OwL->Nat->Nat
 | [],_=>0
 | (b,_)::_,0=>b
 | _::r,i+1=>oB r i
def oT:OwL->Nat->TypeId
 | [],_=>0
 | (_,t,_)::_,0=>t
 | _::r,i+1=>oT r i
def oC:OwL->Nat->List Value
 | [],_=>[]
 | (_,_,l)::_,0=>l
 | _::r,i+1=>oC r i
def oS:OwL->Nat->List Value->OwL
 | [],_,_=>[]
 | (b,t,_)::r,0,l=>(b,t,l)::r
 | x::r,i+1,l=>x::oS r i l
def Lo (L:OwL):List Nat->OwL
 | []=>[]
 | i::r=>(oB L i,oT L i,oC L i)::Lo L r
def Q6:List Nat->Bool
 | []=>true
 | i::r=>r.all (fun j=>!Nat.beq i j) && Q6 r
theorem Pp : ∀ (L:OwL) (i:Nat) (l:List Value),(oS L i l).length=L.length
 | [],_,_=>rfl
 | _::_,0,_=>rfl
 | _::r,i+1,l=>congrArg (· + 1) (Pp r i l)
theorem Q3 : ∀ (L:OwL) (i:Nat) (l:List Value) (j:Nat),oB (oS L i l) j=oB L j
 | [],_,_,_=>rfl
 | _::_,0,_,0=>rfl
 | _::_,0,_,_+1=>rfl
 | _::_,_+1,_,0=>rfl
 | _::r,i+1,l,j+1=>Q3 r i l j
theorem fU : ∀ (L:OwL) (i:Nat) (l:List Value) (j:Nat),oT (oS L i l) j=oT L j
 | [],_,_,_=>rfl
 | _::_,0,_,0=>rfl
 | _::_,0,_,_+1=>rfl
 | _::_,_+1,_,0=>rfl
 | _::r,i+1,l,j+1=>fU r i l j
theorem fV : ∀ (L:OwL) (i:Nat) (l:List Value),i < L.length->oC (oS L i l) i=l
 | [],_,_,h=>absurd h (Nat.not_lt_zero _)
 | _::_,0,_,_=>rfl
 | _::r,i+1,l,h=>fV r i l (Nat.lt_of_succ_lt_succ h)
theorem Q2 : ∀ (L:OwL) (i:Nat) (l:List Value) (j:Nat),i≠j->oC (oS L i l) j=oC L j
 | [],_,_,_,_=>rfl
 | _::_,0,_,0,h=>absurd rfl h
 | _::_,0,_,_+1,_=>rfl
 | _::_,_+1,_,0,_=>rfl
 | _::r,i+1,l,j+1,h=>Q2 r i l j fun e=>h (congrArg (· + 1) e)
theorem Om (L:OwL) : ∀ l:List Nat,(Lo L l).length=l.length
 | []=>rfl
 | _::r=>congrArg (· + 1) (Om L r)
theorem Hm (L:OwL) : ∀ (l:List Nat) (i k:Nat),l[i]? = some k->oB (Lo L l) i=oB L k/\oT (Lo L l) i=oT L k/\oC (Lo L l) i=oC L k
 | [],i,k,h=>by simp at h
 | x::r,0,k,h=>by simp at h; subst h; exact ⟨rfl,rfl,rfl⟩
 | x::r,i+1,k,h=>Hm L r i k (by simpa using h)
theorem M9 : ∀ (l:List Nat),Q6 l=true->∀ (i j a b:Nat),l[i]? = some a->l[j]? = some b->i≠j->a≠b
 | [],_,i,j,a,b,ha,_,_=>by simp at ha
 | x::r,h,i,j,a,b,ha,hb,hij=>by
  simp only [Q6,kK,List.all_eq_true,Bool.not_eq_true'] at h
  have hx : ∀ y∈r,x≠y:=fun y hy e=>by have:=h.1 y hy; subst e; rw [Nat.beq_refl] at this; cases this
  match i,j with
  | 0,0=>exact absurd rfl hij
  | 0,j+1=>simp at ha hb; subst ha; exact hx b (List.mem_of_getElem? hb)
  | i+1,0=>simp at ha hb; subst hb; exact (hx a (List.mem_of_getElem? ha)).symm
  | i+1,j+1=>exact M9 r h.2 i j a b (by simpa using ha) (by simpa using hb) (by omega)
structure Ow (P:Program) (X:Nat->Prop) (w₀ w:World) (L:OwL):Prop where
 only:Only X w₀ w
 blk : ∀ i,i < L.length->Blk w (oB L i) (oT L i) (oC L i)
 ne : ∀ i j,i < L.length->j < L.length->i≠j->oB L i≠oB L j
 new : ∀ i,i < L.length->w₀.heap.size<=oB L i\/X (oB L i)
section
variable {P:Program} {X:Nat->Prop} {w₀ w w':World} {L:OwL}
theorem Ow.nil (P:Program) (X:Nat->Prop) (w:World):Ow P X w w [] :=
 ⟨Only.refl X w,fun i h=>absurd h (Nat.not_lt_zero i),fun i _ h=>absurd h (Nat.not_lt_zero i),fun i h=>absurd h (Nat.not_lt_zero i)⟩
theorem Ow.b (h:Ow P X w₀ w L) (i:Nat) (hi:Nat.blt i L.length=true:=by kernel_rfl):Blk w (oB L i) (oT L i) (oC L i):=h.blk i (by simpa [Nat.blt_eq] using hi)
theorem Ow.l1 (h:Ow P X w₀ w L) (i off:Nat) (u:TypeId) (v:Value) (ht:K6 P u=true:=by kernel_rfl) (hv:(oC L i)[off]? = some v:=by kernel_rfl) (hi:Nat.blt i L.length=true:=by kernel_rfl):Ld P w ⟨oB L i,off,none⟩ u v:=(h.b i hi).ld1 ht hv
theorem Ow.ln (h:Ow P X w₀ w L) (i off:Nat) (u:TypeId) (cs:List Value) (ht:Tv P u=some cs.length:=by kernel_rfl) (hv:((oC L i).drop off).take cs.length=cs:=by kernel_rfl) (hi:Nat.blt i L.length=true:=by kernel_rfl):Ld P w ⟨oB L i,off,none⟩ u (.agg cs.toArray):=(h.b i hi).ldn ht hv rfl
theorem Ow.s1 (h:Ow P X w₀ w L) (i off:Nat) (u:TypeId) (v:Value) (ht:K6 P u=true:=by kernel_rfl) (hv:(oC L i)[off]? = some v:=by kernel_rfl) (hi:Nat.blt i L.length=true:=by kernel_rfl):LdS P (fun w'=>Ow P X w₀ w' L) ⟨oB L i,off,none⟩ u v:=fun _ hS=>hS.l1 i off u v ht hv hi
theorem Ow.sn (h:Ow P X w₀ w L) (i off:Nat) (u:TypeId) (cs:List Value) (ht:Tv P u=some cs.length:=by kernel_rfl) (hv:((oC L i).drop off).take cs.length=cs:=by kernel_rfl) (hi:Nat.blt i L.length=true:=by kernel_rfl):LdS P (fun w'=>Ow P X w₀ w' L) ⟨oB L i,off,none⟩ u (.agg cs.toArray):=fun _ hS=>hS.ln i off u cs ht hv hi
theorem Ow.sx (h:Ow P X w₀ w L) (ad:Addr) (u:TypeId) (v:Value) (hl : ∀ w',Ow P X w₀ w' L->Ld P w' ad u v):LdS P (fun w'=>Ow P X w₀ w' L) ad u v:=hl
theorem Ow.st (h:Ow P X w₀ w L) (k:Only Ag w w'):Ow P X w₀ w' L :=
 ⟨h.only.step k (fun _ _ hx=>hx.elim),fun i hi=>(h.blk i hi).keep k (fun hx=>hx),h.ne,h.new⟩
theorem Ow.to (h:Ow P X w₀ w L) {L':OwL} (e:L=L':=by kernel_rfl):Ow P X w₀ w L':=e ▸ h
theorem Ow.add (h:Ow P X w₀ w L) {b:Nat} {t:TypeId} {l:List Value} (k:Only Ag w w') (hb:Blk w' b t l) (hn:w.heap.size<=b):Ow P X w₀ w' ((b,t,l)::L):=by
 have h':=h.st k
 refine ⟨h'.only,?_,?_,?_⟩
 · intro i hi
   cases i with
   | zero=>exact hb
   | succ i=>exact h'.blk i (Nat.lt_of_succ_lt_succ hi)
 · have hf : ∀ i,i < L.length->oB L i≠b:=fun i hi=>Nat.ne_of_lt (Nat.lt_of_lt_of_le (h.blk i hi).lt hn)
   intro i j hi hj hij
   cases i with
   | zero=>cases j with
    | zero=>exact absurd rfl hij
    | succ j=>exact (hf j (Nat.lt_of_succ_lt_succ hj)).symm
   | succ i=>cases j with
    | zero=>exact hf i (Nat.lt_of_succ_lt_succ hi)
    | succ j=>exact h.ne i j (Nat.lt_of_succ_lt_succ hi) (Nat.lt_of_succ_lt_succ hj) (fun e=>hij (congrArg (· + 1) e))
 · intro i hi
   cases i with
   | zero=>exact .inl (Nat.le_trans h.only.size hn)
   | succ i=>exact h.new i (Nat.lt_of_succ_lt_succ hi)
theorem Ow.old (h:Ow P X w₀ w L) {b:Nat} {t:TypeId} {l:List Value} (hb:Blk w b t l) (hX:X b) (hn : ∀ i,i < L.length->oB L i≠b):Ow P X w₀ w ((b,t,l)::L):=by
 refine ⟨h.only,?_,?_,?_⟩
 · intro i hi
   cases i with
   | zero=>exact hb
   | succ i=>exact h.blk i (Nat.lt_of_succ_lt_succ hi)
 · intro i j hi hj hij
   cases i with
   | zero=>cases j with
    | zero=>exact absurd rfl hij
    | succ j=>exact (hn j (Nat.lt_of_succ_lt_succ hj)).symm
   | succ i=>cases j with
    | zero=>exact hn i (Nat.lt_of_succ_lt_succ hi)
    | succ j=>exact h.ne i j (Nat.lt_of_succ_lt_succ hi) (Nat.lt_of_succ_lt_succ hj) (fun e=>hij (congrArg (· + 1) e))
 · intro i hi
   cases i with
   | zero=>exact .inr hX
   | succ i=>exact h.new i (Nat.lt_of_succ_lt_succ hi)
theorem Ow.turn (h:Ow P X w₀ w L) (i:Nat) {l:List Value} (k:Only (fun b=>b=oB L i) w w') (hb:Blk w' (oB L i) (oT L i) l) (hi:i < L.length):Ow P X w₀ w' (oS L i l):=by
 refine ⟨?_,?_,?_,?_⟩
 · refine h.only.step k fun b hb hx=>?_
   rcases h.new i hi with hn | hX
   · exact absurd hx (Nat.ne_of_lt (Nat.lt_of_lt_of_le hb hn))
   · exact hx ▸ hX
 · intro j hj
   rw [Pp] at hj
   rw [Q3,fU]
   by_cases e:i=j
   · subst e; rw [fV _ _ _ hi]; exact hb
   · rw [Q2 _ _ _ _ e]
     exact (h.blk j hj).keep k (h.ne j i hj hi (fun e'=>e e'.symm))
 · intro j m hj hm
   rw [Pp] at hj hm
   rw [Q3,Q3]
   exact h.ne j m hj hm
 · intro j hj
   rw [Pp] at hj
   rw [Q3]
   exact h.new j hj
theorem Ow.sub (h:Ow P X w₀ w L) (l:List Nat) {L':OwL} (e:Lo L l=L':=by kernel_rfl) (hn:Q6 l=true:=by kernel_rfl) (hl:l.all (fun i=>Nat.blt i L.length)=true:=by kernel_rfl):Ow P X w₀ w L':=by
 subst e
 have hlt : ∀ i k,l[i]? = some k->k < L.length:=fun i k hk=>by
  have:=List.all_eq_true.1 hl k (List.mem_of_getElem? hk); simpa [Nat.blt_eq] using this
 have hat : ∀ i,i < (Lo L l).length->∃ k,l[i]? = some k:=fun i hi=>by
  rw [Om] at hi; exact ⟨l[i],List.getElem?_eq_getElem hi⟩
 refine ⟨h.only,?_,?_,?_⟩
 · intro i hi
   obtain ⟨k,hk⟩:=hat i hi
   obtain ⟨h1,h2,h3⟩:=Hm L l i k hk
   rw [h1,h2,h3]; exact h.blk k (hlt i k hk)
 · intro i j hi hj hij
   obtain ⟨k,hk⟩:=hat i hi
   obtain ⟨m,hm⟩:=hat j hj
   rw [(Hm L l i k hk).1,(Hm L l j m hm).1]
   exact h.ne k m (hlt i k hk) (hlt j m hm) (M9 l hn i j k m hk hm hij)
 · intro i hi
   obtain ⟨k,hk⟩:=hat i hi
   rw [(Hm L l i k hk).1]
   exact h.new k (hlt i k hk)
end
theorem rP {P:Program} {ops:Array Oper} {Q:Exit->Act->World->Prop} {a:Act} {X:Nat->Prop} {w₀ w:World} {L:OwL} {id:Nat} (plan:List (Nat×Bool)) (O:Ow P X w₀ w L) (h : ∀ w',Only Ag w w'->Ci P ops Q (fun w'=>Ow P X w₀ w' L) plan a w')
 (hQ : ∀ d v c a w,Q (.panic c) (a.put d v) w->Q (.panic c) a w:=by (intro d v c a w h; cases d <;> exact h)) (hm:P.follows .mixedOrders=true:=by kernel_rfl) (hs:Region.noSelect ops=true:=by kernel_rfl) (hp:Gj ops plan (Array.replicate ops.size false) ops.size=true:=by kernel_rfl):(Code.region id ops true).wp P Q a w :=
 Qs plan hm hs hp hQ (fun _ ho=>O.st ho) fun w' ho _=>h w' ho
theorem Ow.fresh {P:Program} {w₀ w:World} {L:OwL} (h:Ow P Ag w₀ w L) (i:Nat) (hi:Nat.blt i L.length=true:=by kernel_rfl):w₀.heap.size<=oB L i:=(h.new i (by simpa [Nat.blt_eq] using hi)).elim id fun h=>h.elim
theorem c0:Ec []:=trivial
theorem cc {p:Prop} {Cs:List Prop} (h:p) (r:Ec Cs):Ec (p::Cs):=⟨h,r⟩
def K2 (P:Program):Sem Next->Option Value
 | .pure (.value v)=>some v
 | .program k=>K2 P (k P)
 | _=>none
def Y9 (P:Program) (b:Nat):Sem Next->Option (Obj×Value)
 | .program k=>Y9 P b (k P)
 | .new o k=>match K2 P (k b) with
  | some v=>some (o,v)
  | none=>none
 | _=>none
def M5 (ops:Array Oper) (e:Env) (i:Nat):Option Oper :=
 match ops[i]? with
 | some o=>match Gf ops e o with
  | some true=>some o
  | _=>none
 | none=>none
def Q8 (P:Program) (ops:Array Oper) (e:Env) (i b:Nat):Option (Obj×Value×Option Nat) :=
 match M5 ops e i with
 | some o=>match o.op with
  | .select _ _=>none
  | _=>match Oq e o.op.operands.toList with
   | true=>match Y9 P b (execOp (rho e) o) with
    | some (ob,v)=>some (ob,v,o.dst)
    | none=>none
   | false=>none
 | none=>none
def Hd (P:Program) (ops:Array Oper) (e:Env) (i:Nat):Option (Addr×List Value×Nat) :=
 match M5 ops e i with
 | some o=>match o.dst with
  | none=>match o.op with
   | .store t x y=>match val e x with
    | some (.pointer (some ad))=>match val e y with
     | some v=>match P.info? t with
      | some inf=>some (ad,v.cells.toList,inf.size)
      | none=>none
     | none=>none
    | _=>none
   | _=>none
  | some _=>none
 | none=>none
def L0 (e:Env):List Operand->Option (List Value)
 | []=>some []
 | x::r=>match val e x with
  | some v=>match L0 e r with
   | some vs=>some (v::vs)
   | none=>none
  | none=>none
def Ht (ops:Array Oper) (e:Env) (i:Nat):Option (FuncId×List Value×Option Nat) :=
 match M5 ops e i with
 | some o=>match o.op with
  | .call c=>match c.callee with
   | .value x=>match val e x with
    | some (.func (.func f) fst cap)=>match L0 e c.args.toList with
     | some vs=>some (f,fst.toList++vs++cap.toList,o.dst)
     | none=>none
    | _=>none
   | _=>none
  | _=>none
 | none=>none
def D5 (l:List Value) (i:Nat) (vs:List Value):List Value:=l.take i++vs++l.drop (i+vs.length)
def putE (d:Option Nat) (v:Value) (e:Env):Env:=match d with | some d=>(d,v)::e | none=>e
def ltO (d:Option Nat) (n:Nat):Bool:=match d with | some d=>Nat.blt d n | none=>true
section
variable {P:Program} {ops:Array Oper} {Q:Exit->Act->World->Prop} {n:Nat} {ds:List Deferred} {a:Act} {e:Env} {w:World} {K:Act->World->Prop} {i:Nat}
theorem Xh (V:Holds n ds a e) {o:Oper} (h:M5 ops e i=some o):ops[i]? = some o/\Region.wanted o (yielded ops a.tmps)=true:=by
 unfold M5 at h
 cases hi:ops[i]? with
 | none=>rw [hi] at h; cases h
 | some o' =>
  rw [hi] at h
  simp only at h
  cases hw:Gf ops e o' with
  | none=>rw [hw] at h; cases h
  | some b =>
   rw [hw] at h
   cases b with
   | false=>cases h
   | true=>cases h; exact ⟨rfl,E0 V hw⟩
theorem Dm (V:Holds n ds a e) {o:Oper} (h:M5 ops e i=some o) (hw:o.wp P a w K Q):wpOp P ops Q i K a w:=by
 obtain ⟨h1,h2⟩:=Xh V h
 unfold wpOp
 simp only [h1,h2,if_true]
 exact .inl hw
theorem Holds.putE (V:Holds n ds a e) {d:Option Nat} (v:Value) (hd:ltO d n=true):Holds n ds (a.put d v) (putE d v e):=by
 cases d with
 | none=>exact V
 | some d=>exact V.put v (by simpa [ltO,Nat.blt_eq] using hd)
theorem Pj (s:Sem Next) : ∀ v,K2 P s=some v->∀ w,s.run P w = .ok (.value v) w:=by
 induction s with
 | pure x=>intro v h w; cases x <;> simp [K2] at h; subst h; rfl
 | program k ih=>intro v h w; exact ih P v h w
 | _=>intro v h; simp [K2] at h
theorem Sy (s:Sem Next) : ∀ ob v,Y9 P w.heap.size s=some (ob,v)->s.run P w = .ok (.value v) {w with heap:=w.heap.push ob}:=by
 induction s with
 | program k ih=>intro ob v h; exact ih P ob v h
 | new o k _ =>
  intro ob v h
  simp only [Y9] at h
  cases hq:K2 P (k w.heap.size) with
  | none=>rw [hq] at h; cases h
  | some u=>rw [hq] at h; cases h; exact Pj _ _ hq _
 | _=>intro ob v h; simp [Y9] at h
theorem Ok (ob:Obj):Only Ag w {w with heap:=w.heap.push ob} :=
 ⟨rfl,rfl,rfl,by simp,fun k hk _=>by simp [Array.getElem?_push,Nat.ne_of_lt hk]⟩
theorem m_new (V:Holds n ds a e) {l:List Value} {t:TypeId} {v:Nat->Value} {d:Nat} (hn : ∀ b,Q8 P ops e i b=some (.cells l.toArray t (0,0),v b,some d)) (hd:Nat.blt d n=true)
 (hK : ∀ a' w' b,Holds n ds a' ((d,v b)::e)->Blk w' b t l->Only Ag w w'->w.heap.size<=b->K a' w'):wpOp P ops Q i K a w:=by
 have h:=hn w.heap.size
 unfold Q8 at h
 repeat' split at h
 all_goals try (cases h; done)
 rename_i o ho _ hsel _ hk _ ob u hnew
 simp only [Option.some.injEq,Prod.mk.injEq] at h
 obtain ⟨rfl,rfl,hdst⟩:=h
 refine Dm V ho ?_
 have he:execOp a.eval o=execOp (rho e) o:=execOp_congr o (fun cs b hs=>hsel cs b hs) fun x hx=>V.evalRho (Jo _ hk x (by simpa using hx))
 unfold Oper.wp
 rw [he,Sy _ _ _ hnew]
 refine hK _ _ w.heap.size ?_ ?_ (Ok _) (Nat.le_refl _)
 · rw [hdst]
   exact V.put _ (by simpa [Nat.blt_eq] using hd)
 · exact .of0 (by simp)
theorem Hk (w:World) (b:Nat) (cs:Array Value):Only (fun k=>k=b) w (w.setRow b cs) :=
 ⟨rfl,rfl,rfl,by simp,fun k _ hn=>setRow_other w b k cs hn⟩
theorem Ja (g o:Nat) (t:TypeId) (J:Nat×Nat) : ∀ (vs:List Value) (i:Nat) (cur:Array Value) (w:World),w.heap[g]? = some (.cells cur t J)->(J.1=J.2\/cur.size<=J.1)->o+i+vs.length<=cur.size->(∀ v∈vs,v.oneCell'=true) ->
 (storeCells ⟨g,o,none⟩ vs i).run P w = .ok () (w.setRow g (cur.toList.take (o+i)++vs++cur.toList.drop (o+i+vs.length)).toArray)
 | [],i,cur,w,hg,_,_,_=>by
  simp only [storeCells,List.append_nil,List.length_nil,Nat.add_zero,List.take_append_drop,Array.toArray_toList]
  rw [setRow_self w g cur t J hg]
  rfl
 | v::rest,i,cur,w,hg,hfr,hl,h1=>by
  have hi:o+i < cur.size:=by simp at hl; omega
  have hadd:(⟨g,o,none⟩:Addr).add i=⟨g,o+i,none⟩:=by unfold Addr.add; split <;> simp_all
  have hcell:w.cell? ⟨g,o+i,none⟩=some cur[o+i]:=by simp [World.cell?,hg,hi]
  have hfro:w.frozen? ⟨g,o+i,none⟩=false:=Blk.frozen (t:=t) (l:=cur.toList) ⟨J,by simpa using hg,by simpa using hfr⟩ (o+i) (by simpa using hi)
  have hst:(store ((⟨g,o,none⟩:Addr).add i) v).run P w = .ok () (w.setRow g (cur.setIfInBounds (o+i) v)):=by
   rw [hadd,run_store P w _ v _ (h1 v (by simp)),hcell]
   simp [hfro,setCell_eq_setRow w g (o+i) cur t J v hg]
  have ih:=Ja g o t J rest (i+1) (cur.setIfInBounds (o+i) v) (w.setRow g (cur.setIfInBounds (o+i) v)) (setRow_heap w g cur _ t _ hg) (by simpa using hfr) (by simp at hl ⊢; omega) (fun x hx=>h1 x (by simp [hx]))
  simp only [storeCells,Sem.run_bind,hst,Result.andThen_ok,ih,setRow_setRow]
  congr 3
  have e:=list_seg_step cur.toList (o+i) v rest (by simp at hl ⊢; omega)
  simpa [Array.toList_setIfInBounds,Nat.add_assoc] using e
theorem Blk.store {b off:Nat} {t:TypeId} {l vs:List Value} (h:Blk w b t l) (hfit:off+vs.length<=l.length) (h1 : ∀ v∈vs,v.oneCell'=true) :
 (storeCells ⟨b,off,none⟩ vs).run P w = .ok () (w.setRow b (D5 l off vs).toArray)/\Blk (w.setRow b (D5 l off vs).toArray) b t (D5 l off vs):=by
 obtain ⟨J,hg,hf⟩:=h
 have hr:=Ja (P:=P) b off t J vs 0 l.toArray w hg (by simpa using hf) (by simpa using hfit) h1
 simp only [Nat.add_zero] at hr
 refine ⟨hr,J,setRow_heap w b _ _ t J hg,hf.imp id fun h=>?_⟩
 simp only [D5,List.length_append,List.length_take,List.length_drop]
 omega
theorem U0 (V:Holds n ds a e) {b off m:Nat} {ad:Addr} {vc l l':List Value} {t:TypeId} (hs:Hd P ops e i=some (ad,vc,m)) (had:ad=⟨b,off,none⟩) (hm:vc.length=m) (hone:vc.all (·.oneCell')=true)
 (hb:Blk w b t l) (hlen':Nat.ble (off+vc.length) l.length=true) (hl:D5 l off vc=l') (hK : ∀ w',Blk w' b t l'->Only (fun k=>k=b) w w'->K a w'):wpOp P ops Q i K a w:=by
 subst had
 unfold Hd at hs
 repeat' split at hs
 all_goals try (cases hs; done)
 rename_i o ho _ hdst _ u x y hop _ ad hx _ v hy _ inf hinf
 simp only [Option.some.injEq,Prod.mk.injEq] at hs
 obtain ⟨rfl,rfl,rfl⟩:=hs
 refine Dm V ho ?_
 have hlen:=Nat.le_of_ble_eq_true hlen'
 obtain ⟨hr,hB'⟩:=hb.store (P:=P) (vs:=v.cells.toList) (off:=off) hlen (fun u hu=>(List.all_eq_true.1 hone) u hu)
 have hrun:(execOp a.eval o).run P w = .ok .skip (w.setRow b l'.toArray):=by
  unfold execOp
  simp only [hop,V.eval hx,V.eval hy,Instr.storeAt,Instr.sureAddr,storeVar,sizeOf,typeInfo,Sem.run_bind,Sem.run_pure,Result.andThen_ok,run_program,hinf]
  have hne : ¬ v.cells.size≠inf.size:=by rw [← hm]; simp
  simp only [hne,if_false]
  rw [hr]
  subst hl
  rfl
 unfold Oper.wp
 rw [hrun]
 show K (a.put o.dst undef) _
 rw [hdst]
 subst hl
 exact hK _ hB' (Hk w b _)
theorem Zg (V:Holds n ds a e) {f:FuncId} {args:List Value} {d:Option Nat} {fn:Func} (hc:Ht ops e i=some (f,args,d)) (hd:ltO d n=true) (hf:P.funcs[f]? = some fn)
 (hn:(fn.name == "runtime.NumGoroutine")=false) (hbd:fn.body.isNone=false)
 (h:Calls P f args.toArray w fun en w'=>∃ v,en = .returned v/\∀ a',Holds n ds a' (putE d v e)->K a' w'):wpOp P ops Q i K a w:=by
 unfold Ht at hc
 repeat' split at hc
 all_goals try (cases hc; done)
 rename_i o ho _ c hop _ x hcl _ f' fst cap hx _ vs hvs
 simp only [Option.some.injEq,Prod.mk.injEq] at hc
 obtain ⟨rfl,rfl,rfl⟩:=hc
 refine Dm V ho ?_
 have hvals : ∀ (l:List Operand) (us:List Value),L0 e l=some us->l.map a.eval=us:=by
  intro l
  induction l with
  | nil=>intro us h; simp only [L0,Option.some.injEq] at h; simp [h]
  | cons y r ih =>
   intro us h
   simp only [L0] at h
   repeat' split at h
   all_goals try (cases h; done)
   rename_i v hv _ vs' hr
   cases h
   simp [V.eval hv,ih _ hr]
 have hargs:c.args.map a.eval=vs.toArray:=by
  have:=hvals _ _ hvs
  apply Array.toList_inj.1
  simpa using this
 have hrun:(execOp a.eval o).run P w = .ok (.enter f' (fst.toList++vs++cap.toList).toArray) w:=by
  unfold execOp
  simp only [hop,resolve,hcl,V.eval hx,Deferred.ofValue,hargs,invoke,callFunc,Sem.run_bind,Sem.run_pure,Result.andThen_ok,run_program,hf,hn,hbd,Bool.false_eq_true,if_false]
  simp
 unfold Oper.wp
 rw [hrun]
 show Calls P f' _ w _
 refine h.mono fun en w' hh=>?_
 obtain ⟨v,rfl,hK⟩:=hh
 exact hK _ (V.putE v hd)
def Ur (ops:Array Oper) (e:Env) (i:Nat):Option (TypeId×Value) :=
 match M5 ops e i with
 | some o=>(match o.op with
  | .panic x=>(match val e x with | some (.iface t v)=>some (t,v) | _=>none)
  | _=>none)
 | none=>none
theorem cQ (V:Holds n ds a e) {t:TypeId} {v:Value} (hQ:Q (.panic [{v:= .iface t v,recovered:=false}]) a w) (hc:Ur ops e i=some (t,v):=by kernel_rfl):wpOp P ops Q i K a w:=by
 unfold Ur at hc
 repeat' split at hc
 all_goals try (cases hc; done)
 rename_i o ho _ x hop _ t' v' hx
 simp only [Option.some.injEq,Prod.mk.injEq] at hc
 obtain ⟨rfl,rfl⟩:=hc
 refine Dm V ho ?_
 have hrun:(execOp a.eval o).run P w = .halt (.panic (.iface t' v')) w:=by
  unfold execOp
  simp only [hop,V.eval hx]
  rfl
 unfold Oper.wp
 rw [hrun]
 exact hQ
theorem cV (V:Holds n ds a e) {f:FuncId} {args:List Value} {d:Option Nat} {fn:Func} (hc:Ht ops e i=some (f,args,d)) (hd:ltO d n=true) (hf:P.funcs[f]? = some fn)
 (hn:(fn.name == "runtime.NumGoroutine")=false) (hbd:fn.body.isNone=false)
 (h:Calls P f args.toArray w fun en w'=>(∃ v,en = .returned v/\∀ a',Holds n ds a' (putE d v e)->K a' w')\/∃ ch,en = .panicked ch/\Q (.panic ch) a w'):wpOp P ops Q i K a w:=by
 unfold Ht at hc
 repeat' split at hc
 all_goals try (cases hc; done)
 rename_i o ho _ c hop _ x hcl _ f' fst cap hx _ vs hvs
 simp only [Option.some.injEq,Prod.mk.injEq] at hc
 obtain ⟨rfl,rfl,rfl⟩:=hc
 refine Dm V ho ?_
 have hvals : ∀ (l:List Operand) (us:List Value),L0 e l=some us->l.map a.eval=us:=by
  intro l
  induction l with
  | nil=>intro us h; simp only [L0,Option.some.injEq] at h; simp [h]
  | cons y r ih =>
   intro us h
   simp only [L0] at h
   repeat' split at h
   all_goals try (cases h; done)
   rename_i v hv _ vs' hr
   cases h
   simp [V.eval hv,ih _ hr]
 have hargs:c.args.map a.eval=vs.toArray:=by
  have:=hvals _ _ hvs
  apply Array.toList_inj.1
  simpa using this
 have hrun:(execOp a.eval o).run P w = .ok (.enter f' (fst.toList++vs++cap.toList).toArray) w:=by
  unfold execOp
  simp only [hop,resolve,hcl,V.eval hx,Deferred.ofValue,hargs,invoke,callFunc,Sem.run_bind,Sem.run_pure,Result.andThen_ok,run_program,hf,hn,hbd,Bool.false_eq_true,if_false]
  simp
 unfold Oper.wp
 rw [hrun]
 show Calls P f' _ w _
 refine h.mono fun en w' hh=>?_
 rcases hh with ⟨v,rfl,hK⟩ | ⟨ch,rfl,hQ⟩
 · exact hK _ (V.putE v hd)
 · exact hQ
theorem Ed (V:Holds n ds a e) {d:Option Nat} (h:(match ops[i]? with | some o=>(match Gf ops e o with | some false=>some o.dst | _=>none) | none=>none)=some d) (hd:ltO d n=true)
 (hK : ∀ a',Holds n ds a' (putE d undef e)->K a' w):wpOp P ops Q i K a w:=by
 repeat' split at h
 all_goals try (cases h; done)
 rename_i o ho _ hw
 cases h
 unfold wpOp
 simp only [ho,E0 V hw,Bool.false_eq_true,if_false]
 exact hK _ (V.putE undef hd)
end
section
variable {P:Program} {ops:Array Oper} {Q:Exit->Act->World->Prop} {n:Nat} {ds:List Deferred} {a:Act} {e:Env} {w:World} {K:Act->World->Prop} {i:Nat}
theorem cO (V:Holds n ds a e) (vs:List Value) (live:List Nat) {e':Env} {Cs:List Prop} (hl:Nat.beq (Bd ops [i]).length 1=true) (hev:D2 P (Ld P w) n ops live (Bd ops [i]) e vs=some (e',Cs)) (hC:Ec Cs)
 (hK : ∀ a',Holds n ds a' e'->K a' w):wpOp P ops Q i K a w:=by
 have h:=C4 (S:=(· = w)) (L:=Ld P w) (fun ad t v h w' hw=>by subst hw; exact h) _ _ _ _ _ _ V hev hC
 simp only [Bd] at hl h
 cases hi:ops[i]? with
 | none=>rw [hi] at hl; simp at hl
 | some o =>
  rw [hi] at h
  obtain ⟨v,hy,hr⟩:=h
  exact hy.wpOp hi rfl (hK _ hr)
end
section
variable {P:Program} {Q:Exit->Act->World->Prop} {n:Nat} {ds:List Deferred} {a:Act} {e:Env} {w:World}
theorem Aa {K:Act->World->Prop} (h:K a w):Exit.then K Q .normal a w:=h
theorem Ai {K:Act->World->Prop} {id:Nat} (h:Q (.exit id) a w):Exit.then K Q (.exit id) a w:=h
theorem Ac {K:Act->World->Prop} (h:Q .ret a w):Exit.then K Q .ret a w:=h
theorem Af {id:Nat} (h:Q .normal a w):Exit.inBlock id Q .normal a w:=h
theorem Ad {id:Nat} (h:Q .ret a w):Exit.inBlock id Q .ret a w:=h
theorem Aj {id:Nat} (h:Q .normal a w):Exit.inBlock id Q (.exit id) a w:=by simp only [Exit.inBlock,if_true]; exact h
theorem A8 {id id':Nat} (hn:id'≠id) (h:Q (.exit id') a w):Exit.inBlock id Q (.exit id') a w:=by simp only [Exit.inBlock,if_neg hn]; exact h
theorem A5 {x y:Int} (h:(x != y)=true):x≠y:=by simpa using h
theorem Au {x y:Int} (h:(x != y)=false):x=y:=by simpa using h
theorem R7 {id:Nat} {ops:Array Oper} {l:List Nat} (hl:List.range ops.size=l) (h:wpOps P ops Q l a w):(Code.region id ops false).wp P Q a w :=
 wp_region (by rw [hl]; exact h)
theorem jE (V:Holds n ds a e) {c:Operand} {x y:Code} {b:Bool} (hc:val e c=some (.bool b)) (ht:b=true->x.wp P Q a w) (hf:b=false->y.wp P Q a w):(Code.cond c x y).wp P Q a w:=by
 cases b
 · exact wp_cond_false (V.eval hc) (hf rfl)
 · exact wp_cond_true (V.eval hc) (ht rfl)
theorem jD (V:Holds n ds a e) {c:Operand} {x y:Code} (hc:val e c=some (.bool true)) (h:x.wp P Q a w):(Code.cond c x y).wp P Q a w:=wp_cond_true (V.eval hc) h
theorem eO (V:Holds n ds a e) {c:Operand} {x y:Code} (hc:val e c=some (.bool false)) (h:y.wp P Q a w):(Code.cond c x y).wp P Q a w:=wp_cond_false (V.eval hc) h
section
variable {ops:Array Oper} {K:Act->World->Prop} {i id:Nat} {x y:Code} {S:World->Prop}
def Ho:Env->List Nat
 | []=>[]
 | (t,_)::r=>t::Ho r
theorem ck {l r:List Nat} {e':Env} {Cs:List Prop} (V:Holds n ds a e) (vs:List Value) (hC:Ec Cs) (hK : ∀ a',Holds n ds a' e'->wpOps P ops Q r a' w)
 (hl:Nat.beq (Bd ops l).length l.length=true:=by kernel_rfl) (hev:D2 P (Ld P w) n ops (Ho e') (Bd ops l) e vs=some (e',Cs):=by kernel_rfl):wpOps P ops Q (l++r) a w :=
 Vp V vs _ hl hev hC hK
theorem sC {e':Env} {Cs:List Prop} (k:Nat) (V:Holds n ds a e) (vs:List Value) (hC:Ec Cs) (hK : ∀ a',Holds n ds a' e'->y.wp P Q a' w)
 (hz:Nat.beq ops.size k=true:=by kernel_rfl) (hl:Nat.beq (Bd ops (List.range k)).length (List.range k).length=true:=by kernel_rfl) (hev:D2 P (Ld P w) n ops (Ho e') (Bd ops (List.range k)) e vs=some (e',Cs):=by kernel_rfl) :
 (Code.seq (.region id ops false) y).wp P Q a w:=by
 refine wp_seq (wp_region ?_)
 rw [Nat.eq_of_beq_eq_true hz]
 have:=Vp (P:=P) (Q:=Exit.then (y.wp P Q) Q) (r:=[]) V vs _ hl hev hC hK
 simpa using this
theorem sR {l:List Nat} (h:wpOps P ops (Exit.then (y.wp P Q) Q) l a w) (hl:List.range ops.size=l:=by kernel_rfl):(Code.seq (.region id ops false) y).wp P Q a w:=wp_seq (R7 hl h)
theorem rR {l:List Nat} (h:wpOps P ops Q l a w) (hl:List.range ops.size=l:=by kernel_rfl):(Code.region id ops false).wp P Q a w:=R7 hl h
theorem mN {X:Nat->Prop} {w₀:World} {L:OwL} {l:List Value} {t:TypeId} {v:Nat->Value} {d:Nat} (V:Holds n ds a e) (O:Ow P X w₀ w L) (hK : ∀ a' w' b,Holds n ds a' ((d,v b)::e)->Ow P X w₀ w' ((b,t,l)::L)->K a' w')
 (hn : ∀ b,Q8 P ops e i b=some (.cells l.toArray t (0,0),v b,some d):=by intro b; kernel_rfl) (hd:Nat.blt d n=true:=by kernel_rfl):wpOp P ops Q i K a w:=m_new V hn hd fun a' w' b hA' hb ho hg=>hK a' w' b hA' (O.add ho hb hg)
theorem mS {X:Nat->Prop} {w₀:World} {L:OwL} {off:Nat} {vc:List Value} (j:Nat) (V:Holds n ds a e) (O:Ow P X w₀ w L) (hK : ∀ w',Ow P X w₀ w' (oS L j (D5 (oC L j) off vc))->K a w')
 (hs:Hd P ops e i=some (⟨oB L j,off,none⟩,vc,vc.length):=by kernel_rfl) (hone:vc.all (·.oneCell')=true:=by kernel_rfl) (hlen:Nat.ble (off+vc.length) (oC L j).length=true:=by kernel_rfl) (hj:Nat.blt j L.length=true:=by kernel_rfl) :
 wpOp P ops Q i K a w:=U0 V hs rfl rfl hone (O.b j hj) hlen rfl fun w' hb ho=>hK w' (O.turn j ho hb (by simpa [Nat.blt_eq] using hj))
theorem mK {X:Nat->Prop} {w₀:World} {L:OwL} {f:FuncId} {args:List Value} {d:Option Nat} {v:Value} {fn:Func} (V:Holds n ds a e) (O:Ow P X w₀ w L) (hf:P.funcs[f]? = some fn) (h:Calls P f args.toArray w fun en w'=>en = .returned v/\Only Ag w w')
 (hK : ∀ a' w',Holds n ds a' (putE d v e)->Ow P X w₀ w' L->K a' w') (hc:Ht ops e i=some (f,args,d):=by kernel_rfl) (hd:ltO d n=true:=by kernel_rfl) (hn:(fn.name == "runtime.NumGoroutine")=false:=by kernel_rfl) (hbd:fn.body.isNone=false:=by kernel_rfl):wpOp P ops Q i K a w :=
 Zg V hc hd hf hn hbd (h.mono fun en w' hh=>⟨v,hh.1,fun a' hA'=>hK a' w' hA' (O.st hh.2)⟩)
theorem mC {f:FuncId} {args:List Value} {d:Option Nat} {fn:Func} (V:Holds n ds a e) (hf:P.funcs[f]? = some fn) (h:Calls P f args.toArray w fun en w'=>∃ v,en = .returned v/\∀ a',Holds n ds a' (putE d v e)->K a' w')
 (hc:Ht ops e i=some (f,args,d):=by kernel_rfl) (hd:ltO d n=true:=by kernel_rfl) (hn:(fn.name == "runtime.NumGoroutine")=false:=by kernel_rfl) (hbd:fn.body.isNone=false:=by kernel_rfl):wpOp P ops Q i K a w:=Zg V hc hd hf hn hbd h
theorem Holds.sb {e':Env} (h:Holds n ds a e) (he:B9 e (Ho e')=e':=by kernel_rfl):Holds n ds a e':=h.sub _ he
theorem cS {c:Operand} {b:Bool} (V:Holds n ds a e) (ht:b=true->x.wp P Q a w) (hf:b=false->y.wp P Q a w) (hc:val e c=some (.bool b):=by kernel_rfl):(Code.cond c x y).wp P Q a w:=jE V hc ht hf
theorem cT {c:Operand} (V:Holds n ds a e) (h:x.wp P Q a w) (hc:val e c=some (.bool true):=by kernel_rfl):(Code.cond c x y).wp P Q a w:=jD V hc h
theorem cF {c:Operand} (V:Holds n ds a e) (h:y.wp P Q a w) (hc:val e c=some (.bool false):=by kernel_rfl):(Code.cond c x y).wp P Q a w:=eO V hc h
theorem sJ (J:Act->World->Prop) (hj : ∀ a w,J a w->y.wp P Q a w) (hx:x.wp P (Exit.then J Q) a w):(Code.seq x y).wp P Q a w :=
 wp_seq (wp_mono hx fun e a w h=>by cases e <;> first | exact hj _ _ h | exact h)
end
theorem Ay {c:Code} (I:Nat->Act->World->Prop) (h₀ : ∃ m,I m a w) (round : ∀ m a w,I m a w->c.wp P (Exit.then (fun a' w'=>∃ m',m' < m/\I m' a' w') Q) a w):(Code.loop c).wp P Q a w:=by
 intro b k cs
 have key : ∀ m a w,I m a w->∃ e a' w',Q e a' w'/\Arrives P (lone (b.at a (.code c:: .inLoop c::k)) cs w) b k cs e a' w':=by
  intro m
  induction m using Nat.strongRecOn with
  | _ m ih =>
   intro a w hI
   obtain ⟨e,a₁,w₁,hq,harr⟩:=round m a w hI b (.inLoop c::k) cs
   cases e with
   | normal =>
    obtain ⟨m',hlt,hI'⟩:=hq
    obtain ⟨e₂,a₂,w₂,hq₂,harr₂⟩:=ih m' hlt a₁ w₁ hI'
    exact ⟨e₂,a₂,w₂,hq₂,.of_steps (Steps.trans harr (.one step_inLoop)) harr₂⟩
   | exit id=>exact ⟨_,a₁,w₁,hq,.pass (x:= .inLoop c) rfl (fun _ _=> .inl (by simp)) harr⟩
   | goto l=>exact ⟨_,a₁,w₁,hq,.pass (x:= .inLoop c) rfl (fun _ _=> .inl (by simp)) harr⟩
   | ret=>exact ⟨_,a₁,w₁,hq,.pass (x:= .inLoop c) rfl (fun _ _=> .inl (by simp)) harr⟩
   | panic ch=>exact ⟨_,a₁,w₁,hq,.pass (x:= .inLoop c) rfl (fun _ _=> .inl (by simp)) harr⟩
   | outgrown=>exact ⟨_,a₁,w₁,hq,.pass (x:= .inLoop c) rfl (fun _ _=> .inl (by simp)) harr⟩
 obtain ⟨m,hm⟩:=h₀
 obtain ⟨e,a',w',hq,harr⟩:=key m a w hm
 exact ⟨e,a',w',hq,.of_steps (.one step_loop) harr⟩
def L2 (e:Env):List ResultVar->List Value->Option (List (Option (Addr×TypeId))×List Value)
 | [],_=>some ([],[])
 | .tmp t::r,vs=>match get e t with
  | some v=>match L2 e r vs with
   | some (cs,us)=>some (none::cs,v::us)
   | none=>none
  | none=>none
 | .cell d t::r,v::vs=>match get e d with
  | some (.pointer (some ad))=>match L2 e r vs with
   | some (cs,us)=>some (some (ad,t)::cs,v::us)
   | none=>none
  | _=>none
 | .cell _ _::_,[]=>none
def Qr (P:Program) (w:World):List (Option (Addr×TypeId))->List Value->Prop
 | some (ad,t)::r,v::us=>Ld P w ad t v/\Qr P w r us
 | none::r,_::us=>Qr P w r us
 | _,_=>True
def Pn:List Value->Value
 | [v]=>v
 | vs=> .tuple vs.toArray
theorem Nc (V:Holds n ds a e) : ∀ (rs:List ResultVar) (vs:List Value) (cs:List (Option (Addr×TypeId))) (us:List Value),L2 e rs vs=some (cs,us)->Qr P w cs us ->
 (rs.mapM (m:=Sem) fun | .tmp t=>pure (a.tmps.getD t undef) | .cell d t=>do loadVar t (← asAddr (a.tmps.getD d undef))).run P w = .ok us w
 | [],vs,cs,us,h,_=>by simp only [L2,Option.some.injEq,Prod.mk.injEq] at h; simp [← h.2]
 | .tmp t::r,vs,cs,us,h,hc=>by
  simp only [L2] at h
  repeat' split at h
  all_goals try (cases h; done)
  rename_i v hv _ cs' us' hr
  cases h
  have ih:=Nc V r vs cs' us' hr hc
  simp only [List.mapM_cons,Sem.run_bind,Sem.run_pure,Result.andThen_ok,V.slot t v hv] at ih ⊢
  rw [ih]; simp
 | .cell d t::r,[],cs,us,h,hc=>by simp [L2] at h
 | .cell d t::r,v::vs,cs,us,h,hc=>by
  simp only [L2] at h
  repeat' split at h
  all_goals try (cases h; done)
  rename_i ad hv _ cs' us' hr
  cases h
  have ih:=Nc V r vs cs' us' hr hc.2
  have h1:(loadVar t ad).run P w = .ok v w:=hc.1
  simp only [List.mapM_cons,Sem.run_bind,Sem.run_pure,Result.andThen_ok,V.slot d _ hv,asAddr,h1] at ih ⊢
  rw [ih]; simp
theorem bB {fn:Func} {R:Ending->World->Prop} (V:Holds n [] a e) (vs:List Value) {cs:List (Option (Addr×TypeId))} {us:List Value} (hr:L2 e fn.results.toList vs=some (cs,us)) (hc:Qr P w cs us) (hR:R (.returned (Pn us)) w) :
 bodyPost P fn R .ret a w:=by
 refine ⟨V.dfr,Pn us,?_,hR⟩
 have h:=Nc (P:=P) (w:=w) V fn.results.toList vs cs us hr hc
 unfold results
 rw [Array.mapM_eq_mapM_toList]
 have h2:(List.toArray <$> (fn.results.toList.mapM (m:=Sem) fun | .tmp t=>pure (a.tmps.getD t undef) | .cell d t=>do loadVar t (← asAddr (a.tmps.getD d undef)))).run P w = .ok us.toArray w:=by
  rw [map_eq_pure_bind,Sem.run_bind,h]; rfl
 simp only [Sem.run_bind]
 refine (congrArg (fun r=>Result.andThen r _) h2).trans ?_
 simp only [Result.andThen_ok,Sem.run_pure]
 match us with
 | []=>rfl
 | [v]=>rfl
 | v::u::r=>simp [Pn]
theorem cR {fn:Func} {R:Ending->World->Prop} {cs:List (Option (Addr×TypeId))} {us:List Value} (V:Holds n [] a e) (vs:List Value) (hc:Qr P w cs us) (hR:R (.returned (Pn us)) w) (hr:L2 e fn.results.toList vs=some (cs,us):=by kernel_rfl) :
 bodyPost P fn R .ret a w:=bB V vs hr hc hR
theorem Ew {fn:Func} {R:Ending->World->Prop} (h:bodyPost P fn R .ret a w):bodyPost P fn R .normal a w:=h
theorem Ak {f:FuncId} {fn:Func} {c:Code} {args:List Value} {R:Ending->World->Prop} (hf:P.funcs[f]? = some fn) (hb:fn.body=some c) {m n:Nat} (hm:fn.ntmps=args.length+m) (hn:args.length+m=n)
 (h : ∀ a,Holds n [] a (Mp args 0)->c.wp P (bodyPost P fn R) a w):Calls P f args.toArray w R:=by
 refine calls_of_wp hf hb ?_
 subst hn
 have:=h _ (Holds.begin args m)
 have he:fn.ntmps - args.toArray.size=m:=by simp [hm]
 rw [he]
 exact this
end
def U8s (xs:List Int):Prop:=∀ x∈xs,0<=x/\x<=255
def bsI (xs:List Int):ByteArray:=⟨(xs.map fun x=>UInt8.ofNat x.toNat).toArray⟩
theorem A0 (xs:List Int):(bsI xs).size=xs.length:=by simp [bsI,ByteArray.size]
theorem U8s.at {xs:List Int} (h:U8s xs) {i:Nat} (hi:i < xs.length) : 0<=xs.getD i 0/\xs.getD i 0<=255:=by
 rw [List.getD_eq_getElem?_getD,List.getElem?_eq_getElem hi]
 exact h _ (List.getElem_mem hi)
theorem Yi {xs:List Int} (h:U8s xs) {i:Nat} (hi:i < xs.length):sb (bsI xs) i=xs.getD i 0:=by
 have hx:=h.at hi
 rw [List.getD_eq_getElem?_getD,List.getElem?_eq_getElem hi] at hx ⊢
 simp only [sb,bsI,List.getD_eq_getElem?_getD,List.getElem?_map,List.getElem?_eq_getElem hi,Option.map_some,Option.getD_some] at hx ⊢
 have:xs[i].toNat < 256:=by omega
 rw [UInt8.toNat_ofNat_of_lt' (by simpa [UInt8.size] using this)]
 omega
def Cel (w:World) (ad:Addr) (xs:List Int):Prop:=∀ i,i < xs.length->w.cell? (ad.add i)=some (.int .u8 (xs.getD i 0))
def SlI (w:World) (v:Value) (xs:List Int):Prop:=U8s xs/\((v = .slice none 0 0/\xs=[])\/∃ ad cap,v = .slice (some ad) xs.length cap/\Cel w ad xs)
theorem eX (ad:Addr) (i:Nat):(ad.add i).block=ad.block:=by unfold Addr.add; split <;> rfl
theorem Cel.keep {X:Nat->Prop} {w w':World} {ad:Addr} {xs:List Int} (h:Cel w ad xs) (hx:Only X w w') (hb : ¬ X ad.block):Cel w' ad xs:=fun i hi=>hx.cell (h i hi) (fun h=>hb (eX ad i ▸ h))
theorem SlI.keep {w w':World} {v:Value} {xs:List Int} (h:SlI w v xs) (hx:Only Ag w w'):SlI w' v xs :=
 ⟨h.1,h.2.imp id fun ⟨ad,cap,hv,hc⟩=>⟨ad,cap,hv,hc.keep hx fun h=>h⟩⟩
theorem SlI.nil (w:World):SlI w (.slice none 0 0) []:=⟨(fun x h=>absurd h jY),.inl ⟨rfl,rfl⟩⟩
theorem cY (bs:ByteArray) : ∀ (k i:Nat) (r:List UInt8),bs.size - i=k->ByteArray.toList.loop bs i r=r.reverse++bs.data.toList.drop i:=by
 intro k
 induction k with
 | zero =>
  intro i r h
  rw [ByteArray.toList.loop]
  have : ¬ i < bs.size:=by omega
  rw [if_neg this,List.drop_eq_nil_of_le (by simp; have:bs.data.size=bs.size:=rfl; omega)]
  simp
 | succ k ih =>
  intro i r h
  rw [ByteArray.toList.loop]
  have hi:i < bs.size:=by omega
  rw [if_pos hi,ih _ _ (by omega)]
  have hd:i < bs.data.toList.length:=by simpa using hi
  rw [List.drop_eq_getElem_cons hd]
  have:bs.get! i=bs.data.toList[i]:=by
   simp only [ByteArray.get!,Array.getElem_toList]
   exact getElem!_pos bs.data i (by simpa using hd)
  simp [this]
theorem Cd (bs:ByteArray):bs.toList=bs.data.toList:=by
 unfold ByteArray.toList; rw [cY bs _ 0 [] rfl]; simp
theorem Qb {a b:ByteArray} (h:a.toList=b.toList):a=b:=by
 rw [Cd,Cd] at h
 cases a; cases b; congr 1; exact Array.toList_inj.1 h
theorem U8s.nil:U8s []:=fun _ h=>absurd h jY
theorem U8s.cons {x:Int} {xs:List Int} (h:inK .u8 x) (r:U8s xs):U8s (x::xs):=fun y hy=>(List.mem_cons.1 hy).elim (fun e=>e ▸ h) (r y)
theorem rs {P:Program} {f:FuncId} {args:Array Value} {w:World} {v v':Value} {R:World->Prop} (c:Calls P f args w fun e w'=>e = .returned v/\R w') (h:v=v':=by kernel_rfl):Calls P f args w fun e w'=>e = .returned v'/\R w':=h ▸ c
theorem EqG.cast {P:Program} {t:TypeId} {u v:Value} {b b':Bool} (h:EqG P t u v b) (e:b=b'):EqG P t u v b':=e ▸ h
inductive PT where
 | fin | non
 | q (i:Nat) (r:PT)
 | m (i:Nat) (r more:PT)
def PT.alts:PT->List Nat
 | .m i _ more=>i::more.alts
 | _=>[]
def Cn (P:Program) (ops:Array Oper) (Q:Exit->Act->World->Prop) (S:World->Prop):PT->Act->World->Prop
 | .fin,a,w=>Q .normal a w
 | .non,_,_=>True
 | .q i r,a,w=>∃ o v,ops[i]? = some o/\YieldsIf P ops S o v a/\Cn P ops Q S r (a.put o.dst v) w
 | .m i r more,a,w=>wpOp P ops Q i (fun a' w'=>S w'/\Cn P ops Q S r a' w') a w/\Cn P ops Q S more a w
def D8 (ops:Array Oper):PT->Array Bool->Nat->Bool->Bool
 | .fin,listed,_,true=>(Region.ready .any ops listed).isEmpty
 | .non,_,_,false=>true
 | .q i r,listed,k+1,true=>Region.free .any ops listed i && (Region.ready .any ops listed).contains i && D8 ops r (listed.setIfInBounds i true) k true
 | .m i r more,listed,k+1,hd=>(!hd || Region.ready .any ops listed == i::more.alts) && (D8 ops r (listed.setIfInBounds i true) k true && D8 ops more listed (k+1) false)
 | _,_,_,_=>false
theorem Ey {P:Program} {ops:Array Oper} {Q:Exit->Act->World->Prop} {S:World->Prop} (hs:Region.noSelect ops=true) (hQ : ∀ d v c a w,Q (.panic c) (a.put d v) w->Q (.panic c) a w) :
 ∀ (t:PT) (listed:Array Bool) (k:Nat) (a:Act) (w:World),S w->Cn P ops Q S t a w ->
  (D8 ops t listed k true=true->wpAnyH P .any ops Q S k listed a w) /\
  (∀ k',k=k'+1->D8 ops t listed k false=true->∀ j∈t.alts,wpOp P ops Q j (fun a' w'=>S w'/\wpAnyH P .any ops Q S k' (listed.setIfInBounds j true) a' w') a w)
 | .fin,listed,k,a,w,hS,hp=>⟨fun h=>wpAnyH_done (by simpa [D8] using h) hp k,fun _ _ _ j hj=>by simp [PT.alts] at hj⟩
 | .non,listed,k,a,w,hS,hp=>⟨fun h=>by cases k <;> simp [D8] at h,fun _ _ _ j hj=>by simp [PT.alts] at hj⟩
 | .q i r,listed,k,a,w,hS,hp=>⟨fun h=>by
  cases k with
  | zero=>simp [D8] at h
  | succ k =>
   simp only [D8,kK] at h
   obtain ⟨o,v,hi,hy,hr⟩:=hp
   exact wpAnyH_take hi hs h.1.1 h.1.2 (fun c a w=>hQ o.dst v c a w) hy hS ((Ey hs hQ r _ k _ _ hS hr).1 h.2),fun _ _ _ j hj=>by simp [PT.alts] at hj⟩
 | .m i r more,listed,k,a,w,hS,hp=>by
  have low : ∀ k',k=k'+1->∀ hd,D8 ops (.m i r more) listed k hd=true->∀ j∈(PT.m i r more).alts,wpOp P ops Q j (fun a' w'=>S w'/\wpAnyH P .any ops Q S k' (listed.setIfInBounds j true) a' w') a w:=by
   intro k' hk hd h j hj
   subst hk
   simp only [D8,kK] at h
   rcases List.mem_cons.1 hj with rfl | hj
   · exact wpOp_mono (fun a' w' hh=>⟨hh.1,(Ey hs hQ r _ k' _ _ hh.1 hh.2).1 h.2.1⟩) hp.1
   · exact (Ey hs hQ more listed (k'+1) a w hS hp.2).2 k' rfl h.2.2 j hj
  refine ⟨fun h=>?_,fun k' hk h=>low k' hk false h⟩
  cases k with
  | zero=>simp [D8] at h
  | succ k =>
   have h':=h
   simp only [D8,kK,Bool.not_true,Bool.false_or,beq_iff_eq] at h'
   refine wpAnyH_all h'.1 (by simp) fun j hj=>low k rfl true h j hj
theorem Ap {P:Program} {ops:Array Oper} {Q:Exit->Act->World->Prop} {S:World->Prop} {i:Nat} {r more:PT} {a:Act} {w:World} (h:wpOp P ops Q i (fun a' w'=>S w'/\Cn P ops Q S r a' w') a w) (h':Cn P ops Q S more a w):Cn P ops Q S (.m i r more) a w:=⟨h,h'⟩
theorem Aq {P:Program} {ops:Array Oper} {Q:Exit->Act->World->Prop} {S:World->Prop} {a:Act} {w:World} (h:Q .normal a w):Cn P ops Q S .fin a w:=h
def Sr:List Nat->PT->PT
 | [],r=>r
 | i::l,r=> .q i (Sr l r)
theorem Jx {P:Program} {ops:Array Oper} {Q:Exit->Act->World->Prop} {w:World} {S:World->Prop} {r:PT} {K:Act->Prop} (hK : ∀ a',K a'->Cn P ops Q S r a' w) : ∀ (l:List Nat) (a:Act),(Bd ops l).length=l.length->Lh P ops S (Bd ops l) a K->Cn P ops Q S (Sr l r) a w
 | [],a,_,h=>hK a h
 | i::l,a,hl,h=>by
  simp only [Bd] at hl h
  cases hi:ops[i]? with
  | none=>rw [hi] at hl; simp at hl
  | some o =>
   rw [hi] at hl h
   obtain ⟨v,hy,hr⟩:=h
   exact ⟨o,v,hi,hy,Jx hK l _ (by simpa using hl) hr⟩
theorem rT {P:Program} {ops:Array Oper} {Q:Exit->Act->World->Prop} {a:Act} {X:Nat->Prop} {w₀ w:World} {L:OwL} {id:Nat} (tree:PT) (O:Ow P X w₀ w L) (h : ∀ w',Only Ag w w'->Cn P ops Q (fun w'=>Ow P X w₀ w' L) tree a w')
 (hQ : ∀ d v c a w,Q (.panic c) (a.put d v) w->Q (.panic c) a w:=by (intro d v c a w h; cases d <;> exact h)) (hm:P.follows .mixedOrders=true:=by kernel_rfl) (hs:Region.noSelect ops=true:=by kernel_rfl) (hp:D8 ops tree (Array.replicate ops.size false) ops.size true=true:=by kernel_rfl):(Code.region id ops true).wp P Q a w :=
 wp_region_held hm ((Ey hs hQ tree _ _ _ _ (O.st (Only.draw _ _)) (h _ (Only.draw _ _))).1 hp)
theorem jK (b:Bool):b=true\/b=false:=Bool.eq_false_or_eq_true b
theorem jL {p:Prop} [i:Decidable p] (h:decide p=true):p:=of_decide_eq_true h
theorem jM {p:Prop} [i:Decidable p] (h:decide p=false):¬p:=of_decide_eq_false h
theorem jN {p:Prop} [i:Decidable p] (h:p):decide p=true:=decide_eq_true h
theorem jO {p:Prop} [i:Decidable p] (h:¬p):decide p=false:=decide_eq_false h
end Go.Proofs.Sx
