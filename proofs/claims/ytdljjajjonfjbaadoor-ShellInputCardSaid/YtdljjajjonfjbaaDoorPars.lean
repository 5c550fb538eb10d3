import Derived.Test.YtdljjajjonfjbaaDoorIsword
import Derived.Test.YtdljjajjonfjbaaDoorSn
set_option linter.unusedVariables false
set_option linter.unusedSimpArgs false
set_option maxRecDepth 10000
namespace Go.Proofs.YtdljjajjonfjbaaDoor
open Go Go.Shelf Go.RowKit Go.Proofs Go.Proofs.Sx
abbrev TP (pb:Nat) (s:ByteArray) (n:Nat):OwL:=[(pb,103,[str s,i64 ((n:Nat):Int),.slice none 0 0])]
abbrev pnc (n:Nat) (e:Int):List PanicEntry:=[{v:= .iface 99 (.agg #[i64 ((n:Nat):Int),i64 e]),recovered:=false}]
theorem Ow.pan {P:Program} {X:Nat->Prop} {w₀ w w':World} {A T B:OwL} (h:Ow P X w₀ w (A++(T++B))) (k:Only (inT T) w w'):Only X w₀ w' :=
  h.only.step k fun i hi hx=>by
    obtain ⟨x,hx,e⟩:=hx
    rcases h.m.new x (List.mem_append_right _ (List.mem_append_left _ hx)) with hn | hX
    · omega
    · exact e ▸ hX
theorem Ow.pan0 {P:Program} {X:Nat->Prop} {w₀ w w':World} {L:OwL} (h:Ow P X w₀ w L) (k:Only none' w w'):Only X w₀ w':=h.only.step k fun i hi hx=>hx.elim
theorem skip_any (pb:Nat) (sv:ByteArray) (n:Nat) (w:World) (hn:n<=sv.size) (hs:sv.size<=1000000) (h0:Ow Tryd.prog (inT (TP pb sv n)) w w (TP pb sv n)) :
    Calls Tryd.prog 65 #[pt pb] w fun e w'=>e = .returned (.tuple #[])/\Ow Tryd.prog (inT (TP pb sv n)) w w' (TP pb sv (sk sv n)):=by
 refine c_enter (args:=[pt pb]) (m:=42) (n:=43) Tryd.func65 rfl (by kernel_rfl) (by kernel_rfl) fun fr hA=>?_
 have hO:Ow Tryd.prog (inT (TP pb sv n)) w w [(pb,103,[str sv,i64 ((n:Nat):Int),.slice none 0 0])]:=h0
 refine wp_block ?_
 refine c_loop (fun mm fr W=>∃ (m:Nat),mm=sv.size - m/\Holds 43 [] fr [(0,pt pb)]/\Ow Tryd.prog (inT (TP pb sv n)) w W [(pb,103,[str sv,i64 ((m:Nat):Int),.slice none 0 0])]/\m<=sv.size/\sk sv m=sk sv n/\True) ?_ ?_
 · exact ⟨_,n,rfl,hA.ss,hO.to,hn,rfl,trivial⟩
 rintro _ fr w1 ⟨m,rfl,hA,hO,hm,hk,-⟩
 have hsb:=sb_b sv m
 refine wp_seq ?_
 refine wp_seq ?_
 have hS:=hO
 refine rP [(0,true),(1,true),(2,true),(3,true),(4,true),(5,true),(6,true),(7,true),(8,true),(9,true),(10,true),(11,true),(12,true),(13,true),(14,true),(15,true),(16,true),(17,true),(18,true),(19,true),(20,true),(21,true),(22,true),(23,true),(24,true),(25,true),(26,true),(27,true),(28,true),(29,true),(30,true),(31,true),(32,true),(33,true)] hS ?_
 intro w2 ho; replace hO:=hO.st ho; clear ho
 refine Ke 11 [(11,bl (decide (((m:Nat):Int) < ((sv.size:Nat):Int)))),(12,bl (decide (((m:Nat):Int) < ((sv.size:Nat):Int))))] hA [i64 ((m:Nat):Int),str sv] (cc (hS.s1 0 1 3 (i64 ((m:Nat):Int))) (cc (hS.s1 0 0 9 (str sv)) c0)) fun fr hA=>?_
 rcases Bool.eq_false_or_eq_true (decide (((m:Nat):Int) < ((sv.size:Nat):Int))) with h1 | h1
 · rw [h1] at hA
   have h1p:=of_decide_eq_true h1
   refine Ke 11 [(12,bl true),(22,bl ((sb sv m) == 32)),(23,bl ((sb sv m) == 32))] hA [str sv,i64 ((m:Nat):Int)] (cc (hS.s1 0 0 9 (str sv)) (cc (hS.s1 0 1 3 (i64 ((m:Nat):Int))) (cc (⟨by omega,by omega⟩:(0:Int)<=((m:Nat):Int)/\((m:Nat):Int) < ((sv.size:Nat):Int)) c0))) fun fr hA=>?_
   rcases Bool.eq_false_or_eq_true ((sb sv m) == 32) with h2 | h2
   · rw [h2] at hA
     have h2p:=eq_of_beq h2
     refine Kd 12 [(35,bl true)] hA fun fr hA=>?_
     refine end_plan ?_
     refine then_normal ?_
     refine cT hA ?_
     refine wp_skip ?_
     refine then_normal ?_
     refine wp_block ?_
     refine rr 8 ?_
     refine Kb 7 [(40,i64 (((m:Nat):Int)+1)),(42,pf pb 1)] hA [i64 ((m:Nat):Int),bl true] (cc (hO.l1 0 1 3 (i64 ((m:Nat):Int))) (cc ((inK_i64 (by omega) (by omega)):inK .i64 (((m:Nat):Int)+1)) c0)) fun fr hA=>?_
     refine Ms 1 [i64 (((m:Nat):Int)+1)] 0 hA hO fun w3 hO=>?_
     refine end_ops ?_
     refine inBlock_normal ?_
     refine then_normal ?_
     exact ⟨_,by omega,m+1,rfl,hA.ss,hO.to,(by omega),(by rw [← hk]; refine (sk_more (by omega) ?_).symm; unfold blankI; refine decide_eq_true ?_; omega),trivial⟩
   rw [h2] at hA
   have h2p:=ne_of_beq_false h2
   refine Ke 12 [(35,bl ((sb sv m) == 9))] hA [str sv,i64 ((m:Nat):Int)] (cc (hS.s1 0 0 9 (str sv)) (cc (hS.s1 0 1 3 (i64 ((m:Nat):Int))) (cc (⟨by omega,by omega⟩:(0:Int)<=((m:Nat):Int)/\((m:Nat):Int) < ((sv.size:Nat):Int)) c0))) fun fr hA=>?_
   refine end_plan ?_
   refine then_normal ?_
   rcases Bool.eq_false_or_eq_true ((sb sv m) == 9) with h3 | h3
   · rw [h3] at hA
     have h3p:=eq_of_beq h3
     refine cT hA ?_
     refine wp_skip ?_
     refine then_normal ?_
     refine wp_block ?_
     refine rr 8 ?_
     refine Kb 7 [(40,i64 (((m:Nat):Int)+1)),(42,pf pb 1)] hA [i64 ((m:Nat):Int),bl true] (cc (hO.l1 0 1 3 (i64 ((m:Nat):Int))) (cc ((inK_i64 (by omega) (by omega)):inK .i64 (((m:Nat):Int)+1)) c0)) fun fr hA=>?_
     refine Ms 1 [i64 (((m:Nat):Int)+1)] 0 hA hO fun w4 hO=>?_
     refine end_ops ?_
     refine inBlock_normal ?_
     refine then_normal ?_
     exact ⟨_,by omega,m+1,rfl,hA.ss,hO.to,(by omega),(by rw [← hk]; refine (sk_more (by omega) ?_).symm; unfold blankI; refine decide_eq_true ?_; omega),trivial⟩
   rw [h3] at hA
   have h3p:=ne_of_beq_false h3
   refine cF hA ?_
   refine wp_exit ?_
   refine then_exit ?_
   refine then_exit ?_
   refine inBlock_exit ?_
   refine c_end ?_
   refine cv [] hA ?_
   have e_:sk sv m=m:=sk_stop (by unfold blankI; rintro ⟨q1,q2⟩; have q3:=of_decide_eq_true q2; omega)
   rw [← hk,e_]
   exact ⟨rfl,hO.tt⟩
 rw [h1] at hA
 have h1p:=of_decide_eq_false h1
 refine Kd 23 [(35,bl false)] hA fun fr hA=>?_
 refine end_plan ?_
 refine then_normal ?_
 refine cF hA ?_
 refine wp_exit ?_
 refine then_exit ?_
 refine then_exit ?_
 refine inBlock_exit ?_
 refine c_end ?_
 refine cv [] hA ?_
 have e_:sk sv m=m:=sk_stop (by unfold blankI; rintro ⟨q1,q2⟩; have q3:=of_decide_eq_true q2; omega)
 rw [← hk,e_]
 exact ⟨rfl,hO.tt⟩
theorem rest_size {s:ByteArray} {n:Nat} (hn:n<=s.size):(s.extract n s.size).size=s.size - n:=by rw [ByteArray.size_extract]; omega
theorem sb_rest {s:ByteArray} {n i:Nat} (h:i < s.size - n):sb (s.extract n s.size) i=sb s (n+i):=sb_ext h
theorem ba_ext {a b:ByteArray} (h:a.data.toList=b.data.toList):a=b:=by
 cases a; cases b; simp only at h; exact congrArg ByteArray.mk (Array.toList_inj.1 h)
theorem sub_sub {s:ByteArray} {n k:Nat} (h:k<=s.size - n):(s.extract n s.size).extract 0 k=s.extract n (n+k):=by
 apply ba_ext
 rw [ext_bytes,ext_bytes,ext_bytes]
 simp only [List.drop_zero,List.take_take]
 congr 1
 omega
theorem tk_word {s:ByteArray} {n k:Nat} (h:wl s n=k) (hk : 0 < k):(s.extract n s.size).extract 0 k=tk s n:=by
 have h1:=wl_le s n
 rw [sub_sub (by omega)]
 have h2:=wl_pos.1 (by omega : 0 < wl s n)
 have h3:=kd_spec s n
 have h4:=tl_kd s n
 unfold tk
 rw [show tl s n=k by rcases h3 with h | h | ⟨_,hp,_⟩; {omega}; {omega}; {rw [h2.2] at hp; cases hp}]
theorem two_bytes {s:ByteArray} {n:Nat} {x y:UInt8} (h:n+1 < s.size) (hx:sb s n=(x.toNat:Int)) (hy:sb s (n+1)=(y.toNat:Int)):s.extract n (n+2)=⟨#[x,y]⟩:=by
 have h1:=str_two (s.extract n (n+2)) x y
 exact toList_inj' (eq_of_beq (h1.trans (decide_eq_true ⟨by rw [ByteArray.size_extract]; omega,by rw [sb_ext (by omega),Nat.add_zero,hx],by rw [sb_ext (by omega),hy]⟩)))
theorem hasp (s:ByteArray) (x y:UInt8):Lib.hasPrefix s.data.toList [x,y]=decide (2<=s.size/\sb s 0=(x.toNat:Int)/\sb s 1=(y.toNat:Int)):=by
  have hs:=size_list s
  have hb:=sb_eq s 0 x
  have hc:=sb_eq s 1 y
  rw [Bool.eq_iff_iff,decide_eq_true_eq]
  unfold Lib.hasPrefix
  match hl:s.data.toList with
  | []=>rw [hl] at hs; simp only [List.length_nil] at hs; simp [List.isPrefixOf]; omega
  | [y']=>rw [hl] at hs; simp only [List.length_cons,List.length_nil] at hs; simp [List.isPrefixOf]; omega
  | x'::y'::r =>
    rw [hl] at hs hb hc
    simp only [List.length_cons] at hs
    have h1:=hb (by omega)
    have h2:=hc (by omega)
    simp only [List.getElem?_cons_zero,List.getElem?_cons_succ,Option.some.injEq] at h1 h2
    rw [h1,h2]
    simp only [List.isPrefixOf,Bool.and_true,Bool.and_eq_true,beq_iff_eq]
    constructor
    · rintro ⟨rfl,rfl⟩; exact ⟨by omega,rfl,rfl⟩
    · rintro ⟨_,rfl,rfl⟩; exact ⟨rfl,rfl⟩
def markI (c:Int):Int:=if c=60 then 0 else if c=62 then 1 else if c=59 then 2 else if c=38 then 3 else if c=124 then 4 else -1
theorem markI_pos (c:Int):markI c ≥ 0↔c=60\/c=62\/c=59\/c=38\/c=124:=by unfold markI; (repeat' split) <;> omega
theorem ix_mark {c:Int} (h0 : 0<=c) (h1:c<=255):Lib.indexByte [60,62,59,38,124] c.toNat.toUInt8=markI c:=by
 obtain ⟨k,rfl⟩:=Int.eq_ofNat_of_zero_le h0
 have h2:k < 256:=by omega
 have : ∀ k:Fin 256,Lib.indexByte [60,62,59,38,124] (((k.val:Nat):Int).toNat.toUInt8)=markI ((k.val:Nat):Int):=by decide +kernel
 exact this ⟨k,h2⟩
theorem kd_nw {s:ByteArray} {n:Nat} (hw:wl s n=0) (h:n < s.size):kd s n≠1:=fun e=>by
  have:=tl_kd s n
  omega
theorem next_app {s:ByteArray} {n:Nat} (hn:n<=s.size) (hw:wl s n=0) (h : 2<=(s.extract n s.size).size/\sb (s.extract n s.size) 0=(62:Int)/\sb (s.extract n s.size) 1=(62:Int)):(⟨#[62,62]⟩:ByteArray)=tk s n:=by
 rw [rest_size hn] at h
 rw [sb_rest (by omega),sb_rest (by omega),Nat.add_zero] at h
 have h1:=kd_spec s n
 have h2:=kd_nw hw (by omega)
 have h3:=tl_kd s n
 unfold tk
 rw [show tl s n=2 by omega]
 exact (two_bytes (by omega) (show sb s n=62 by omega) (show sb s (n+1)=62 by omega)).symm
theorem next_mark {s:ByteArray} {n:Nat} (hn:n<=s.size) (hw:wl s n=0) (h : ¬ (2<=(s.extract n s.size).size/\sb (s.extract n s.size) 0=(62:Int)/\sb (s.extract n s.size) 1=(62:Int))) (h0 : ¬ (s.extract n s.size).size=0) (hm:markI (sb (s.extract n s.size) 0) ≥ 0):(s.extract n s.size).extract 0 1=tk s n:=by
 rw [rest_size hn] at h h0
 have hq : 2<=s.size - n->sb (s.extract n s.size) 1=sb s (n+1):=fun q=>sb_rest (by omega)
 rw [sb_rest (by omega),Nat.add_zero] at h hm
 have h1:=kd_spec s n
 have h2:=kd_nw hw (by omega)
 have h3:=tl_kd s n
 have h4:=(markI_pos _).1 hm
 unfold tk
 rw [show tl s n=1 by omega]
 exact sub_sub (by omega)
theorem next_none {s:ByteArray} {n:Nat} (hn:n<=s.size) (hw:wl s n=0) (h : ¬ (2<=(s.extract n s.size).size/\sb (s.extract n s.size) 0=(62:Int)/\sb (s.extract n s.size) 1=(62:Int))) (hm : ¬ (s.extract n s.size).size=0->¬ markI (sb (s.extract n s.size) 0) ≥ 0):(⟨#[]⟩:ByteArray)=tk s n:=by
  rw [rest_size hn] at h hm
  have h1:=kd_spec s n
  have h3:=tl_kd s n
  have ht:tl s n=0:=by
    by_cases hlt:n < s.size
    · have h2:=kd_nw hw hlt
      have hq0:sb (s.extract n s.size) 0=sb s n:=by rw [sb_rest (by omega),Nat.add_zero]
      have hq1 : 2<=s.size - n->sb (s.extract n s.size) 1=sb s (n+1):=fun q=>sb_rest (by omega)
      rw [hq0] at hm
      have h4 : ¬ (sb s n=60\/sb s n=62\/sb s n=59\/sb s n=38\/sb s n=124):=fun q=>hm (by omega) ((markI_pos _).2 q)
      by_cases h5 : 2<=s.size - n
      · have h6:=hq1 h5
        omega
      · omega
    · omega
  unfold tk
  rw [ht]
  exact (ba_ext (by rw [ext_bytes]; simp))
theorem next_any (pb:Nat) (sv:ByteArray) (n:Nat) (w:World) (hn:n<=sv.size) (hs:sv.size<=1000000) (hB:Blk w pb 103 [str sv,i64 ((n:Nat):Int),.slice none 0 0]) :
    Calls Tryd.prog 67 #[pt pb] w fun e w'=>e = .returned (str (tk sv n))/\Only none' w w':=by
 refine c_enter (args:=[pt pb]) (m:=45) (n:=46) Tryd.func67 rfl (by kernel_rfl) (by kernel_rfl) fun fr hA=>?_
 have hO:=Ow.nil Tryd.prog none' w
 have hrs:=rest_size hn
 refine Sa [(2,str (⟨#[]⟩))] hA fun fr hA=>?_
 refine wp_seq ?_
 have hS:=hO
 refine rP [(0,true),(1,true),(2,true),(3,true),(4,true),(5,true),(6,true),(7,true),(8,true),(9,true)] hS ?_
 intro w1 ho; replace hO:=hO.st ho; clear ho
 refine Ke 10 [(3,str (sv.extract n sv.size))] hA [str sv,i64 ((n:Nat):Int)] (cc (hS.sx ⟨pb,0,none⟩ 9 (str sv) fun _ hO=>((hB.keep hO.only (fun h=>h)).ld1 (i:=0) (by kernel_rfl) (by kernel_rfl))) (cc (hS.sx ⟨pb,1,none⟩ 3 (i64 ((n:Nat):Int)) fun _ hO=>((hB.keep hO.only (fun h=>h)).ld1 (i:=1) (by kernel_rfl) (by kernel_rfl))) (cc (⟨by omega,by omega,by omega⟩:(0:Int)<=((n:Nat):Int)/\(((n:Nat):Int):Int)<=((sv.size:Nat):Int)/\(((sv.size:Nat):Int):Int)<=((sv.size:Nat):Int)) c0))) fun fr hA=>?_
 refine end_plan ?_
 refine then_normal ?_
 refine Sa [(4,i64 0)] hA fun fr hA=>?_
 refine wp_seq ?_
 refine wp_block ?_
 refine c_loop (fun mm fr W=>∃ (i:Nat),mm=sv.size - n - i/\Holds 46 [] fr [(2,str (⟨#[]⟩)),(3,str (sv.extract n sv.size)),(4,i64 ((i:Nat):Int))]/\Ow Tryd.prog none' w W []/\n+i<=sv.size/\wl sv (n+i)+i=wl sv n/\True) ?_ ?_
 · exact ⟨_,0,rfl,hA.ss,hO.to,(by omega),rfl,trivial⟩
 rintro _ fr w2 ⟨i,rfl,hA,hO,hi,hk,-⟩
 have hsb:=sb_b (sv.extract n sv.size) i
 refine wp_seq ?_
 refine sr 10 ?_
 refine Ka 5 [(17,bl (decide (((i:Nat):Int) < (((sv.extract n sv.size).size:Nat):Int)))),(18,bl (decide (((i:Nat):Int) < (((sv.extract n sv.size).size:Nat):Int))))] hA fun fr hA=>?_
 rcases Bool.eq_false_or_eq_true (decide (((i:Nat):Int) < (((sv.extract n sv.size).size:Nat):Int))) with h1 | h1
 · rw [h1] at hA
   have h1p:=of_decide_eq_true h1
   refine Kb 3 [(18,bl true),(21,u8 (sb (sv.extract n sv.size) i))] hA [] (cc (⟨by omega,by omega⟩:(0:Int)<=((i:Nat):Int)/\((i:Nat):Int) < (((sv.extract n sv.size).size:Nat):Int)) c0) fun fr hA=>?_
   refine Mk 22 hA hO Tryd.func57 (part_any (sb (sv.extract n sv.size) i) _ (by omega) (by omega)) fun fr w3 hA hO=>?_
   refine Ka 1 [(23,bl (partI (sb (sv.extract n sv.size) i)))] hA fun fr hA=>?_
   refine end_ops ?_
   refine then_normal ?_
   rcases Bool.eq_false_or_eq_true (partI (sb (sv.extract n sv.size) i)) with h2 | h2
   · rw [h2] at hA
     refine cT hA ?_
     refine wp_skip ?_
     refine then_normal ?_
     refine wp_block ?_
     refine Rc [(4,i64 (((i:Nat):Int)+1))] hA [bl true] (cc ((inK_i64 (by omega) (by omega)):inK .i64 (((i:Nat):Int)+1)) c0) fun fr hA=>?_
     refine inBlock_normal ?_
     refine then_normal ?_
     exact ⟨_,by omega,i+1,rfl,hA.ss,hO.to,(by omega),(by rw [← hk,wl_more (n:=n+i) (by omega) (by rw [← sb_rest (by omega)]; assumption)]; rw [Nat.add_assoc n i 1]; omega),trivial⟩
   rw [h2] at hA
   refine cF hA ?_
   refine wp_exit ?_
   refine then_exit ?_
   refine then_exit ?_
   refine inBlock_exit ?_
   refine then_normal ?_
   refine wp_seq ?_
   refine wp_block ?_
   refine Sa [(26,bl (decide (((i:Nat):Int) > 0)))] hA fun fr hA=>?_
   rcases Bool.eq_false_or_eq_true (decide (((i:Nat):Int) > 0)) with h3 | h3
   · rw [h3] at hA
     have h3p:=of_decide_eq_true h3
     refine cT hA ?_
     refine Sb [(2,str ((sv.extract n sv.size).extract 0 i))] hA [] (cc (⟨by omega,by omega,by omega⟩:(0:Int)<=0/\(0:Int)<=((i:Nat):Int)/\(((i:Nat):Int):Int)<=(((sv.extract n sv.size).size:Nat):Int)) c0) fun fr hA=>?_
     refine wp_ret ?_
     refine inBlock_ret ?_
     refine then_ret ?_
     refine cv [str ((sv.extract n sv.size).extract 0 i)] hA ?_
     have hF:=hO.only; clear hA hO
     refine ⟨congrArg (fun b=>Ending.returned (str b)) ?_,hF⟩
     have hw:wl sv (n+i)=0:=wl_stop (by rintro ⟨q1,q2⟩; have q3:i < sv.size - n:=(by omega); rw [← sb_rest q3] at q2; simp_all)
     have hki:wl sv n=i:=(by omega)
     exact tk_word hki (by omega)
   rw [h3] at hA
   have h3p:=of_decide_eq_false h3
   refine cF hA ?_
   refine sr 3 ?_
   refine Ka 1 [(33,str (sv.extract n sv.size))] hA fun fr hA=>?_
   refine Mk 34 hA hO Tryd.func77 (rs (hasPrefix_any (sv.extract n sv.size) (⟨#[62,62]⟩:ByteArray) _) (congrArg Value.bool (hasp _ 62 62))) fun fr w4 hA hO=>?_
   refine Ka 1 [(32,bl (decide (2<=(sv.extract n sv.size).size/\sb (sv.extract n sv.size) 0=(62:Int)/\sb (sv.extract n sv.size) 1=(62:Int))))] hA fun fr hA=>?_
   refine end_ops ?_
   refine then_normal ?_
   rcases Bool.eq_false_or_eq_true (decide (2<=(sv.extract n sv.size).size/\sb (sv.extract n sv.size) 0=(62:Int)/\sb (sv.extract n sv.size) 1=(62:Int))) with h4 | h4
   · rw [h4] at hA
     have h4p:=of_decide_eq_true h4
     refine cT hA ?_
     refine Sa [(2,str (⟨#[62,62]⟩))] hA fun fr hA=>?_
     refine wp_ret ?_
     refine inBlock_ret ?_
     refine then_ret ?_
     refine cv [str (⟨#[62,62]⟩)] hA ?_
     have hF:=hO.only; clear hA hO
     refine ⟨congrArg (fun b=>Ending.returned (str b)) ?_,hF⟩
     have hw:wl sv (n+i)=0:=wl_stop (by rintro ⟨q1,q2⟩; have q3:i < sv.size - n:=(by omega); rw [← sb_rest q3] at q2; simp_all)
     have hki:wl sv n=i:=(by omega)
     have hw0:wl sv n=0:=(by omega)
     exact next_app hn hw0 (by assumption)
   rw [h4] at hA
   have h4p:=of_decide_eq_false h4
   refine cF hA ?_
   refine sr 9 ?_
   refine Ka 3 [(37,bl (!((sv.extract n sv.size).toList == (⟨#[]⟩:ByteArray).toList))),(38,bl (!((sv.extract n sv.size).toList == (⟨#[]⟩:ByteArray).toList)))] hA fun fr hA=>?_
   rw [(str_empty (sv.extract n sv.size):((sv.extract n sv.size).toList == (⟨#[]⟩:ByteArray).toList)=(decide ((sv.extract n sv.size).size=0)))] at hA
   rcases Bool.eq_false_or_eq_true (decide ((sv.extract n sv.size).size=0)) with h5 | h5
   · rw [h5] at hA
     have h5p:=of_decide_eq_true h5
     refine Ka 6 [(35,bl false)] hA fun fr hA=>?_
     refine end_ops ?_
     refine then_normal ?_
     refine cF hA ?_
     refine wp_skip ?_
     refine inBlock_normal ?_
     refine then_normal ?_
     refine Sa [] hA fun fr hA=>?_
     refine wp_ret ?_
     refine cv [str (⟨#[]⟩)] hA ?_
     have hF:=hO.only; clear hA hO
     refine ⟨congrArg (fun b=>Ending.returned (str b)) ?_,hF⟩
     have hw:wl sv (n+i)=0:=wl_stop (by rintro ⟨q1,q2⟩; have q3:i < sv.size - n:=(by omega); rw [← sb_rest q3] at q2; simp_all)
     have hki:wl sv n=i:=(by omega)
     have hw0:wl sv n=0:=(by omega)
     exact next_none hn hw0 (by assumption) (fun h=>by first | assumption | exact absurd (by assumption) h)
   rw [h5] at hA
   have h5p:=of_decide_eq_false h5
   refine Kb 2 [(38,bl true),(40,u8 (sb (sv.extract n sv.size) 0))] hA [] (cc (⟨by omega,by omega⟩:(0:Int)<=0/\0 < (((sv.extract n sv.size).size:Nat):Int)) c0) fun fr hA=>?_
   refine Mk 41 hA hO Tryd.func40 (rs (indexByte_any (⟨#[60,62,59,38,124]⟩:ByteArray) (sb (sv.extract n sv.size) 0) _) (congrArg (Value.int .i64) (ix_mark (by have:=sb_b (sv.extract n sv.size) 0; omega) (by have:=sb_b (sv.extract n sv.size) 0; omega)))) fun fr w5 hA hO=>?_
   refine Ka 3 [(35,bl (decide ((markI (sb (sv.extract n sv.size) 0)) ≥ 0)))] hA fun fr hA=>?_
   refine end_ops ?_
   refine then_normal ?_
   rcases Bool.eq_false_or_eq_true (decide ((markI (sb (sv.extract n sv.size) 0)) ≥ 0)) with h6 | h6
   · rw [h6] at hA
     have h6p:=of_decide_eq_true h6
     refine cT hA ?_
     refine Sb [(2,str ((sv.extract n sv.size).extract 0 1))] hA [] (cc (⟨by omega,by omega,by omega⟩:(0:Int)<=0/\(0:Int)<=1/\(1:Int)<=(((sv.extract n sv.size).size:Nat):Int)) c0) fun fr hA=>?_
     refine wp_ret ?_
     refine inBlock_ret ?_
     refine then_ret ?_
     refine cv [str ((sv.extract n sv.size).extract 0 1)] hA ?_
     have hF:=hO.only; clear hA hO
     refine ⟨congrArg (fun b=>Ending.returned (str b)) ?_,hF⟩
     have hw:wl sv (n+i)=0:=wl_stop (by rintro ⟨q1,q2⟩; have q3:i < sv.size - n:=(by omega); rw [← sb_rest q3] at q2; simp_all)
     have hki:wl sv n=i:=(by omega)
     have hw0:wl sv n=0:=(by omega)
     exact next_mark hn hw0 (by assumption) (by assumption) (by assumption)
   rw [h6] at hA
   have h6p:=of_decide_eq_false h6
   refine cF hA ?_
   refine wp_skip ?_
   refine inBlock_normal ?_
   refine then_normal ?_
   refine Sa [] hA fun fr hA=>?_
   refine wp_ret ?_
   refine cv [str (⟨#[]⟩)] hA ?_
   have hF:=hO.only; clear hA hO
   refine ⟨congrArg (fun b=>Ending.returned (str b)) ?_,hF⟩
   have hw:wl sv (n+i)=0:=wl_stop (by rintro ⟨q1,q2⟩; have q3:i < sv.size - n:=(by omega); rw [← sb_rest q3] at q2; simp_all)
   have hki:wl sv n=i:=(by omega)
   have hw0:wl sv n=0:=(by omega)
   exact next_none hn hw0 (by assumption) (fun h=>by first | assumption | exact absurd (by assumption) h)
 rw [h1] at hA
 have h1p:=of_decide_eq_false h1
 refine Ka 5 [(23,bl false)] hA fun fr hA=>?_
 refine end_ops ?_
 refine then_normal ?_
 refine cF hA ?_
 refine wp_exit ?_
 refine then_exit ?_
 refine then_exit ?_
 refine inBlock_exit ?_
 refine then_normal ?_
 refine wp_seq ?_
 refine wp_block ?_
 refine Sa [(26,bl (decide (((i:Nat):Int) > 0)))] hA fun fr hA=>?_
 rcases Bool.eq_false_or_eq_true (decide (((i:Nat):Int) > 0)) with h7 | h7
 · rw [h7] at hA
   have h7p:=of_decide_eq_true h7
   refine cT hA ?_
   refine Sb [(2,str ((sv.extract n sv.size).extract 0 i))] hA [] (cc (⟨by omega,by omega,by omega⟩:(0:Int)<=0/\(0:Int)<=((i:Nat):Int)/\(((i:Nat):Int):Int)<=(((sv.extract n sv.size).size:Nat):Int)) c0) fun fr hA=>?_
   refine wp_ret ?_
   refine inBlock_ret ?_
   refine then_ret ?_
   refine cv [str ((sv.extract n sv.size).extract 0 i)] hA ?_
   have hF:=hO.only; clear hA hO
   refine ⟨congrArg (fun b=>Ending.returned (str b)) ?_,hF⟩
   have hw:wl sv (n+i)=0:=wl_stop (by rintro ⟨q1,q2⟩; have q3:i < sv.size - n:=(by omega); rw [← sb_rest q3] at q2; simp_all)
   have hki:wl sv n=i:=(by omega)
   exact tk_word hki (by omega)
 rw [h7] at hA
 have h7p:=of_decide_eq_false h7
 refine cF hA ?_
 refine sr 3 ?_
 refine Ka 1 [(33,str (sv.extract n sv.size))] hA fun fr hA=>?_
 refine Mk 34 hA hO Tryd.func77 (rs (hasPrefix_any (sv.extract n sv.size) (⟨#[62,62]⟩:ByteArray) _) (congrArg Value.bool (hasp _ 62 62))) fun fr w6 hA hO=>?_
 refine Ka 1 [(32,bl (decide (2<=(sv.extract n sv.size).size/\sb (sv.extract n sv.size) 0=(62:Int)/\sb (sv.extract n sv.size) 1=(62:Int))))] hA fun fr hA=>?_
 refine end_ops ?_
 refine then_normal ?_
 rcases Bool.eq_false_or_eq_true (decide (2<=(sv.extract n sv.size).size/\sb (sv.extract n sv.size) 0=(62:Int)/\sb (sv.extract n sv.size) 1=(62:Int))) with h8 | h8
 · rw [h8] at hA
   have h8p:=of_decide_eq_true h8
   refine cT hA ?_
   refine Sa [(2,str (⟨#[62,62]⟩))] hA fun fr hA=>?_
   refine wp_ret ?_
   refine inBlock_ret ?_
   refine then_ret ?_
   refine cv [str (⟨#[62,62]⟩)] hA ?_
   have hF:=hO.only; clear hA hO
   refine ⟨congrArg (fun b=>Ending.returned (str b)) ?_,hF⟩
   have hw:wl sv (n+i)=0:=wl_stop (by rintro ⟨q1,q2⟩; have q3:i < sv.size - n:=(by omega); rw [← sb_rest q3] at q2; simp_all)
   have hki:wl sv n=i:=(by omega)
   have hw0:wl sv n=0:=(by omega)
   exact next_app hn hw0 (by assumption)
 rw [h8] at hA
 have h8p:=of_decide_eq_false h8
 refine cF hA ?_
 refine sr 9 ?_
 refine Ka 3 [(37,bl (!((sv.extract n sv.size).toList == (⟨#[]⟩:ByteArray).toList))),(38,bl (!((sv.extract n sv.size).toList == (⟨#[]⟩:ByteArray).toList)))] hA fun fr hA=>?_
 rw [(str_empty (sv.extract n sv.size):((sv.extract n sv.size).toList == (⟨#[]⟩:ByteArray).toList)=(decide ((sv.extract n sv.size).size=0)))] at hA
 rcases Bool.eq_false_or_eq_true (decide ((sv.extract n sv.size).size=0)) with h9 | h9
 · rw [h9] at hA
   have h9p:=of_decide_eq_true h9
   refine Ka 6 [(35,bl false)] hA fun fr hA=>?_
   refine end_ops ?_
   refine then_normal ?_
   refine cF hA ?_
   refine wp_skip ?_
   refine inBlock_normal ?_
   refine then_normal ?_
   refine Sa [] hA fun fr hA=>?_
   refine wp_ret ?_
   refine cv [str (⟨#[]⟩)] hA ?_
   have hF:=hO.only; clear hA hO
   refine ⟨congrArg (fun b=>Ending.returned (str b)) ?_,hF⟩
   have hw:wl sv (n+i)=0:=wl_stop (by rintro ⟨q1,q2⟩; have q3:i < sv.size - n:=(by omega); rw [← sb_rest q3] at q2; simp_all)
   have hki:wl sv n=i:=(by omega)
   have hw0:wl sv n=0:=(by omega)
   exact next_none hn hw0 (by assumption) (fun h=>by first | assumption | exact absurd (by assumption) h)
 rw [h9] at hA
 have h9p:=of_decide_eq_false h9
 refine Kb 2 [(38,bl true),(40,u8 (sb (sv.extract n sv.size) 0))] hA [] (cc (⟨by omega,by omega⟩:(0:Int)<=0/\0 < (((sv.extract n sv.size).size:Nat):Int)) c0) fun fr hA=>?_
 refine Mk 41 hA hO Tryd.func40 (rs (indexByte_any (⟨#[60,62,59,38,124]⟩:ByteArray) (sb (sv.extract n sv.size) 0) _) (congrArg (Value.int .i64) (ix_mark (by have:=sb_b (sv.extract n sv.size) 0; omega) (by have:=sb_b (sv.extract n sv.size) 0; omega)))) fun fr w7 hA hO=>?_
 refine Ka 3 [(35,bl (decide ((markI (sb (sv.extract n sv.size) 0)) ≥ 0)))] hA fun fr hA=>?_
 refine end_ops ?_
 refine then_normal ?_
 rcases Bool.eq_false_or_eq_true (decide ((markI (sb (sv.extract n sv.size) 0)) ≥ 0)) with h10 | h10
 · rw [h10] at hA
   have h10p:=of_decide_eq_true h10
   refine cT hA ?_
   refine Sb [(2,str ((sv.extract n sv.size).extract 0 1))] hA [] (cc (⟨by omega,by omega,by omega⟩:(0:Int)<=0/\(0:Int)<=1/\(1:Int)<=(((sv.extract n sv.size).size:Nat):Int)) c0) fun fr hA=>?_
   refine wp_ret ?_
   refine inBlock_ret ?_
   refine then_ret ?_
   refine cv [str ((sv.extract n sv.size).extract 0 1)] hA ?_
   have hF:=hO.only; clear hA hO
   refine ⟨congrArg (fun b=>Ending.returned (str b)) ?_,hF⟩
   have hw:wl sv (n+i)=0:=wl_stop (by rintro ⟨q1,q2⟩; have q3:i < sv.size - n:=(by omega); rw [← sb_rest q3] at q2; simp_all)
   have hki:wl sv n=i:=(by omega)
   have hw0:wl sv n=0:=(by omega)
   exact next_mark hn hw0 (by assumption) (by assumption) (by assumption)
 rw [h10] at hA
 have h10p:=of_decide_eq_false h10
 refine cF hA ?_
 refine wp_skip ?_
 refine inBlock_normal ?_
 refine then_normal ?_
 refine Sa [] hA fun fr hA=>?_
 refine wp_ret ?_
 refine cv [str (⟨#[]⟩)] hA ?_
 have hF:=hO.only; clear hA hO
 refine ⟨congrArg (fun b=>Ending.returned (str b)) ?_,hF⟩
 have hw:wl sv (n+i)=0:=wl_stop (by rintro ⟨q1,q2⟩; have q3:i < sv.size - n:=(by omega); rw [← sb_rest q3] at q2; simp_all)
 have hki:wl sv n=i:=(by omega)
 have hw0:wl sv n=0:=(by omega)
 exact next_none hn hw0 (by assumption) (fun h=>by first | assumption | exact absurd (by assumption) h)
end Go.Proofs.YtdljjajjonfjbaaDoor
