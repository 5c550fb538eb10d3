import Derived.Test.YtdljjajjonfjbaaDoorShf
import Derived.Shelf.Pu.ParseUintPublic10
import Derived.Test.YtdljjajjonfjbaaDoorSn
set_option linter.unusedVariables false
set_option linter.unusedSimpArgs false
set_option maxRecDepth 10000
namespace Go.Proofs.YtdljjajjonfjbaaDoor
open Go Go.Shelf Go.RowKit Go.Proofs Go.Proofs.Sx
def laysPU_ren:Go.Shelf.Ren:=⟨fun | 14=>58 | 16=>63 | 17=>64 | 19=>71 | 20=>72 | 21=>73 | 22=>74 | 23=>75 | 24=>76 | 25=>79 | 27=>81 | 26=>80 | 28=>85 | 29=>86 | 30=>87 | 31=>88 | 32=>89 | 33=>90 | 35=>92 | 34=>91 | 36=>93 | 37=>94 | 38=>95 | 39=>96 | 40=>97 | n=>n,fun | 9=>9 | 3=>3 | 22=>92 | 24=>94 | 25=>95 | 4=>4 | 34=>110 | 5=>5 | 36=>112 | 37=>33 | 0=>0 | 39=>113 | 21=>21 | 44=>120 | 47=>125 | 50=>128 | 48=>126 | 2=>2 | 52=>130 | 55=>133 | 59=>137 | 60=>138 | 20=>20 | 61=>139 | 65=>142 | 66=>143 | 67=>106 | n=>n,fun | 0=>1 | 1=>2 | 2=>3 | 3=>4 | 4=>5 | n=>n⟩
theorem laysPU:LaysPu.n14 Tryd.prog laysPU_ren where
  mixed:=by kernel_rfl
  f14:=Tryd.func58.trans (congrArg some (by kernel_rfl))
  f16:=Tryd.func63.trans (congrArg some (by kernel_rfl))
  f17:=Tryd.func64.trans (congrArg some (by kernel_rfl))
  f19:=Tryd.func71.trans (congrArg some (by kernel_rfl))
  f20:=Tryd.func72.trans (congrArg some (by kernel_rfl))
  f21:=Tryd.func73.trans (congrArg some (by kernel_rfl))
  f22:=Tryd.func74.trans (congrArg some (by kernel_rfl))
  f23:=Tryd.func75.trans (congrArg some (by kernel_rfl))
  f24:=Tryd.func76.trans (congrArg some (by kernel_rfl))
  f25:=Tryd.func79.trans (congrArg some (by kernel_rfl))
  f26:=Tryd.func80.trans (congrArg some (by kernel_rfl))
  f27:=Tryd.func81.trans (congrArg some (by kernel_rfl))
  f28:=Tryd.func85.trans (congrArg some (by kernel_rfl))
  f29:=Tryd.func86.trans (congrArg some (by kernel_rfl))
  f30:=Tryd.func87.trans (congrArg some (by kernel_rfl))
  f31:=Tryd.func88.trans (congrArg some (by kernel_rfl))
  f32:=Tryd.func89.trans (congrArg some (by kernel_rfl))
  f33:=Tryd.func90.trans (congrArg some (by kernel_rfl))
  f34:=Tryd.func91.trans (congrArg some (by kernel_rfl))
  f35:=Tryd.func92.trans (congrArg some (by kernel_rfl))
  f36:=Tryd.func93.trans (congrArg some (by kernel_rfl))
  f37:=Tryd.func94.trans (congrArg some (by kernel_rfl))
  f38:=Tryd.func95.trans (congrArg some (by kernel_rfl))
  f39:=Tryd.func96.trans (congrArg some (by kernel_rfl))
  f40:=Tryd.func97.trans (congrArg some (by kernel_rfl))
  t0:=Tryd.underlying0
  a0:=Tryd.isAgg0
  z0:=Tryd.sizeOf0
  v0:=Tryd.zeroValue0
  i0:=by kernel_rfl
  t2:=Tryd.underlying2
  a2:=Tryd.isAgg2
  z2:=Tryd.sizeOf2
  v2:=Tryd.zeroValue2
  i2:=by kernel_rfl
  t3:=Tryd.underlying3
  a3:=Tryd.isAgg3
  z3:=Tryd.sizeOf3
  v3:=Tryd.zeroValue3
  i3:=by kernel_rfl
  t4:=Tryd.underlying4
  a4:=Tryd.isAgg4
  z4:=Tryd.sizeOf4
  v4:=Tryd.zeroValue4
  i4:=by kernel_rfl
  t5:=Tryd.underlying5
  a5:=Tryd.isAgg5
  z5:=Tryd.sizeOf5
  v5:=Tryd.zeroValue5
  i5:=by kernel_rfl
  t9:=Tryd.underlying9
  a9:=Tryd.isAgg9
  z9:=Tryd.sizeOf9
  v9:=Tryd.zeroValue9
  i9:=by kernel_rfl
  t20:=Tryd.underlying20
  a20:=Tryd.isAgg20
  z20:=Tryd.sizeOf20
  v20:=Tryd.zeroValue20
  i20:=by kernel_rfl
  t21:=Tryd.underlying21
  a21:=Tryd.isAgg21
  z21:=Tryd.sizeOf21
  v21:=Tryd.zeroValue21
  i21:=by kernel_rfl
  t22:=Tryd.underlying92
  a22:=Tryd.isAgg92
  z22:=Tryd.sizeOf92
  v22:=Tryd.zeroValue92
  i22:=by kernel_rfl
  t24:=Tryd.underlying94
  a24:=Tryd.isAgg94
  z24:=Tryd.sizeOf94
  v24:=Tryd.zeroValue94
  i24:=by kernel_rfl
  t25:=Tryd.underlying95
  a25:=Tryd.isAgg95
  z25:=Tryd.sizeOf95
  v25:=Tryd.zeroValue95
  i25:=by kernel_rfl
  t34:=Tryd.underlying110
  a34:=Tryd.isAgg110
  z34:=Tryd.sizeOf110
  v34:=Tryd.zeroValue110
  i34:=by kernel_rfl
  c34:=by kernel_rfl
  t36:=Tryd.underlying112
  a36:=Tryd.isAgg112
  z36:=Tryd.sizeOf112
  v36:=Tryd.zeroValue112
  i36:=by kernel_rfl
  t37:=Tryd.underlying33
  a37:=Tryd.isAgg33
  z37:=Tryd.sizeOf33
  v37:=Tryd.zeroValue33
  i37:=by kernel_rfl
  t39:=Tryd.underlying113
  a39:=Tryd.isAgg113
  z39:=Tryd.sizeOf113
  v39:=Tryd.zeroValue113
  i39:=by kernel_rfl
  t44:=Tryd.underlying120
  a44:=Tryd.isAgg120
  z44:=Tryd.sizeOf120
  v44:=Tryd.zeroValue120
  i44:=by kernel_rfl
  t47:=Tryd.underlying125
  a47:=Tryd.isAgg125
  z47:=Tryd.sizeOf125
  v47:=Tryd.zeroValue125
  i47:=by kernel_rfl
  t48:=Tryd.underlying126
  a48:=Tryd.isAgg126
  z48:=Tryd.sizeOf126
  v48:=Tryd.zeroValue126
  i48:=by kernel_rfl
  t50:=Tryd.underlying128
  a50:=Tryd.isAgg128
  z50:=Tryd.sizeOf128
  v50:=Tryd.zeroValue128
  i50:=by kernel_rfl
  t52:=Tryd.underlying130
  a52:=Tryd.isAgg130
  z52:=Tryd.sizeOf130
  v52:=Tryd.zeroValue130
  i52:=by kernel_rfl
  t55:=Tryd.underlying133
  a55:=Tryd.isAgg133
  z55:=Tryd.sizeOf133
  v55:=Tryd.zeroValue133
  i55:=by kernel_rfl
  t59:=Tryd.underlying137
  a59:=Tryd.isAgg137
  z59:=Tryd.sizeOf137
  v59:=Tryd.zeroValue137
  i59:=by kernel_rfl
  t60:=Tryd.underlying138
  a60:=Tryd.isAgg138
  z60:=Tryd.sizeOf138
  v60:=Tryd.zeroValue138
  i60:=by kernel_rfl
  t61:=Tryd.underlying139
  a61:=Tryd.isAgg139
  z61:=Tryd.sizeOf139
  t65:=Tryd.underlying142
  a65:=Tryd.isAgg142
  z65:=Tryd.sizeOf142
  v65:=Tryd.zeroValue142
  i65:=by kernel_rfl
  t66:=Tryd.underlying143
  a66:=Tryd.isAgg143
  z66:=Tryd.sizeOf143
  v66:=Tryd.zeroValue143
  i66:=by kernel_rfl
  t67:=Tryd.underlying106
  a67:=Tryd.isAgg106
  z67:=Tryd.sizeOf106
  v67:=Tryd.zeroValue106
  i67:=by kernel_rfl
  g0:=by kernel_rfl
  m0:=by kernel_rfl
  g1:=by kernel_rfl
  m1:=by kernel_rfl
  g2:=by kernel_rfl
  m2:=by kernel_rfl
  g3:=by kernel_rfl
  m3:=by kernel_rfl
  g4:=by kernel_rfl
  m4:=by kernel_rfl
def isErr (v:Value):Prop:=v = .nilIface\/∃ te pe,v = .iface te pe
structure ErrOk (w:World):Prop where
  s : ∃ v,w.cell? ⟨laysPU_ren.g 0,0,none⟩=some v/\isErr v
  r : ∃ v,w.cell? ⟨laysPU_ren.g 1,0,none⟩=some v/\isErr v
theorem ErrOk.keep {w w':World} (h:ErrOk w) (k:Only none' w w'):ErrOk w':=by
 obtain ⟨⟨v,h1,h2⟩,⟨u,h3,h4⟩⟩:=h
 exact ⟨⟨v,k.cell h1 (fun h=>h),h2⟩,⟨u,k.cell h3 (fun h=>h),h4⟩⟩
theorem pu_ok : ∀ (l:List UInt8) (acc u:Nat),Lib.parseUintM 65535 acc l = .ok u->digB l=true/\u=l.foldl (fun n c=>10*n+(c.toNat - 48)) acc/\(acc<=65535->u<=65535)
  | [],acc,u,h=>by cases h; exact ⟨rfl,rfl,fun h=>h⟩
  | c::r,acc,u,h=>by
    simp only [Lib.parseUintM] at h
    split at h
    · rename_i hc
      split at h
      · cases h
      · split at h
        · cases h
        · obtain ⟨h1,h2,h3⟩:=pu_ok r _ u h
          refine ⟨?_,?_,fun _=>h3 (by omega)⟩
          · unfold digB at h1 ⊢
            rw [List.all_cons,h1,decide_eq_true hc]; rfl
          · rw [h2,List.foldl_cons,Nat.mul_comm]
    · cases h
abbrev synU:Lib.NumEnd Nat:=Lib.parseUintB 16 []
theorem pu_syn : ∀ (l:List UInt8) (acc:Nat),Lib.parseUintM 65535 acc l =synU->digB l=false
  | [],acc,h=>by simp [synU,Lib.parseUintB,Lib.parseUintM] at h
  | c::r,acc,h=>by
    simp only [Lib.parseUintM] at h
    unfold digB
    split at h
    · split at h
      · simp [synU,Lib.parseUintB] at h
      · split at h
        · simp [synU,Lib.parseUintB] at h
        · have:=pu_syn r _ h
          unfold digB at this
          rw [List.all_cons,this,Bool.and_false]
    · rename_i hc
      rw [List.all_cons,decide_eq_false hc]; rfl
theorem pu_range : ∀ (l:List UInt8) (acc m:Nat),acc < 10 ^ m->m+l.length<=3->Lib.parseUintM 65535 acc l≠ .range
  | [],acc,m,_,_,h=>by cases h
  | c::r,acc,m,ha,hm,h=>by
    rw [List.length_cons] at hm
    have h3 : 10 ^ (m+1)<=10 ^ 3:=Nat.pow_le_pow_right (by decide) (by omega)
    have h4 : 10 ^ (m+1)=10 ^ m*10:=Nat.pow_succ 10 m
    simp only [Lib.parseUintM] at h
    split at h
    · rename_i hc
      split at h
      · omega
      · split at h
        · omega
        · exact pu_range r _ (m+1) (by omega) (by omega) h
    · cases h
theorem codeW_at {ws:List ByteArray} {z:ByteArray} (h:ws[1]? = some z):codeW ws=if digB z.data.toList=true/\z.size<=3 then ((decV z.data.toList % 256:Nat):Int) else 1:=by
  match ws,h with
  | a::b::r,h =>
    simp only [List.getElem?_cons_succ,List.getElem?_cons_zero,Option.some.injEq] at h
    subst h; rfl
theorem codeW_short {ws:List ByteArray} (h:ws.length < 2):codeW ws=0:=by
 match ws,h with
 | [],_=>rfl
 | [_],_=>rfl
 | _::_::_,h=>simp only [List.length_cons] at h; omega
section
variable {ws:List ByteArray} {z:ByteArray}
theorem pub_m (hz : 0 < z.size):Lib.parseUintB 16 z.data.toList=Lib.parseUintM 65535 0 z.data.toList:=by
 unfold Lib.parseUintB
 rw [if_neg (fun e=>by rw [← size_list,e] at hz; simp at hz)]
theorem code_ok {u:Nat} (h:ws[1]? = some z) (hz : 0 < z.size) (hp:Lib.parseUintB 16 z.data.toList = .ok u) (h3:z.size<=3):codeW ws=((u:Nat):Int) % 256:=by
 rw [pub_m hz] at hp
 obtain ⟨h1,h2,_⟩:=pu_ok _ _ _ hp
 rw [codeW_at h,if_pos ⟨h1,h3⟩]
 unfold decV
 rw [← h2]; rfl
theorem code_long (h:ws[1]? = some z) (h3 : ¬ z.size<=3):codeW ws=1:=by rw [codeW_at h,if_neg (fun q=>h3 q.2)]
theorem code_syn (h:ws[1]? = some z) (hz : 0 < z.size) (hp:Lib.parseUintB 16 z.data.toList =synU):codeW ws=1:=by
 rw [pub_m hz] at hp
 rw [codeW_at h,if_neg (fun q=>by rw [pu_syn _ _ hp] at q; exact absurd q.1 (by simp))]
theorem code_range (h:ws[1]? = some z) (hz : 0 < z.size) (hp:Lib.parseUintB 16 z.data.toList = .range):codeW ws=1:=by
 rw [pub_m hz] at hp
 rw [codeW_at h,if_neg (fun q=>pu_range _ 0 0 (by decide) (by rw [size_list]; omega) hp)]
theorem code_u {u:Nat} (hz : 0 < z.size) (hp:Lib.parseUintB 16 z.data.toList = .ok u):u<=65535:=by
 rw [pub_m hz] at hp
 exact (pu_ok _ _ _ hp).2.2 (by decide)
end
theorem pu16_ok (s:ByteArray) (hm:s.size<=1000000) (u:Nat) (h:Lib.parseUintB 16 s.data.toList = .ok u) (w:World):Calls Tryd.prog 58 #[str s,i64 10,i64 16] w fun e w'=>e = .returned (.tuple #[.int .u64 ((u:Nat):Int),.nilIface])/\Only none' w w' :=
  (Any.strconv_ParseUint_10_at16_ok laysPU s (by omega) u h w).mono fun e w' hh=>⟨hh.1,by
    rcases hh.2 with rfl | rfl
    · exact Only.refl _ _
    · refine ⟨by (unfold Lib.bytesWorld; simp [World.freeze]) <;> rfl,by (unfold Lib.bytesWorld; simp [World.freeze]) <;> rfl,by (unfold Lib.bytesWorld; simp [World.freeze]) <;> rfl,by rw [Lib.bytesWorld_size]; omega,fun k hk _=>Lib.bytesWorld_at_old w _ s k hk⟩⟩
theorem pu16_syn (s:ByteArray) (hm:s.size<=1000000) (h:Lib.parseUintB 16 s.data.toList =synU) (w:World) (hE:ErrOk w):Calls Tryd.prog 58 #[str s,i64 10,i64 16] w fun e w'=>∃ N,e = .returned (.tuple #[.int .u64 0,.iface (laysPU_ren.t 39) (.pointer (some ⟨N,0,none⟩))])/\Only none' w w':=by
 obtain ⟨v,h1,h2⟩:=hE.s
 exact (Any.strconv_ParseUint_10_at16_syntax laysPU s (by omega) h v w h1 h2).mono fun e w' ⟨N,hh,_,_,hb⟩=>⟨N,hh,Only.of_below hb⟩
theorem pu16_range (s:ByteArray) (hm:s.size<=1000000) (h:Lib.parseUintB 16 s.data.toList = .range) (w:World) (hE:ErrOk w):Calls Tryd.prog 58 #[str s,i64 10,i64 16] w fun e w'=>∃ N,e = .returned (.tuple #[.int .u64 65535,.iface (laysPU_ren.t 39) (.pointer (some ⟨N,0,none⟩))])/\Only none' w w':=by
 obtain ⟨v,h1,h2⟩:=hE.r
 exact (Any.strconv_ParseUint_10_at16_range laysPU s (by omega) h v w h1 h2).mono fun e w' ⟨N,hh,_,_,hb⟩=>⟨N,hh,Only.of_below hb⟩
theorem code_0 (p:Option Addr) (c:Nat) (d:CmdL) (w:World) (hv:Vw fT w (.slice p d.words.length c) d.words) (hs:d.words.length < 2) :
    Calls Tryd.prog 50 #[.agg #[.slice p d.words.length c,str d.inp,str d.out,bl d.app]] w fun e w'=>e = .returned (i64 (codeW d.words))/\Only none' w w':=by
 refine c_enter (args:=[.agg #[.slice p d.words.length c,str d.inp,str d.out,bl d.app]]) (m:=29) (n:=30) Tryd.func50 rfl (by kernel_rfl) (by kernel_rfl) fun fr hA=>?_
 have hO:=Ow.nil Tryd.prog none' w
 have hnl:decide (((d.words.length:Nat):Int) < 2)=true:=decide_eq_true (by omega)
 refine sr 2 ?_
 refine Mn [.slice p d.words.length c,str d.inp,str d.out,bl d.app] 66 1 hA hO fun fr w1 b1 hA hO=>?_
 refine Ka 1 [(2,i64 0)] hA fun fr hA=>?_
 refine end_ops ?_
 refine then_normal ?_
 refine wp_seq ?_
 refine Sb [(8,bl (decide (((d.words.length:Nat):Int) < 2)))] hA [.slice p d.words.length c] (cc (hO.l1 0 0 25 (.slice p d.words.length c)) c0) fun fr hA=>?_
 rw [(hnl:(decide (((d.words.length:Nat):Int) < 2))=true)] at hA
 refine cT hA ?_
 refine Sa [] hA fun fr hA=>?_
 refine wp_ret ?_
 refine then_ret ?_
 refine cv [i64 0] hA ?_
 have hF:=hO.only; clear hA hO
 exact ⟨congrArg (fun k=>Ending.returned (i64 k)) (codeW_short hs).symm,hF⟩
theorem code_1 (p:Option Addr) (c:Nat) (d:CmdL) (w:World) (hv:Vw fT w (.slice p d.words.length c) d.words) (z:ByteArray) (hz:d.words[1]? = some z) (hz0 : 0 < z.size) (hz1:z.size<=1000000) (u:Nat) (hp:Lib.parseUintB 16 z.data.toList = .ok u) :
    Calls Tryd.prog 50 #[.agg #[.slice p d.words.length c,str d.inp,str d.out,bl d.app]] w fun e w'=>e = .returned (i64 (codeW d.words))/\Only none' w w':=by
 refine c_enter (args:=[.agg #[.slice p d.words.length c,str d.inp,str d.out,bl d.app]]) (m:=29) (n:=30) Tryd.func50 rfl (by kernel_rfl) (by kernel_rfl) fun fr hA=>?_
 have hO:=Ow.nil Tryd.prog none' w
 have hlen_:=(List.getElem?_eq_some_iff.1 hz).1
 obtain ⟨ad1,rfl⟩:=((hv.keep hO.only)).pos (by first | omega | exact Nat.zero_lt_succ _)
 have hnl:decide (((d.words.length:Nat):Int) < 2)=false:=decide_eq_false (by omega)
 have hu_:=code_u hz0 hp
 refine sr 2 ?_
 refine Mn [.slice (some ad1) d.words.length c,str d.inp,str d.out,bl d.app] 66 1 hA hO fun fr w1 b1 hA hO=>?_
 refine Ka 1 [(2,i64 0)] hA fun fr hA=>?_
 refine end_ops ?_
 refine then_normal ?_
 refine wp_seq ?_
 refine Sb [(8,bl (decide (((d.words.length:Nat):Int) < 2)))] hA [.slice (some ad1) d.words.length c] (cc (hO.l1 0 0 25 (.slice (some ad1) d.words.length c)) c0) fun fr hA=>?_
 rw [(hnl:(decide (((d.words.length:Nat):Int) < 2))=false)] at hA
 refine cF hA ?_
 refine wp_skip ?_
 refine then_normal ?_
 refine sr 10 ?_
 refine Kb 4 [(13,str z)] hA [.slice (some ad1) d.words.length c,str z] (cc (hO.l1 0 0 25 (.slice (some ad1) d.words.length c)) (cc (⟨by omega,by omega⟩:(0:Int)<=1/\1 < ((d.words.length:Nat):Int)) (cc ((((hv.keep hO.only)).ldT hz):Ld Tryd.prog w1 (ad1.add 1) 9 (str z)) c0))) fun fr hA=>?_
 refine Mk 14 hA hO Tryd.func58 (pu16_ok z hz1 u hp _) fun fr w2 hA hO=>?_
 refine Ka 5 [(3,u64 ((u:Nat):Int)),(4,.nilIface)] hA fun fr hA=>?_
 refine end_ops ?_
 refine then_normal ?_
 refine wp_seq ?_
 refine Sb [(26,bl (decide (((z.size:Nat):Int) > 3)))] hA [.slice (some ad1) d.words.length c,str z] (cc (hO.l1 0 0 25 (.slice (some ad1) d.words.length c)) (cc (⟨by omega,by omega⟩:(0:Int)<=1/\1 < ((d.words.length:Nat):Int)) (cc ((((hv.keep hO.only)).ldT hz):Ld Tryd.prog w2 (ad1.add 1) 9 (str z)) c0))) fun fr hA=>?_
 rcases Bool.eq_false_or_eq_true (decide (((z.size:Nat):Int) > 3)) with h1 | h1
 · rw [h1] at hA
   have h1p:=of_decide_eq_true h1
   refine cT hA ?_
   refine Sa [(2,i64 1)] hA fun fr hA=>?_
   refine wp_ret ?_
   refine then_ret ?_
   refine cv [i64 1] hA ?_
   have hF:=hO.only; clear hA hO
   exact ⟨congrArg (fun k=>Ending.returned (i64 k)) (code_long hz (by omega)).symm,hF⟩
 rw [h1] at hA
 have h1p:=of_decide_eq_false h1
 refine cF hA ?_
 refine wp_skip ?_
 refine then_normal ?_
 refine Sb [(2,i64 (((u:Nat):Int) % 256))] hA [bl true,bl true] (cc (⟨by omega,by omega,inK_u64 (by omega) (by omega)⟩:(0:Int)<=((u:Nat):Int)/\(0:Int) < 256/\inK .u64 ((u:Nat):Int)) (cc ((inK_i64 (by omega) (by omega)):inK .i64 (((u:Nat):Int) % 256)) c0)) fun fr hA=>?_
 refine wp_ret ?_
 refine cv [i64 (((u:Nat):Int) % 256)] hA ?_
 have hF:=hO.only; clear hA hO
 exact ⟨congrArg (fun k=>Ending.returned (i64 k)) (code_ok hz hz0 hp (by omega)).symm,hF⟩
theorem code_2 (p:Option Addr) (c:Nat) (d:CmdL) (w:World) (hv:Vw fT w (.slice p d.words.length c) d.words) (z:ByteArray) (hz:d.words[1]? = some z) (hz0 : 0 < z.size) (hz1:z.size<=1000000) (hp:Lib.parseUintB 16 z.data.toList =synU) (hE:ErrOk w) :
    Calls Tryd.prog 50 #[.agg #[.slice p d.words.length c,str d.inp,str d.out,bl d.app]] w fun e w'=>e = .returned (i64 (codeW d.words))/\Only none' w w':=by
 refine c_enter (args:=[.agg #[.slice p d.words.length c,str d.inp,str d.out,bl d.app]]) (m:=29) (n:=30) Tryd.func50 rfl (by kernel_rfl) (by kernel_rfl) fun fr hA=>?_
 have hO:=Ow.nil Tryd.prog none' w
 have hlen_:=(List.getElem?_eq_some_iff.1 hz).1
 obtain ⟨ad1,rfl⟩:=((hv.keep hO.only)).pos (by first | omega | exact Nat.zero_lt_succ _)
 have hnl:decide (((d.words.length:Nat):Int) < 2)=false:=decide_eq_false (by omega)
 refine sr 2 ?_
 refine Mn [.slice (some ad1) d.words.length c,str d.inp,str d.out,bl d.app] 66 1 hA hO fun fr w1 b1 hA hO=>?_
 refine Ka 1 [(2,i64 0)] hA fun fr hA=>?_
 refine end_ops ?_
 refine then_normal ?_
 refine wp_seq ?_
 refine Sb [(8,bl (decide (((d.words.length:Nat):Int) < 2)))] hA [.slice (some ad1) d.words.length c] (cc (hO.l1 0 0 25 (.slice (some ad1) d.words.length c)) c0) fun fr hA=>?_
 rw [(hnl:(decide (((d.words.length:Nat):Int) < 2))=false)] at hA
 refine cF hA ?_
 refine wp_skip ?_
 refine then_normal ?_
 refine sr 10 ?_
 refine Kb 4 [(13,str z)] hA [.slice (some ad1) d.words.length c,str z] (cc (hO.l1 0 0 25 (.slice (some ad1) d.words.length c)) (cc (⟨by omega,by omega⟩:(0:Int)<=1/\1 < ((d.words.length:Nat):Int)) (cc ((((hv.keep hO.only)).ldT hz):Ld Tryd.prog w1 (ad1.add 1) 9 (str z)) c0))) fun fr hA=>?_
 refine wpOps_cons' (mC (d:=(some 14)) hA Tryd.func58 ((pu16_syn z hz1 hp _ (hE.keep hO.only)).mono ?_))
 rintro en w2 ⟨N_,rfl,ho⟩
 refine ⟨_,rfl,?_⟩
 clear hA fr; intro fr hA
 replace hO:=hO.st ho; clear ho
 refine Ka 5 [(3,u64 0),(4,.iface 113 (pt N_))] hA fun fr hA=>?_
 refine end_ops ?_
 refine then_normal ?_
 refine wp_seq ?_
 refine Sa [(26,bl true)] hA fun fr hA=>?_
 refine cT hA ?_
 refine Sa [(2,i64 1)] hA fun fr hA=>?_
 refine wp_ret ?_
 refine then_ret ?_
 refine cv [i64 1] hA ?_
 have hF:=hO.only; clear hA hO
 exact ⟨congrArg (fun k=>Ending.returned (i64 k)) (code_syn hz hz0 hp).symm,hF⟩
theorem code_3 (p:Option Addr) (c:Nat) (d:CmdL) (w:World) (hv:Vw fT w (.slice p d.words.length c) d.words) (z:ByteArray) (hz:d.words[1]? = some z) (hz0 : 0 < z.size) (hz1:z.size<=1000000) (hp:Lib.parseUintB 16 z.data.toList = .range) (hE:ErrOk w) :
    Calls Tryd.prog 50 #[.agg #[.slice p d.words.length c,str d.inp,str d.out,bl d.app]] w fun e w'=>e = .returned (i64 (codeW d.words))/\Only none' w w':=by
 refine c_enter (args:=[.agg #[.slice p d.words.length c,str d.inp,str d.out,bl d.app]]) (m:=29) (n:=30) Tryd.func50 rfl (by kernel_rfl) (by kernel_rfl) fun fr hA=>?_
 have hO:=Ow.nil Tryd.prog none' w
 have hlen_:=(List.getElem?_eq_some_iff.1 hz).1
 obtain ⟨ad1,rfl⟩:=((hv.keep hO.only)).pos (by first | omega | exact Nat.zero_lt_succ _)
 have hnl:decide (((d.words.length:Nat):Int) < 2)=false:=decide_eq_false (by omega)
 refine sr 2 ?_
 refine Mn [.slice (some ad1) d.words.length c,str d.inp,str d.out,bl d.app] 66 1 hA hO fun fr w1 b1 hA hO=>?_
 refine Ka 1 [(2,i64 0)] hA fun fr hA=>?_
 refine end_ops ?_
 refine then_normal ?_
 refine wp_seq ?_
 refine Sb [(8,bl (decide (((d.words.length:Nat):Int) < 2)))] hA [.slice (some ad1) d.words.length c] (cc (hO.l1 0 0 25 (.slice (some ad1) d.words.length c)) c0) fun fr hA=>?_
 rw [(hnl:(decide (((d.words.length:Nat):Int) < 2))=false)] at hA
 refine cF hA ?_
 refine wp_skip ?_
 refine then_normal ?_
 refine sr 10 ?_
 refine Kb 4 [(13,str z)] hA [.slice (some ad1) d.words.length c,str z] (cc (hO.l1 0 0 25 (.slice (some ad1) d.words.length c)) (cc (⟨by omega,by omega⟩:(0:Int)<=1/\1 < ((d.words.length:Nat):Int)) (cc ((((hv.keep hO.only)).ldT hz):Ld Tryd.prog w1 (ad1.add 1) 9 (str z)) c0))) fun fr hA=>?_
 refine wpOps_cons' (mC (d:=(some 14)) hA Tryd.func58 ((pu16_range z hz1 hp _ (hE.keep hO.only)).mono ?_))
 rintro en w2 ⟨N_,rfl,ho⟩
 refine ⟨_,rfl,?_⟩
 clear hA fr; intro fr hA
 replace hO:=hO.st ho; clear ho
 refine Ka 5 [(3,u64 65535),(4,.iface 113 (pt N_))] hA fun fr hA=>?_
 refine end_ops ?_
 refine then_normal ?_
 refine wp_seq ?_
 refine Sa [(26,bl true)] hA fun fr hA=>?_
 refine cT hA ?_
 refine Sa [(2,i64 1)] hA fun fr hA=>?_
 refine wp_ret ?_
 refine then_ret ?_
 refine cv [i64 1] hA ?_
 have hF:=hO.only; clear hA hO
 exact ⟨congrArg (fun k=>Ending.returned (i64 k)) (code_range hz hz0 hp).symm,hF⟩
theorem code_any (p:Option Addr) (c:Nat) (d:CmdL) (w:World) (hv:Vw fT w (.slice p d.words.length c) d.words) (hE:ErrOk w) (hw : ∀ z∈d.words,0 < z.size/\z.size<=1000000):Calls Tryd.prog 50 #[.agg #[.slice p d.words.length c,str d.inp,str d.out,bl d.app]] w fun e w'=>e = .returned (i64 (codeW d.words))/\Only none' w w':=by
 by_cases h:d.words.length < 2
 · exact code_0 p c d w hv h
 obtain ⟨z,hz⟩ : ∃ z,d.words[1]? = some z:=⟨_,List.getElem?_eq_getElem (by omega)⟩
 obtain ⟨h0,h1⟩:=hw z (List.mem_of_getElem? hz)
 cases hp:Lib.parseUintB 16 z.data.toList with
 | ok u=>exact code_1 p c d w hv z hz h0 h1 u hp
 | range=>exact code_3 p c d w hv z hz h0 h1 hp hE
 | _=>exact code_2 p c d w hv z hz h0 h1 hp hE
theorem job1_any (p:Option Addr) (c:Nat) (d:CmdL) (w:World) :
    Calls Tryd.prog 52 #[.agg #[.slice p d.words.length c,str d.inp,str d.out,bl d.app]] w fun e w'=>e = .returned (.bool (longC d))/\Only none' w w':=by
 refine c_enter (args:=[.agg #[.slice p d.words.length c,str d.inp,str d.out,bl d.app]]) (m:=6) (n:=7) Tryd.func52 rfl (by kernel_rfl) (by kernel_rfl) fun fr hA=>?_
 have hO:=Ow.nil Tryd.prog none' w
 refine sr 2 ?_
 refine Mn [.slice p d.words.length c,str d.inp,str d.out,bl d.app] 66 1 hA hO fun fr w1 b1 hA hO=>?_
 refine Ka 1 [(2,bl false)] hA fun fr hA=>?_
 refine end_ops ?_
 refine then_normal ?_
 refine Sb [(2,bl (decide (((d.words.length:Nat):Int) > 1)))] hA [.slice p d.words.length c] (cc (hO.l1 0 0 25 (.slice p d.words.length c)) c0) fun fr hA=>?_
 refine wp_ret ?_
 refine cv [bl (decide (((d.words.length:Nat):Int) > 1))] hA ?_
 have hF:=hO.only; clear hA hO
 refine ⟨congrArg (fun b=>Ending.returned (.bool b)) ?_,hF⟩
 unfold longC
 first | exact (decide_eq_false (by omega)).symm | exact (decide_eq_true (by omega)).symm | exact decide_eq_decide.2 (by omega)
theorem any_step {l:List CV} {i:Nat} {y:CV} (h:(l.take i).any (fun y=>longC y.d)=false) (hx:l[i]? = some y) (hn:longC y.d=false):(l.take (i+1)).any (fun y=>longC y.d)=false:=by
 rw [List.take_add_one,hx,List.any_append,h,Bool.false_or]
 show [y].any _=false
 rw [List.any_cons,hn]; rfl
theorem any_yes {l:List CV} {i:Nat} {y:CV} (hx:l[i]? = some y) (hn:longC y.d=true):l.any (fun y=>longC y.d)=true:=List.any_eq_true.2 ⟨y,List.mem_of_getElem? hx,hn⟩
theorem any_end {l:List CV} {i:Nat} (h:(l.take i).any (fun y=>longC y.d)=false) (hi : ¬ i < l.length):l.any (fun y=>longC y.d)=false:=by rwa [List.take_of_length_le (by omega)] at h
theorem longJ_eq (l:List CV):longJ (l.map CV.d)=l.any (fun y=>longC y.d):=by unfold longJ; rw [List.any_map]; rfl
theorem ixc_any (p:Option Addr) (c:Nat) (l:List CV) (w:World) (hv:Vw fC w (.slice p l.length c) l) (hl:l.length<=1000000) :
    Calls Tryd.prog 59 #[.slice p l.length c,.func (.func 52) #[] #[]] w fun e w'=>∃ r:Int,e = .returned (i64 r)/\decide (r ≥ 0)=l.any (fun y=>longC y.d)/\Only none' w w':=by
 refine c_enter (args:=[.slice p l.length c,.func (.func 52) #[] #[]]) (m:=17) (n:=19) Tryd.func59 rfl (by kernel_rfl) (by kernel_rfl) fun fr hA=>?_
 have hO:=Ow.nil Tryd.prog none' w
 refine Sa [(4,i64 0)] hA fun fr hA=>?_
 refine wp_seq ?_
 refine Sa [(7,i64 ((l.length:Nat):Int)),(8,i64 0)] hA fun fr hA=>?_
 refine wp_block ?_
 refine c_loop (fun mm fr W=>∃ (i:Nat),mm=l.length - i/\Holds 19 [] fr [(0,.slice p l.length c),(1,.func (.func 52) #[] #[]),(4,i64 0),(7,i64 ((l.length:Nat):Int)),(8,i64 ((i:Nat):Int))]/\Ow Tryd.prog none' w W []/\i<=l.length/\(l.take i).any (fun y=>longC y.d)=false/\True) ?_ ?_
 · exact ⟨_,0,rfl,hA.ss,hO.to,(Nat.zero_le _),rfl,trivial⟩
 rintro _ fr w1 ⟨i,rfl,hA,hO,hi,ho,-⟩
 refine Sa [(9,bl (decide (((i:Nat):Int) < ((l.length:Nat):Int))))] hA fun fr hA=>?_
 refine wp_seq ?_
 rcases Bool.eq_false_or_eq_true (decide (((i:Nat):Int) < ((l.length:Nat):Int))) with h1 | h1
 · rw [h1] at hA
   have h1p:=of_decide_eq_true h1
   obtain ⟨ad1,rfl⟩:=((⟨hv.keep hO.only,trivial⟩:_/\True).1).pos (by first | omega | exact Nat.zero_lt_succ _)
   obtain ⟨⟨yp1,yc1,yd1⟩,hx1⟩ : ∃ x,(l)[i]? = some x:=⟨_,getD_at _ CV0 (by first | omega | exact Nat.zero_lt_succ _)⟩
   refine cT hA ?_
   refine wp_skip ?_
   refine then_normal ?_
   refine wp_seq ?_
   refine wp_block ?_
   refine Sa [(0,.slice (some ad1) l.length c),(5,i64 ((i:Nat):Int))] hA fun fr hA=>?_
   refine sr 6 ?_
   refine Kb 5 [(11,.func (.func 52) #[] #[]),(15,.agg #[.slice yp1 yd1.words.length yc1,str yd1.inp,str yd1.out,bl yd1.app])] hA [.agg #[.slice yp1 yd1.words.length yc1,str yd1.inp,str yd1.out,bl yd1.app]] (cc (⟨by omega,by omega⟩:(0:Int)<=((i:Nat):Int)/\((i:Nat):Int) < ((l.length:Nat):Int)) (cc ((((⟨hv.keep hO.only,trivial⟩:_/\True).1).ldn encC hx1):Ld Tryd.prog w1 (ad1.add (i*4)) 66 (.agg #[.slice yp1 yd1.words.length yc1,str yd1.inp,str yd1.out,bl yd1.app])) c0)) fun fr hA=>?_
   refine Mk 16 hA hO Tryd.func52 (job1_any yp1 yc1 yd1 _) fun fr w2 hA hO=>?_
   refine end_ops ?_
   refine then_normal ?_
   rcases Bool.eq_false_or_eq_true (longC yd1) with h2 | h2
   · rw [h2] at hA
     refine cT hA ?_
     refine Sa [(4,i64 ((i:Nat):Int))] hA fun fr hA=>?_
     refine wp_ret ?_
     refine inBlock_ret ?_
     refine then_ret ?_
     refine then_ret ?_
     refine inBlock_ret ?_
     refine then_ret ?_
     refine cv [i64 ((i:Nat):Int)] hA ?_
     have hF:=hO.only; clear hA hO
     first | exact ⟨_,rfl,(decide_eq_true (by omega)).trans (any_yes hx1 (by assumption)).symm,hF⟩ | exact ⟨_,rfl,(decide_eq_false (by omega)).trans (any_end ho (by omega)).symm,hF⟩
   rw [h2] at hA
   refine cF hA ?_
   refine wp_skip ?_
   refine inBlock_normal ?_
   refine then_normal ?_
   refine Rc [(8,i64 (((i:Nat):Int)+1))] hA [bl true] (cc ((inK_i64 (by omega) (by omega)):inK .i64 (((i:Nat):Int)+1)) c0) fun fr hA=>?_
   refine then_normal ?_
   exact ⟨_,by omega,i+1,rfl,hA.ss,hO.to,(by omega),(any_step ho hx1 (by assumption)),trivial⟩
 rw [h1] at hA
 have h1p:=of_decide_eq_false h1
 refine cF hA ?_
 refine wp_exit ?_
 refine then_exit ?_
 refine then_exit ?_
 refine inBlock_exit ?_
 refine then_normal ?_
 refine Sa [(4,i64 (-1))] hA fun fr hA=>?_
 refine wp_ret ?_
 refine cv [i64 (-1)] hA ?_
 have hF:=hO.only; clear hA hO
 first | exact ⟨_,rfl,(decide_eq_true (by omega)).trans (any_yes hx1 (by assumption)).symm,hF⟩ | exact ⟨_,rfl,(decide_eq_false (by omega)).trans (any_end ho (by omega)).symm,hF⟩
theorem ctc_any (p:Option Addr) (c:Nat) (l:List CV) (w:World) (hv:Vw fC w (.slice p l.length c) l) (hl:l.length<=1000000) :
    Calls Tryd.prog 51 #[.slice p l.length c,.func (.func 52) #[] #[]] w fun e w'=>e = .returned (.bool (longJ (l.map CV.d)))/\Only none' w w':=by
 refine c_enter (args:=[.slice p l.length c,.func (.func 52) #[] #[]]) (m:=7) (n:=9) Tryd.func51 rfl (by kernel_rfl) (by kernel_rfl) fun fr hA=>?_
 have hO:=Ow.nil Tryd.prog none' w
 refine Sa [(4,bl false)] hA fun fr hA=>?_
 refine sr 5 ?_
 refine Ka 2 [(5,.slice p l.length c),(6,.func (.func 52) #[] #[])] hA fun fr hA=>?_
 refine wpOps_cons' (mC (d:=(some 7)) hA Tryd.func59 ((ixc_any p c l _ (hv.keep hO.only) hl).mono ?_))
 rintro en w1 ⟨r1,rfl,hr1,ho⟩
 refine ⟨_,rfl,?_⟩
 clear hA fr; intro fr hA
 replace hO:=hO.st ho; clear ho
 refine Ka 2 [(4,bl (decide (r1 ≥ 0)))] hA fun fr hA=>?_
 refine end_ops ?_
 refine then_normal ?_
 refine wp_ret ?_
 refine cv [bl (decide (r1 ≥ 0))] hA ?_
 have hF:=hO.only; clear hA hO
 exact ⟨congrArg (fun b=>Ending.returned (.bool b)) (hr1.trans (longJ_eq l).symm),hF⟩
end Go.Proofs.YtdljjajjonfjbaaDoor
