import Derived.Test.YtdljjajjonfjbaaDoorSwa
import Derived.Test.YtdljjajjonfjbaaDoorSn
set_option linter.unusedVariables false
set_option linter.unusedSimpArgs false
set_option maxRecDepth 10000
namespace Go.Proofs.YtdljjajjonfjbaaDoor
open Go Go.Shelf Go.RowKit Go.Proofs Go.Proofs.Sx
theorem tm10 (n:Int) : -10 < n.tmod 10/\n.tmod 10 < 10:=by
 rcases Int.le_total 0 n with h | h
 · rw [Int.tmod_eq_emod_of_nonneg h]; omega
 obtain ⟨m,rfl⟩ : ∃ m,n = -m:=⟨-n,by omega⟩
 rw [Int.neg_tmod,Int.tmod_eq_emod_of_nonneg (by omega)]; omega
theorem enc4 (i:Int):(Utf8.encode i).size<=4:=by
 unfold Utf8.encode
 dsimp only
 repeat' split
 all_goals simp [ByteArray.size]
set_option maxHeartbeats 2000000 in
theorem file_two (wb fb:Nat) (a:WV) (f:F8) (xp:Option Addr) (xc:Nat) (xd:CallL) (w:World) (h0:Ow Tryd.prog (inT [(fb,36,fl8 f),(wb,39,wc a)]) w w [(fb,36,fl8 f),(wb,39,wc a)]) (hvx : ∀ w',Only (inT [(fb,36,fl8 f),(wb,39,wc a)]) w w'->VP w' ⟨xp,xc,xd⟩) (htold : 0<=a.told/\a.told<=1000000) (hdl:xd.data.length<=1000000) :
    Calls Tryd.prog 20 #[pt wb,.agg #[i64 xd.call,i64 xd.a0,i64 xd.a1,i64 xd.a2,.slice xp xd.data.length xc],pt fb] w fun e w'=>∃ (q:Int×Bool×F8×Int) (t:Int),fileF xd f=q/\t=a.told+q.2.2.2/\e = .returned (.tuple #[i64 q.1,bl q.2.1])/\Ow Tryd.prog (inT [(fb,36,fl8 f),(wb,39,wc a)]) w w' [(fb,36,fl8 q.2.2.1),(wb,39,wc {a with told:=t})]:=by
 refine c_enter (args:=[pt wb,.agg #[i64 xd.call,i64 xd.a0,i64 xd.a1,i64 xd.a2,.slice xp xd.data.length xc],pt fb]) (m:=106) (n:=109) Tryd.func20 rfl (by kernel_rfl) (by kernel_rfl) fun fr hA=>?_
 generalize inT [(fb,36,fl8 f),(wb,39,wc a)]=M at *
 have hO:Ow Tryd.prog M w w [(fb,36,(fl8 f)),(wb,39,(wc a))]:=h0.to (by first | rfl | first | rfl | (simp only [TP,apd]))
 refine sr 3 ?_
 refine Mn [i64 xd.call,i64 xd.a0,i64 xd.a1,i64 xd.a2,.slice xp xd.data.length xc] 35 4 hA hO fun fr w1 b1 hA hO=>?_
 refine Ka 2 [(6,i64 0),(7,bl false)] hA fun fr hA=>?_
 refine end_ops ?_
 refine then_normal ?_
 refine wp_seq ?_
 refine Sb [(10,i64 xd.call)] hA [i64 xd.call] (cc (hO.l1 0 0 3 (i64 xd.call)) c0) fun fr hA=>?_
 refine wp_block ?_
 refine Sa [(11,bl (xd.call == 8))] hA fun fr hA=>?_
 rcases Bool.eq_false_or_eq_true (xd.call == 8) with h1 | h1
 · rw [h1] at hA
   have h1p:=eq_of_beq h1
   refine cT hA ?_
   refine wp_seq ?_
   refine wp_seq ?_
   have hS:=hO
   refine rP [(0,true),(1,true),(2,true),(3,false),(4,true),(5,true),(6,true),(7,true),(8,true),(9,true),(10,true),(11,true),(12,true),(13,true),(14,true)] hS ?_
   intro w2 ho; replace hO:=hO.st ho; clear ho
   refine Ke 3 [(15,i64 xd.a0)] hA [i64 xd.a0] (cc (⟨by omega,by omega⟩:(0:Int)<=0/\0 < ((3:Nat):Int)) (cc (hS.s1 0 1 3 (i64 xd.a0)) c0)) fun fr hA=>?_
   refine plan_mem (mK (d:=(some 16)) hA hO Tryd.func38 (inside_any xd.a0 _) fun fr w3 hA hO=>?_)
   refine ⟨hO.tt,?_⟩
   refine Kd 2 [(17,bl (!(inB xd.a0))),(18,bl (!(inB xd.a0)))] hA fun fr hA=>?_
   rcases Bool.eq_false_or_eq_true (inB xd.a0) with h2 | h2
   · rw [h2] at hA
     have h2p:=inB_r h2
     refine Ke 9 [(27,bl ((f.at ((xd.a0).toNat)).toList == (⟨#[]⟩:ByteArray).toList))] hA [i64 xd.a0,str (f.at ((xd.a0).toNat))] (cc (⟨by omega,by omega⟩:(0:Int)<=0/\0 < ((3:Nat):Int)) (cc (hS.s1 0 1 3 (i64 xd.a0)) (cc (⟨by omega,by omega⟩:(0:Int)<=xd.a0/\xd.a0 < ((8:Nat):Int)) (cc (hS.sx ((⟨fb,0,none⟩:Addr).add ((xd.a0).toNat)) 9 (str (f.at ((xd.a0).toNat))) fun _ hO=>(fl8_ld (hO.b 1) (by omega))) c0)))) fun fr hA=>?_
     rw [(str_empty (f.at ((xd.a0).toNat)):((f.at ((xd.a0).toNat)).toList == (⟨#[]⟩:ByteArray).toList)=(decide ((f.at ((xd.a0).toNat)).size=0)))] at hA
     refine end_plan ?_
     refine then_normal ?_
     rcases Bool.eq_false_or_eq_true (decide ((f.at ((xd.a0).toNat)).size=0)) with h3 | h3
     · rw [h3] at hA
       have h3p:=of_decide_eq_true h3
       refine cT hA ?_
       refine Sa [(6,i64 (-8)),(7,bl true)] hA fun fr hA=>?_
       refine wp_ret ?_
       refine then_ret ?_
       refine inBlock_ret ?_
       refine then_ret ?_
       refine cv [i64 (-8),bl true] hA ?_
       exact ⟨((-8),true,f,0),a.told,(by first | exact ff_8y (by assumption) (by assumption) (by assumption) | exact ff_8n (by assumption) (.inl (by assumption)) | exact ff_8n (by assumption) (.inr (by assumption)) | exact ff_12y (by assumption) (by assumption) (by assumption) (by assumption) | exact ff_12n (by assumption) (.inl (by assumption)) | exact ff_12n (by assumption) (.inr (.inl (by assumption))) | exact ff_12n (by assumption) (.inr (.inr (by assumption))) | exact ff_7n (by assumption) (by assumption) | exact ff_7y (by assumption) (by assumption) | exact ff_10 (by omega) | exact ff_0 (by assumption) (by assumption) (by assumption) (by assumption)),(Int.add_zero _).symm,rfl,((hO.sub [1,2]))⟩
     rw [h3] at hA
     have h3p:=of_decide_eq_false h3
     refine cF hA ?_
     refine wp_skip ?_
     refine then_normal ?_
     refine wp_seq ?_
     have hS:=hO.pk [0,2]
     refine rP [(0,true),(1,true),(2,true),(3,true),(4,true),(5,true),(6,false)] hS ?_
     intro w4 ho; replace hO:=hO.st ho; clear ho
     refine Ke 6 [(33,.pointer (some ((⟨fb,0,none⟩:Addr).add ((xd.a0).toNat))))] hA [i64 xd.a0] (cc (⟨by omega,by omega⟩:(0:Int)<=0/\0 < ((3:Nat):Int)) (cc (hS.s1 0 1 3 (i64 xd.a0)) (cc (⟨by omega,by omega⟩:(0:Int)<=xd.a0/\xd.a0 < ((8:Nat):Int)) c0))) fun fr hA=>?_
     refine plan_mem (mSR (off:=((xd.a0).toNat)) (ad:=(⟨fb,0,none⟩:Addr).add ((xd.a0).toNat)) (vc:=[str (⟨#[]⟩)]) (l':=(fl8 (f.set ((xd.a0).toNat) (⟨#[]⟩:ByteArray)))) 1 hA hO (add_zero_off _ _) (fl8_fit (by omega)) (fl8_set (by omega)) fun w5 hO=>?_)
     refine ⟨(hO.sub [0,2]),?_⟩
     refine end_plan ?_
     refine then_normal ?_
     refine Sa [(7,bl true)] hA fun fr hA=>?_
     refine wp_ret ?_
     refine inBlock_ret ?_
     refine then_ret ?_
     refine cv [i64 0,bl true] hA ?_
     exact ⟨(0,true,f.set ((xd.a0).toNat) (⟨#[]⟩:ByteArray),0),a.told,(by first | exact ff_8y (by assumption) (by assumption) (by assumption) | exact ff_8n (by assumption) (.inl (by assumption)) | exact ff_8n (by assumption) (.inr (by assumption)) | exact ff_12y (by assumption) (by assumption) (by assumption) (by assumption) | exact ff_12n (by assumption) (.inl (by assumption)) | exact ff_12n (by assumption) (.inr (.inl (by assumption))) | exact ff_12n (by assumption) (.inr (.inr (by assumption))) | exact ff_7n (by assumption) (by assumption) | exact ff_7y (by assumption) (by assumption) | exact ff_10 (by omega) | exact ff_0 (by assumption) (by assumption) (by assumption) (by assumption)),(Int.add_zero _).symm,rfl,((hO.sub [1,2]))⟩
   rw [h2] at hA
   refine Kd 9 [(27,bl true)] hA fun fr hA=>?_
   refine end_plan ?_
   refine then_normal ?_
   refine cT hA ?_
   refine Sa [(6,i64 (-8)),(7,bl true)] hA fun fr hA=>?_
   refine wp_ret ?_
   refine then_ret ?_
   refine inBlock_ret ?_
   refine then_ret ?_
   refine cv [i64 (-8),bl true] hA ?_
   exact ⟨((-8),true,f,0),a.told,(by first | exact ff_8y (by assumption) (by assumption) (by assumption) | exact ff_8n (by assumption) (.inl (by assumption)) | exact ff_8n (by assumption) (.inr (by assumption)) | exact ff_12y (by assumption) (by assumption) (by assumption) (by assumption) | exact ff_12n (by assumption) (.inl (by assumption)) | exact ff_12n (by assumption) (.inr (.inl (by assumption))) | exact ff_12n (by assumption) (.inr (.inr (by assumption))) | exact ff_7n (by assumption) (by assumption) | exact ff_7y (by assumption) (by assumption) | exact ff_10 (by omega) | exact ff_0 (by assumption) (by assumption) (by assumption) (by assumption)),(Int.add_zero _).symm,rfl,((hO.sub [1,2]))⟩
 rw [h1] at hA
 have h1p:=ne_of_beq_false h1
 refine cF hA ?_
 refine Sa [(34,bl (xd.call == 12))] hA fun fr hA=>?_
 rcases Bool.eq_false_or_eq_true (xd.call == 12) with h4 | h4
 · rw [h4] at hA
   have h4p:=eq_of_beq h4
   refine cT hA ?_
   refine wp_seq ?_
   refine wp_seq ?_
   have hS:=hO
   refine rP [(0,true),(1,true),(2,true),(3,false),(4,true),(5,true),(6,true),(7,true),(8,true),(9,false),(10,true),(11,true),(12,true),(13,true),(14,true),(15,true),(16,true),(17,true),(18,true),(19,true),(20,true),(21,true)] hS ?_
   intro w6 ho; replace hO:=hO.st ho; clear ho
   refine Ke 3 [(38,i64 xd.a0)] hA [i64 xd.a0] (cc (⟨by omega,by omega⟩:(0:Int)<=0/\0 < ((3:Nat):Int)) (cc (hS.s1 0 1 3 (i64 xd.a0)) c0)) fun fr hA=>?_
   refine plan_mem (mK (d:=(some 39)) hA hO Tryd.func38 (inside_any xd.a0 _) fun fr w7 hA hO=>?_)
   refine ⟨hO.tt,?_⟩
   refine Kd 2 [(40,bl (!(inB xd.a0))),(41,bl (!(inB xd.a0)))] hA fun fr hA=>?_
   rcases Bool.eq_false_or_eq_true (inB xd.a0) with h5 | h5
   · rw [h5] at hA
     have h5p:=inB_r h5
     refine Ke 3 [(41,bl false),(44,i64 xd.a1)] hA [i64 xd.a1] (cc (⟨by omega,by omega⟩:(0:Int)<=1/\1 < ((3:Nat):Int)) (cc (hS.s1 0 2 3 (i64 xd.a1)) c0)) fun fr hA=>?_
     refine plan_mem (mK (d:=(some 45)) hA hO Tryd.func38 (inside_any xd.a1 _) fun fr w8 hA hO=>?_)
     refine ⟨hO.tt,?_⟩
     refine Kd 3 [(46,bl (!(inB xd.a1))),(47,bl (!(inB xd.a1))),(48,bl (!(inB xd.a1)))] hA fun fr hA=>?_
     rcases Bool.eq_false_or_eq_true (inB xd.a1) with h6 | h6
     · rw [h6] at hA
       have h6p:=inB_r h6
       refine Ke 9 [(57,bl ((f.at ((xd.a0).toNat)).toList == (⟨#[]⟩:ByteArray).toList))] hA [i64 xd.a0,str (f.at ((xd.a0).toNat))] (cc (⟨by omega,by omega⟩:(0:Int)<=0/\0 < ((3:Nat):Int)) (cc (hS.s1 0 1 3 (i64 xd.a0)) (cc (⟨by omega,by omega⟩:(0:Int)<=xd.a0/\xd.a0 < ((8:Nat):Int)) (cc (hS.sx ((⟨fb,0,none⟩:Addr).add ((xd.a0).toNat)) 9 (str (f.at ((xd.a0).toNat))) fun _ hO=>(fl8_ld (hO.b 1) (by omega))) c0)))) fun fr hA=>?_
       rw [(str_empty (f.at ((xd.a0).toNat)):((f.at ((xd.a0).toNat)).toList == (⟨#[]⟩:ByteArray).toList)=(decide ((f.at ((xd.a0).toNat)).size=0)))] at hA
       refine end_plan ?_
       refine then_normal ?_
       rcases Bool.eq_false_or_eq_true (decide ((f.at ((xd.a0).toNat)).size=0)) with h7 | h7
       · rw [h7] at hA
         have h7p:=of_decide_eq_true h7
         refine cT hA ?_
         refine Sa [(6,i64 (-8)),(7,bl true)] hA fun fr hA=>?_
         refine wp_ret ?_
         refine then_ret ?_
         refine inBlock_ret ?_
         refine then_ret ?_
         refine cv [i64 (-8),bl true] hA ?_
         exact ⟨((-8),true,f,0),a.told,(by first | exact ff_8y (by assumption) (by assumption) (by assumption) | exact ff_8n (by assumption) (.inl (by assumption)) | exact ff_8n (by assumption) (.inr (by assumption)) | exact ff_12y (by assumption) (by assumption) (by assumption) (by assumption) | exact ff_12n (by assumption) (.inl (by assumption)) | exact ff_12n (by assumption) (.inr (.inl (by assumption))) | exact ff_12n (by assumption) (.inr (.inr (by assumption))) | exact ff_7n (by assumption) (by assumption) | exact ff_7y (by assumption) (by assumption) | exact ff_10 (by omega) | exact ff_0 (by assumption) (by assumption) (by assumption) (by assumption)),(Int.add_zero _).symm,rfl,((hO.sub [1,2]))⟩
       rw [h7] at hA
       have h7p:=of_decide_eq_false h7
       refine cF hA ?_
       refine wp_skip ?_
       refine then_normal ?_
       refine wp_seq ?_
       have hS:=hO.pk [0,2]
       refine rP [(0,true),(1,true),(2,true),(3,true),(4,true),(5,true),(6,true),(7,true),(8,true),(9,true),(11,true),(10,false),(12,true),(13,false)] hS ?_
       intro w9 ho; replace hO:=hO.st ho; clear ho
       refine Ke 11 [(61,i64 xd.a1),(67,.pointer (some ((⟨fb,0,none⟩:Addr).add ((xd.a0).toNat)))),(69,pt fb)] hA [i64 xd.a1,i64 xd.a0] (cc (⟨by omega,by omega⟩:(0:Int)<=1/\1 < ((3:Nat):Int)) (cc (hS.s1 0 2 3 (i64 xd.a1)) (cc (⟨by omega,by omega⟩:(0:Int)<=0/\0 < ((3:Nat):Int)) (cc (hS.s1 0 1 3 (i64 xd.a0)) (cc (⟨by omega,by omega⟩:(0:Int)<=xd.a0/\xd.a0 < ((8:Nat):Int)) c0))))) fun fr hA=>?_
       refine plan_mem (Qc [(68,str (f.at ((xd.a0).toNat)))] hA [str (f.at ((xd.a0).toNat))] (cc ((fl8_ld (hO.b 1) (by omega)):Ld Tryd.prog w9 ((⟨fb,0,none⟩:Addr).add ((xd.a0).toNat)) 9 (str (f.at ((xd.a0).toNat)))) c0) fun fr hA=>?_)
       refine ⟨(hO.sub [0,2]),?_⟩
       refine Ke 1 [(70,.pointer (some ((⟨fb,0,none⟩:Addr).add ((xd.a1).toNat))))] hA [] (cc (⟨by omega,by omega⟩:(0:Int)<=xd.a1/\xd.a1 < ((8:Nat):Int)) c0) fun fr hA=>?_
       refine plan_mem (mSR (off:=((xd.a1).toNat)) (ad:=(⟨fb,0,none⟩:Addr).add ((xd.a1).toNat)) (vc:=[str (f.at ((xd.a0).toNat))]) (l':=(fl8 (f.set ((xd.a1).toNat) (f.at ((xd.a0).toNat))))) 1 hA hO (add_zero_off _ _) (fl8_fit (by omega)) (fl8_set (by omega)) fun w10 hO=>?_)
       refine ⟨(hO.sub [0,2]),?_⟩
       refine end_plan ?_
       refine then_normal ?_
       refine Sa [(7,bl true)] hA fun fr hA=>?_
       refine wp_ret ?_
       refine inBlock_ret ?_
       refine then_ret ?_
       refine cv [i64 0,bl true] hA ?_
       exact ⟨(0,true,f.set ((xd.a1).toNat) (f.at ((xd.a0).toNat)),0),a.told,(by first | exact ff_8y (by assumption) (by assumption) (by assumption) | exact ff_8n (by assumption) (.inl (by assumption)) | exact ff_8n (by assumption) (.inr (by assumption)) | exact ff_12y (by assumption) (by assumption) (by assumption) (by assumption) | exact ff_12n (by assumption) (.inl (by assumption)) | exact ff_12n (by assumption) (.inr (.inl (by assumption))) | exact ff_12n (by assumption) (.inr (.inr (by assumption))) | exact ff_7n (by assumption) (by assumption) | exact ff_7y (by assumption) (by assumption) | exact ff_10 (by omega) | exact ff_0 (by assumption) (by assumption) (by assumption) (by assumption)),(Int.add_zero _).symm,rfl,((hO.sub [1,2]))⟩
     rw [h6] at hA
     refine Kd 9 [(57,bl true)] hA fun fr hA=>?_
     refine end_plan ?_
     refine then_normal ?_
     refine cT hA ?_
     refine Sa [(6,i64 (-8)),(7,bl true)] hA fun fr hA=>?_
     refine wp_ret ?_
     refine then_ret ?_
     refine inBlock_ret ?_
     refine then_ret ?_
     refine cv [i64 (-8),bl true] hA ?_
     exact ⟨((-8),true,f,0),a.told,(by first | exact ff_8y (by assumption) (by assumption) (by assumption) | exact ff_8n (by assumption) (.inl (by assumption)) | exact ff_8n (by assumption) (.inr (by assumption)) | exact ff_12y (by assumption) (by assumption) (by assumption) (by assumption) | exact ff_12n (by assumption) (.inl (by assumption)) | exact ff_12n (by assumption) (.inr (.inl (by assumption))) | exact ff_12n (by assumption) (.inr (.inr (by assumption))) | exact ff_7n (by assumption) (by assumption) | exact ff_7y (by assumption) (by assumption) | exact ff_10 (by omega) | exact ff_0 (by assumption) (by assumption) (by assumption) (by assumption)),(Int.add_zero _).symm,rfl,((hO.sub [1,2]))⟩
   rw [h5] at hA
   refine Kd 3 [(41,bl true),(44,.tuple #[])] hA fun fr hA=>?_
   refine plan_mem (m_skip (d:=(some 45)) hA (by kernel_rfl) (by kernel_rfl) fun fr hA=>?_)
   refine ⟨hO.tt,?_⟩
   refine Kd 12 [(57,bl true)] hA fun fr hA=>?_
   refine end_plan ?_
   refine then_normal ?_
   refine cT hA ?_
   refine Sa [(6,i64 (-8)),(7,bl true)] hA fun fr hA=>?_
   refine wp_ret ?_
   refine then_ret ?_
   refine inBlock_ret ?_
   refine then_ret ?_
   refine cv [i64 (-8),bl true] hA ?_
   exact ⟨((-8),true,f,0),a.told,(by first | exact ff_8y (by assumption) (by assumption) (by assumption) | exact ff_8n (by assumption) (.inl (by assumption)) | exact ff_8n (by assumption) (.inr (by assumption)) | exact ff_12y (by assumption) (by assumption) (by assumption) (by assumption) | exact ff_12n (by assumption) (.inl (by assumption)) | exact ff_12n (by assumption) (.inr (.inl (by assumption))) | exact ff_12n (by assumption) (.inr (.inr (by assumption))) | exact ff_7n (by assumption) (by assumption) | exact ff_7y (by assumption) (by assumption) | exact ff_10 (by omega) | exact ff_0 (by assumption) (by assumption) (by assumption) (by assumption)),(Int.add_zero _).symm,rfl,((hO.sub [1,2]))⟩
 rw [h4] at hA
 have h4p:=ne_of_beq_false h4
 refine cF hA ?_
 refine Sa [(71,bl (xd.call == 7))] hA fun fr hA=>?_
 rcases Bool.eq_false_or_eq_true (xd.call == 7) with h8 | h8
 · rw [h8] at hA
   have h8p:=eq_of_beq h8
   have htm_:=tm10 xd.a0
   have hfl_:=free_lt f
   refine cT hA ?_
   refine sr 5 ?_
   refine Kb 3 [(75,.agg (List.toArray (fl8 f)))] hA [.agg (List.toArray (fl8 f))] (cc (hO.ln 1 0 36 (fl8 f)) c0) fun fr hA=>?_
   refine Mk 76 hA hO Tryd.func22 (free_any f _) fun fr w11 hA hO=>?_
   refine Ka 1 [(8,i64 (freeF f))] hA fun fr hA=>?_
   refine end_ops ?_
   refine then_normal ?_
   refine wp_seq ?_
   refine Sa [(78,bl (decide ((freeF f) < 0)))] hA fun fr hA=>?_
   rcases Bool.eq_false_or_eq_true (decide ((freeF f) < 0)) with h9 | h9
   · rw [h9] at hA
     have h9p:=of_decide_eq_true h9
     refine cT hA ?_
     refine Sa [(6,i64 (-6)),(7,bl true)] hA fun fr hA=>?_
     refine wp_ret ?_
     refine then_ret ?_
     refine inBlock_ret ?_
     refine then_ret ?_
     refine cv [i64 (-6),bl true] hA ?_
     exact ⟨((-6),true,f,0),a.told,(by first | exact ff_8y (by assumption) (by assumption) (by assumption) | exact ff_8n (by assumption) (.inl (by assumption)) | exact ff_8n (by assumption) (.inr (by assumption)) | exact ff_12y (by assumption) (by assumption) (by assumption) (by assumption) | exact ff_12n (by assumption) (.inl (by assumption)) | exact ff_12n (by assumption) (.inr (.inl (by assumption))) | exact ff_12n (by assumption) (.inr (.inr (by assumption))) | exact ff_7n (by assumption) (by assumption) | exact ff_7y (by assumption) (by assumption) | exact ff_10 (by omega) | exact ff_0 (by assumption) (by assumption) (by assumption) (by assumption)),(Int.add_zero _).symm,rfl,((hO.sub [1,2]))⟩
   rw [h9] at hA
   have h9p:=of_decide_eq_false h9
   refine cF hA ?_
   refine wp_skip ?_
   refine then_normal ?_
   refine wp_seq ?_
   rcases vp_cases (hvx _ hO.only) with ⟨hp_ad1,hc_ad1,hd_ad1⟩ | ⟨ad1,hp_ad1⟩
   · have hn_ad1:xd.data.length=0:=by rw [hd_ad1]; rfl
     rw [hp_ad1,hc_ad1,hn_ad1] at hO
     have hS:=hO.pk [0,2]
     refine rP [(0,true),(1,true),(2,true),(3,true),(4,true),(5,true),(6,true),(7,true),(8,true),(9,true),(10,true),(11,true),(12,true),(13,true),(14,true),(15,true),(16,true),(17,false)] hS ?_
     intro w12 ho; replace hO:=hO.st ho; clear ho
     refine Ke 17 [(93,str ((((⟨#[102,105,108,101,32]⟩:ByteArray)++(Utf8.encode (48+(xd.a0.tmod 10))))++(⟨#[32]⟩:ByteArray))++(bsI []))),(95,.pointer (some ((⟨fb,0,none⟩:Addr).add ((freeF f).toNat))))] hA [i64 xd.a0,bl false,bl true,bl true,.slice none 0 0] (cc (⟨by omega,by omega⟩:(0:Int)<=0/\0 < ((3:Nat):Int)) (cc (hS.s1 0 1 3 (i64 xd.a0)) (cc (by omega : 10≠(0:Int)) (cc ((inK_i64 (by omega) (by omega)):inK .i64 (48+(xd.a0.tmod 10))) (cc ((inK_i32 (by omega) (by omega)):inK .i32 (48+(xd.a0.tmod 10))) (cc ((by have e_:=enc4 (48+xd.a0.tmod 10); have z1_:(⟨#[102,105,108,101,32]⟩:ByteArray).size=5:=rfl; have z2_:(⟨#[32]⟩:ByteArray).size=1:=rfl; have z3_:(bsI []).size=0:=rfl; first | omega | (simp only [bsI_size,ByteArray.size_append,List.length_nil]; omega)):(⟨#[102,105,108,101,32]⟩:ByteArray).size+(Utf8.encode (48+(xd.a0.tmod 10))).size<=9223372036854775807) (cc ((by have e_:=enc4 (48+xd.a0.tmod 10); have z1_:(⟨#[102,105,108,101,32]⟩:ByteArray).size=5:=rfl; have z2_:(⟨#[32]⟩:ByteArray).size=1:=rfl; have z3_:(bsI []).size=0:=rfl; first | omega | (simp only [bsI_size,ByteArray.size_append,List.length_nil]; omega)):((⟨#[102,105,108,101,32]⟩:ByteArray)++(Utf8.encode (48+(xd.a0.tmod 10)))).size+(⟨#[32]⟩:ByteArray).size<=9223372036854775807) (cc (hS.s1 0 4 33 (.slice none 0 0)) (cc ((by have e_:=enc4 (48+xd.a0.tmod 10); have z1_:(⟨#[102,105,108,101,32]⟩:ByteArray).size=5:=rfl; have z2_:(⟨#[32]⟩:ByteArray).size=1:=rfl; have z3_:(bsI []).size=0:=rfl; first | omega | (simp only [bsI_size,ByteArray.size_append,List.length_nil]; omega)):(((⟨#[102,105,108,101,32]⟩:ByteArray)++(Utf8.encode (48+(xd.a0.tmod 10))))++(⟨#[32]⟩:ByteArray)).size+(bsI []).size<=9223372036854775807) (cc (⟨by omega,by omega⟩:(0:Int)<=freeF f/\freeF f < ((8:Nat):Int)) c0)))))))))) fun fr hA=>?_
     refine plan_mem (mSR (off:=((freeF f).toNat)) (ad:=(⟨fb,0,none⟩:Addr).add ((freeF f).toNat)) (vc:=[str ((((⟨#[102,105,108,101,32]⟩:ByteArray)++(Utf8.encode (48+(xd.a0.tmod 10))))++(⟨#[32]⟩:ByteArray))++(bsI []))]) (l':=(fl8 (f.set ((freeF f).toNat) ((((⟨#[102,105,108,101,32]⟩:ByteArray)++(Utf8.encode (48+(xd.a0.tmod 10))))++(⟨#[32]⟩:ByteArray))++(bsI []))))) 1 hA hO (add_zero_off _ _) (fl8_fit (by omega)) (fl8_set (by omega)) fun w13 hO=>?_)
     refine ⟨(hO.sub [0,2]),?_⟩
     refine end_plan ?_
     refine then_normal ?_
     refine Sa [(6,i64 (freeF f)),(7,bl true)] hA fun fr hA=>?_
     refine wp_ret ?_
     refine inBlock_ret ?_
     refine then_ret ?_
     refine cv [i64 (freeF f),bl true] hA ?_
     have hnm_:nameF xd=((((⟨#[102,105,108,101,32]⟩:ByteArray)++(Utf8.encode (48+(xd.a0.tmod 10))))++(⟨#[32]⟩:ByteArray))++(bsI [])):=by unfold nameF; rw [hd_ad1]; rfl
     exact ⟨(freeF f,true,F8.set f (freeF f).toNat (nameF xd),0),a.told,(by first | exact ff_8y (by assumption) (by assumption) (by assumption) | exact ff_8n (by assumption) (.inl (by assumption)) | exact ff_8n (by assumption) (.inr (by assumption)) | exact ff_12y (by assumption) (by assumption) (by assumption) (by assumption) | exact ff_12n (by assumption) (.inl (by assumption)) | exact ff_12n (by assumption) (.inr (.inl (by assumption))) | exact ff_12n (by assumption) (.inr (.inr (by assumption))) | exact ff_7n (by assumption) (by assumption) | exact ff_7y (by assumption) (by assumption) | exact ff_10 (by omega) | exact ff_0 (by assumption) (by assumption) (by assumption) (by assumption)),(Int.add_zero _).symm,rfl,(by rw [hnm_]; exact ((hO.sub [1,2])))⟩
   rw [hp_ad1] at hO
   have hS:=hO.pk [0,2]
   refine rP [(0,true),(1,true),(2,true),(3,true),(4,true),(5,true),(6,true),(7,true),(8,true),(9,true),(10,true),(11,true),(12,true),(13,true),(14,true),(15,true),(16,true),(17,false)] hS ?_
   intro w14 ho; replace hO:=hO.st ho; clear ho
   refine Ke 17 [(93,str ((((⟨#[102,105,108,101,32]⟩:ByteArray)++(Utf8.encode (48+(xd.a0.tmod 10))))++(⟨#[32]⟩:ByteArray))++(bsI xd.data))),(95,.pointer (some ((⟨fb,0,none⟩:Addr).add ((freeF f).toNat))))] hA [i64 xd.a0,bl false,bl true,bl true,.slice (some ad1) xd.data.length xc,str (bsI xd.data)] (cc (⟨by omega,by omega⟩:(0:Int)<=0/\0 < ((3:Nat):Int)) (cc (hS.s1 0 1 3 (i64 xd.a0)) (cc (by omega : 10≠(0:Int)) (cc ((inK_i64 (by omega) (by omega)):inK .i64 (48+(xd.a0.tmod 10))) (cc ((inK_i32 (by omega) (by omega)):inK .i32 (48+(xd.a0.tmod 10))) (cc ((by have e_:=enc4 (48+xd.a0.tmod 10); have z1_:(⟨#[102,105,108,101,32]⟩:ByteArray).size=5:=rfl; have z2_:(⟨#[32]⟩:ByteArray).size=1:=rfl; have z3_:(bsI []).size=0:=rfl; first | omega | (simp only [bsI_size,ByteArray.size_append,List.length_nil]; omega)):(⟨#[102,105,108,101,32]⟩:ByteArray).size+(Utf8.encode (48+(xd.a0.tmod 10))).size<=9223372036854775807) (cc ((by have e_:=enc4 (48+xd.a0.tmod 10); have z1_:(⟨#[102,105,108,101,32]⟩:ByteArray).size=5:=rfl; have z2_:(⟨#[32]⟩:ByteArray).size=1:=rfl; have z3_:(bsI []).size=0:=rfl; first | omega | (simp only [bsI_size,ByteArray.size_append,List.length_nil]; omega)):((⟨#[102,105,108,101,32]⟩:ByteArray)++(Utf8.encode (48+(xd.a0.tmod 10)))).size+(⟨#[32]⟩:ByteArray).size<=9223372036854775807) (cc (hS.s1 0 4 33 (.slice (some ad1) xd.data.length xc)) (cc (⟨(bsI_size _),(fun i_ hi_=>hS.sx _ _ _ fun _ hO=>((vw_str (n:=xd.data.length) (show Vw fB _ (.slice (some ad1) xd.data.length xc) xd.data from hp_ad1 ▸ (hvx _ hO.only).1) (hvx _ hO.only).2 (by kernel_rfl)) i_ hi_))⟩:(bsI xd.data).size=xd.data.length/\∀ i,i < xd.data.length->LdS Tryd.prog (fun w_=>Ow Tryd.prog M w w_ [(b1,35,[i64 xd.call,i64 xd.a0,i64 xd.a1,i64 xd.a2,.slice (some ad1) xd.data.length xc]),(wb,39,(wc a))]) (ad1.add i) 5 (.int .u8 (sb (bsI xd.data) i))) (cc ((by have e_:=enc4 (48+xd.a0.tmod 10); have z1_:(⟨#[102,105,108,101,32]⟩:ByteArray).size=5:=rfl; have z2_:(⟨#[32]⟩:ByteArray).size=1:=rfl; have z3_:(bsI []).size=0:=rfl; first | omega | (simp only [bsI_size,ByteArray.size_append,List.length_nil]; omega)):(((⟨#[102,105,108,101,32]⟩:ByteArray)++(Utf8.encode (48+(xd.a0.tmod 10))))++(⟨#[32]⟩:ByteArray)).size+(bsI xd.data).size<=9223372036854775807) (cc (⟨by omega,by omega⟩:(0:Int)<=freeF f/\freeF f < ((8:Nat):Int)) c0))))))))))) fun fr hA=>?_
   refine plan_mem (mSR (off:=((freeF f).toNat)) (ad:=(⟨fb,0,none⟩:Addr).add ((freeF f).toNat)) (vc:=[str ((((⟨#[102,105,108,101,32]⟩:ByteArray)++(Utf8.encode (48+(xd.a0.tmod 10))))++(⟨#[32]⟩:ByteArray))++(bsI xd.data))]) (l':=(fl8 (f.set ((freeF f).toNat) ((((⟨#[102,105,108,101,32]⟩:ByteArray)++(Utf8.encode (48+(xd.a0.tmod 10))))++(⟨#[32]⟩:ByteArray))++(bsI xd.data))))) 1 hA hO (add_zero_off _ _) (fl8_fit (by omega)) (fl8_set (by omega)) fun w15 hO=>?_)
   refine ⟨(hO.sub [0,2]),?_⟩
   refine end_plan ?_
   refine then_normal ?_
   refine Sa [(6,i64 (freeF f)),(7,bl true)] hA fun fr hA=>?_
   refine wp_ret ?_
   refine inBlock_ret ?_
   refine then_ret ?_
   refine cv [i64 (freeF f),bl true] hA ?_
   exact ⟨(freeF f,true,F8.set f (freeF f).toNat (nameF xd),0),a.told,(by first | exact ff_8y (by assumption) (by assumption) (by assumption) | exact ff_8n (by assumption) (.inl (by assumption)) | exact ff_8n (by assumption) (.inr (by assumption)) | exact ff_12y (by assumption) (by assumption) (by assumption) (by assumption) | exact ff_12n (by assumption) (.inl (by assumption)) | exact ff_12n (by assumption) (.inr (.inl (by assumption))) | exact ff_12n (by assumption) (.inr (.inr (by assumption))) | exact ff_7n (by assumption) (by assumption) | exact ff_7y (by assumption) (by assumption) | exact ff_10 (by omega) | exact ff_0 (by assumption) (by assumption) (by assumption) (by assumption)),(Int.add_zero _).symm,rfl,((hO.sub [1,2]))⟩
 rw [h8] at hA
 have h8p:=ne_of_beq_false h8
 refine cF hA ?_
 refine Sa [(97,bl (xd.call == 10))] hA fun fr hA=>?_
 rcases Bool.eq_false_or_eq_true (xd.call == 10) with h10 | h10
 · rw [h10] at hA
   have h10p:=eq_of_beq h10
   refine cT hA ?_
   refine sr 8 ?_
   refine Kb 7 [(103,i64 (a.told+1)),(105,pf wb 29)] hA [i64 a.told,bl true] (cc (hO.l1 2 29 3 (i64 a.told)) (cc ((inK_i64 (by omega) (by omega)):inK .i64 (a.told+1)) c0)) fun fr hA=>?_
   refine wpOps_cons' (mSR (off:=29) (ad:=⟨wb,29,none⟩) (vc:=[i64 (a.told+1)]) (l':=(wc {a with told:=a.told+1})) 2 hA hO rfl (by kernel_rfl) (by kernel_rfl) fun w16 hO=>?_)
   refine end_ops ?_
   refine then_normal ?_
   refine Sb [(6,i64 ((xd.data.length:Nat):Int)),(7,bl true)] hA [.slice xp xd.data.length xc] (cc (hO.l1 0 4 33 (.slice xp xd.data.length xc)) c0) fun fr hA=>?_
   refine wp_ret ?_
   refine inBlock_ret ?_
   refine then_ret ?_
   refine cv [i64 ((xd.data.length:Nat):Int),bl true] hA ?_
   exact ⟨(((xd.data.length:Nat):Int),true,f,1),a.told+1,(by first | exact ff_8y (by assumption) (by assumption) (by assumption) | exact ff_8n (by assumption) (.inl (by assumption)) | exact ff_8n (by assumption) (.inr (by assumption)) | exact ff_12y (by assumption) (by assumption) (by assumption) (by assumption) | exact ff_12n (by assumption) (.inl (by assumption)) | exact ff_12n (by assumption) (.inr (.inl (by assumption))) | exact ff_12n (by assumption) (.inr (.inr (by assumption))) | exact ff_7n (by assumption) (by assumption) | exact ff_7y (by assumption) (by assumption) | exact ff_10 (by omega) | exact ff_0 (by assumption) (by assumption) (by assumption) (by assumption)),rfl,rfl,((hO.sub [1,2]))⟩
 rw [h10] at hA
 have h10p:=ne_of_beq_false h10
 refine cF hA ?_
 refine wp_skip ?_
 refine inBlock_normal ?_
 refine then_normal ?_
 refine Sa [] hA fun fr hA=>?_
 refine wp_ret ?_
 refine cv [i64 0,bl false] hA ?_
 exact ⟨(0,false,f,0),a.told,(by first | exact ff_8y (by assumption) (by assumption) (by assumption) | exact ff_8n (by assumption) (.inl (by assumption)) | exact ff_8n (by assumption) (.inr (by assumption)) | exact ff_12y (by assumption) (by assumption) (by assumption) (by assumption) | exact ff_12n (by assumption) (.inl (by assumption)) | exact ff_12n (by assumption) (.inr (.inl (by assumption))) | exact ff_12n (by assumption) (.inr (.inr (by assumption))) | exact ff_7n (by assumption) (by assumption) | exact ff_7y (by assumption) (by assumption) | exact ff_10 (by omega) | exact ff_0 (by assumption) (by assumption) (by assumption) (by assumption)),(Int.add_zero _).symm,rfl,((hO.sub [1,2]))⟩
theorem file_one (wb:Nat) (a:WV) (xp:Option Addr) (xc:Nat) (xd:CallL) (w:World) (h0:Ow Tryd.prog (inT [(wb,39,wc a)]) w w [(wb,39,wc a)]) (hvx : ∀ w',Only (inT [(wb,39,wc a)]) w w'->VP w' ⟨xp,xc,xd⟩) (htold : 0<=a.told/\a.told<=1000000) (hdl:xd.data.length<=1000000) (hcall:xd.call=8\/xd.call=10) :
    Calls Tryd.prog 20 #[pt wb,.agg #[i64 xd.call,i64 xd.a0,i64 xd.a1,i64 xd.a2,.slice xp xd.data.length xc],pf wb 14] w fun e w'=>∃ (q:Int×Bool×F8×Int) (t:Int),fileF xd a.fl=q/\t=a.told+q.2.2.2/\e = .returned (.tuple #[i64 q.1,bl q.2.1])/\Ow Tryd.prog (inT [(wb,39,wc a)]) w w' [(wb,39,wc {a with fl:=q.2.2.1,told:=t})]:=by
 refine c_enter (args:=[pt wb,.agg #[i64 xd.call,i64 xd.a0,i64 xd.a1,i64 xd.a2,.slice xp xd.data.length xc],pf wb 14]) (m:=106) (n:=109) Tryd.func20 rfl (by kernel_rfl) (by kernel_rfl) fun fr hA=>?_
 generalize inT [(wb,39,wc a)]=M at *
 have hO:Ow Tryd.prog M w w [(wb,39,(wc a))]:=h0.to (by first | rfl | first | rfl | (simp only [TP,apd]))
 refine sr 3 ?_
 refine Mn [i64 xd.call,i64 xd.a0,i64 xd.a1,i64 xd.a2,.slice xp xd.data.length xc] 35 4 hA hO fun fr w1 b1 hA hO=>?_
 refine Ka 2 [(6,i64 0),(7,bl false)] hA fun fr hA=>?_
 refine end_ops ?_
 refine then_normal ?_
 refine wp_seq ?_
 refine Sb [(10,i64 xd.call)] hA [i64 xd.call] (cc (hO.l1 0 0 3 (i64 xd.call)) c0) fun fr hA=>?_
 refine wp_block ?_
 refine Sa [(11,bl (xd.call == 8))] hA fun fr hA=>?_
 rcases Bool.eq_false_or_eq_true (xd.call == 8) with h1 | h1
 · rw [h1] at hA
   have h1p:=eq_of_beq h1
   refine cT hA ?_
   refine wp_seq ?_
   refine wp_seq ?_
   have hS:=hO
   refine rP [(0,true),(1,true),(2,true),(3,false),(4,true),(5,true),(6,true),(7,true),(8,true),(9,true),(10,true),(11,true),(12,true),(13,true),(14,true)] hS ?_
   intro w2 ho; replace hO:=hO.st ho; clear ho
   refine Ke 3 [(15,i64 xd.a0)] hA [i64 xd.a0] (cc (⟨by omega,by omega⟩:(0:Int)<=0/\0 < ((3:Nat):Int)) (cc (hS.s1 0 1 3 (i64 xd.a0)) c0)) fun fr hA=>?_
   refine plan_mem (mK (d:=(some 16)) hA hO Tryd.func38 (inside_any xd.a0 _) fun fr w3 hA hO=>?_)
   refine ⟨hO.tt,?_⟩
   refine Kd 2 [(17,bl (!(inB xd.a0))),(18,bl (!(inB xd.a0)))] hA fun fr hA=>?_
   rcases Bool.eq_false_or_eq_true (inB xd.a0) with h2 | h2
   · rw [h2] at hA
     have h2p:=inB_r h2
     refine Ke 9 [(27,bl ((a.fl.at ((xd.a0).toNat)).toList == (⟨#[]⟩:ByteArray).toList))] hA [i64 xd.a0,str (a.fl.at ((xd.a0).toNat))] (cc (⟨by omega,by omega⟩:(0:Int)<=0/\0 < ((3:Nat):Int)) (cc (hS.s1 0 1 3 (i64 xd.a0)) (cc (⟨by omega,by omega⟩:(0:Int)<=xd.a0/\xd.a0 < ((8:Nat):Int)) (cc (hS.sx ((⟨wb,14,none⟩:Addr).add ((xd.a0).toNat)) 9 (str (a.fl.at ((xd.a0).toNat))) fun _ hO=>(wc_ld (hO.b 1) (by omega))) c0)))) fun fr hA=>?_
     rw [(str_empty (a.fl.at ((xd.a0).toNat)):((a.fl.at ((xd.a0).toNat)).toList == (⟨#[]⟩:ByteArray).toList)=(decide ((a.fl.at ((xd.a0).toNat)).size=0)))] at hA
     refine end_plan ?_
     refine then_normal ?_
     rcases Bool.eq_false_or_eq_true (decide ((a.fl.at ((xd.a0).toNat)).size=0)) with h3 | h3
     · rw [h3] at hA
       have h3p:=of_decide_eq_true h3
       refine cT hA ?_
       refine Sa [(6,i64 (-8)),(7,bl true)] hA fun fr hA=>?_
       refine wp_ret ?_
       refine then_ret ?_
       refine inBlock_ret ?_
       refine then_ret ?_
       refine cv [i64 (-8),bl true] hA ?_
       exact ⟨((-8),true,a.fl,0),a.told,(by first | exact ff_8y (by assumption) (by assumption) (by assumption) | exact ff_8n (by assumption) (.inl (by assumption)) | exact ff_8n (by assumption) (.inr (by assumption)) | exact ff_12y (by assumption) (by assumption) (by assumption) (by assumption) | exact ff_12n (by assumption) (.inl (by assumption)) | exact ff_12n (by assumption) (.inr (.inl (by assumption))) | exact ff_12n (by assumption) (.inr (.inr (by assumption))) | exact ff_7n (by assumption) (by assumption) | exact ff_7y (by assumption) (by assumption) | exact ff_10 (by omega) | exact ff_0 (by assumption) (by assumption) (by assumption) (by assumption)),(Int.add_zero _).symm,rfl,((hO.sub [1]))⟩
     rw [h3] at hA
     have h3p:=of_decide_eq_false h3
     refine cF hA ?_
     refine wp_skip ?_
     refine then_normal ?_
     refine wp_seq ?_
     have hS:=hO.pk [0]
     refine rP [(0,true),(1,true),(2,true),(3,true),(4,true),(5,true),(6,false)] hS ?_
     intro w4 ho; replace hO:=hO.st ho; clear ho
     refine Ke 6 [(33,.pointer (some ((⟨wb,14,none⟩:Addr).add ((xd.a0).toNat))))] hA [i64 xd.a0] (cc (⟨by omega,by omega⟩:(0:Int)<=0/\0 < ((3:Nat):Int)) (cc (hS.s1 0 1 3 (i64 xd.a0)) (cc (⟨by omega,by omega⟩:(0:Int)<=xd.a0/\xd.a0 < ((8:Nat):Int)) c0))) fun fr hA=>?_
     refine plan_mem (mSR (off:=14+((xd.a0).toNat)) (ad:=(⟨wb,14,none⟩:Addr).add ((xd.a0).toNat)) (vc:=[str (⟨#[]⟩)]) (l':=(wc {a with fl:=a.fl.set ((xd.a0).toNat) (⟨#[]⟩:ByteArray)})) 1 hA hO (add_off _ _ _) (wc_fit (by omega)) (wc_set (by omega)) fun w5 hO=>?_)
     refine ⟨(hO.sub [0]),?_⟩
     refine end_plan ?_
     refine then_normal ?_
     refine Sa [(7,bl true)] hA fun fr hA=>?_
     refine wp_ret ?_
     refine inBlock_ret ?_
     refine then_ret ?_
     refine cv [i64 0,bl true] hA ?_
     exact ⟨(0,true,a.fl.set ((xd.a0).toNat) (⟨#[]⟩:ByteArray),0),a.told,(by first | exact ff_8y (by assumption) (by assumption) (by assumption) | exact ff_8n (by assumption) (.inl (by assumption)) | exact ff_8n (by assumption) (.inr (by assumption)) | exact ff_12y (by assumption) (by assumption) (by assumption) (by assumption) | exact ff_12n (by assumption) (.inl (by assumption)) | exact ff_12n (by assumption) (.inr (.inl (by assumption))) | exact ff_12n (by assumption) (.inr (.inr (by assumption))) | exact ff_7n (by assumption) (by assumption) | exact ff_7y (by assumption) (by assumption) | exact ff_10 (by omega) | exact ff_0 (by assumption) (by assumption) (by assumption) (by assumption)),(Int.add_zero _).symm,rfl,((hO.sub [1]))⟩
   rw [h2] at hA
   refine Kd 9 [(27,bl true)] hA fun fr hA=>?_
   refine end_plan ?_
   refine then_normal ?_
   refine cT hA ?_
   refine Sa [(6,i64 (-8)),(7,bl true)] hA fun fr hA=>?_
   refine wp_ret ?_
   refine then_ret ?_
   refine inBlock_ret ?_
   refine then_ret ?_
   refine cv [i64 (-8),bl true] hA ?_
   exact ⟨((-8),true,a.fl,0),a.told,(by first | exact ff_8y (by assumption) (by assumption) (by assumption) | exact ff_8n (by assumption) (.inl (by assumption)) | exact ff_8n (by assumption) (.inr (by assumption)) | exact ff_12y (by assumption) (by assumption) (by assumption) (by assumption) | exact ff_12n (by assumption) (.inl (by assumption)) | exact ff_12n (by assumption) (.inr (.inl (by assumption))) | exact ff_12n (by assumption) (.inr (.inr (by assumption))) | exact ff_7n (by assumption) (by assumption) | exact ff_7y (by assumption) (by assumption) | exact ff_10 (by omega) | exact ff_0 (by assumption) (by assumption) (by assumption) (by assumption)),(Int.add_zero _).symm,rfl,((hO.sub [1]))⟩
 rw [h1] at hA
 have h1p:=ne_of_beq_false h1
 refine cF hA ?_
 refine Sa [(34,bl (xd.call == 12))] hA fun fr hA=>?_
 rw [(beq_eq_false_iff_ne.2 (by omega):(xd.call == 12)=false)] at hA
 refine cF hA ?_
 refine Sa [(71,bl (xd.call == 7))] hA fun fr hA=>?_
 rw [(beq_eq_false_iff_ne.2 (by omega):(xd.call == 7)=false)] at hA
 refine cF hA ?_
 refine Sa [(97,bl (xd.call == 10))] hA fun fr hA=>?_
 rw [(beq_iff_eq.2 (by omega):(xd.call == 10)=true)] at hA
 refine cT hA ?_
 refine sr 8 ?_
 refine Kb 7 [(103,i64 (a.told+1)),(105,pf wb 29)] hA [i64 a.told,bl true] (cc (hO.l1 1 29 3 (i64 a.told)) (cc ((inK_i64 (by omega) (by omega)):inK .i64 (a.told+1)) c0)) fun fr hA=>?_
 refine wpOps_cons' (mSR (off:=29) (ad:=⟨wb,29,none⟩) (vc:=[i64 (a.told+1)]) (l':=(wc {a with told:=a.told+1})) 1 hA hO rfl (by kernel_rfl) (by kernel_rfl) fun w6 hO=>?_)
 refine end_ops ?_
 refine then_normal ?_
 refine Sb [(6,i64 ((xd.data.length:Nat):Int)),(7,bl true)] hA [.slice xp xd.data.length xc] (cc (hO.l1 0 4 33 (.slice xp xd.data.length xc)) c0) fun fr hA=>?_
 refine wp_ret ?_
 refine inBlock_ret ?_
 refine then_ret ?_
 refine cv [i64 ((xd.data.length:Nat):Int),bl true] hA ?_
 exact ⟨(((xd.data.length:Nat):Int),true,a.fl,1),a.told+1,(by first | exact ff_8y (by assumption) (by assumption) (by assumption) | exact ff_8n (by assumption) (.inl (by assumption)) | exact ff_8n (by assumption) (.inr (by assumption)) | exact ff_12y (by assumption) (by assumption) (by assumption) (by assumption) | exact ff_12n (by assumption) (.inl (by assumption)) | exact ff_12n (by assumption) (.inr (.inl (by assumption))) | exact ff_12n (by assumption) (.inr (.inr (by assumption))) | exact ff_7n (by assumption) (by assumption) | exact ff_7y (by assumption) (by assumption) | exact ff_10 (by omega) | exact ff_0 (by assumption) (by assumption) (by assumption) (by assumption)),rfl,rfl,((hO.sub [1]))⟩
end Go.Proofs.YtdljjajjonfjbaaDoor
