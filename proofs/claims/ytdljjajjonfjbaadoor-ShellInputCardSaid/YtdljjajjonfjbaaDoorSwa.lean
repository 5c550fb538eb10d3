import Derived.Test.YtdljjajjonfjbaaDoorShWm
import Derived.Test.YtdljjajjonfjbaaDoorSn
set_option linter.unusedVariables false
set_option linter.unusedSimpArgs false
set_option maxRecDepth 10000
namespace Go.Proofs.YtdljjajjonfjbaaDoor
open Go Go.Shelf Go.RowKit Go.Proofs Go.Proofs.Sx
theorem fl8_fit {f:F8} {i:Nat} (hi:i < 8):Nat.ble (i+1) (fl8 f).length=true:=by rw [Nat.ble_eq]; show i+1<=8; omega
theorem wc_fit {a:WV} {i:Nat} (hi:i < 8):Nat.ble (14+i+1) (wc a).length=true:=by rw [Nat.ble_eq]; show 14+i+1<=33; omega
theorem inside_any (n:Int) (w:World) :
    Calls Tryd.prog 38 #[i64 n] w fun e w'=>e = .returned (.bool (inB n))/\Only none' w w':=by
 refine c_enter (args:=[i64 n]) (m:=8) (n:=9) Tryd.func38 rfl (by kernel_rfl) (by kernel_rfl) fun fr hA=>?_
 have hO:=Ow.nil Tryd.prog none' w
 refine Sa [(2,bl false)] hA fun fr hA=>?_
 refine sr 7 ?_
 refine Ka 3 [(4,bl (decide (n ≥ 0))),(5,bl (decide (n ≥ 0)))] hA fun fr hA=>?_
 rcases Bool.eq_false_or_eq_true (decide (n ≥ 0)) with h1 | h1
 · rw [h1] at hA
   have h1p:=of_decide_eq_true h1
   refine Ka 4 [(2,bl (decide (n < 8)))] hA fun fr hA=>?_
   refine end_ops ?_
   refine then_normal ?_
   refine wp_ret ?_
   refine cv [bl (decide (n < 8))] hA ?_
   have hF:=hO.only; clear hA hO
   refine ⟨congrArg (fun b=>Ending.returned (.bool b)) ?_,hF⟩
   unfold inB
   first | exact (decide_eq_false (by omega)).symm | exact (decide_eq_true (by omega)).symm | exact decide_eq_decide.2 (by omega)
 rw [h1] at hA
 have h1p:=of_decide_eq_false h1
 refine Ka 4 [] hA fun fr hA=>?_
 refine end_ops ?_
 refine then_normal ?_
 refine wp_ret ?_
 refine cv [bl false] hA ?_
 have hF:=hO.only; clear hA hO
 refine ⟨congrArg (fun b=>Ending.returned (.bool b)) ?_,hF⟩
 unfold inB
 first | exact (decide_eq_false (by omega)).symm | exact (decide_eq_true (by omega)).symm | exact decide_eq_decide.2 (by omega)
theorem free_any (f:F8) (w:World) :
    Calls Tryd.prog 22 #[.agg (List.toArray (fl8 f))] w fun e w'=>e = .returned (i64 (freeF f))/\Only none' w w':=by
 refine c_enter (args:=[.agg (List.toArray (fl8 f))]) (m:=12) (n:=13) Tryd.func22 rfl (by kernel_rfl) (by kernel_rfl) fun fr hA=>?_
 have hO:=Ow.nil Tryd.prog none' w
 refine sr 2 ?_
 refine Mn (fl8 f) 36 1 hA hO fun fr w1 b1 hA hO=>?_
 refine Ka 1 [(2,i64 0)] hA fun fr hA=>?_
 refine end_ops ?_
 refine then_normal ?_
 refine wp_seq ?_
 refine Sa [(3,i64 0)] hA fun fr hA=>?_
 refine wp_block ?_
 refine c_loop (fun mm fr W=>(mm=8/\Holds 13 [] fr [(1,pt b1),(2,i64 0),(3,i64 0)]/\Ow Tryd.prog none' w W [(b1,36,(fl8 f))])\/(mm=7/\Holds 13 [] fr [(1,pt b1),(2,i64 0),(3,i64 1)]/\Ow Tryd.prog none' w W [(b1,36,(fl8 f))]/\¬ f.f0.size=0)\/(mm=6/\Holds 13 [] fr [(1,pt b1),(2,i64 0),(3,i64 2)]/\Ow Tryd.prog none' w W [(b1,36,(fl8 f))]/\¬ f.f0.size=0/\¬ f.f1.size=0)\/(mm=5/\Holds 13 [] fr [(1,pt b1),(2,i64 0),(3,i64 3)]/\Ow Tryd.prog none' w W [(b1,36,(fl8 f))]/\¬ f.f0.size=0/\¬ f.f1.size=0/\¬ f.f2.size=0)\/(mm=4/\Holds 13 [] fr [(1,pt b1),(2,i64 0),(3,i64 4)]/\Ow Tryd.prog none' w W [(b1,36,(fl8 f))]/\¬ f.f0.size=0/\¬ f.f1.size=0/\¬ f.f2.size=0/\¬ f.f3.size=0)\/(mm=3/\Holds 13 [] fr [(1,pt b1),(2,i64 0),(3,i64 5)]/\Ow Tryd.prog none' w W [(b1,36,(fl8 f))]/\¬ f.f0.size=0/\¬ f.f1.size=0/\¬ f.f2.size=0/\¬ f.f3.size=0/\¬ f.f4.size=0)\/(mm=2/\Holds 13 [] fr [(1,pt b1),(2,i64 0),(3,i64 6)]/\Ow Tryd.prog none' w W [(b1,36,(fl8 f))]/\¬ f.f0.size=0/\¬ f.f1.size=0/\¬ f.f2.size=0/\¬ f.f3.size=0/\¬ f.f4.size=0/\¬ f.f5.size=0)\/(mm=1/\Holds 13 [] fr [(1,pt b1),(2,i64 0),(3,i64 7)]/\Ow Tryd.prog none' w W [(b1,36,(fl8 f))]/\¬ f.f0.size=0/\¬ f.f1.size=0/\¬ f.f2.size=0/\¬ f.f3.size=0/\¬ f.f4.size=0/\¬ f.f5.size=0/\¬ f.f6.size=0)\/(mm=0/\Holds 13 [] fr [(1,pt b1),(2,i64 0),(3,i64 8)]/\Ow Tryd.prog none' w W [(b1,36,(fl8 f))]/\¬ f.f0.size=0/\¬ f.f1.size=0/\¬ f.f2.size=0/\¬ f.f3.size=0/\¬ f.f4.size=0/\¬ f.f5.size=0/\¬ f.f6.size=0/\¬ f.f7.size=0)) ?_ ?_
 · exact ⟨_,(.inl ⟨rfl,hA.sb,hO.to⟩)⟩
 rintro _ fr w2 (⟨rfl,hA,hO⟩ | ⟨rfl,hA,hO,hu⟩ | ⟨rfl,hA,hO,hu⟩ | ⟨rfl,hA,hO,hu⟩ | ⟨rfl,hA,hO,hu⟩ | ⟨rfl,hA,hO,hu⟩ | ⟨rfl,hA,hO,hu⟩ | ⟨rfl,hA,hO,hu⟩ | ⟨rfl,hA,hO,hu⟩)
 · refine wp_seq ?_
   refine Sa [(5,bl true)] hA fun fr hA=>?_
   refine cT hA ?_
   refine wp_skip ?_
   refine then_normal ?_
   refine wp_seq ?_
   refine wp_block ?_
   refine Sb [(11,bl (f.f0.toList == (⟨#[]⟩:ByteArray).toList))] hA [str f.f0] (cc (⟨by omega,by omega⟩:(0:Int)<=0/\0 < ((8:Nat):Int)) (cc (hO.l1 0 0 9 (str f.f0)) c0)) fun fr hA=>?_
   rw [(str_empty f.f0:(f.f0.toList == (⟨#[]⟩:ByteArray).toList)=(decide (f.f0.size=0)))] at hA
   rcases Bool.eq_false_or_eq_true (decide (f.f0.size=0)) with h1 | h1
   · rw [h1] at hA
     have h1p:=of_decide_eq_true h1
     refine cT hA ?_
     refine Sa [] hA fun fr hA=>?_
     refine wp_ret ?_
     refine inBlock_ret ?_
     refine then_ret ?_
     refine then_ret ?_
     refine inBlock_ret ?_
     refine then_ret ?_
     refine cv [i64 0] hA ?_
     have hF:=hO.only; clear hA hO
     refine ⟨congrArg (fun k=>Ending.returned (i64 k)) ?_,hF⟩
     unfold freeF
     simp only [if_true,if_false, *]
   rw [h1] at hA
   have h1p:=of_decide_eq_false h1
   refine cF hA ?_
   refine wp_skip ?_
   refine inBlock_normal ?_
   refine then_normal ?_
   refine Rc [(3,i64 1)] hA [bl false] c0 fun fr hA=>?_
   refine then_normal ?_
   exact ⟨7,by decide,(.inr (.inl ⟨rfl,hA.sb,hO.to,(by simp only [not_false_eq_true,and_self, *])⟩))⟩
 · refine wp_seq ?_
   refine Sa [(3,i64 1),(5,bl true)] hA fun fr hA=>?_
   refine cT hA ?_
   refine wp_skip ?_
   refine then_normal ?_
   refine wp_seq ?_
   refine wp_block ?_
   refine Sb [(11,bl (f.f1.toList == (⟨#[]⟩:ByteArray).toList))] hA [str f.f1] (cc (⟨by omega,by omega⟩:(0:Int)<=1/\1 < ((8:Nat):Int)) (cc (hO.l1 0 1 9 (str f.f1)) c0)) fun fr hA=>?_
   rw [(str_empty f.f1:(f.f1.toList == (⟨#[]⟩:ByteArray).toList)=(decide (f.f1.size=0)))] at hA
   rcases Bool.eq_false_or_eq_true (decide (f.f1.size=0)) with h2 | h2
   · rw [h2] at hA
     have h2p:=of_decide_eq_true h2
     refine cT hA ?_
     refine Sa [(2,i64 1)] hA fun fr hA=>?_
     refine wp_ret ?_
     refine inBlock_ret ?_
     refine then_ret ?_
     refine then_ret ?_
     refine inBlock_ret ?_
     refine then_ret ?_
     refine cv [i64 1] hA ?_
     have hF:=hO.only; clear hA hO
     refine ⟨congrArg (fun k=>Ending.returned (i64 k)) ?_,hF⟩
     unfold freeF
     simp only [if_true,if_false, *]
   rw [h2] at hA
   have h2p:=of_decide_eq_false h2
   refine cF hA ?_
   refine wp_skip ?_
   refine inBlock_normal ?_
   refine then_normal ?_
   refine Rc [(3,i64 2)] hA [bl false] c0 fun fr hA=>?_
   refine then_normal ?_
   exact ⟨6,by decide,(.inr (.inr (.inl ⟨rfl,hA.sb,hO.to,(by simp only [not_false_eq_true,and_self, *])⟩)))⟩
 · refine wp_seq ?_
   refine Sa [(3,i64 2),(5,bl true)] hA fun fr hA=>?_
   refine cT hA ?_
   refine wp_skip ?_
   refine then_normal ?_
   refine wp_seq ?_
   refine wp_block ?_
   refine Sb [(11,bl (f.f2.toList == (⟨#[]⟩:ByteArray).toList))] hA [str f.f2] (cc (⟨by omega,by omega⟩:(0:Int)<=2/\2 < ((8:Nat):Int)) (cc (hO.l1 0 2 9 (str f.f2)) c0)) fun fr hA=>?_
   rw [(str_empty f.f2:(f.f2.toList == (⟨#[]⟩:ByteArray).toList)=(decide (f.f2.size=0)))] at hA
   rcases Bool.eq_false_or_eq_true (decide (f.f2.size=0)) with h3 | h3
   · rw [h3] at hA
     have h3p:=of_decide_eq_true h3
     refine cT hA ?_
     refine Sa [(2,i64 2)] hA fun fr hA=>?_
     refine wp_ret ?_
     refine inBlock_ret ?_
     refine then_ret ?_
     refine then_ret ?_
     refine inBlock_ret ?_
     refine then_ret ?_
     refine cv [i64 2] hA ?_
     have hF:=hO.only; clear hA hO
     refine ⟨congrArg (fun k=>Ending.returned (i64 k)) ?_,hF⟩
     unfold freeF
     simp only [if_true,if_false, *]
   rw [h3] at hA
   have h3p:=of_decide_eq_false h3
   refine cF hA ?_
   refine wp_skip ?_
   refine inBlock_normal ?_
   refine then_normal ?_
   refine Rc [(3,i64 3)] hA [bl false] c0 fun fr hA=>?_
   refine then_normal ?_
   exact ⟨5,by decide,(.inr (.inr (.inr (.inl ⟨rfl,hA.sb,hO.to,(by simp only [not_false_eq_true,and_self, *])⟩))))⟩
 · refine wp_seq ?_
   refine Sa [(3,i64 3),(5,bl true)] hA fun fr hA=>?_
   refine cT hA ?_
   refine wp_skip ?_
   refine then_normal ?_
   refine wp_seq ?_
   refine wp_block ?_
   refine Sb [(11,bl (f.f3.toList == (⟨#[]⟩:ByteArray).toList))] hA [str f.f3] (cc (⟨by omega,by omega⟩:(0:Int)<=3/\3 < ((8:Nat):Int)) (cc (hO.l1 0 3 9 (str f.f3)) c0)) fun fr hA=>?_
   rw [(str_empty f.f3:(f.f3.toList == (⟨#[]⟩:ByteArray).toList)=(decide (f.f3.size=0)))] at hA
   rcases Bool.eq_false_or_eq_true (decide (f.f3.size=0)) with h4 | h4
   · rw [h4] at hA
     have h4p:=of_decide_eq_true h4
     refine cT hA ?_
     refine Sa [(2,i64 3)] hA fun fr hA=>?_
     refine wp_ret ?_
     refine inBlock_ret ?_
     refine then_ret ?_
     refine then_ret ?_
     refine inBlock_ret ?_
     refine then_ret ?_
     refine cv [i64 3] hA ?_
     have hF:=hO.only; clear hA hO
     refine ⟨congrArg (fun k=>Ending.returned (i64 k)) ?_,hF⟩
     unfold freeF
     simp only [if_true,if_false, *]
   rw [h4] at hA
   have h4p:=of_decide_eq_false h4
   refine cF hA ?_
   refine wp_skip ?_
   refine inBlock_normal ?_
   refine then_normal ?_
   refine Rc [(3,i64 4)] hA [bl false] c0 fun fr hA=>?_
   refine then_normal ?_
   exact ⟨4,by decide,(.inr (.inr (.inr (.inr (.inl ⟨rfl,hA.sb,hO.to,(by simp only [not_false_eq_true,and_self, *])⟩)))))⟩
 · refine wp_seq ?_
   refine Sa [(3,i64 4),(5,bl true)] hA fun fr hA=>?_
   refine cT hA ?_
   refine wp_skip ?_
   refine then_normal ?_
   refine wp_seq ?_
   refine wp_block ?_
   refine Sb [(11,bl (f.f4.toList == (⟨#[]⟩:ByteArray).toList))] hA [str f.f4] (cc (⟨by omega,by omega⟩:(0:Int)<=4/\4 < ((8:Nat):Int)) (cc (hO.l1 0 4 9 (str f.f4)) c0)) fun fr hA=>?_
   rw [(str_empty f.f4:(f.f4.toList == (⟨#[]⟩:ByteArray).toList)=(decide (f.f4.size=0)))] at hA
   rcases Bool.eq_false_or_eq_true (decide (f.f4.size=0)) with h5 | h5
   · rw [h5] at hA
     have h5p:=of_decide_eq_true h5
     refine cT hA ?_
     refine Sa [(2,i64 4)] hA fun fr hA=>?_
     refine wp_ret ?_
     refine inBlock_ret ?_
     refine then_ret ?_
     refine then_ret ?_
     refine inBlock_ret ?_
     refine then_ret ?_
     refine cv [i64 4] hA ?_
     have hF:=hO.only; clear hA hO
     refine ⟨congrArg (fun k=>Ending.returned (i64 k)) ?_,hF⟩
     unfold freeF
     simp only [if_true,if_false, *]
   rw [h5] at hA
   have h5p:=of_decide_eq_false h5
   refine cF hA ?_
   refine wp_skip ?_
   refine inBlock_normal ?_
   refine then_normal ?_
   refine Rc [(3,i64 5)] hA [bl false] c0 fun fr hA=>?_
   refine then_normal ?_
   exact ⟨3,by decide,(.inr (.inr (.inr (.inr (.inr (.inl ⟨rfl,hA.sb,hO.to,(by simp only [not_false_eq_true,and_self, *])⟩))))))⟩
 · refine wp_seq ?_
   refine Sa [(3,i64 5),(5,bl true)] hA fun fr hA=>?_
   refine cT hA ?_
   refine wp_skip ?_
   refine then_normal ?_
   refine wp_seq ?_
   refine wp_block ?_
   refine Sb [(11,bl (f.f5.toList == (⟨#[]⟩:ByteArray).toList))] hA [str f.f5] (cc (⟨by omega,by omega⟩:(0:Int)<=5/\5 < ((8:Nat):Int)) (cc (hO.l1 0 5 9 (str f.f5)) c0)) fun fr hA=>?_
   rw [(str_empty f.f5:(f.f5.toList == (⟨#[]⟩:ByteArray).toList)=(decide (f.f5.size=0)))] at hA
   rcases Bool.eq_false_or_eq_true (decide (f.f5.size=0)) with h6 | h6
   · rw [h6] at hA
     have h6p:=of_decide_eq_true h6
     refine cT hA ?_
     refine Sa [(2,i64 5)] hA fun fr hA=>?_
     refine wp_ret ?_
     refine inBlock_ret ?_
     refine then_ret ?_
     refine then_ret ?_
     refine inBlock_ret ?_
     refine then_ret ?_
     refine cv [i64 5] hA ?_
     have hF:=hO.only; clear hA hO
     refine ⟨congrArg (fun k=>Ending.returned (i64 k)) ?_,hF⟩
     unfold freeF
     simp only [if_true,if_false, *]
   rw [h6] at hA
   have h6p:=of_decide_eq_false h6
   refine cF hA ?_
   refine wp_skip ?_
   refine inBlock_normal ?_
   refine then_normal ?_
   refine Rc [(3,i64 6)] hA [bl false] c0 fun fr hA=>?_
   refine then_normal ?_
   exact ⟨2,by decide,(.inr (.inr (.inr (.inr (.inr (.inr (.inl ⟨rfl,hA.sb,hO.to,(by simp only [not_false_eq_true,and_self, *])⟩)))))))⟩
 · refine wp_seq ?_
   refine Sa [(3,i64 6),(5,bl true)] hA fun fr hA=>?_
   refine cT hA ?_
   refine wp_skip ?_
   refine then_normal ?_
   refine wp_seq ?_
   refine wp_block ?_
   refine Sb [(11,bl (f.f6.toList == (⟨#[]⟩:ByteArray).toList))] hA [str f.f6] (cc (⟨by omega,by omega⟩:(0:Int)<=6/\6 < ((8:Nat):Int)) (cc (hO.l1 0 6 9 (str f.f6)) c0)) fun fr hA=>?_
   rw [(str_empty f.f6:(f.f6.toList == (⟨#[]⟩:ByteArray).toList)=(decide (f.f6.size=0)))] at hA
   rcases Bool.eq_false_or_eq_true (decide (f.f6.size=0)) with h7 | h7
   · rw [h7] at hA
     have h7p:=of_decide_eq_true h7
     refine cT hA ?_
     refine Sa [(2,i64 6)] hA fun fr hA=>?_
     refine wp_ret ?_
     refine inBlock_ret ?_
     refine then_ret ?_
     refine then_ret ?_
     refine inBlock_ret ?_
     refine then_ret ?_
     refine cv [i64 6] hA ?_
     have hF:=hO.only; clear hA hO
     refine ⟨congrArg (fun k=>Ending.returned (i64 k)) ?_,hF⟩
     unfold freeF
     simp only [if_true,if_false, *]
   rw [h7] at hA
   have h7p:=of_decide_eq_false h7
   refine cF hA ?_
   refine wp_skip ?_
   refine inBlock_normal ?_
   refine then_normal ?_
   refine Rc [(3,i64 7)] hA [bl false] c0 fun fr hA=>?_
   refine then_normal ?_
   exact ⟨1,by decide,(.inr (.inr (.inr (.inr (.inr (.inr (.inr (.inl ⟨rfl,hA.sb,hO.to,(by simp only [not_false_eq_true,and_self, *])⟩))))))))⟩
 · refine wp_seq ?_
   refine Sa [(3,i64 7),(5,bl true)] hA fun fr hA=>?_
   refine cT hA ?_
   refine wp_skip ?_
   refine then_normal ?_
   refine wp_seq ?_
   refine wp_block ?_
   refine Sb [(11,bl (f.f7.toList == (⟨#[]⟩:ByteArray).toList))] hA [str f.f7] (cc (⟨by omega,by omega⟩:(0:Int)<=7/\7 < ((8:Nat):Int)) (cc (hO.l1 0 7 9 (str f.f7)) c0)) fun fr hA=>?_
   rw [(str_empty f.f7:(f.f7.toList == (⟨#[]⟩:ByteArray).toList)=(decide (f.f7.size=0)))] at hA
   rcases Bool.eq_false_or_eq_true (decide (f.f7.size=0)) with h8 | h8
   · rw [h8] at hA
     have h8p:=of_decide_eq_true h8
     refine cT hA ?_
     refine Sa [(2,i64 7)] hA fun fr hA=>?_
     refine wp_ret ?_
     refine inBlock_ret ?_
     refine then_ret ?_
     refine then_ret ?_
     refine inBlock_ret ?_
     refine then_ret ?_
     refine cv [i64 7] hA ?_
     have hF:=hO.only; clear hA hO
     refine ⟨congrArg (fun k=>Ending.returned (i64 k)) ?_,hF⟩
     unfold freeF
     simp only [if_true,if_false, *]
   rw [h8] at hA
   have h8p:=of_decide_eq_false h8
   refine cF hA ?_
   refine wp_skip ?_
   refine inBlock_normal ?_
   refine then_normal ?_
   refine Rc [(3,i64 8)] hA [bl false] c0 fun fr hA=>?_
   refine then_normal ?_
   exact ⟨0,by decide,(.inr (.inr (.inr (.inr (.inr (.inr (.inr (.inr ⟨rfl,hA.sb,hO.to,(by simp only [not_false_eq_true,and_self, *])⟩))))))))⟩
 refine wp_seq ?_
 refine Sa [(3,i64 8),(5,bl false)] hA fun fr hA=>?_
 refine cF hA ?_
 refine wp_exit ?_
 refine then_exit ?_
 refine then_exit ?_
 refine inBlock_exit ?_
 refine then_normal ?_
 refine Sa [(2,i64 (-1))] hA fun fr hA=>?_
 refine wp_ret ?_
 refine cv [i64 (-1)] hA ?_
 have hF:=hO.only; clear hA hO
 refine ⟨congrArg (fun k=>Ending.returned (i64 k)) ?_,hF⟩
 unfold freeF
 simp only [if_true,if_false, *]
theorem pl_yt {z:ByteArray} (h:((!(z.toList == (⟨#[]⟩:ByteArray).toList)) == true)=true) : ¬ z.size=0:=by
 rw [str_empty] at h; simpa using h
theorem pl_nt {z:ByteArray} (h:((!(z.toList == (⟨#[]⟩:ByteArray).toList)) == true)=false):z.size=0:=by
 rw [str_empty] at h; simpa using h
theorem pl_yf {z:ByteArray} (h:((!(z.toList == (⟨#[]⟩:ByteArray).toList)) == false)=true):z.size=0:=by
 rw [str_empty] at h; simpa using h
theorem pl_nf {z:ByteArray} (h:((!(z.toList == (⟨#[]⟩:ByteArray).toList)) == false)=false) : ¬ z.size=0:=by
 rw [str_empty] at h; simpa using h
theorem plain_any (f:F8) (w:World) :
    Calls Tryd.prog 19 #[.agg (List.toArray (fl8 f))] w fun e w'=>e = .returned (.bool (plainB f))/\Only none' w w':=by
 refine c_enter (args:=[.agg (List.toArray (fl8 f))]) (m:=14) (n:=15) Tryd.func19 rfl (by kernel_rfl) (by kernel_rfl) fun fr hA=>?_
 have hO:=Ow.nil Tryd.prog none' w
 refine sr 2 ?_
 refine Mn (fl8 f) 36 1 hA hO fun fr w1 b1 hA hO=>?_
 refine Ka 1 [(2,bl false)] hA fun fr hA=>?_
 refine end_ops ?_
 refine then_normal ?_
 refine wp_seq ?_
 refine Sa [(3,i64 0)] hA fun fr hA=>?_
 refine wp_block ?_
 refine c_loop (fun mm fr W=>(mm=8/\Holds 15 [] fr [(1,pt b1),(2,bl false),(3,i64 0)]/\Ow Tryd.prog none' w W [(b1,36,(fl8 f))])\/(mm=7/\Holds 15 [] fr [(1,pt b1),(2,bl false),(3,i64 1)]/\Ow Tryd.prog none' w W [(b1,36,(fl8 f))]/\¬ f.f0.size=0)\/(mm=6/\Holds 15 [] fr [(1,pt b1),(2,bl false),(3,i64 2)]/\Ow Tryd.prog none' w W [(b1,36,(fl8 f))]/\¬ f.f0.size=0/\¬ f.f1.size=0)\/(mm=5/\Holds 15 [] fr [(1,pt b1),(2,bl false),(3,i64 3)]/\Ow Tryd.prog none' w W [(b1,36,(fl8 f))]/\¬ f.f0.size=0/\¬ f.f1.size=0/\¬ f.f2.size=0)\/(mm=4/\Holds 15 [] fr [(1,pt b1),(2,bl false),(3,i64 4)]/\Ow Tryd.prog none' w W [(b1,36,(fl8 f))]/\¬ f.f0.size=0/\¬ f.f1.size=0/\¬ f.f2.size=0/\f.f3.size=0)\/(mm=3/\Holds 15 [] fr [(1,pt b1),(2,bl false),(3,i64 5)]/\Ow Tryd.prog none' w W [(b1,36,(fl8 f))]/\¬ f.f0.size=0/\¬ f.f1.size=0/\¬ f.f2.size=0/\f.f3.size=0/\f.f4.size=0)\/(mm=2/\Holds 15 [] fr [(1,pt b1),(2,bl false),(3,i64 6)]/\Ow Tryd.prog none' w W [(b1,36,(fl8 f))]/\¬ f.f0.size=0/\¬ f.f1.size=0/\¬ f.f2.size=0/\f.f3.size=0/\f.f4.size=0/\f.f5.size=0)\/(mm=1/\Holds 15 [] fr [(1,pt b1),(2,bl false),(3,i64 7)]/\Ow Tryd.prog none' w W [(b1,36,(fl8 f))]/\¬ f.f0.size=0/\¬ f.f1.size=0/\¬ f.f2.size=0/\f.f3.size=0/\f.f4.size=0/\f.f5.size=0/\f.f6.size=0)\/(mm=0/\Holds 15 [] fr [(1,pt b1),(2,bl false),(3,i64 8)]/\Ow Tryd.prog none' w W [(b1,36,(fl8 f))]/\¬ f.f0.size=0/\¬ f.f1.size=0/\¬ f.f2.size=0/\f.f3.size=0/\f.f4.size=0/\f.f5.size=0/\f.f6.size=0/\f.f7.size=0)) ?_ ?_
 · exact ⟨_,(.inl ⟨rfl,hA.sb,hO.to⟩)⟩
 rintro _ fr w2 (⟨rfl,hA,hO⟩ | ⟨rfl,hA,hO,hu⟩ | ⟨rfl,hA,hO,hu⟩ | ⟨rfl,hA,hO,hu⟩ | ⟨rfl,hA,hO,hu⟩ | ⟨rfl,hA,hO,hu⟩ | ⟨rfl,hA,hO,hu⟩ | ⟨rfl,hA,hO,hu⟩ | ⟨rfl,hA,hO,hu⟩)
 · refine wp_seq ?_
   refine Sa [(5,bl true)] hA fun fr hA=>?_
   refine cT hA ?_
   refine wp_skip ?_
   refine then_normal ?_
   refine wp_seq ?_
   refine wp_block ?_
   refine Sb [(14,bl (!((!(f.f0.toList == (⟨#[]⟩:ByteArray).toList)) == true)))] hA [str f.f0] (cc (⟨by omega,by omega⟩:(0:Int)<=0/\0 < ((8:Nat):Int)) (cc (hO.l1 0 0 9 (str f.f0)) c0)) fun fr hA=>?_
   rcases Bool.eq_false_or_eq_true ((!(f.f0.toList == (⟨#[]⟩:ByteArray).toList)) == true) with h1 | h1
   · rw [h1] at hA
     have h1p:=pl_yt (z:=f.f0) h1
     refine cF hA ?_
     refine wp_skip ?_
     refine inBlock_normal ?_
     refine then_normal ?_
     refine Rc [(3,i64 1)] hA [bl false] c0 fun fr hA=>?_
     refine then_normal ?_
     exact ⟨7,by decide,(.inr (.inl ⟨rfl,hA.sb,hO.to,(by simp only [not_false_eq_true,and_self, *])⟩))⟩
   rw [h1] at hA
   have h1p:=pl_nt (z:=f.f0) h1
   refine cT hA ?_
   refine Sa [] hA fun fr hA=>?_
   refine wp_ret ?_
   refine inBlock_ret ?_
   refine then_ret ?_
   refine then_ret ?_
   refine inBlock_ret ?_
   refine then_ret ?_
   refine cv [bl false] hA ?_
   have hF:=hO.only; clear hA hO
   refine ⟨congrArg (fun k=>Ending.returned (.bool k)) ?_,hF⟩
   unfold plainB
   exact (decide_eq_false (by rintro ⟨q0,q1,q2,q3,q4,q5,q6,q7⟩; simp_all)).symm
 · refine wp_seq ?_
   refine Sa [(3,i64 1),(5,bl true)] hA fun fr hA=>?_
   refine cT hA ?_
   refine wp_skip ?_
   refine then_normal ?_
   refine wp_seq ?_
   refine wp_block ?_
   refine Sb [(14,bl (!((!(f.f1.toList == (⟨#[]⟩:ByteArray).toList)) == true)))] hA [str f.f1] (cc (⟨by omega,by omega⟩:(0:Int)<=1/\1 < ((8:Nat):Int)) (cc (hO.l1 0 1 9 (str f.f1)) c0)) fun fr hA=>?_
   rcases Bool.eq_false_or_eq_true ((!(f.f1.toList == (⟨#[]⟩:ByteArray).toList)) == true) with h2 | h2
   · rw [h2] at hA
     have h2p:=pl_yt (z:=f.f1) h2
     refine cF hA ?_
     refine wp_skip ?_
     refine inBlock_normal ?_
     refine then_normal ?_
     refine Rc [(3,i64 2)] hA [bl false] c0 fun fr hA=>?_
     refine then_normal ?_
     exact ⟨6,by decide,(.inr (.inr (.inl ⟨rfl,hA.sb,hO.to,(by simp only [not_false_eq_true,and_self, *])⟩)))⟩
   rw [h2] at hA
   have h2p:=pl_nt (z:=f.f1) h2
   refine cT hA ?_
   refine Sa [] hA fun fr hA=>?_
   refine wp_ret ?_
   refine inBlock_ret ?_
   refine then_ret ?_
   refine then_ret ?_
   refine inBlock_ret ?_
   refine then_ret ?_
   refine cv [bl false] hA ?_
   have hF:=hO.only; clear hA hO
   refine ⟨congrArg (fun k=>Ending.returned (.bool k)) ?_,hF⟩
   unfold plainB
   exact (decide_eq_false (by rintro ⟨q0,q1,q2,q3,q4,q5,q6,q7⟩; simp_all)).symm
 · refine wp_seq ?_
   refine Sa [(3,i64 2),(5,bl true)] hA fun fr hA=>?_
   refine cT hA ?_
   refine wp_skip ?_
   refine then_normal ?_
   refine wp_seq ?_
   refine wp_block ?_
   refine Sb [(14,bl (!((!(f.f2.toList == (⟨#[]⟩:ByteArray).toList)) == true)))] hA [str f.f2] (cc (⟨by omega,by omega⟩:(0:Int)<=2/\2 < ((8:Nat):Int)) (cc (hO.l1 0 2 9 (str f.f2)) c0)) fun fr hA=>?_
   rcases Bool.eq_false_or_eq_true ((!(f.f2.toList == (⟨#[]⟩:ByteArray).toList)) == true) with h3 | h3
   · rw [h3] at hA
     have h3p:=pl_yt (z:=f.f2) h3
     refine cF hA ?_
     refine wp_skip ?_
     refine inBlock_normal ?_
     refine then_normal ?_
     refine Rc [(3,i64 3)] hA [bl false] c0 fun fr hA=>?_
     refine then_normal ?_
     exact ⟨5,by decide,(.inr (.inr (.inr (.inl ⟨rfl,hA.sb,hO.to,(by simp only [not_false_eq_true,and_self, *])⟩))))⟩
   rw [h3] at hA
   have h3p:=pl_nt (z:=f.f2) h3
   refine cT hA ?_
   refine Sa [] hA fun fr hA=>?_
   refine wp_ret ?_
   refine inBlock_ret ?_
   refine then_ret ?_
   refine then_ret ?_
   refine inBlock_ret ?_
   refine then_ret ?_
   refine cv [bl false] hA ?_
   have hF:=hO.only; clear hA hO
   refine ⟨congrArg (fun k=>Ending.returned (.bool k)) ?_,hF⟩
   unfold plainB
   exact (decide_eq_false (by rintro ⟨q0,q1,q2,q3,q4,q5,q6,q7⟩; simp_all)).symm
 · refine wp_seq ?_
   refine Sa [(3,i64 3),(5,bl true)] hA fun fr hA=>?_
   refine cT hA ?_
   refine wp_skip ?_
   refine then_normal ?_
   refine wp_seq ?_
   refine wp_block ?_
   refine Sb [(14,bl (!((!(f.f3.toList == (⟨#[]⟩:ByteArray).toList)) == false)))] hA [str f.f3] (cc (⟨by omega,by omega⟩:(0:Int)<=3/\3 < ((8:Nat):Int)) (cc (hO.l1 0 3 9 (str f.f3)) c0)) fun fr hA=>?_
   rcases Bool.eq_false_or_eq_true ((!(f.f3.toList == (⟨#[]⟩:ByteArray).toList)) == false) with h4 | h4
   · rw [h4] at hA
     have h4p:=pl_yf (z:=f.f3) h4
     refine cF hA ?_
     refine wp_skip ?_
     refine inBlock_normal ?_
     refine then_normal ?_
     refine Rc [(3,i64 4)] hA [bl false] c0 fun fr hA=>?_
     refine then_normal ?_
     exact ⟨4,by decide,(.inr (.inr (.inr (.inr (.inl ⟨rfl,hA.sb,hO.to,(by simp only [not_false_eq_true,and_self, *])⟩)))))⟩
   rw [h4] at hA
   have h4p:=pl_nf (z:=f.f3) h4
   refine cT hA ?_
   refine Sa [] hA fun fr hA=>?_
   refine wp_ret ?_
   refine inBlock_ret ?_
   refine then_ret ?_
   refine then_ret ?_
   refine inBlock_ret ?_
   refine then_ret ?_
   refine cv [bl false] hA ?_
   have hF:=hO.only; clear hA hO
   refine ⟨congrArg (fun k=>Ending.returned (.bool k)) ?_,hF⟩
   unfold plainB
   exact (decide_eq_false (by rintro ⟨q0,q1,q2,q3,q4,q5,q6,q7⟩; simp_all)).symm
 · refine wp_seq ?_
   refine Sa [(3,i64 4),(5,bl true)] hA fun fr hA=>?_
   refine cT hA ?_
   refine wp_skip ?_
   refine then_normal ?_
   refine wp_seq ?_
   refine wp_block ?_
   refine Sb [(14,bl (!((!(f.f4.toList == (⟨#[]⟩:ByteArray).toList)) == false)))] hA [str f.f4] (cc (⟨by omega,by omega⟩:(0:Int)<=4/\4 < ((8:Nat):Int)) (cc (hO.l1 0 4 9 (str f.f4)) c0)) fun fr hA=>?_
   rcases Bool.eq_false_or_eq_true ((!(f.f4.toList == (⟨#[]⟩:ByteArray).toList)) == false) with h5 | h5
   · rw [h5] at hA
     have h5p:=pl_yf (z:=f.f4) h5
     refine cF hA ?_
     refine wp_skip ?_
     refine inBlock_normal ?_
     refine then_normal ?_
     refine Rc [(3,i64 5)] hA [bl false] c0 fun fr hA=>?_
     refine then_normal ?_
     exact ⟨3,by decide,(.inr (.inr (.inr (.inr (.inr (.inl ⟨rfl,hA.sb,hO.to,(by simp only [not_false_eq_true,and_self, *])⟩))))))⟩
   rw [h5] at hA
   have h5p:=pl_nf (z:=f.f4) h5
   refine cT hA ?_
   refine Sa [] hA fun fr hA=>?_
   refine wp_ret ?_
   refine inBlock_ret ?_
   refine then_ret ?_
   refine then_ret ?_
   refine inBlock_ret ?_
   refine then_ret ?_
   refine cv [bl false] hA ?_
   have hF:=hO.only; clear hA hO
   refine ⟨congrArg (fun k=>Ending.returned (.bool k)) ?_,hF⟩
   unfold plainB
   exact (decide_eq_false (by rintro ⟨q0,q1,q2,q3,q4,q5,q6,q7⟩; simp_all)).symm
 · refine wp_seq ?_
   refine Sa [(3,i64 5),(5,bl true)] hA fun fr hA=>?_
   refine cT hA ?_
   refine wp_skip ?_
   refine then_normal ?_
   refine wp_seq ?_
   refine wp_block ?_
   refine Sb [(14,bl (!((!(f.f5.toList == (⟨#[]⟩:ByteArray).toList)) == false)))] hA [str f.f5] (cc (⟨by omega,by omega⟩:(0:Int)<=5/\5 < ((8:Nat):Int)) (cc (hO.l1 0 5 9 (str f.f5)) c0)) fun fr hA=>?_
   rcases Bool.eq_false_or_eq_true ((!(f.f5.toList == (⟨#[]⟩:ByteArray).toList)) == false) with h6 | h6
   · rw [h6] at hA
     have h6p:=pl_yf (z:=f.f5) h6
     refine cF hA ?_
     refine wp_skip ?_
     refine inBlock_normal ?_
     refine then_normal ?_
     refine Rc [(3,i64 6)] hA [bl false] c0 fun fr hA=>?_
     refine then_normal ?_
     exact ⟨2,by decide,(.inr (.inr (.inr (.inr (.inr (.inr (.inl ⟨rfl,hA.sb,hO.to,(by simp only [not_false_eq_true,and_self, *])⟩)))))))⟩
   rw [h6] at hA
   have h6p:=pl_nf (z:=f.f5) h6
   refine cT hA ?_
   refine Sa [] hA fun fr hA=>?_
   refine wp_ret ?_
   refine inBlock_ret ?_
   refine then_ret ?_
   refine then_ret ?_
   refine inBlock_ret ?_
   refine then_ret ?_
   refine cv [bl false] hA ?_
   have hF:=hO.only; clear hA hO
   refine ⟨congrArg (fun k=>Ending.returned (.bool k)) ?_,hF⟩
   unfold plainB
   exact (decide_eq_false (by rintro ⟨q0,q1,q2,q3,q4,q5,q6,q7⟩; simp_all)).symm
 · refine wp_seq ?_
   refine Sa [(3,i64 6),(5,bl true)] hA fun fr hA=>?_
   refine cT hA ?_
   refine wp_skip ?_
   refine then_normal ?_
   refine wp_seq ?_
   refine wp_block ?_
   refine Sb [(14,bl (!((!(f.f6.toList == (⟨#[]⟩:ByteArray).toList)) == false)))] hA [str f.f6] (cc (⟨by omega,by omega⟩:(0:Int)<=6/\6 < ((8:Nat):Int)) (cc (hO.l1 0 6 9 (str f.f6)) c0)) fun fr hA=>?_
   rcases Bool.eq_false_or_eq_true ((!(f.f6.toList == (⟨#[]⟩:ByteArray).toList)) == false) with h7 | h7
   · rw [h7] at hA
     have h7p:=pl_yf (z:=f.f6) h7
     refine cF hA ?_
     refine wp_skip ?_
     refine inBlock_normal ?_
     refine then_normal ?_
     refine Rc [(3,i64 7)] hA [bl false] c0 fun fr hA=>?_
     refine then_normal ?_
     exact ⟨1,by decide,(.inr (.inr (.inr (.inr (.inr (.inr (.inr (.inl ⟨rfl,hA.sb,hO.to,(by simp only [not_false_eq_true,and_self, *])⟩))))))))⟩
   rw [h7] at hA
   have h7p:=pl_nf (z:=f.f6) h7
   refine cT hA ?_
   refine Sa [] hA fun fr hA=>?_
   refine wp_ret ?_
   refine inBlock_ret ?_
   refine then_ret ?_
   refine then_ret ?_
   refine inBlock_ret ?_
   refine then_ret ?_
   refine cv [bl false] hA ?_
   have hF:=hO.only; clear hA hO
   refine ⟨congrArg (fun k=>Ending.returned (.bool k)) ?_,hF⟩
   unfold plainB
   exact (decide_eq_false (by rintro ⟨q0,q1,q2,q3,q4,q5,q6,q7⟩; simp_all)).symm
 · refine wp_seq ?_
   refine Sa [(3,i64 7),(5,bl true)] hA fun fr hA=>?_
   refine cT hA ?_
   refine wp_skip ?_
   refine then_normal ?_
   refine wp_seq ?_
   refine wp_block ?_
   refine Sb [(14,bl (!((!(f.f7.toList == (⟨#[]⟩:ByteArray).toList)) == false)))] hA [str f.f7] (cc (⟨by omega,by omega⟩:(0:Int)<=7/\7 < ((8:Nat):Int)) (cc (hO.l1 0 7 9 (str f.f7)) c0)) fun fr hA=>?_
   rcases Bool.eq_false_or_eq_true ((!(f.f7.toList == (⟨#[]⟩:ByteArray).toList)) == false) with h8 | h8
   · rw [h8] at hA
     have h8p:=pl_yf (z:=f.f7) h8
     refine cF hA ?_
     refine wp_skip ?_
     refine inBlock_normal ?_
     refine then_normal ?_
     refine Rc [(3,i64 8)] hA [bl false] c0 fun fr hA=>?_
     refine then_normal ?_
     exact ⟨0,by decide,(.inr (.inr (.inr (.inr (.inr (.inr (.inr (.inr ⟨rfl,hA.sb,hO.to,(by simp only [not_false_eq_true,and_self, *])⟩))))))))⟩
   rw [h8] at hA
   have h8p:=pl_nf (z:=f.f7) h8
   refine cT hA ?_
   refine Sa [] hA fun fr hA=>?_
   refine wp_ret ?_
   refine inBlock_ret ?_
   refine then_ret ?_
   refine then_ret ?_
   refine inBlock_ret ?_
   refine then_ret ?_
   refine cv [bl false] hA ?_
   have hF:=hO.only; clear hA hO
   refine ⟨congrArg (fun k=>Ending.returned (.bool k)) ?_,hF⟩
   unfold plainB
   exact (decide_eq_false (by rintro ⟨q0,q1,q2,q3,q4,q5,q6,q7⟩; simp_all)).symm
 refine wp_seq ?_
 refine Sa [(3,i64 8),(5,bl false)] hA fun fr hA=>?_
 refine cF hA ?_
 refine wp_exit ?_
 refine then_exit ?_
 refine then_exit ?_
 refine inBlock_exit ?_
 refine then_normal ?_
 refine Sa [(2,bl true)] hA fun fr hA=>?_
 refine wp_ret ?_
 refine cv [bl true] hA ?_
 have hF:=hO.only; clear hA hO
 refine ⟨congrArg (fun k=>Ending.returned (.bool k)) ?_,hF⟩
 unfold plainB
 exact (decide_eq_true (by simp only [ne_eq,not_false_eq_true,and_self, *])).symm
theorem failing_nil (wb:Nat) (a:WV) (w:World) (h0:Ow Tryd.prog (inT [(wb,39,wc {a with fp:=none,ff:=([]:List Int),fc:=0})]) w w [(wb,39,wc {a with fp:=none,ff:=([]:List Int),fc:=0})])  :
    Calls Tryd.prog 21 #[pt wb] w fun e w'=>e = .returned (.bool false)/\Ow Tryd.prog (inT [(wb,39,wc {a with fp:=none,ff:=([]:List Int),fc:=0})]) w w' [(wb,39,wc {a with fp:=none,ff:=([]:List Int),fc:=0})]:=by
 refine c_enter (args:=[pt wb]) (m:=25) (n:=26) Tryd.func21 rfl (by kernel_rfl) (by kernel_rfl) fun fr hA=>?_
 generalize inT [(wb,39,wc {a with fp:=none,ff:=([]:List Int),fc:=0})]=M at *
 have hO:Ow Tryd.prog M w w [(wb,39,(wc {a with fp:=none,ff:=([]:List Int),fc:=0}))]:=h0.to (by first | rfl | first | rfl | (simp only [TP,apd]))
 refine Sa [(2,bl false)] hA fun fr hA=>?_
 refine wp_seq ?_
 refine Sb [(9,bl (((([]:List Int).length:Nat):Int) == 0))] hA [.slice none (([]:List Int).length) 0] (cc (hO.l1 0 23 33 (.slice none (([]:List Int).length) 0)) c0) fun fr hA=>?_
 rw [(rfl:(((([]:List Int).length:Nat):Int) == 0)=true)] at hA
 refine cT hA ?_
 refine Sa [] hA fun fr hA=>?_
 refine wp_ret ?_
 refine then_ret ?_
 refine cv [bl false] hA ?_
 exact ⟨rfl,hO.to⟩
theorem failing_more (wb:Nat) (a:WV) (ad:Addr) (fc:Nat) (f0:Int) (frs:List Int) (w:World) (h0:Ow Tryd.prog (inT [(wb,39,wc {a with fp:=some ad,ff:=(f0::frs),fc:=fc})]) w w [(wb,39,wc {a with fp:=some ad,ff:=(f0::frs),fc:=fc})]) (hv:Vw fB w (.slice (some ad) (f0::frs).length fc) (f0::frs)) (hc:(f0::frs).length<=fc) (h1 : 1 < fc) :
    Calls Tryd.prog 21 #[pt wb] w fun e w'=>e = .returned (.bool (f0 == 1))/\Ow Tryd.prog (inT [(wb,39,wc {a with fp:=some ad,ff:=(f0::frs),fc:=fc})]) w w' [(wb,39,wc {a with fp:=some (ad.add 1),ff:=frs,fc:=(fc - 1)})]:=by
 refine c_enter (args:=[pt wb]) (m:=25) (n:=26) Tryd.func21 rfl (by kernel_rfl) (by kernel_rfl) fun fr hA=>?_
 generalize inT [(wb,39,wc {a with fp:=some ad,ff:=(f0::frs),fc:=fc})]=M at *
 have hO:Ow Tryd.prog M w w [(wb,39,(wc {a with fp:=some ad,ff:=(f0::frs),fc:=fc}))]:=h0.to (by first | rfl | first | rfl | (simp only [TP,apd]))
 have hl_:(f0::frs).length=frs.length+1:=rfl
 refine Sa [(2,bl false)] hA fun fr hA=>?_
 refine wp_seq ?_
 refine Sb [(9,bl ((((f0::frs).length:Nat):Int) == 0))] hA [.slice (some ad) ((f0::frs).length) fc] (cc (hO.l1 0 23 33 (.slice (some ad) ((f0::frs).length) fc)) c0) fun fr hA=>?_
 rw [(beq_eq_false_iff_ne.2 (by omega):((((f0::frs).length:Nat):Int) == 0)=false)] at hA
 refine cF hA ?_
 refine wp_skip ?_
 refine then_normal ?_
 refine Sb [(3,u8 f0)] hA [.slice (some ad) ((f0::frs).length) fc,u8 f0] (cc (hO.l1 0 23 33 (.slice (some ad) ((f0::frs).length) fc)) (cc (⟨by omega,by omega⟩:(0:Int)<=0/\0 < (((f0::frs).length:Nat):Int)) (cc (((show Ld Tryd.prog _ (ad.add (0*1)) 5 (.int .u8 f0) from ld_cell (by kernel_rfl) (((hv:Vw fB w _ _)).cell encB (k:=0) (i:=0) (x:=f0) rfl rfl))):Ld Tryd.prog w (ad.add 0) 5 (u8 f0)) c0))) fun fr hA=>?_
 refine sr 9 ?_
 refine Kb 8 [(21,.slice (some (atIx (ad:Addr) 1 1)) (((f0::frs).length) - (1)) ((fc) - (1))),(23,pf wb 23)] hA [.slice (some ad) ((f0::frs).length) fc,bl true] (cc (hO.l1 0 23 33 (.slice (some ad) ((f0::frs).length) fc)) (cc (⟨by omega,by omega,by omega,by omega,by omega⟩:(0:Int)<=1/\(1:Int)<=(((f0::frs).length:Nat):Int)/\(((f0::frs).length:Nat):Int)<=((fc:Nat):Int)/\((fc:Nat):Int)<=((fc:Nat):Int)/\(1:Int) < ((fc:Nat):Int)) c0)) fun fr hA=>?_
 rw [show atIx ad 1 1=((ad.add 1):Addr) from (atIx_one _ 1)] at hA
 rw [show (((f0::frs).length) - (1))=frs.length from rfl] at hA
 rw [show ((fc) - (1))=(fc - 1) from rfl] at hA
 refine wpOps_cons' (mSR (off:=23) (ad:=⟨wb,23,none⟩) (vc:=[.slice (some (ad.add 1)) frs.length (fc - 1)]) (l':=(wc {a with fp:=some (ad.add 1),ff:=frs,fc:=(fc - 1)})) 0 hA hO rfl (by kernel_rfl) (by kernel_rfl) fun w1 hO=>?_)
 refine end_ops ?_
 refine then_normal ?_
 refine Sa [(2,bl (f0 == 1))] hA fun fr hA=>?_
 refine wp_ret ?_
 refine cv [bl (f0 == 1)] hA ?_
 exact ⟨rfl,hO.to⟩
theorem failing_last (wb:Nat) (a:WV) (ad:Addr) (f0:Int) (frs:List Int) (w:World) (h0:Ow Tryd.prog (inT [(wb,39,wc {a with fp:=some ad,ff:=(f0::frs),fc:=1})]) w w [(wb,39,wc {a with fp:=some ad,ff:=(f0::frs),fc:=1})]) (hv:Vw fB w (.slice (some ad) (f0::frs).length 1) (f0::frs)) (hc:(f0::frs).length<=1) :
    Calls Tryd.prog 21 #[pt wb] w fun e w'=>e = .returned (.bool (f0 == 1))/\Ow Tryd.prog (inT [(wb,39,wc {a with fp:=some ad,ff:=(f0::frs),fc:=1})]) w w' [(wb,39,wc {a with fp:=some ad,ff:=frs,fc:=0})]:=by
 refine c_enter (args:=[pt wb]) (m:=25) (n:=26) Tryd.func21 rfl (by kernel_rfl) (by kernel_rfl) fun fr hA=>?_
 generalize inT [(wb,39,wc {a with fp:=some ad,ff:=(f0::frs),fc:=1})]=M at *
 have hO:Ow Tryd.prog M w w [(wb,39,(wc {a with fp:=some ad,ff:=(f0::frs),fc:=1}))]:=h0.to (by first | rfl | first | rfl | (simp only [TP,apd]))
 have hl_:(f0::frs).length=frs.length+1:=rfl
 refine Sa [(2,bl false)] hA fun fr hA=>?_
 refine wp_seq ?_
 refine Sb [(9,bl ((((f0::frs).length:Nat):Int) == 0))] hA [.slice (some ad) ((f0::frs).length) 1] (cc (hO.l1 0 23 33 (.slice (some ad) ((f0::frs).length) 1)) c0) fun fr hA=>?_
 rw [(beq_eq_false_iff_ne.2 (by omega):((((f0::frs).length:Nat):Int) == 0)=false)] at hA
 refine cF hA ?_
 refine wp_skip ?_
 refine then_normal ?_
 refine Sb [(3,u8 f0)] hA [.slice (some ad) ((f0::frs).length) 1,u8 f0] (cc (hO.l1 0 23 33 (.slice (some ad) ((f0::frs).length) 1)) (cc (⟨by omega,by omega⟩:(0:Int)<=0/\0 < (((f0::frs).length:Nat):Int)) (cc (((show Ld Tryd.prog _ (ad.add (0*1)) 5 (.int .u8 f0) from ld_cell (by kernel_rfl) (((hv:Vw fB w _ _)).cell encB (k:=0) (i:=0) (x:=f0) rfl rfl))):Ld Tryd.prog w (ad.add 0) 5 (u8 f0)) c0))) fun fr hA=>?_
 refine sr 9 ?_
 refine Kb 8 [(21,.slice (some ad) (((f0::frs).length) - (1)) 0),(23,pf wb 23)] hA [.slice (some ad) ((f0::frs).length) 1,bl false] (cc (hO.l1 0 23 33 (.slice (some ad) ((f0::frs).length) 1)) (cc (⟨by omega,by omega,by omega,by omega,by omega⟩:(0:Int)<=1/\(1:Int)<=(((f0::frs).length:Nat):Int)/\(((f0::frs).length:Nat):Int)<=((1:Nat):Int)/\((1:Nat):Int)<=((1:Nat):Int)/\((1:Int)=((1:Nat):Int)\/(1:Int)=0)) c0)) fun fr hA=>?_
 rw [show (((f0::frs).length) - (1))=frs.length from rfl] at hA
 refine wpOps_cons' (mSR (off:=23) (ad:=⟨wb,23,none⟩) (vc:=[.slice (some ad) frs.length 0]) (l':=(wc {a with fp:=some ad,ff:=frs,fc:=0})) 0 hA hO rfl (by kernel_rfl) (by kernel_rfl) fun w1 hO=>?_)
 refine end_ops ?_
 refine then_normal ?_
 refine Sa [(2,bl (f0 == 1))] hA fun fr hA=>?_
 refine wp_ret ?_
 refine cv [bl (f0 == 1)] hA ?_
 exact ⟨rfl,hO.to⟩
theorem failing_nil' (wb:Nat) (a:WV) (w:World) (p:Option Addr) (c:Nat) (h0:Ow Tryd.prog (inT [(wb,39,wc {a with fp:=p,ff:=([]:List Int),fc:=c})]) w w [(wb,39,wc {a with fp:=p,ff:=([]:List Int),fc:=c})])  :
    Calls Tryd.prog 21 #[pt wb] w fun e w'=>e = .returned (.bool false)/\Ow Tryd.prog (inT [(wb,39,wc {a with fp:=p,ff:=([]:List Int),fc:=c})]) w w' [(wb,39,wc {a with fp:=p,ff:=([]:List Int),fc:=c})]:=by
 refine c_enter (args:=[pt wb]) (m:=25) (n:=26) Tryd.func21 rfl (by kernel_rfl) (by kernel_rfl) fun fr hA=>?_
 generalize inT [(wb,39,wc {a with fp:=p,ff:=([]:List Int),fc:=c})]=M at *
 have hO:Ow Tryd.prog M w w [(wb,39,(wc {a with fp:=p,ff:=([]:List Int),fc:=c}))]:=h0.to (by first | rfl | first | rfl | (simp only [TP,apd]))
 refine Sa [(2,bl false)] hA fun fr hA=>?_
 refine wp_seq ?_
 refine Sb [(9,bl (((([]:List Int).length:Nat):Int) == 0))] hA [.slice p (([]:List Int).length) c] (cc (hO.l1 0 23 33 (.slice p (([]:List Int).length) c)) c0) fun fr hA=>?_
 rw [(rfl:(((([]:List Int).length:Nat):Int) == 0)=true)] at hA
 refine cT hA ?_
 refine Sa [] hA fun fr hA=>?_
 refine wp_ret ?_
 refine then_ret ?_
 refine cv [bl false] hA ?_
 exact ⟨rfl,hO.to⟩
theorem vw_nil_any {w:World} {p:Option Addr} {m c:Nat} {x:Int} (h:Vw fB w (.slice p m c) [x]) (c':Nat):Vw fB w (.slice p 0 c') []:=Vw.nil_any h c'
theorem failing_any (wb:Nat) (a:WV) (w:World) (h0:Ow Tryd.prog (inT [(wb,39,wc a)]) w w [(wb,39,wc a)]) (hv:Vw fB w (.slice a.fp a.ff.length a.fc) a.ff) (hc:a.ff.length<=a.fc) :
    Calls Tryd.prog 21 #[pt wb] w fun e w'=>e = .returned (.bool (failB a.d))/\∃ p c,Ow Tryd.prog (inT [(wb,39,wc a)]) w w' [(wb,39,wc {a with fp:=p,ff:=a.ff.tail,fc:=c})]/\a.ff.tail.length<=c/\∀ w,Vw fB w (.slice a.fp a.ff.length a.fc) a.ff->Vw fB w (.slice p a.ff.tail.length c) a.ff.tail:=by
  obtain ⟨sv,x,fl,ip,ic,il,fp,fc,ff,pipes,tasks,ap,ac,al,rp,rc,rl,wp,wk,wl,told,exit,leak,ok⟩:=a
  cases ff with
  | nil =>
    have hv':Vw fB w (.slice fp 0 fc) []:=hv
    rcases hv' with ⟨h,_⟩ | ⟨ad,c,h,_⟩
    · cases h
      exact (failing_nil wb ⟨sv,x,fl,ip,ic,il,none,0,[],pipes,tasks,ap,ac,al,rp,rc,rl,wp,wk,wl,told,exit,leak,ok⟩ w h0).mono fun e w' h=>⟨h.1,none,0,h.2,Nat.le_refl _,fun w h=>h⟩
    · cases h
      exact (failing_nil' wb ⟨sv,x,fl,ip,ic,il,some ad,fc,[],pipes,tasks,ap,ac,al,rp,rc,rl,wp,wk,wl,told,exit,leak,ok⟩ w (some ad) fc h0).mono fun e w' h=>⟨h.1,some ad,fc,h.2,Nat.zero_le _,fun w h=>h⟩
  | cons f0 frs =>
    obtain ⟨ad,rfl⟩:=hv.pos (Nat.zero_lt_succ _)
    by_cases h1 : 1 < fc
    · exact (failing_more wb ⟨sv,x,fl,ip,ic,il,some ad,fc,f0::frs,pipes,tasks,ap,ac,al,rp,rc,rl,wp,wk,wl,told,exit,leak,ok⟩ ad fc f0 frs w h0 hv hc h1).mono fun e w' h=>⟨h.1,_,_,h.2,by (have hc':frs.length+1<=fc:=hc); show frs.length<=fc - 1; omega,fun w h=>Vw.tail encB h⟩
    · have hc':frs.length+1<=fc:=hc
      obtain rfl:fc=1:=by omega
      obtain rfl:frs=[]:=List.length_eq_zero_iff.1 (by omega)
      exact (failing_last wb ⟨sv,x,fl,ip,ic,il,some ad,1,[f0],pipes,tasks,ap,ac,al,rp,rc,rl,wp,wk,wl,told,exit,leak,ok⟩ ad f0 [] w h0 hv hc).mono fun e w' h=>⟨h.1,_,_,h.2,Nat.le_refl _,fun w h=>vw_nil_any h _⟩
end Go.Proofs.YtdljjajjonfjbaaDoor
