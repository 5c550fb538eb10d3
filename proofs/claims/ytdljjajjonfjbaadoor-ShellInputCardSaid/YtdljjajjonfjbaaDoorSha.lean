import Derived.Test.YtdljjajjonfjbaaDoorShBase
import Derived.Test.YtdljjajjonfjbaaDoorSn
set_option linter.unusedVariables false
set_option linter.unusedSimpArgs false
set_option maxRecDepth 10000
namespace Go.Proofs.YtdljjajjonfjbaaDoor
open Go Go.Shelf Go.RowKit Go.Proofs Go.Proofs.Sx
theorem new_any (w:World) :
    Calls Tryd.prog 9 #[] w fun e w'=>e = .returned (.agg #[i64 0,i64 0,str ⟨#[]⟩,.slice none 0 0,i64 (-1),i64 (-1),i64 (-1),.slice none 0 0,.slice none 0 0])/\Only none' w w':=by
 refine c_enter (args:=[]) (m:=2) (n:=2) Tryd.func9 rfl (by kernel_rfl) (by kernel_rfl) fun fr hA=>?_
 have hO:=Ow.nil Tryd.prog none' w
 refine sr 1 ?_
 refine Mn [i64 0,i64 0,str (⟨#[]⟩),.slice none 0 0,i64 0,i64 0,i64 0,.slice none 0 0,.slice none 0 0] 31 0 hA hO fun fr w1 b1 hA hO=>?_
 refine end_ops ?_
 refine then_normal ?_
 refine sr 2 ?_
 refine Ka 1 [(1,.agg #[i64 0,i64 0,str (⟨#[]⟩),.slice none 0 0,i64 (-1),i64 (-1),i64 (-1),.slice none 0 0,.slice none 0 0])] hA fun fr hA=>?_
 refine Ms 0 [i64 0,i64 0,str (⟨#[]⟩),.slice none 0 0,i64 (-1),i64 (-1),i64 (-1),.slice none 0 0,.slice none 0 0] 0 hA hO fun w2 hO=>?_
 refine end_ops ?_
 refine then_normal ?_
 refine wp_ret ?_
 refine cR (cs:=[some (⟨b1,0,none⟩,31)]) (us:=[.agg #[i64 0,i64 0,str (⟨#[]⟩),.slice none 0 0,i64 (-1),i64 (-1),i64 (-1),.slice none 0 0,.slice none 0 0]]) hA [.agg #[i64 0,i64 0,str (⟨#[]⟩),.slice none 0 0,i64 (-1),i64 (-1),i64 (-1),.slice none 0 0,.slice none 0 0]] ⟨(hO.ln 0 0 31 [i64 0,i64 0,str (⟨#[]⟩),.slice none 0 0,i64 (-1),i64 (-1),i64 (-1),.slice none 0 0,.slice none 0 0]),trivial⟩ ?_
 have hF:=hO.only; clear hA hO
 exact ⟨rfl,hF⟩
theorem call_0 (n:Int) (w:World) :
    Calls Tryd.prog 12 #[i64 n,.slice none 0 0] w fun e w'=>e = .returned (.agg #[i64 n,i64 0,i64 0,i64 0,.slice none 0 0])/\Only none' w w':=by
 refine c_enter (args:=[i64 n,.slice none 0 0]) (m:=11) (n:=13) Tryd.func12 rfl (by kernel_rfl) (by kernel_rfl) fun fr hA=>?_
 have hO:=Ow.nil Tryd.prog none' w
 refine sr 1 ?_
 refine Mn [i64 0,i64 0,i64 0,i64 0,.slice none 0 0] 35 4 hA hO fun fr w1 b1 hA hO=>?_
 refine end_ops ?_
 refine then_normal ?_
 refine sr 4 ?_
 refine Ka 2 [(7,.agg #[i64 n,i64 0,i64 0,i64 0,.slice none 0 0])] hA fun fr hA=>?_
 refine Mn [i64 0,i64 0,i64 0,i64 0,.slice none 0 0] 35 5 hA hO fun fr w2 b2 hA hO=>?_
 refine Ms 0 [i64 n,i64 0,i64 0,i64 0,.slice none 0 0] 0 hA hO fun w3 hO=>?_
 refine end_ops ?_
 refine then_normal ?_
 refine sr 4 ?_
 refine Kb 3 [(9,.slice (some ⟨b2,1,none⟩) 3 3),(10,.slice none 0 0)] hA [bl false] (cc (⟨by omega,by omega,by omega,by omega,by omega⟩:(0:Int)<=0/\(0:Int)<=((3:Nat):Int)/\((3:Nat):Int)<=((3:Nat):Int)/\((3:Nat):Int)<=((3:Nat):Int)/\((0:Int)=((3:Nat):Int)\/(0:Int)=0)) c0) fun fr hA=>?_
 refine wpOps_cons' (mY (f:=fN) (el:=3) (L:=[(b2,35,[i64 n,i64 0,i64 0,i64 0,.slice none 0 0]),(b1,35,[i64 0,i64 0,i64 0,i64 0,.slice none 0 0])]) (t:=28) (tx:=28) (ty:=3) (x:= .slice none 0 0) (xs:=[]) (off:=1) (dl:=3) (dc:=3) (m:=0) (d:=(some 11)) (l':=[i64 n,i64 0,i64 0,i64 0,.slice none 0 0]) 0 encN hA hO (.inl ⟨rfl,rfl⟩) rfl (Nat.le_of_ble_eq_true (by kernel_rfl)) (by kernel_rfl) ?_ (by omega))
 clear hA hO fr; intro fr w4 hA hO
 refine end_ops ?_
 refine then_normal ?_
 refine sr 2 ?_
 refine Kb 1 [(12,.agg #[i64 n,i64 0,i64 0,i64 0,.slice none 0 0])] hA [.agg #[i64 n,i64 0,i64 0,i64 0,.slice none 0 0]] (cc (hO.ln 0 0 35 [i64 n,i64 0,i64 0,i64 0,.slice none 0 0]) c0) fun fr hA=>?_
 refine Ms 0 [i64 n,i64 0,i64 0,i64 0,.slice none 0 0] 1 hA hO fun w5 hO=>?_
 refine end_ops ?_
 refine then_normal ?_
 refine wp_ret ?_
 refine cR (cs:=[some (⟨b1,0,none⟩,35)]) (us:=[.agg #[i64 n,i64 0,i64 0,i64 0,.slice none 0 0]]) hA [.agg #[i64 n,i64 0,i64 0,i64 0,.slice none 0 0]] ⟨(hO.ln 1 0 35 [i64 n,i64 0,i64 0,i64 0,.slice none 0 0]),trivial⟩ ?_
 have hF:=hO.only; clear hA hO
 exact ⟨rfl,hF⟩
theorem call_1 (n x0:Int) (ad:Addr) (c:Nat) (w:World) (hv:Vw fN w (.slice (some ad) 1 c) [x0]) :
    Calls Tryd.prog 12 #[i64 n,.slice (some ad) 1 c] w fun e w'=>e = .returned (.agg #[i64 n,i64 x0,i64 0,i64 0,.slice none 0 0])/\Only none' w w':=by
 refine c_enter (args:=[i64 n,.slice (some ad) 1 c]) (m:=11) (n:=13) Tryd.func12 rfl (by kernel_rfl) (by kernel_rfl) fun fr hA=>?_
 have hO:=Ow.nil Tryd.prog none' w
 refine sr 1 ?_
 refine Mn [i64 0,i64 0,i64 0,i64 0,.slice none 0 0] 35 4 hA hO fun fr w1 b1 hA hO=>?_
 refine end_ops ?_
 refine then_normal ?_
 refine sr 4 ?_
 refine Ka 2 [(7,.agg #[i64 n,i64 0,i64 0,i64 0,.slice none 0 0])] hA fun fr hA=>?_
 refine Mn [i64 0,i64 0,i64 0,i64 0,.slice none 0 0] 35 5 hA hO fun fr w2 b2 hA hO=>?_
 refine Ms 0 [i64 n,i64 0,i64 0,i64 0,.slice none 0 0] 0 hA hO fun w3 hO=>?_
 refine end_ops ?_
 refine then_normal ?_
 refine sr 4 ?_
 refine Kb 3 [(9,.slice (some ⟨b2,1,none⟩) 3 3),(10,.slice (some ad) 1 c)] hA [bl false] (cc (⟨by omega,by omega,by omega,by omega,by omega⟩:(0:Int)<=0/\(0:Int)<=((3:Nat):Int)/\((3:Nat):Int)<=((3:Nat):Int)/\((3:Nat):Int)<=((3:Nat):Int)/\((0:Int)=((3:Nat):Int)\/(0:Int)=0)) c0) fun fr hA=>?_
 refine wpOps_cons' (mY (f:=fN) (el:=3) (L:=[(b2,35,[i64 n,i64 0,i64 0,i64 0,.slice none 0 0]),(b1,35,[i64 0,i64 0,i64 0,i64 0,.slice none 0 0])]) (t:=28) (tx:=28) (ty:=3) (x:= .slice (some ad) 1 c) (xs:=[x0]) (off:=1) (dl:=3) (dc:=3) (m:=1) (d:=(some 11)) (l':=[i64 n,i64 x0,i64 0,i64 0,.slice none 0 0]) 0 encN hA hO (hv.keep hO.only) rfl (Nat.le_of_ble_eq_true (by kernel_rfl)) (by kernel_rfl) ?_ (by omega))
 clear hA hO fr; intro fr w4 hA hO
 refine end_ops ?_
 refine then_normal ?_
 refine sr 2 ?_
 refine Kb 1 [(12,.agg #[i64 n,i64 x0,i64 0,i64 0,.slice none 0 0])] hA [.agg #[i64 n,i64 x0,i64 0,i64 0,.slice none 0 0]] (cc (hO.ln 0 0 35 [i64 n,i64 x0,i64 0,i64 0,.slice none 0 0]) c0) fun fr hA=>?_
 refine Ms 0 [i64 n,i64 x0,i64 0,i64 0,.slice none 0 0] 1 hA hO fun w5 hO=>?_
 refine end_ops ?_
 refine then_normal ?_
 refine wp_ret ?_
 refine cR (cs:=[some (⟨b1,0,none⟩,35)]) (us:=[.agg #[i64 n,i64 x0,i64 0,i64 0,.slice none 0 0]]) hA [.agg #[i64 n,i64 x0,i64 0,i64 0,.slice none 0 0]] ⟨(hO.ln 1 0 35 [i64 n,i64 x0,i64 0,i64 0,.slice none 0 0]),trivial⟩ ?_
 have hF:=hO.only; clear hA hO
 exact ⟨rfl,hF⟩
theorem call_2 (n x0 x1:Int) (ad:Addr) (c:Nat) (w:World) (hv:Vw fN w (.slice (some ad) 2 c) [x0,x1]) :
    Calls Tryd.prog 12 #[i64 n,.slice (some ad) 2 c] w fun e w'=>e = .returned (.agg #[i64 n,i64 x0,i64 x1,i64 0,.slice none 0 0])/\Only none' w w':=by
 refine c_enter (args:=[i64 n,.slice (some ad) 2 c]) (m:=11) (n:=13) Tryd.func12 rfl (by kernel_rfl) (by kernel_rfl) fun fr hA=>?_
 have hO:=Ow.nil Tryd.prog none' w
 refine sr 1 ?_
 refine Mn [i64 0,i64 0,i64 0,i64 0,.slice none 0 0] 35 4 hA hO fun fr w1 b1 hA hO=>?_
 refine end_ops ?_
 refine then_normal ?_
 refine sr 4 ?_
 refine Ka 2 [(7,.agg #[i64 n,i64 0,i64 0,i64 0,.slice none 0 0])] hA fun fr hA=>?_
 refine Mn [i64 0,i64 0,i64 0,i64 0,.slice none 0 0] 35 5 hA hO fun fr w2 b2 hA hO=>?_
 refine Ms 0 [i64 n,i64 0,i64 0,i64 0,.slice none 0 0] 0 hA hO fun w3 hO=>?_
 refine end_ops ?_
 refine then_normal ?_
 refine sr 4 ?_
 refine Kb 3 [(9,.slice (some ⟨b2,1,none⟩) 3 3),(10,.slice (some ad) 2 c)] hA [bl false] (cc (⟨by omega,by omega,by omega,by omega,by omega⟩:(0:Int)<=0/\(0:Int)<=((3:Nat):Int)/\((3:Nat):Int)<=((3:Nat):Int)/\((3:Nat):Int)<=((3:Nat):Int)/\((0:Int)=((3:Nat):Int)\/(0:Int)=0)) c0) fun fr hA=>?_
 refine wpOps_cons' (mY (f:=fN) (el:=3) (L:=[(b2,35,[i64 n,i64 0,i64 0,i64 0,.slice none 0 0]),(b1,35,[i64 0,i64 0,i64 0,i64 0,.slice none 0 0])]) (t:=28) (tx:=28) (ty:=3) (x:= .slice (some ad) 2 c) (xs:=[x0,x1]) (off:=1) (dl:=3) (dc:=3) (m:=2) (d:=(some 11)) (l':=[i64 n,i64 x0,i64 x1,i64 0,.slice none 0 0]) 0 encN hA hO (hv.keep hO.only) rfl (Nat.le_of_ble_eq_true (by kernel_rfl)) (by kernel_rfl) ?_ (by omega))
 clear hA hO fr; intro fr w4 hA hO
 refine end_ops ?_
 refine then_normal ?_
 refine sr 2 ?_
 refine Kb 1 [(12,.agg #[i64 n,i64 x0,i64 x1,i64 0,.slice none 0 0])] hA [.agg #[i64 n,i64 x0,i64 x1,i64 0,.slice none 0 0]] (cc (hO.ln 0 0 35 [i64 n,i64 x0,i64 x1,i64 0,.slice none 0 0]) c0) fun fr hA=>?_
 refine Ms 0 [i64 n,i64 x0,i64 x1,i64 0,.slice none 0 0] 1 hA hO fun w5 hO=>?_
 refine end_ops ?_
 refine then_normal ?_
 refine wp_ret ?_
 refine cR (cs:=[some (⟨b1,0,none⟩,35)]) (us:=[.agg #[i64 n,i64 x0,i64 x1,i64 0,.slice none 0 0]]) hA [.agg #[i64 n,i64 x0,i64 x1,i64 0,.slice none 0 0]] ⟨(hO.ln 1 0 35 [i64 n,i64 x0,i64 x1,i64 0,.slice none 0 0]),trivial⟩ ?_
 have hF:=hO.only; clear hA hO
 exact ⟨rfl,hF⟩
theorem user_any (t:Int) (w:World) :
    Calls Tryd.prog 35 #[i64 t] w fun e w'=>e = .returned (.bool (userB t))/\Only none' w w':=by
 refine c_enter (args:=[i64 t]) (m:=8) (n:=9) Tryd.func35 rfl (by kernel_rfl) (by kernel_rfl) fun fr hA=>?_
 have hO:=Ow.nil Tryd.prog none' w
 refine Sa [(2,bl false)] hA fun fr hA=>?_
 refine sr 7 ?_
 refine Ka 3 [(4,bl (decide (t ≥ 16))),(5,bl (decide (t ≥ 16)))] hA fun fr hA=>?_
 rcases Bool.eq_false_or_eq_true (decide (t ≥ 16)) with h1 | h1
 · rw [h1] at hA
   have h1p:=of_decide_eq_true h1
   refine Ka 4 [(2,bl (decide (t < 32)))] hA fun fr hA=>?_
   refine end_ops ?_
   refine then_normal ?_
   refine wp_ret ?_
   refine cv [bl (decide (t < 32))] hA ?_
   have hF:=hO.only; clear hA hO
   refine ⟨congrArg (fun b=>Ending.returned (.bool b)) ?_,hF⟩
   unfold userB
   first | exact (decide_eq_false (by omega)).symm | exact (decide_eq_true (by omega)).symm | exact decide_eq_decide.2 (by omega)
 rw [h1] at hA
 have h1p:=of_decide_eq_false h1
 refine Ka 4 [] hA fun fr hA=>?_
 refine end_ops ?_
 refine then_normal ?_
 refine wp_ret ?_
 refine cv [bl false] hA ?_
 have hF:=hO.only; clear hA hO
 refine ⟨congrArg (fun b=>Ending.returned (.bool b)) ?_,hF⟩
 unfold userB
 first | exact (decide_eq_false (by omega)).symm | exact (decide_eq_true (by omega)).symm | exact decide_eq_decide.2 (by omega)
theorem okC_dec (c:CallL):okC c=decide ((-1<=c.a0/\c.a0<=1000)/\(-1<=c.a1/\c.a1<=1000)/\(-1<=c.a2/\c.a2<=1000)/\(0<=c.call/\c.call < 20)/\c.data.length<=128):=by
 unfold okC argB
 rw [Bool.eq_iff_iff]; simp only [Bool.and_eq_true,decide_eq_true_eq]
theorem cvalid_any (x:PV) (w:World) :
    Calls Tryd.prog 37 #[.agg #[i64 x.d.call,i64 x.d.a0,i64 x.d.a1,i64 x.d.a2,.slice x.p x.d.data.length x.c]] w fun e w'=>e = .returned (.bool (okC x.d))/\Only none' w w':=by
 refine c_enter (args:=[.agg #[i64 x.d.call,i64 x.d.a0,i64 x.d.a1,i64 x.d.a2,.slice x.p x.d.data.length x.c]]) (m:=30) (n:=31) Tryd.func37 rfl (by kernel_rfl) (by kernel_rfl) fun fr hA=>?_
 have hO:=Ow.nil Tryd.prog none' w
 refine sr 2 ?_
 refine Mn [i64 x.d.call,i64 x.d.a0,i64 x.d.a1,i64 x.d.a2,.slice x.p x.d.data.length x.c] 35 1 hA hO fun fr w1 b1 hA hO=>?_
 refine Ka 1 [(2,bl false)] hA fun fr hA=>?_
 refine end_ops ?_
 refine then_normal ?_
 refine wp_seq ?_
 refine Sb [(6,.agg #[i64 x.d.a0,i64 x.d.a1,i64 x.d.a2]),(7,i64 0)] hA [.agg #[i64 x.d.a0,i64 x.d.a1,i64 x.d.a2]] (cc (hO.ln 0 1 32 [i64 x.d.a0,i64 x.d.a1,i64 x.d.a2]) c0) fun fr hA=>?_
 refine wp_block ?_
 refine c_loop (fun mm fr W=>(mm=3/\Holds 31 [] fr [(1,pt b1),(2,bl false),(6,.agg #[i64 x.d.a0,i64 x.d.a1,i64 x.d.a2]),(7,i64 0)]/\Ow Tryd.prog none' w W [(b1,35,[i64 x.d.call,i64 x.d.a0,i64 x.d.a1,i64 x.d.a2,.slice x.p x.d.data.length x.c])])\/(mm=2/\Holds 31 [] fr [(1,pt b1),(2,bl false),(6,.agg #[i64 x.d.a0,i64 x.d.a1,i64 x.d.a2]),(7,i64 1)]/\Ow Tryd.prog none' w W [(b1,35,[i64 x.d.call,i64 x.d.a0,i64 x.d.a1,i64 x.d.a2,.slice x.p x.d.data.length x.c])]/\(-1<=x.d.a0/\x.d.a0<=1000))\/(mm=1/\Holds 31 [] fr [(1,pt b1),(2,bl false),(6,.agg #[i64 x.d.a0,i64 x.d.a1,i64 x.d.a2]),(7,i64 2)]/\Ow Tryd.prog none' w W [(b1,35,[i64 x.d.call,i64 x.d.a0,i64 x.d.a1,i64 x.d.a2,.slice x.p x.d.data.length x.c])]/\(-1<=x.d.a0/\x.d.a0<=1000)/\(-1<=x.d.a1/\x.d.a1<=1000))\/(mm=0/\Holds 31 [] fr [(1,pt b1),(2,bl false),(6,.agg #[i64 x.d.a0,i64 x.d.a1,i64 x.d.a2]),(7,i64 3)]/\Ow Tryd.prog none' w W [(b1,35,[i64 x.d.call,i64 x.d.a0,i64 x.d.a1,i64 x.d.a2,.slice x.p x.d.data.length x.c])]/\(-1<=x.d.a0/\x.d.a0<=1000)/\(-1<=x.d.a1/\x.d.a1<=1000)/\(-1<=x.d.a2/\x.d.a2<=1000))) ?_ ?_
 · exact ⟨_,(.inl ⟨rfl,hA.sb,hO.to⟩)⟩
 rintro _ fr w2 (⟨rfl,hA,hO⟩ | ⟨rfl,hA,hO,hu⟩ | ⟨rfl,hA,hO,hu⟩ | ⟨rfl,hA,hO,hu⟩)
 · refine Sa [(8,bl true)] hA fun fr hA=>?_
   refine wp_seq ?_
   refine cT hA ?_
   refine wp_skip ?_
   refine then_normal ?_
   refine wp_seq ?_
   refine wp_block ?_
   refine Sb [(4,i64 x.d.a0)] hA [i64 x.d.a0] (cc (⟨by omega,by omega,by kernel_rfl⟩:(0:Int)<=0/\0 < ((3:Nat):Int)/\(#[i64 x.d.a0,i64 x.d.a1,i64 x.d.a2])[(0:Int).toNat*1]? = some (i64 x.d.a0)) c0) fun fr hA=>?_
   refine sr 6 ?_
   refine Ka 3 [(11,bl (decide (x.d.a0 < (-1)))),(12,bl (decide (x.d.a0 < (-1))))] hA fun fr hA=>?_
   rcases Bool.eq_false_or_eq_true (decide (x.d.a0 < (-1))) with h1 | h1
   · rw [h1] at hA
     have h1p:=of_decide_eq_true h1
     refine Ka 3 [(15,bl true)] hA fun fr hA=>?_
     refine end_ops ?_
     refine then_normal ?_
     refine cT hA ?_
     refine Sa [] hA fun fr hA=>?_
     refine wp_ret ?_
     refine inBlock_ret ?_
     refine then_ret ?_
     refine then_ret ?_
     refine inBlock_ret ?_
     refine then_ret ?_
     refine cv [bl false] hA ?_
     have hF:=hO.only; clear hA hO
     refine ⟨congrArg (fun b=>Ending.returned (.bool b)) ?_,hF⟩
     rw [okC_dec]
     first | exact (decide_eq_false (by omega)).symm | exact (decide_eq_true (by omega)).symm | exact decide_eq_decide.2 (by omega)
   rw [h1] at hA
   have h1p:=of_decide_eq_false h1
   refine Ka 3 [(15,bl (decide (x.d.a0 > 1000)))] hA fun fr hA=>?_
   refine end_ops ?_
   refine then_normal ?_
   rcases Bool.eq_false_or_eq_true (decide (x.d.a0 > 1000)) with h2 | h2
   · rw [h2] at hA
     have h2p:=of_decide_eq_true h2
     refine cT hA ?_
     refine Sa [] hA fun fr hA=>?_
     refine wp_ret ?_
     refine inBlock_ret ?_
     refine then_ret ?_
     refine then_ret ?_
     refine inBlock_ret ?_
     refine then_ret ?_
     refine cv [bl false] hA ?_
     have hF:=hO.only; clear hA hO
     refine ⟨congrArg (fun b=>Ending.returned (.bool b)) ?_,hF⟩
     rw [okC_dec]
     first | exact (decide_eq_false (by omega)).symm | exact (decide_eq_true (by omega)).symm | exact decide_eq_decide.2 (by omega)
   rw [h2] at hA
   have h2p:=of_decide_eq_false h2
   refine cF hA ?_
   refine wp_skip ?_
   refine inBlock_normal ?_
   refine then_normal ?_
   refine Rc [(7,i64 1)] hA [bl false] c0 fun fr hA=>?_
   refine then_normal ?_
   exact ⟨2,by decide,(.inr (.inl ⟨rfl,hA.sb,hO.to,(by omega)⟩))⟩
 · refine Sa [(7,i64 1),(8,bl true)] hA fun fr hA=>?_
   refine wp_seq ?_
   refine cT hA ?_
   refine wp_skip ?_
   refine then_normal ?_
   refine wp_seq ?_
   refine wp_block ?_
   refine Sb [(4,i64 x.d.a1)] hA [i64 x.d.a1] (cc (⟨by omega,by omega,by kernel_rfl⟩:(0:Int)<=1/\1 < ((3:Nat):Int)/\(#[i64 x.d.a0,i64 x.d.a1,i64 x.d.a2])[(1:Int).toNat*1]? = some (i64 x.d.a1)) c0) fun fr hA=>?_
   refine sr 6 ?_
   refine Ka 3 [(11,bl (decide (x.d.a1 < (-1)))),(12,bl (decide (x.d.a1 < (-1))))] hA fun fr hA=>?_
   rcases Bool.eq_false_or_eq_true (decide (x.d.a1 < (-1))) with h3 | h3
   · rw [h3] at hA
     have h3p:=of_decide_eq_true h3
     refine Ka 3 [(15,bl true)] hA fun fr hA=>?_
     refine end_ops ?_
     refine then_normal ?_
     refine cT hA ?_
     refine Sa [] hA fun fr hA=>?_
     refine wp_ret ?_
     refine inBlock_ret ?_
     refine then_ret ?_
     refine then_ret ?_
     refine inBlock_ret ?_
     refine then_ret ?_
     refine cv [bl false] hA ?_
     have hF:=hO.only; clear hA hO
     refine ⟨congrArg (fun b=>Ending.returned (.bool b)) ?_,hF⟩
     rw [okC_dec]
     first | exact (decide_eq_false (by omega)).symm | exact (decide_eq_true (by omega)).symm | exact decide_eq_decide.2 (by omega)
   rw [h3] at hA
   have h3p:=of_decide_eq_false h3
   refine Ka 3 [(15,bl (decide (x.d.a1 > 1000)))] hA fun fr hA=>?_
   refine end_ops ?_
   refine then_normal ?_
   rcases Bool.eq_false_or_eq_true (decide (x.d.a1 > 1000)) with h4 | h4
   · rw [h4] at hA
     have h4p:=of_decide_eq_true h4
     refine cT hA ?_
     refine Sa [] hA fun fr hA=>?_
     refine wp_ret ?_
     refine inBlock_ret ?_
     refine then_ret ?_
     refine then_ret ?_
     refine inBlock_ret ?_
     refine then_ret ?_
     refine cv [bl false] hA ?_
     have hF:=hO.only; clear hA hO
     refine ⟨congrArg (fun b=>Ending.returned (.bool b)) ?_,hF⟩
     rw [okC_dec]
     first | exact (decide_eq_false (by omega)).symm | exact (decide_eq_true (by omega)).symm | exact decide_eq_decide.2 (by omega)
   rw [h4] at hA
   have h4p:=of_decide_eq_false h4
   refine cF hA ?_
   refine wp_skip ?_
   refine inBlock_normal ?_
   refine then_normal ?_
   refine Rc [(7,i64 2)] hA [bl false] c0 fun fr hA=>?_
   refine then_normal ?_
   exact ⟨1,by decide,(.inr (.inr (.inl ⟨rfl,hA.sb,hO.to,(by omega)⟩)))⟩
 · refine Sa [(7,i64 2),(8,bl true)] hA fun fr hA=>?_
   refine wp_seq ?_
   refine cT hA ?_
   refine wp_skip ?_
   refine then_normal ?_
   refine wp_seq ?_
   refine wp_block ?_
   refine Sb [(4,i64 x.d.a2)] hA [i64 x.d.a2] (cc (⟨by omega,by omega,by kernel_rfl⟩:(0:Int)<=2/\2 < ((3:Nat):Int)/\(#[i64 x.d.a0,i64 x.d.a1,i64 x.d.a2])[(2:Int).toNat*1]? = some (i64 x.d.a2)) c0) fun fr hA=>?_
   refine sr 6 ?_
   refine Ka 3 [(11,bl (decide (x.d.a2 < (-1)))),(12,bl (decide (x.d.a2 < (-1))))] hA fun fr hA=>?_
   rcases Bool.eq_false_or_eq_true (decide (x.d.a2 < (-1))) with h5 | h5
   · rw [h5] at hA
     have h5p:=of_decide_eq_true h5
     refine Ka 3 [(15,bl true)] hA fun fr hA=>?_
     refine end_ops ?_
     refine then_normal ?_
     refine cT hA ?_
     refine Sa [] hA fun fr hA=>?_
     refine wp_ret ?_
     refine inBlock_ret ?_
     refine then_ret ?_
     refine then_ret ?_
     refine inBlock_ret ?_
     refine then_ret ?_
     refine cv [bl false] hA ?_
     have hF:=hO.only; clear hA hO
     refine ⟨congrArg (fun b=>Ending.returned (.bool b)) ?_,hF⟩
     rw [okC_dec]
     first | exact (decide_eq_false (by omega)).symm | exact (decide_eq_true (by omega)).symm | exact decide_eq_decide.2 (by omega)
   rw [h5] at hA
   have h5p:=of_decide_eq_false h5
   refine Ka 3 [(15,bl (decide (x.d.a2 > 1000)))] hA fun fr hA=>?_
   refine end_ops ?_
   refine then_normal ?_
   rcases Bool.eq_false_or_eq_true (decide (x.d.a2 > 1000)) with h6 | h6
   · rw [h6] at hA
     have h6p:=of_decide_eq_true h6
     refine cT hA ?_
     refine Sa [] hA fun fr hA=>?_
     refine wp_ret ?_
     refine inBlock_ret ?_
     refine then_ret ?_
     refine then_ret ?_
     refine inBlock_ret ?_
     refine then_ret ?_
     refine cv [bl false] hA ?_
     have hF:=hO.only; clear hA hO
     refine ⟨congrArg (fun b=>Ending.returned (.bool b)) ?_,hF⟩
     rw [okC_dec]
     first | exact (decide_eq_false (by omega)).symm | exact (decide_eq_true (by omega)).symm | exact decide_eq_decide.2 (by omega)
   rw [h6] at hA
   have h6p:=of_decide_eq_false h6
   refine cF hA ?_
   refine wp_skip ?_
   refine inBlock_normal ?_
   refine then_normal ?_
   refine Rc [(7,i64 3)] hA [bl false] c0 fun fr hA=>?_
   refine then_normal ?_
   exact ⟨0,by decide,(.inr (.inr (.inr ⟨rfl,hA.sb,hO.to,(by omega)⟩)))⟩
 refine Sa [(7,i64 3),(8,bl false)] hA fun fr hA=>?_
 refine wp_seq ?_
 refine cF hA ?_
 refine wp_exit ?_
 refine then_exit ?_
 refine then_exit ?_
 refine inBlock_exit ?_
 refine then_normal ?_
 refine sr 15 ?_
 refine Kb 4 [(19,bl (decide (x.d.call ≥ 0))),(20,bl (decide (x.d.call ≥ 0)))] hA [i64 x.d.call] (cc (hO.l1 0 0 3 (i64 x.d.call)) c0) fun fr hA=>?_
 rcases Bool.eq_false_or_eq_true (decide (x.d.call ≥ 0)) with h7 | h7
 · rw [h7] at hA
   have h7p:=of_decide_eq_true h7
   refine Kb 5 [(23,bl (decide (x.d.call < 20))),(24,bl (decide (x.d.call < 20))),(25,bl (decide (x.d.call < 20)))] hA [i64 x.d.call] (cc (hO.l1 0 0 3 (i64 x.d.call)) c0) fun fr hA=>?_
   rcases Bool.eq_false_or_eq_true (decide (x.d.call < 20)) with h8 | h8
   · rw [h8] at hA
     have h8p:=of_decide_eq_true h8
     refine Kb 6 [(2,bl (decide (((x.d.data.length:Nat):Int)<=128)))] hA [.slice x.p x.d.data.length x.c] (cc (hO.l1 0 4 33 (.slice x.p x.d.data.length x.c)) c0) fun fr hA=>?_
     refine end_ops ?_
     refine then_normal ?_
     refine wp_ret ?_
     refine cv [bl (decide (((x.d.data.length:Nat):Int)<=128))] hA ?_
     have hF:=hO.only; clear hA hO
     refine ⟨congrArg (fun b=>Ending.returned (.bool b)) ?_,hF⟩
     rw [okC_dec]
     first | exact (decide_eq_false (by omega)).symm | exact (decide_eq_true (by omega)).symm | exact decide_eq_decide.2 (by omega)
   rw [h8] at hA
   have h8p:=of_decide_eq_false h8
   refine Ka 6 [] hA fun fr hA=>?_
   refine end_ops ?_
   refine then_normal ?_
   refine wp_ret ?_
   refine cv [bl false] hA ?_
   have hF:=hO.only; clear hA hO
   refine ⟨congrArg (fun b=>Ending.returned (.bool b)) ?_,hF⟩
   rw [okC_dec]
   first | exact (decide_eq_false (by omega)).symm | exact (decide_eq_true (by omega)).symm | exact decide_eq_decide.2 (by omega)
 rw [h7] at hA
 have h7p:=of_decide_eq_false h7
 refine Ka 11 [] hA fun fr hA=>?_
 refine end_ops ?_
 refine then_normal ?_
 refine wp_ret ?_
 refine cv [bl false] hA ?_
 have hF:=hO.only; clear hA hO
 refine ⟨congrArg (fun b=>Ending.returned (.bool b)) ?_,hF⟩
 rw [okC_dec]
 first | exact (decide_eq_false (by omega)).symm | exact (decide_eq_true (by omega)).symm | exact decide_eq_decide.2 (by omega)
end Go.Proofs.YtdljjajjonfjbaaDoor
