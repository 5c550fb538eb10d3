import Derived.Test.YtdljjajjonfjbaaDoorShq
import Derived.Test.YtdljjajjonfjbaaDoorSn
set_option linter.unusedVariables false
set_option linter.unusedSimpArgs false
set_option maxRecDepth 10000
namespace Go.Proofs.YtdljjajjonfjbaaDoor
open Go Go.Shelf Go.RowKit Go.Proofs Go.Proofs.Sx
def neT (r:Int) (t:Int):Bool:=!(t == r / 256)
section
variable {r:Int} {l m:List Int} {i j:Nat} {v:Int}
theorem del_step (h1:m.take i=(l.take j).filter (neT r)) (h2:m.drop j=l.drop j) (hx:l[j]? = some v) (hij:i < j) (hl:m.length=l.length) (hq:neT r v=true) :
    (m.set i v).take (i+1)=(l.take (j+1)).filter (neT r)/\(m.set i v).drop (j+1)=l.drop (j+1)/\(m.set i v).length=l.length:=by
 have hj:=(List.getElem?_eq_some_iff.1 hx).1
 refine ⟨?_,?_,by rw [List.length_set,hl]⟩
 · rw [List.take_add_one,List.take_add_one,hx,List.filter_append,← h1]
   rw [List.take_set_of_le (Nat.le_refl i),List.getElem?_set_self (by omega)]
   simp [hq]
 rw [List.drop_set_of_lt (by omega)]
 have:=congrArg (List.drop 1) h2
 rwa [List.drop_drop,List.drop_drop] at this
theorem del_no (h1:m.take i=(l.take j).filter (neT r)) (h2:m.drop j=l.drop j) (hx:l[j]? = some v) (hq:neT r v=false) :
    m.take i=(l.take (j+1)).filter (neT r)/\m.drop (j+1)=l.drop (j+1):=by
 refine ⟨?_,?_⟩
 · rw [List.take_add_one,hx,List.filter_append,← h1]
   simp [hq]
 have:=congrArg (List.drop 1) h2
 rwa [List.drop_drop,List.drop_drop] at this
theorem del_at (h2:m.drop j=l.drop j) (hx:l[j]? = some v):m[j]? = some v:=by
 have h:=congrArg (fun q=>q[0]?) h2
 simp only [List.getElem?_drop,Nat.add_zero] at h
 rw [h]; exact hx
theorem del_end (h1:m.take i=(l.take j).filter (neT r)) (hj : ¬ j < l.length):m.take i=l.filter (neT r):=by rw [h1,List.take_of_length_le (show l.length<=j by omega)]
theorem pre_step (h:(l.take i).filter (neT r)=l.take i) (hx:l[i]? = some v) (hq:neT r v=true):(l.take (i+1)).filter (neT r)=l.take (i+1):=by
 rw [List.take_add_one,hx,List.filter_append,h]; simp [hq]
theorem pre_end (h:(l.take i).filter (neT r)=l.take i) (hi : ¬ i < l.length):l.filter (neT r)=l:=by rwa [List.take_of_length_le (by omega)] at h
theorem pre_del (h:(l.take i).filter (neT r)=l.take i) (hx:l[i]? = some v) (hq:neT r v=false):l.take i=(l.take (i+1)).filter (neT r):=by
 rw [List.take_add_one,hx,List.filter_append,h]; simp [hq]
theorem neT_t {t:Int} (h:(t == r / 256)=true):neT r t=false:=by unfold neT; rw [h]; rfl
theorem neT_f {t:Int} (h:(t == r / 256)=false):neT r t=true:=by unfold neT; rw [h]; rfl
theorem filt_le (l:List Int) (q:Int->Bool):(l.filter q).length<=l.length:=List.length_filter_le _ _
theorem set_fl (l:List Int) (hi:i < l.length) (v:Int):setL (l.flatMap fN) i [.int .i64 v]=(l.set i v).flatMap fN:=by
 have:=setL_el encN (k:=0) (vc:=[.int .i64 v]) (y:=v) l i (l[i]) (List.getElem?_eq_getElem hi) rfl (by show 0+1<=1; decide)
 rwa [Nat.mul_one,Nat.add_zero] at this
theorem take_rep {i n:Nat} (hi:i<=l.length):(l.take i++List.replicate n (0:Int)).take i=l.take i:=by
 rw [List.take_append_of_le_length (by rw [List.length_take]; omega),List.take_take,Nat.min_self]
end
theorem step1_any (t r:Int) (rb:Nat) (w:World) (hr:Ld Tryd.prog w ⟨rb,0,none⟩ 3 (i64 r)) (h0 : 0<=r) (hx:r<=9223372036854775807) :
    Calls Tryd.prog 32 #[i64 t,pt rb] w fun e w'=>e = .returned (.bool (t == r / 256))/\Only none' w w':=by
 refine c_enter (args:=[i64 t,pt rb]) (m:=6) (n:=8) Tryd.func32 rfl (by kernel_rfl) (by kernel_rfl) fun fr hA=>?_
 have hO:=Ow.nil Tryd.prog none' w
 refine Sa [(3,bl false)] hA fun fr hA=>?_
 refine Sb [(3,bl (t == (r / 256)))] hA [i64 r,bl true] (cc (hr:Ld Tryd.prog w ⟨rb,0,none⟩ 3 (i64 r)) (cc (⟨by omega,by omega,inK_i64 (by omega) (by omega)⟩:(0:Int)<=r/\(0:Int) < 256/\inK .i64 r) c0)) fun fr hA=>?_
 refine wp_ret ?_
 refine cv [bl (t == (r / 256))] hA ?_
 have hF:=hO.only; clear hA hO
 exact ⟨rfl,hF⟩
theorem ixi_any (p:Option Addr) (c:Nat) (l:List Int) (w:World) (hv:Vw fN w (.slice p l.length c) l) (hm:l.length<=1000000) (r:Int) (rb:Nat) (hr : ∀ w',Only none' w w'->Ld Tryd.prog w' ⟨rb,0,none⟩ 3 (i64 r)) (h0r : 0<=r) (hxr:r<=9223372036854775807) :
    Calls Tryd.prog 47 #[.slice p l.length c,.func (.func 32) #[] #[pt rb]] w fun e w'=>(e = .returned (i64 (-1))/\l.filter (neT r)=l\/∃ k v,e = .returned (i64 ((k:Nat):Int))/\l[k]? = some v/\neT r v=false/\(l.take k).filter (neT r)=l.take k)/\Only none' w w':=by
 refine c_enter (args:=[.slice p l.length c,.func (.func 32) #[] #[pt rb]]) (m:=17) (n:=19) Tryd.func47 rfl (by kernel_rfl) (by kernel_rfl) fun fr hA=>?_
 have hO:=Ow.nil Tryd.prog none' w
 refine Sa [(4,i64 0)] hA fun fr hA=>?_
 refine wp_seq ?_
 refine Sa [(7,i64 ((l.length:Nat):Int)),(8,i64 0)] hA fun fr hA=>?_
 refine wp_block ?_
 refine c_loop (fun mm fr W=>∃ (i:Nat),mm=l.length - i/\Holds 19 [] fr [(0,.slice p l.length c),(1,.func (.func 32) #[] #[pt rb]),(4,i64 0),(7,i64 ((l.length:Nat):Int)),(8,i64 ((i:Nat):Int))]/\Ow Tryd.prog none' w W []/\i<=l.length/\(l.take i).filter (neT r)=l.take i/\True) ?_ ?_
 · exact ⟨_,0,rfl,hA.ss,hO.to,(Nat.zero_le _),rfl,trivial⟩
 rintro _ fr w1 ⟨i,rfl,hA,hO,hi,ho,-⟩
 refine Sa [(9,bl (decide (((i:Nat):Int) < ((l.length:Nat):Int))))] hA fun fr hA=>?_
 refine wp_seq ?_
 rcases Bool.eq_false_or_eq_true (decide (((i:Nat):Int) < ((l.length:Nat):Int))) with h1 | h1
 · rw [h1] at hA
   have h1p:=of_decide_eq_true h1
   obtain ⟨ad1,rfl⟩:=((hv.keep hO.only)).pos (by first | omega | exact Nat.zero_lt_succ _)
   obtain ⟨v1,hx1⟩ : ∃ x,(l)[i]? = some x:=⟨_,getD_at _ 0 (by first | omega | exact Nat.zero_lt_succ _)⟩
   refine cT hA ?_
   refine wp_skip ?_
   refine then_normal ?_
   refine wp_seq ?_
   refine wp_block ?_
   refine Sa [(0,.slice (some ad1) l.length c),(5,i64 ((i:Nat):Int))] hA fun fr hA=>?_
   refine sr 6 ?_
   refine Kb 5 [(11,.func (.func 32) #[] #[pt rb]),(15,i64 v1)] hA [i64 v1] (cc (⟨by omega,by omega⟩:(0:Int)<=((i:Nat):Int)/\((i:Nat):Int) < ((l.length:Nat):Int)) (cc ((ldN ((hv.keep hO.only)) hx1):Ld Tryd.prog w1 (ad1.add i) 3 (i64 v1)) c0)) fun fr hA=>?_
   refine Mk 16 hA hO Tryd.func32 (step1_any v1 r rb _ (hr _ hO.only) h0r hxr) fun fr w2 hA hO=>?_
   refine end_ops ?_
   refine then_normal ?_
   rcases Bool.eq_false_or_eq_true (v1 == r / 256) with h2 | h2
   · rw [h2] at hA
     have h2p:=eq_of_beq h2
     refine cT hA ?_
     refine Sa [(4,i64 ((i:Nat):Int))] hA fun fr hA=>?_
     refine wp_ret ?_
     refine inBlock_ret ?_
     refine then_ret ?_
     refine then_ret ?_
     refine inBlock_ret ?_
     refine then_ret ?_
     refine cv [i64 ((i:Nat):Int)] hA ?_
     have hF:=hO.only; clear hA hO
     exact ⟨.inr ⟨i,_,rfl,hx1,neT_t (by assumption),ho⟩,hF⟩
   rw [h2] at hA
   have h2p:=ne_of_beq_false h2
   refine cF hA ?_
   refine wp_skip ?_
   refine inBlock_normal ?_
   refine then_normal ?_
   refine Rc [(8,i64 (((i:Nat):Int)+1))] hA [bl true] (cc ((inK_i64 (by omega) (by omega)):inK .i64 (((i:Nat):Int)+1)) c0) fun fr hA=>?_
   refine then_normal ?_
   exact ⟨_,by omega,i+1,rfl,hA.ss,hO.to,(by omega),(pre_step ho hx1 (neT_f (by assumption))),trivial⟩
 rw [h1] at hA
 have h1p:=of_decide_eq_false h1
 refine cF hA ?_
 refine wp_exit ?_
 refine then_exit ?_
 refine then_exit ?_
 refine inBlock_exit ?_
 refine then_normal ?_
 refine Sa [(4,i64 (-1))] hA fun fr hA=>?_
 refine wp_ret ?_
 refine cv [i64 (-1)] hA ?_
 have hF:=hO.only; clear hA hO
 exact ⟨.inl ⟨rfl,pre_end ho (by omega)⟩,hF⟩
theorem atIx_one (ad:Addr) (i:Nat):atIx ad 1 ((i:Nat):Int)=ad.add i:=by rw [atIx_eq,Nat.mul_one]; rfl
theorem del_any (ad:Addr) (c:Nat) (l:List Int) (T:OwL) (r:Int) (rb:Nat) (w:World) (h1:One fN 3 1 (some ad) c l T) (h0:Ow Tryd.prog (inT T) w w T) (hm:l.length<=1000000) (hr : ∀ w',Only (inT T) w w'->Ld Tryd.prog w' ⟨rb,0,none⟩ 3 (i64 r)) (h0r : 0<=r) (hxr:r<=9223372036854775807) :
    Calls Tryd.prog 31 #[.slice (some ad) l.length c,.func (.func 32) #[] #[pt rb]] w fun e w'=>∃ T',e = .returned (.slice (some ad) (l.filter (neT r)).length c)/\One fN 3 1 (some ad) c (l.filter (neT r)) T'/\Ow Tryd.prog (inT T) w w' T':=by
 refine c_enter (args:=[.slice (some ad) l.length c,.func (.func 32) #[] #[pt rb]]) (m:=40) (n:=42) Tryd.func31 rfl (by kernel_rfl) (by kernel_rfl) fun fr hA=>?_
 generalize inT T=M at *
 have hO:Ow Tryd.prog M w w ([]++(T++([]))):=h0.to (by first | rfl | first | rfl | (simp only [TP,apd]))
 have hlc_:=h1.le
 refine Sa [(4,.slice none 0 0)] hA fun fr hA=>?_
 refine sr 4 ?_
 refine Ka 2 [(8,.slice (some ad) l.length c),(9,.func (.func 32) #[] #[pt rb])] hA fun fr hA=>?_
 refine wpOps_cons' (mC (d:=(some 10)) hA Tryd.func47 ((ixi_any (some ad) c l _ (One.vw h1 (A:=[]) (B:=[]) hO.m) hm r rb (fun w_ k_=>hr w_ (hO.only.step k_ (fun _ _ h_=>h_.elim))) h0r hxr).mono ?_))
 rintro en w1 ⟨(⟨rfl,hnone⟩ | ⟨k,v0,rfl,hk0,hkn,hkp⟩),ho⟩
 · refine ⟨_,rfl,?_⟩
   clear hA fr; intro fr hA
   replace hO:=hO.st ho; clear ho
   refine Ka 1 [(5,i64 (-1))] hA fun fr hA=>?_
   refine end_ops ?_
   refine then_normal ?_
   refine wp_seq ?_
   refine Sa [(12,bl true)] hA fun fr hA=>?_
   refine cT hA ?_
   refine Sa [(4,.slice (some ad) l.length c)] hA fun fr hA=>?_
   refine wp_ret ?_
   refine then_ret ?_
   refine cv [.slice (some ad) l.length c] hA ?_
   rw [hnone]
   exact ⟨T,rfl,h1,(hO).to (by simp only [List.nil_append,List.append_nil])⟩
 refine ⟨_,rfl,?_⟩
 clear hA fr; intro fr hA
 replace hO:=hO.st ho; clear ho
 have hkl:=(List.getElem?_eq_some_iff.1 hk0).1
 refine Ka 1 [(5,i64 ((k:Nat):Int))] hA fun fr hA=>?_
 refine end_ops ?_
 refine then_normal ?_
 refine wp_seq ?_
 refine Sa [(12,bl (((k:Nat):Int) == (-1)))] hA fun fr hA=>?_
 rw [(beq_eq_false_iff_ne.2 (by omega):(((k:Nat):Int) == (-1))=false)] at hA
 refine cF hA ?_
 refine wp_skip ?_
 refine then_normal ?_
 refine wp_seq ?_
 refine Sb [(6,i64 (((k:Nat):Int)+1))] hA [bl true] (cc ((inK_i64 (by omega) (by omega)):inK .i64 (((k:Nat):Int)+1)) c0) fun fr hA=>?_
 refine wp_block ?_
 refine c_loop (fun mm fr W=>∃ (i j:Nat) (m:List Int) (TL1:OwL),mm=l.length - j/\Holds 42 [] fr [(0,.slice (some ad) l.length c),(1,.func (.func 32) #[] #[pt rb]),(4,.slice none 0 0),(5,i64 ((i:Nat):Int)),(6,i64 ((j:Nat):Int))]/\Ow Tryd.prog M w W ([]++(TL1++([])))/\One fN 3 1 (some ad) c m TL1/\i < j/\j<=l.length/\m.length=l.length/\m.take i=(l.take j).filter (neT r)/\m.drop j=l.drop j/\True) ?_ ?_
 · exact ⟨_,k,k+1,l,T,rfl,hA.ss,hO.tt,h1,(Nat.lt_succ_self _),(by omega),rfl,(pre_del hkp hk0 hkn),rfl,trivial⟩
 rintro _ fr w2 ⟨i,j,m,TL1,rfl,hA,hO,hTL1,hij,hj,hml,hd1,hd2,-⟩
 refine wp_seq ?_
 refine Sa [(19,bl (decide (((j:Nat):Int) < ((l.length:Nat):Int))))] hA fun fr hA=>?_
 rcases Bool.eq_false_or_eq_true (decide (((j:Nat):Int) < ((l.length:Nat):Int))) with h1 | h1
 · rw [h1] at hA
   have h1p:=of_decide_eq_true h1
   obtain ⟨v,hxj⟩ : ∃ v,l[j]? = some v:=⟨_,List.getElem?_eq_getElem (by omega)⟩
   refine cT hA ?_
   refine wp_skip ?_
   refine then_normal ?_
   refine wp_seq ?_
   refine wp_block ?_
   refine Sb [(7,i64 v)] hA [i64 v] (cc (⟨by omega,by omega⟩:(0:Int)<=((j:Nat):Int)/\((j:Nat):Int) < ((l.length:Nat):Int)) (cc ((ldN ((show Vw fN _ (.slice (some ad) m.length c) m from One.vw hTL1 (A:=[]) (B:=[]) hO.m)) (del_at hd2 hxj)):Ld Tryd.prog w2 (ad.add j) 3 (i64 v)) c0)) fun fr hA=>?_
   refine sr 4 ?_
   refine Ka 2 [(26,.func (.func 32) #[] #[pt rb]),(27,i64 v)] hA fun fr hA=>?_
   refine Mk 28 hA hO Tryd.func32 (step1_any v r rb _ (hr _ hO.only) h0r hxr) fun fr w3 hA hO=>?_
   refine Ka 1 [(29,bl (!(v == r / 256)))] hA fun fr hA=>?_
   refine end_ops ?_
   refine then_normal ?_
   rcases Bool.eq_false_or_eq_true (v == r / 256) with h2 | h2
   · rw [h2] at hA
     have h2p:=eq_of_beq h2
     refine cF hA ?_
     refine wp_skip ?_
     refine inBlock_normal ?_
     refine then_normal ?_
     refine Rc [(6,i64 (((j:Nat):Int)+1))] hA [bl true] (cc ((inK_i64 (by omega) (by omega)):inK .i64 (((j:Nat):Int)+1)) c0) fun fr hA=>?_
     refine then_normal ?_
     exact ⟨_,by omega,i,j+1,m,TL1,rfl,hA.ss,hO.tt,hTL1,(by omega),(by omega),hml,(del_no hd1 hd2 hxj (neT_t (by assumption))).1,(del_no hd1 hd2 hxj (neT_t (by assumption))).2,trivial⟩
   rw [h2] at hA
   have h2p:=ne_of_beq_false h2
   refine cT hA ?_
   refine sr 5 ?_
   refine Kb 4 [(32,i64 v),(33,.pointer (some (ad.add i)))] hA [] (cc (⟨by omega,by omega⟩:(0:Int)<=((i:Nat):Int)/\((i:Nat):Int) < ((l.length:Nat):Int)) c0) fun fr hA=>?_
   refine wpOps_cons' (mSE (f:=fN) (el:=3) (ad:=ad) (ad':=ad.add i) (c:=c) (off:=i) (l':=m.set i v) encN hA hO hTL1 (set_fl m (by omega) v) (by rw [List.length_set]) (by show i+1<=_; omega) rfl fun w4 T1 hO hT1=>?_)
   refine end_ops ?_
   refine then_normal ?_
   refine Rc [(5,i64 (((i:Nat):Int)+1))] hA [bl true] (cc ((inK_i64 (by omega) (by omega)):inK .i64 (((i:Nat):Int)+1)) c0) fun fr hA=>?_
   refine inBlock_normal ?_
   refine then_normal ?_
   refine Rc [(6,i64 (((j:Nat):Int)+1))] hA [bl true] (cc ((inK_i64 (by omega) (by omega)):inK .i64 (((j:Nat):Int)+1)) c0) fun fr hA=>?_
   refine then_normal ?_
   exact ⟨_,by omega,i+1,j+1,m.set i v,T1,rfl,hA.ss,hO.tt,hT1,(by omega),(by omega),(del_step hd1 hd2 hxj hij hml (neT_f (by assumption))).2.2,(del_step hd1 hd2 hxj hij hml (neT_f (by assumption))).1,(del_step hd1 hd2 hxj hij hml (neT_f (by assumption))).2.1,trivial⟩
 rw [h1] at hA
 have h1p:=of_decide_eq_false h1
 refine cF hA ?_
 refine wp_exit ?_
 refine then_exit ?_
 refine then_exit ?_
 refine inBlock_exit ?_
 refine then_normal ?_
 refine sr 4 ?_
 refine Kb 3 [(38,.slice (some (atIx (ad:Addr) 1 ((i:Nat):Int))) ((l.length) - (i)) ((c) - (i)))] hA [bl true] (cc (⟨by omega,by omega,by omega,by omega,by omega⟩:(0:Int)<=((i:Nat):Int)/\(((i:Nat):Int):Int)<=((l.length:Nat):Int)/\(((l.length:Nat):Int):Int)<=((c:Nat):Int)/\((c:Nat):Int)<=((c:Nat):Int)/\((i:Nat):Int) < ((c:Nat):Int)) c0) fun fr hA=>?_
 rw [show atIx ad 1 ((i:Nat):Int)=((ad.add i):Addr) from (atIx_one _ _)] at hA
 rw [show ((l.length) - (i))=(l.length - i) from rfl] at hA
 rw [show ((c) - (i))=(c - i) from rfl] at hA
 replace hO:Ow Tryd.prog M w w2 ([]++(TL1++([]))):=hO
 refine wpOps_cons' (mCl (f:=fN) (el:=3) (ad:=ad) (ad':=ad.add i) (c:=c) (c':=c - i) (i:=i) (m:=l.length - i) (x0:=0) (z:=i64 0) (t:=28) (ty:=0) (d:=none) encN hA hO hTL1 (by omega) (by omega) rfl rfl fun fr w5 T2 hA hO hT2=>?_)
 refine end_ops ?_
 refine then_normal ?_
 refine Sb [(4,.slice (some ad) i ((c) - (0)))] hA [bl false] (cc (⟨by omega,by omega,by omega,by omega,by omega⟩:(0:Int)<=0/\(0:Int)<=((i:Nat):Int)/\(((i:Nat):Int):Int)<=((c:Nat):Int)/\((c:Nat):Int)<=((c:Nat):Int)/\((0:Int)=((c:Nat):Int)\/(0:Int)=0)) c0) fun fr hA=>?_
 rw [show ((c) - (0))=c from rfl] at hA
 refine wp_ret ?_
 refine cv [.slice (some ad) i c] hA ?_
 have hfe:=del_end hd1 (by omega)
 have hcut:=(hT2).cutL i
 rw [take_rep (by omega),hfe] at hcut
 have hle:=congrArg List.length hfe
 rw [List.length_take] at hle
 exact ⟨_,by rw [← hle,Nat.min_eq_left (by omega)]; rfl,hcut,(hO).to (by simp only [List.nil_append,List.append_nil])⟩
end Go.Proofs.YtdljjajjonfjbaaDoor
