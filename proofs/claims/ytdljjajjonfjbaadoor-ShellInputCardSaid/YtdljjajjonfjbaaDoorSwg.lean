import Derived.Test.YtdljjajjonfjbaaDoorSwf
import Derived.Test.YtdljjajjonfjbaaDoorShInputc
import Derived.Test.YtdljjajjonfjbaaDoorSn
set_option linter.unusedVariables false
set_option linter.unusedSimpArgs false
set_option maxRecDepth 10000
namespace Go.Proofs.YtdljjajjonfjbaaDoor
open Go Go.Shelf Go.RowKit Go.Proofs Go.Proofs.Sx
theorem play_sm : ∀ (m i:Nat) (w:WL),smW i w->smW (i+m) (playF m w)
  | 0,i,w,h=>h
  | m+1,i,w,h=>by
    by_cases he:w.exit < 0
    · rw [play_on he,show i+(m+1)=(i+1)+m by omega]
      exact play_sm m (i+1) _ h.step
    · rw [play_end he]
      have : ∀ k,smW (i+k) w:=fun k=>by
        induction k with
        | zero=>exact h
        | succ k ih=>exact ih.up
      exact this _
theorem play_runs (inp:List ByteArray) (fails:List Int):(playW inp fails).runs.length<=900:=by
 have:=(play_sm 900 0 _ (smW0 inp fails)).runs
 rw [Nat.zero_add] at this
 exact this
theorem WOk2.runs {a:WV} {T:OwL} (h:WOk2 a T):Holds' T fun w=>Vw fR w (.slice a.rp a.rl.length a.rc) a.rl:=by
 obtain ⟨TR,TA,TW,TS,rfl,hk⟩:=h
 exact hk.r.holds.l
theorem lnl_y {s:ByteArray} {i:Nat} (h:sb s i=10):lnl s (i+1)=(i:Int):=by simp only [lnl]; rw [if_pos h]
theorem lnl_n {s:ByteArray} {i:Nat} (h : ¬ sb s i=10):lnl s (i+1)=lnl s i:=by simp only [lnl]; rw [if_neg h]
theorem lines_step {s:ByteArray} {i:Nat} {l:Int} (h : ∀ j,j < i->(j:Int) - lnl s (j+1)<=200) (hl:lnl s (i+1)=l) (hd:(i:Int) - l<=200) : ∀ j,j < i+1->(j:Int) - lnl s (j+1)<=200:=fun j hj=>by
  rcases Nat.lt_or_ge j i with h1 | h1
  · exact h j h1
  · have:j=i:=by omega
    subst this
    rw [hl]; exact hd
theorem lnl_ge (s:ByteArray) : ∀ i,-1<=lnl s i
  | 0=>Int.le_refl _
  | i+1=>by
    simp only [lnl]
    split
    · omega
    · exact lnl_ge s i
set_option maxHeartbeats 4000000 in
theorem input_any (s:ByteArray) (n:Nat) (w:World) (hE:ErrOk w) (hn:n<=255) :
    Calls Tryd.prog 3 #[str s,u8 ((n:Nat):Int)] w fun e w'=>e = .returned (.bool true)/\Only none' w w':=by
 refine c_enter (args:=[str s,u8 ((n:Nat):Int)]) (m:=96) (n:=98) Tryd.func3 rfl (by kernel_rfl) (by kernel_rfl) fun fr hA=>?_
 have hO:=Ow.nil Tryd.prog none' w
 refine Sa [(4,bl false)] hA fun fr hA=>?_
 refine wp_seq ?_
 refine sr 2 ?_
 refine wpOps_cons' (mC (d:=(some 9)) hA Tryd.func4 ((awake_any _ (hE.keep hO.only)).mono ?_))
 rintro en w1 ⟨rfl,ho⟩
 refine ⟨_,rfl,?_⟩
 clear hA fr; intro fr hA
 replace hO:=hO.st ho; clear ho
 refine Ka 1 [(10,bl false)] hA fun fr hA=>?_
 refine end_ops ?_
 refine then_normal ?_
 refine cF hA ?_
 refine wp_skip ?_
 refine then_normal ?_
 refine wp_seq ?_
 refine Sa [(13,bl (decide (((s.size:Nat):Int) > 400)))] hA fun fr hA=>?_
 rcases Bool.eq_false_or_eq_true (decide (((s.size:Nat):Int) > 400)) with h1 | h1
 · rw [h1] at hA
   have h1p:=of_decide_eq_true h1
   refine cT hA ?_
   refine Sa [(4,bl true)] hA fun fr hA=>?_
   refine wp_ret ?_
   refine then_ret ?_
   refine cv [bl true] hA ?_
   exact ⟨rfl,hO.only⟩
 rw [h1] at hA
 have h1p:=of_decide_eq_false h1
 refine cF hA ?_
 refine wp_skip ?_
 refine then_normal ?_
 refine Sa [(5,i64 (-1))] hA fun fr hA=>?_
 refine wp_seq ?_
 refine Sa [(6,i64 0)] hA fun fr hA=>?_
 refine wp_block ?_
 refine c_loop (fun mm fr W=>∃ (i:Nat),mm=s.size - i/\Holds 98 [] fr [(0,str s),(1,u8 ((n:Nat):Int)),(4,bl false),(5,i64 (lnl s i)),(6,i64 ((i:Nat):Int))]/\Ow Tryd.prog none' w W []/\i<=s.size/\(∀ j,j < i->(j:Int) - lnl s (j+1)<=200)/\True) ?_ ?_
 · exact ⟨_,0,rfl,hA.ss,hO.to,(Nat.zero_le _),(fun j h=>absurd h (Nat.not_lt_zero _)),trivial⟩
 rintro _ fr w2 ⟨i,rfl,hA,hO,hi,hln,-⟩
 have hge_:=lnl_ge s i
 have hlt_:=lnl_le s i
 refine wp_seq ?_
 refine Sa [(17,bl (decide (((i:Nat):Int) < ((s.size:Nat):Int))))] hA fun fr hA=>?_
 rcases Bool.eq_false_or_eq_true (decide (((i:Nat):Int) < ((s.size:Nat):Int))) with h2 | h2
 · rw [h2] at hA
   have h2p:=of_decide_eq_true h2
   refine cT hA ?_
   refine wp_skip ?_
   refine then_normal ?_
   refine wp_seq ?_
   refine wp_block ?_
   refine wp_seq ?_
   refine Sb [(23,bl ((sb s i) == 10))] hA [] (cc (⟨by omega,by omega⟩:(0:Int)<=((i:Nat):Int)/\((i:Nat):Int) < ((s.size:Nat):Int)) c0) fun fr hA=>?_
   rcases Bool.eq_false_or_eq_true ((sb s i) == 10) with h3 | h3
   · rw [h3] at hA
     have h3p:=eq_of_beq h3
     refine cT hA ?_
     refine Rc [(5,i64 ((i:Nat):Int))] hA [] c0 fun fr hA=>?_
     refine then_normal ?_
     refine Sb [(28,bl (decide ((((i:Nat):Int) - ((i:Nat):Int)) > 200)))] hA [bl true] (cc ((inK_i64 (by omega) (by omega)):inK .i64 (((i:Nat):Int) - ((i:Nat):Int))) c0) fun fr hA=>?_
     rcases Bool.eq_false_or_eq_true (decide ((((i:Nat):Int) - ((i:Nat):Int)) > 200)) with h4 | h4
     · rw [h4] at hA
       have h4p:=of_decide_eq_true h4
       refine cT hA ?_
       refine Sa [(4,bl true)] hA fun fr hA=>?_
       refine wp_ret ?_
       refine inBlock_ret ?_
       refine then_ret ?_
       refine then_ret ?_
       refine inBlock_ret ?_
       refine then_ret ?_
       refine cv [bl true] hA ?_
       exact ⟨rfl,hO.only⟩
     rw [h4] at hA
     have h4p:=of_decide_eq_false h4
     refine cF hA ?_
     refine wp_skip ?_
     refine inBlock_normal ?_
     refine then_normal ?_
     refine Rc [(6,i64 (((i:Nat):Int)+1))] hA [bl true] (cc ((inK_i64 (by omega) (by omega)):inK .i64 (((i:Nat):Int)+1)) c0) fun fr hA=>?_
     refine then_normal ?_
     exact ⟨_,by omega,i+1,rfl,(hA.sub (e':=[(0,str s),(1,u8 ((n:Nat):Int)),(4,bl false),(5,i64 ((i:Nat):Int)),(6,i64 (((i:Nat):Int)+1))]) [0,1,4,5,6] (by kernel_rfl)).cast (by rw [show lnl s (i+1)=((i:Nat):Int) from (lnl_y h3p)]; kernel_rfl),hO.to,(by omega),(lines_step hln (lnl_y h3p) (by omega)),trivial⟩
   rw [h3] at hA
   have h3p:=ne_of_beq_false h3
   refine cF hA ?_
   refine wp_skip ?_
   refine then_normal ?_
   refine Sb [(28,bl (decide ((((i:Nat):Int) - (lnl s i)) > 200)))] hA [bl true] (cc ((inK_i64 (by omega) (by omega)):inK .i64 (((i:Nat):Int) - (lnl s i))) c0) fun fr hA=>?_
   rcases Bool.eq_false_or_eq_true (decide ((((i:Nat):Int) - (lnl s i)) > 200)) with h5 | h5
   · rw [h5] at hA
     have h5p:=of_decide_eq_true h5
     refine cT hA ?_
     refine Sa [(4,bl true)] hA fun fr hA=>?_
     refine wp_ret ?_
     refine inBlock_ret ?_
     refine then_ret ?_
     refine then_ret ?_
     refine inBlock_ret ?_
     refine then_ret ?_
     refine cv [bl true] hA ?_
     exact ⟨rfl,hO.only⟩
   rw [h5] at hA
   have h5p:=of_decide_eq_false h5
   refine cF hA ?_
   refine wp_skip ?_
   refine inBlock_normal ?_
   refine then_normal ?_
   refine Rc [(6,i64 (((i:Nat):Int)+1))] hA [bl true] (cc ((inK_i64 (by omega) (by omega)):inK .i64 (((i:Nat):Int)+1)) c0) fun fr hA=>?_
   refine then_normal ?_
   exact ⟨_,by omega,i+1,rfl,(hA.sub (e':=[(0,str s),(1,u8 ((n:Nat):Int)),(4,bl false),(5,i64 (lnl s i)),(6,i64 (((i:Nat):Int)+1))]) [0,1,4,5,6] (by kernel_rfl)).cast (by rw [show lnl s (i+1)=lnl s i from (lnl_n h3p)]; kernel_rfl),hO.to,(by omega),(lines_step hln (lnl_n h3p) (by omega)),trivial⟩
 rw [h2] at hA
 have h2p:=of_decide_eq_false h2
 refine cF hA ?_
 refine wp_exit ?_
 refine then_exit ?_
 refine then_exit ?_
 refine inBlock_exit ?_
 refine then_normal ?_
 refine sr 14 ?_
 refine Kb 2 [(30,str (s++(⟨#[10]⟩:ByteArray)))] hA [] (cc ((by have z1_:(⟨#[10]⟩:ByteArray).size=1:=rfl; omega):s.size+(⟨#[10]⟩:ByteArray).size<=9223372036854775807) c0) fun fr hA=>?_
 refine wpOps_cons' (mC (d:=(some 31)) hA Tryd.func6 ((chunks_any (s++(⟨#[10]⟩:ByteArray)) 80 _ (by omega) (by omega) (by rw [ByteArray.size_append]; show s.size+1<=_; omega)).mono ?_))
 rintro en w3 ⟨p1,c1,T1,rfl,hT1,hW⟩
 refine ⟨_,rfl,?_⟩
 clear hA fr; intro fr hA
 replace hO:Ow Tryd.prog none' w _ ([]++[]):=hO.to (List.append_nil _).symm
 replace hO:=Ow.join hO hW; clear hW
 replace hO:Ow Tryd.prog none' w _ ([]++(T1++([]))):=hO.to (by first | rfl | (simp only [TP,apd]))
 replace hO:Ow Tryd.prog none' w w3 ([]++(T1++([]))):=hO
 refine wpOps_cons' (mC (d:=(some 32)) hA Tryd.func5 ((play_any p1 c1 (chunksP (s++(⟨#[10]⟩:ByteArray)) 80) none 0 [] _ (hT1.vw (A:=[]) (B:=[]) hO.m) (.inl ⟨rfl,rfl⟩) (hE.keep hO.only) hT1.le (Nat.le_refl _) (fun c_ h_=>by (have q_:=chunks_le (n:=80) (by omega) _ _ (Nat.le_refl _) c_ h_; omega))).mono ?_))
 rintro en w4 ⟨wb1,a1,TW1,rfl,hd1,hTW1,hW⟩
 refine ⟨_,rfl,?_⟩
 clear hA fr; intro fr hA
 replace hO:=Ow.join hO hW; clear hW
 refine Kb 6 [(34,str (s++(⟨#[10]⟩:ByteArray))),(38,i64 (1+(((n:Nat):Int) % 80)))] hA [bl true,bl true,bl true] (cc ((by have z1_:(⟨#[10]⟩:ByteArray).size=1:=rfl; omega):s.size+(⟨#[10]⟩:ByteArray).size<=9223372036854775807) (cc ((inK_i64 (by omega) (by omega)):inK .i64 ((n:Nat):Int)) (cc (⟨by omega,by omega,inK_i64 (by omega) (by omega)⟩:(0:Int)<=((n:Nat):Int)/\(0:Int) < 80/\inK .i64 ((n:Nat):Int)) (cc ((inK_i64 (by omega) (by omega)):inK .i64 (1+(((n:Nat):Int) % 80))) c0)))) fun fr hA=>?_
 rw [((by omega) : 1+(((n:Nat):Int) % 80)=((1+n % 80:Nat):Int))] at hA
 refine wpOps_cons' (mC (d:=(some 39)) hA Tryd.func6 ((chunks_any (s++(⟨#[10]⟩:ByteArray)) (1+n % 80) _ (by omega) (by omega) (by rw [ByteArray.size_append]; show s.size+1<=_; omega)).mono ?_))
 rintro en w5 ⟨p2,c2,T2,rfl,hT2,hW⟩
 refine ⟨_,rfl,?_⟩
 clear hA fr; intro fr hA
 replace hO:=Ow.join hO hW; clear hW
 refine wpOps_cons' (mC (d:=(some 40)) hA Tryd.func5 ((play_any p2 c2 (chunksP (s++(⟨#[10]⟩:ByteArray)) (1+n % 80)) none 0 [] _ (hT2.vw (A:=([]++(T1++(((wb1,39,wc a1)::TW1)++([]))))) (B:=[]) (hO.tt:Ow Tryd.prog none' w _ (([]++(T1++(((wb1,39,wc a1)::TW1)++([]))))++(T2++([])))).m) (.inl ⟨rfl,rfl⟩) (hE.keep hO.only) hT2.le (Nat.le_refl _) (fun c_ h_=>by (have q_:=chunks_le (n:=(1+n % 80)) (by omega) _ _ (Nat.le_refl _) c_ h_; omega))).mono ?_))
 rintro en w6 ⟨wb2,a2,TW2,rfl,hd2,hTW2,hW⟩
 refine ⟨_,rfl,?_⟩
 clear hA fr; intro fr hA
 replace hO:=Ow.join hO hW; clear hW
 refine Ka 2 [(7,pt wb1),(8,pt wb2)] hA fun fr hA=>?_
 refine end_ops ?_
 refine then_normal ?_
 refine wp_seq ?_
 have hl_:linesOk s:=fun j hj=>hln j (by omega)
 have hlaw:=shell_input hl_ (1+n % 80) (by omega)
 simp only at hlaw
 have hok1:a1.ok=true:=by (have q_:=hlaw.1; rw [← hd1] at q_; exact q_)
 have hok2:a2.ok=true:=by (have q_:=hlaw.2.1; rw [← hd2] at q_; exact q_)
 have h3_:a1.exit < 0\/a2.exit < 0\/(a1.rl=a2.rl/\a1.exit=a2.exit/\a1.told=a2.told):=by (have q_:=hlaw.2.2; rw [← hd1,← hd2] at q_; exact q_)
 have hrl1:a1.rl.length<=1000000:=by (have q_:=play_runs (chunksP (s++(⟨#[10]⟩:ByteArray)) 80) []; rw [← hd1] at q_; have q2_:a1.rl.length<=900:=q_; omega)
 have hrl2:a2.rl.length<=1000000:=by (have q_:=play_runs (chunksP (s++(⟨#[10]⟩:ByteArray)) (1+n % 80)) []; rw [← hd2] at q_; have q2_:a2.rl.length<=900:=q_; omega)
 have hS:=hO
 refine rP [(0,true),(1,true),(2,true),(3,true),(4,true),(5,true),(6,true),(7,true),(8,true),(9,true),(10,true),(11,true),(12,true),(13,true),(14,true),(15,true),(16,true),(17,true),(18,true),(19,true),(20,true),(21,true),(22,true),(23,true),(24,true),(25,true),(26,true),(27,true),(28,true),(29,true),(30,true),(31,true),(32,false),(33,true),(34,true),(35,true),(36,true),(37,true),(38,true),(39,true),(40,true),(41,true),(42,true),(43,true),(44,true),(45,true),(46,true),(47,true),(48,true),(49,true),(50,true),(51,true),(52,true),(53,true),(54,true),(55,true),(56,true),(57,true)] hS ?_
 intro w7 ho; replace hO:=hO.st ho; clear ho
 refine Ke 5 [(44,bl a1.ok),(45,bl a1.ok)] hA [bl a1.ok] (cc (hS.sx ⟨wb1,32,none⟩ 4 (bl a1.ok) fun _ hO=>((hO.m.blk (wb1,39,wc a1) (by simp)).ld1 (i:=32) (by kernel_rfl) (by kernel_rfl))) c0) fun fr hA=>?_
 rw [(hok1:(a1.ok)=true)] at hA
 refine Ke 6 [(49,bl a2.ok),(50,bl a2.ok),(51,bl a2.ok)] hA [bl a2.ok] (cc (hS.sx ⟨wb2,32,none⟩ 4 (bl a2.ok) fun _ hO=>((hO.m.blk (wb2,39,wc a2) (by simp)).ld1 (i:=32) (by kernel_rfl) (by kernel_rfl))) c0) fun fr hA=>?_
 rw [(hok2:(a2.ok)=true)] at hA
 refine Ke 6 [(51,bl true),(56,bl (decide (a1.exit < 0))),(57,bl (decide (a1.exit < 0)))] hA [i64 a1.exit] (cc (hS.sx ⟨wb1,30,none⟩ 3 (i64 a1.exit) fun _ hO=>((hO.m.blk (wb1,39,wc a1) (by simp)).ld1 (i:=30) (by kernel_rfl) (by kernel_rfl))) c0) fun fr hA=>?_
 rcases Bool.eq_false_or_eq_true (decide (a1.exit < 0)) with h6 | h6
 · rw [h6] at hA
   have h6p:=of_decide_eq_true h6
   refine Kd 15 [(64,bl true),(68,.tuple #[]),(72,.tuple #[])] hA fun fr hA=>?_
   refine plan_mem (m_skip (d:=(some 73)) hA (by kernel_rfl) (by kernel_rfl) fun fr hA=>?_)
   refine ⟨hO.tt,?_⟩
   refine Kd 25 [(4,bl true)] hA fun fr hA=>?_
   refine end_plan ?_
   refine then_normal ?_
   refine wp_ret ?_
   refine cv [bl true] hA ?_
   exact ⟨rfl,hO.only⟩
 rw [h6] at hA
 have h6p:=of_decide_eq_false h6
 refine Ke 7 [(62,bl (decide (a2.exit < 0))),(63,bl (decide (a2.exit < 0))),(64,bl (decide (a2.exit < 0)))] hA [i64 a2.exit] (cc (hS.sx ⟨wb2,30,none⟩ 3 (i64 a2.exit) fun _ hO=>((hO.m.blk (wb2,39,wc a2) (by simp)).ld1 (i:=30) (by kernel_rfl) (by kernel_rfl))) c0) fun fr hA=>?_
 rcases Bool.eq_false_or_eq_true (decide (a2.exit < 0)) with h7 | h7
 · rw [h7] at hA
   have h7p:=of_decide_eq_true h7
   refine Kd 8 [(64,bl true),(68,.tuple #[]),(72,.tuple #[])] hA fun fr hA=>?_
   refine plan_mem (m_skip (d:=(some 73)) hA (by kernel_rfl) (by kernel_rfl) fun fr hA=>?_)
   refine ⟨hO.tt,?_⟩
   refine Kd 25 [(4,bl true)] hA fun fr hA=>?_
   refine end_plan ?_
   refine then_normal ?_
   refine wp_ret ?_
   refine cv [bl true] hA ?_
   exact ⟨rfl,hO.only⟩
 rw [h7] at hA
 have h7p:=of_decide_eq_false h7
 have heq3:a1.rl=a2.rl/\a1.exit=a2.exit/\a1.told=a2.told:=by (rcases h3_ with q_ | q_ | q_; omega; omega; exact q_)
 refine Ke 8 [(64,bl false),(68,.slice a1.rp a1.rl.length a1.rc),(72,.slice a2.rp a2.rl.length a2.rc)] hA [.slice a1.rp a1.rl.length a1.rc,.slice a2.rp a2.rl.length a2.rc] (cc (hS.sx ⟨wb1,27,none⟩ 37 (.slice a1.rp a1.rl.length a1.rc) fun _ hO=>((hO.m.blk (wb1,39,wc a1) (by simp)).ld1 (i:=27) (by kernel_rfl) (by kernel_rfl))) (cc (hS.sx ⟨wb2,27,none⟩ 37 (.slice a2.rp a2.rl.length a2.rc) fun _ hO=>((hO.m.blk (wb2,39,wc a2) (by simp)).ld1 (i:=27) (by kernel_rfl) (by kernel_rfl))) c0)) fun fr hA=>?_
 refine plan_mem (mC (d:=(some 73)) hA Tryd.func7 ((same_any a1.rp a1.rc a1.rl a2.rp a2.rc a2.rl _ (Holds'.at (A:=([]++(T1++([])))) (B:=T2++(((wb2,39,wc a2)::TW2)++([]))) (T:=((wb1,39,wc a1)::TW1)) (Holds'.r (T:=[(wb1,39,wc a1)]) hTW1.runs) (hO.tt:Ow Tryd.prog none' w _ (([]++(T1++([])))++(((wb1,39,wc a1)::TW1)++(T2++(((wb2,39,wc a2)::TW2)++([])))))).m) (Holds'.at (A:=([]++(T1++(((wb1,39,wc a1)::TW1)++(T2++([])))))) (B:=[]) (T:=((wb2,39,wc a2)::TW2)) (Holds'.r (T:=[(wb2,39,wc a2)]) hTW2.runs) (hO.tt:Ow Tryd.prog none' w _ (([]++(T1++(((wb1,39,wc a1)::TW1)++(T2++([])))))++(((wb2,39,wc a2)::TW2)++([])))).m) hrl1 hrl2).mono ?_))
 rintro en w8 ⟨r1,rfl,hr1,ho⟩
 refine ⟨_,rfl,?_⟩
 clear hA fr; intro fr hA
 replace hO:=hO.st ho; clear ho
 refine ⟨hO.tt,?_⟩
 refine Kd 1 [(74,bl r1)] hA fun fr hA=>?_
 rw [((hr1.2 heq3.1):(r1)=true)] at hA
 refine Ke 11 [(83,bl (a1.exit == a2.exit)),(84,bl (a1.exit == a2.exit)),(85,bl (a1.exit == a2.exit))] hA [i64 a1.exit,i64 a2.exit] (cc (hS.sx ⟨wb1,30,none⟩ 3 (i64 a1.exit) fun _ hO=>((hO.m.blk (wb1,39,wc a1) (by simp)).ld1 (i:=30) (by kernel_rfl) (by kernel_rfl))) (cc (hS.sx ⟨wb2,30,none⟩ 3 (i64 a2.exit) fun _ hO=>((hO.m.blk (wb2,39,wc a2) (by simp)).ld1 (i:=30) (by kernel_rfl) (by kernel_rfl))) c0)) fun fr hA=>?_
 rw [((beq_iff_eq.2 heq3.2.1):(a1.exit == a2.exit)=true)] at hA
 refine Ke 13 [(4,bl (a1.told == a2.told))] hA [i64 a1.told,i64 a2.told] (cc (hS.sx ⟨wb1,29,none⟩ 3 (i64 a1.told) fun _ hO=>((hO.m.blk (wb1,39,wc a1) (by simp)).ld1 (i:=29) (by kernel_rfl) (by kernel_rfl))) (cc (hS.sx ⟨wb2,29,none⟩ 3 (i64 a2.told) fun _ hO=>((hO.m.blk (wb2,39,wc a2) (by simp)).ld1 (i:=29) (by kernel_rfl) (by kernel_rfl))) c0)) fun fr hA=>?_
 refine end_plan ?_
 refine then_normal ?_
 refine wp_ret ?_
 refine cv [bl (a1.told == a2.told)] hA ?_
 exact ⟨congrArg (fun b=>Ending.returned (.bool b)) (beq_iff_eq.2 heq3.2.2),hO.only⟩
end Go.Proofs.YtdljjajjonfjbaaDoor
