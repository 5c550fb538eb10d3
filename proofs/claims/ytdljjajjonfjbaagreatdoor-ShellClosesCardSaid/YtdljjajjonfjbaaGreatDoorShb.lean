import Derived.Test.YtdljjajjonfjbaaGreatDoorReaders
import Derived.Test.YtdljjajjonfjbaaGreatDoorSn
import Derived.Lib.ConvBytes
import Derived.Laws.AppendOwn
set_option linter.unusedVariables false
set_option linter.unusedSimpArgs false
set_option maxRecDepth 10000
namespace Go.Proofs.YtdljjajjonfjbaaGreatDoor
open Go Go.Shelf Go.RowKit Go.Proofs Go.Proofs.Sx
section
variable {d:CmdL}
theorem Cn (h : ¬ (1<=d.words.length/\d.words.length<=4)):Av d=false:=by unfold Av; rw [rA h,Bool.false_and,Bool.and_false]
theorem Co (h:B9 d.inp=false):Av d=false:=by unfold Av; rw [h]; simp
theorem Cm (h:B9 d.out=false):Av d=false:=by unfold Av; rw [h]; simp
theorem Cp (h:d.app=true) (h2:d.out.size=0):Av d=false:=by unfold Av; rw [h,h2]; simp
theorem Jt (h1 : 1<=d.words.length/\d.words.length<=4) (hi:B9 d.inp=true) (ho:B9 d.out=true) (ha:d.app=true->¬ d.out.size=0) (hw:d.words.all A0=true):Av d=true:=by
 unfold Av;rw [hw,qZ h1,hi,ho];cases hap:d.app with
 | false=>rfl
 | true=>rw [rA (ha hap)]; rfl
def Hy (d:CmdL):Bool:=decide (d.words.length<=8) && (decide (d.inp.size+d.out.size<=300) && d.words.all (fun u=>decide (u.size<=100)))
def Lv (x:JobL):Bool:=decide (x.cmds.length<=8) && x.cmds.all Hy
def Of (l:List JobL):Bool:=l.all Lv && decide (l.length<=12)
theorem K1 (h : ¬ (d.words.length<=8/\d.inp.size+d.out.size<=300)):Hy d=false:=by
 unfold Hy;by_cases h1:d.words.length<=8
 · rw [rA (show ¬ (d.inp.size+d.out.size<=300) from fun h2=>h ⟨h1,h2⟩)]; simp
 rw [rA h1]; rfl
theorem Gj {j:Nat} {z:ByteArray} (hz:d.words[j]? = some z) (h : ¬ z.size<=100):Hy d=false:=by unfold Hy; rw [J9 hz (rA h)]; simp
theorem gB (h:d.words.length<=8/\d.inp.size+d.out.size<=300) (hw:d.words.all (fun u=>decide (u.size<=100))=true):Hy d=true:=by unfold Hy; rw [hw,qZ h.1,qZ h.2]; rfl
variable {xp:Option Addr} {xc:Nat} {xl:List CV} {xb:Bool}
theorem gA (h1:xl.length<=8) (h:xl.all (fun y=>Hy y.d)=true):Lv (JV.d ⟨xp,xc,xl,xb⟩)=true:=by
 unfold Lv JV.d;simp only [List.length_map,List.all_map];rw [qZ h1,Bool.true_and]; exact h
theorem Hx (h : ¬ xl.length<=8):Lv (JV.d ⟨xp,xc,xl,xb⟩)=false:=by
 unfold Lv JV.d;simp only [List.length_map];rw [rA h]; rfl
theorem K0 {k:Nat} {y:CV} (hy:xl[k]? = some y) (h:Hy y.d=false):Lv (JV.d ⟨xp,xc,xl,xb⟩)=false:=by
 unfold Lv JV.d;simp only [List.all_map];rw [J9 (p:=Hy ∘ CV.d) hy h,Bool.and_false]
theorem Hw {l:List JV} (h:l.all (fun x=>Lv x.d)=true):Of (l.map JV.d)=decide (l.length<=12):=by
 unfold Of;rw [List.all_map,List.length_map,show l.all (Lv ∘ JV.d)=true from h,Bool.true_and]
theorem Ex {l:List JV} {i:Nat} {x:JV} (hx:l[i]? = some x) (h:Lv x.d=false):Of (l.map JV.d)=false:=by
 unfold Of;rw [List.all_map,J9 (p:=Lv ∘ JV.d) hx h]; rfl
end
theorem mZ (p:Option Addr) (c:Nat) (l:List JV) (w:World) (hv:VL w (.slice p l.length c) l) (hsm:smL 1000000000000000000 (l.map JV.d)) :
 Calls Tryz.prog 25 #[.slice p l.length c] w fun e w'=>e = .returned (.bool (Of (l.map JV.d)))/\Only Ai w w':=by
 refine An (args:=[.slice p l.length c]) (m:=68) (n:=69) Tryz.func25 rfl (by kernel_rfl) (by kernel_rfl) fun fr hA=>?_;have hO:=Ow.nil Tryz.prog Ai w;have hsl:=hsm.len;refine Sa [(2,bl false)] hA fun fr hA=>wp_seq (Sa [(3,i64 0)] hA fun fr hA=>wp_block (Bg (fun mm fr W=>∃ (i:Nat),mm=l.length - i/\Holds 69 [] fr [(0,.slice p l.length c),(2,bl false),(3,i64 ((i:Nat):Int))]/\Ow Tryz.prog Ai w W []/\i<=l.length/\(l.take i).all (fun x=>Lv x.d)=true/\True) ?_ ?_))
 · exact ⟨_,0,rfl,hA.ss,hO.to,(Nat.zero_le _),rfl,trivial⟩
 rintro _ fr w1 ⟨i,rfl,hA,hO,hi_i,ho,-⟩;refine wp_seq (Sa [(10,bl (decide (((i:Nat):Int) < ((l.length:Nat):Int))))] hA fun fr hA=>?_);rcases qV (decide (((i:Nat):Int) < ((l.length:Nat):Int))) with h1 | h1
 · rw [h1] at hA;have h1p:=qX h1;obtain ⟨ad1,rfl⟩:=(hv.1).pos (by omega);obtain ⟨⟨xp1,xc1,xl1,xb1⟩,hx1⟩ : ∃ x,l[i]? = some x:=⟨_,Bi _ JV0 (by omega)⟩;have hvx1:Vw fC _ (.slice xp1 xl1.length xc1) xl1/\∀ y∈xl1,VC _ y:=hv.2 _ (List.mem_of_getElem? hx1);have hsj1:smJ _ (JV.d ⟨xp1,xc1,xl1,xb1⟩):=hsm.at hx1;have hsjl1:xl1.length<=_:=smJ.len (x:=⟨xp1,xc1,xl1,xb1⟩) hsj1;refine cT hA (wp_skip (Aa (wp_seq (wp_block (wp_seq (Sb [(0,.slice (some ad1) l.length c),(19,bl (decide (((xl1.length:Nat):Int) > 8)))] hA [.slice xp1 xl1.length xc1] (cc (⟨by omega,by omega⟩:(0:Int)<=((i:Nat):Int)/\((i:Nat):Int) < ((l.length:Nat):Int)) (cc (((hv.1.keep hO.only).ld0 Eb hx1 (by rfl)):Ld Tryz.prog w1 (ad1.add (i*2)) 69 (.slice xp1 xl1.length xc1)) c0)) fun fr hA=>?_))))));rcases qV (decide (((xl1.length:Nat):Int) > 8)) with h2 | h2
   · rw [h2] at hA;have h2p:=qX h2;refine cT hA (Sa [] hA fun fr hA=>wp_ret (Ac (Ae (Ac (Ac (Ae (Ac (cv [bl false] hA ?_))))))));have hF:=hO.only; clear hA hO;refine ⟨congrArg (fun b=>Ending.returned (.bool b)) ?_,hF⟩;first | (rw [Hw (A5 ho (by omega))]; exact decide_eq_decide.2 (by omega)) | exact (Ex hx1 (Hx (by omega))).symm | (refine (Ex hx1 (K0 hy1 ?_)).symm; show Hy yd1=false; first | exact Gj (by assumption) (by omega) | exact K1 (by omega))
   rw [h2] at hA;have h2p:=qY h2;refine cF hA (wp_skip (Aa (Sa [(4,i64 0)] hA fun fr hA=>wp_block (Bg (fun mm fr W=>∃ (k:Nat),mm=xl1.length - k/\Holds 69 [] fr [(0,.slice (some ad1) l.length c),(2,bl false),(3,i64 ((i:Nat):Int)),(4,i64 ((k:Nat):Int))]/\Ow Tryz.prog Ai w W []/\k<=xl1.length/\(xl1.take k).all (fun y=>Hy y.d)=true/\True) ?_ ?_))))
   · exact ⟨_,0,rfl,hA.ss,hO.to,(Nat.zero_le _),rfl,trivial⟩
   rintro _ fr w2 ⟨k,rfl,hA,hO,hi_k,hok,-⟩;refine wp_seq (Sb [(27,bl (decide (((k:Nat):Int) < ((xl1.length:Nat):Int))))] hA [.slice xp1 xl1.length xc1] (cc (⟨by omega,by omega⟩:(0:Int)<=((i:Nat):Int)/\((i:Nat):Int) < ((l.length:Nat):Int)) (cc (((hv.1.keep hO.only).ld0 Eb hx1 (by rfl)):Ld Tryz.prog w2 (ad1.add (i*2)) 69 (.slice xp1 xl1.length xc1)) c0)) fun fr hA=>?_);rcases qV (decide (((k:Nat):Int) < ((xl1.length:Nat):Int))) with h3 | h3
   · rw [h3] at hA;have h3p:=qX h3;obtain ⟨ad2,rfl⟩:=(hvx1.1).pos (by omega);obtain ⟨⟨yp1,yc1,yd1⟩,hy1⟩ : ∃ x,xl1[k]? = some x:=⟨_,Bi _ CV0 (by omega)⟩;have hvy1:Vw fT _ (.slice yp1 yd1.words.length yc1) yd1.words:=hvx1.2 _ (List.mem_of_getElem? hy1);have hsc1:smC _ yd1:=smJ.at (x:=⟨_,_,xl1,_⟩) hsj1 hy1;obtain ⟨-,smi1,smo1,sml1⟩:=id hsc1;refine cT hA (wp_skip (Aa (wp_seq (wp_block (sr 10 (Kb 8 [(37,.agg #[.slice yp1 yd1.words.length yc1,str yd1.inp,str yd1.out,bl yd1.app])] hA [.slice (some ad2) xl1.length xc1,.agg #[.slice yp1 yd1.words.length yc1,str yd1.inp,str yd1.out,bl yd1.app]] (cc (⟨by omega,by omega⟩:(0:Int)<=((i:Nat):Int)/\((i:Nat):Int) < ((l.length:Nat):Int)) (cc (((hv.1.keep hO.only).ld0 Eb hx1 (by rfl)):Ld Tryz.prog w2 (ad1.add (i*2)) 69 (.slice (some ad2) xl1.length xc1)) (cc (⟨by omega,by omega⟩:(0:Int)<=((k:Nat):Int)/\((k:Nat):Int) < ((xl1.length:Nat):Int)) (cc (((hvx1.1.keep hO.only).ldn Fj hy1):Ld Tryz.prog w2 (ad2.add (k*4)) 73 (.agg #[.slice yp1 yd1.words.length yc1,str yd1.inp,str yd1.out,bl yd1.app])) c0)))) fun fr hA=>Mn [.slice none 0 0,str (⟨#[]⟩),str (⟨#[]⟩),bl false] 73 5 hA hO ?_))))));clear hA hO fr; intro fr w3 b1 hA hO;refine Ag (mS (off:=0) (vc:=[.slice yp1 yd1.words.length yc1,str yd1.inp,str yd1.out,bl yd1.app]) 0 hA hO ?_);clear hO; intro w4 hO
     refine Ab (Aa (wp_seq (sR (l:=(rg 0 14)) (ck (l:=(rg 0 5)) (r:=(rg 5 9)) (e':=[(0,.slice (some ad1) l.length c),(2,bl false),(3,i64 ((i:Nat):Int)),(4,i64 ((k:Nat):Int)),(5,pt b1),(41,bl (decide (((yd1.words.length:Nat):Int) > 8))),(42,bl (decide (((yd1.words.length:Nat):Int) > 8)))]) hA [.slice yp1 yd1.words.length yc1] (cc (hO.l1 0 0 30 (.slice yp1 yd1.words.length yc1)) c0) ?_))));clear hA fr; intro fr hA;rcases qV (decide (((yd1.words.length:Nat):Int) > 8)) with h4 | h4
     · rw [h4] at hA;have h4p:=qX h4;refine ck (l:=(rg 5 9)) (r:=[]) (e':=[(0,.slice (some ad1) l.length c),(2,bl false),(3,i64 ((i:Nat):Int)),(4,i64 ((k:Nat):Int)),(5,pt b1),(51,bl true)]) hA [] c0 ?_;clear hA fr; intro fr hA;refine Ab (Aa (cT hA (sC (e':=[(0,.slice (some ad1) l.length c),(2,bl false),(3,i64 ((i:Nat):Int)),(4,i64 ((k:Nat):Int))]) 1 hA [] c0 ?_)));clear hA fr; intro fr hA;refine wp_ret (Ac (Ae (Ac (Ac (Ae (Ae (Ac (Ac (Ae (Ac (cR (cs:=[none]) (us:=[bl false]) hA [] trivial ?_)))))))))));have hF:=hO.only; clear hA hO;refine ⟨congrArg (fun b=>Ending.returned (.bool b)) ?_,hF⟩;first | (rw [Hw (A5 ho (by omega))]; exact decide_eq_decide.2 (by omega)) | exact (Ex hx1 (Hx (by omega))).symm | (refine (Ex hx1 (K0 hy1 ?_)).symm; show Hy yd1=false; first | exact Gj (by assumption) (by omega) | exact K1 (by omega))
     rw [h4] at hA;have h4p:=qY h4;refine ck (l:=(rg 5 9)) (r:=[]) (e':=[(0,.slice (some ad1) l.length c),(2,bl false),(3,i64 ((i:Nat):Int)),(4,i64 ((k:Nat):Int)),(5,pt b1),(51,bl (decide ((((yd1.inp.size:Nat):Int)+((yd1.out.size:Nat):Int)) > 300)))]) hA [str yd1.inp,str yd1.out,bl true] (cc (hO.l1 0 1 9 (str yd1.inp)) (cc (hO.l1 0 2 9 (str yd1.out)) (cc ((Am (by omega) (by omega)):inK .i64 (((yd1.inp.size:Nat):Int)+((yd1.out.size:Nat):Int))) c0))) ?_;clear hA fr; intro fr hA;refine Ab (Aa ?_);rcases qV (decide ((((yd1.inp.size:Nat):Int)+((yd1.out.size:Nat):Int)) > 300)) with h5 | h5
     · rw [h5] at hA;have h5p:=qX h5;refine cT hA (sC (e':=[(0,.slice (some ad1) l.length c),(2,bl false),(3,i64 ((i:Nat):Int)),(4,i64 ((k:Nat):Int))]) 1 hA [] c0 ?_);clear hA fr; intro fr hA;refine wp_ret (Ac (Ae (Ac (Ac (Ae (Ae (Ac (Ac (Ae (Ac (cR (cs:=[none]) (us:=[bl false]) hA [] trivial ?_)))))))))));have hF:=hO.only; clear hA hO;refine ⟨congrArg (fun b=>Ending.returned (.bool b)) ?_,hF⟩;first | (rw [Hw (A5 ho (by omega))]; exact decide_eq_decide.2 (by omega)) | exact (Ex hx1 (Hx (by omega))).symm | (refine (Ex hx1 (K0 hy1 ?_)).symm; show Hy yd1=false; first | exact Gj (by assumption) (by omega) | exact K1 (by omega))
     rw [h5] at hA;have h5p:=qY h5;refine cF hA (wp_skip (Aa (sC (e':=[(0,.slice (some ad1) l.length c),(2,bl false),(3,i64 ((i:Nat):Int)),(4,i64 ((k:Nat):Int)),(5,pt b1),(6,i64 0)]) 1 hA [] c0 ?_)));clear hA fr; intro fr hA;refine wp_block (Bg (fun mm fr W=>∃ (j:Nat),mm=yd1.words.length - j/\Holds 69 [] fr [(0,.slice (some ad1) l.length c),(2,bl false),(3,i64 ((i:Nat):Int)),(4,i64 ((k:Nat):Int)),(5,pt b1),(6,i64 ((j:Nat):Int))]/\Ow Tryz.prog Ai w W [(b1,73,[.slice yp1 yd1.words.length yc1,str yd1.inp,str yd1.out,bl yd1.app])]/\j<=yd1.words.length/\(yd1.words.take j).all (fun u=>decide (u.size<=100))=true/\True) ?_ ?_)
     · exact ⟨_,0,rfl,(hA.sub (e':=[(0,.slice (some ad1) l.length c),(2,bl false),(3,i64 ((i:Nat):Int)),(4,i64 ((k:Nat):Int)),(5,pt b1),(6,i64 0)]) [0,2,3,4,5,6] (by kernel_rfl)).cast (by kernel_rfl),hO.to,(Nat.zero_le _),rfl,trivial⟩
     rintro _ fr w5 ⟨j,rfl,hA,hO,hi_j,hoj,-⟩;refine wp_seq (sC (e':=[(0,.slice (some ad1) l.length c),(2,bl false),(3,i64 ((i:Nat):Int)),(4,i64 ((k:Nat):Int)),(5,pt b1),(6,i64 ((j:Nat):Int)),(56,bl (decide (((j:Nat):Int) < ((yd1.words.length:Nat):Int))))]) 5 hA [.slice yp1 yd1.words.length yc1] (cc (hO.l1 0 0 30 (.slice yp1 yd1.words.length yc1)) c0) ?_);clear hA fr; intro fr hA;rcases qV (decide (((j:Nat):Int) < ((yd1.words.length:Nat):Int))) with h6 | h6
     · rw [h6] at hA;have h6p:=qX h6;obtain ⟨ad3,rfl⟩:=(hvy1).pos (by omega);obtain ⟨z1,hz1⟩ : ∃ x,yd1.words[j]? = some x:=⟨_,Bi _ ⟨#[]⟩ (by omega)⟩;have hszz1:=smC.at hsc1 hz1;refine cT hA (wp_skip (Aa (wp_seq (wp_block (Sb [(65,bl (decide (((z1.size:Nat):Int) > 100)))] hA [.slice (some ad3) yd1.words.length yc1,str z1] (cc (hO.l1 0 0 30 (.slice (some ad3) yd1.words.length yc1)) (cc (⟨by omega,by omega⟩:(0:Int)<=((j:Nat):Int)/\((j:Nat):Int) < ((yd1.words.length:Nat):Int)) (cc (((hvy1.keep hO.only).ldT hz1):Ld Tryz.prog w5 (ad3.add j) 9 (str z1)) c0))) fun fr hA=>?_)))));rcases qV (decide (((z1.size:Nat):Int) > 100)) with h7 | h7
       · rw [h7] at hA;have h7p:=qX h7;refine cT hA (Sa [] hA fun fr hA=>wp_ret (Ae (Ac (Ac (Ae (Ae (Ac (Ac (Ae (Ae (Ac (Ac (Ae (Ac (cv [bl false] hA ?_)))))))))))))));have hF:=hO.only; clear hA hO;refine ⟨congrArg (fun b=>Ending.returned (.bool b)) ?_,hF⟩;first | (rw [Hw (A5 ho (by omega))]; exact decide_eq_decide.2 (by omega)) | exact (Ex hx1 (Hx (by omega))).symm | (refine (Ex hx1 (K0 hy1 ?_)).symm; show Hy yd1=false; first | exact Gj (by assumption) (by omega) | exact K1 (by omega))
       rw [h7] at hA;have h7p:=qY h7;exact cF hA (wp_skip (Ad (Aa (Rc [(6,i64 (((j:Nat):Int)+1))] hA [bl true] (cc ((Am (by omega) (by omega)):inK .i64 (((j:Nat):Int)+1)) c0) fun fr hA=>Aa (⟨_,by omega,j+1,rfl,hA.ss,hO.to,(by omega),(C5 hoj (by assumption) (qZ (by omega))),trivial⟩)))))
     rw [h6] at hA;have h6p:=qY h6;exact cF hA (wp_exit (Aj (Aj (Ap (Ad (Aa (Rc [(4,i64 (((k:Nat):Int)+1))] hA [bl true] (cc ((Am (by omega) (by omega)):inK .i64 (((k:Nat):Int)+1)) c0) fun fr hA=>Aa (⟨_,by omega,k+1,rfl,hA.ss,(hO.sub []),(by omega),(C5 hok hy1 (show Hy yd1=true from gB (by omega) (A5 hoj (by omega)))),trivial⟩))))))))
   rw [h3] at hA;have h3p:=qY h3;exact cF hA (wp_exit (Aj (Aj (Ap (Ad (Aa (Rc [(3,i64 (((i:Nat):Int)+1))] hA [bl true] (cc ((Am (by omega) (by omega)):inK .i64 (((i:Nat):Int)+1)) c0) fun fr hA=>Aa (⟨_,by omega,i+1,rfl,hA.ss,hO.to,(by omega),(C5 ho hx1 (gA (by omega) (A5 hok (by omega)))),trivial⟩))))))))
 rw [h1] at hA;have h1p:=qY h1;refine cF hA (wp_exit (Aj (Aj (Ap (Aa (Sa [(2,bl (decide (((l.length:Nat):Int)<=12)))] hA fun fr hA=>wp_ret (cv [bl (decide (((l.length:Nat):Int)<=12))] hA ?_)))))));have hF:=hO.only; clear hA hO;refine ⟨congrArg (fun b=>Ending.returned (.bool b)) ?_,hF⟩;first | (rw [Hw (A5 ho (by omega))]; exact decide_eq_decide.2 (by omega)) | exact (Ex hx1 (Hx (by omega))).symm | (refine (Ex hx1 (K0 hy1 ?_)).symm; show Hy yd1=false; first | exact Gj (by assumption) (by omega) | exact K1 (by omega))
def JV.S (x:JV):List CV×Bool:=(x.cmds,x.bg)
end Go.Proofs.YtdljjajjonfjbaaGreatDoor
namespace Go.Proofs.Sx
open Go Go.RowKit
theorem mB {P:Program} {ops:Array Oper} {Q:Exit->Act->World->Prop} {n:Nat} {ds:List Deferred} {a:Act} {e:Env} {w:World} {K:Act->World->Prop} {i:Nat} {L:OwL} {X:Nat->Prop} {w₀:World} {t0 t el:TypeId} {s:ByteArray} {d:Nat}
 (hA:Holds n ds a e) (hO:Ow P X w₀ w L) (hsz:s.size<=maxLen) (hK : ∀ a' w' p c T,Holds n ds a' ((d,.slice p (sI s).length c)::e)->Ow P X w₀ w' (L++T)->One fB el 1 p c (sI s) T->K a' w')
 (he:Rj ops e i=some (t0,t,.string s,some d):=by kernel_rfl) (hd:Nat.blt d n=true:=by kernel_rfl) (h0:P.underlying t0=some .string:=by kernel_rfl) (ht:P.underlying t=some (.slice el):=by kernel_rfl) (hel:P.underlying el=some (.int .u8):=by kernel_rfl):wpOp P ops Q i K a w:=by
 unfold Rj at he
 repeat' split at he
 all_goals try (cases he; done)
 rename_i o ho _ src dst x hop _ v hv
 simp only [Option.some.injEq,Prod.mk.injEq] at he
 obtain ⟨rfl,rfl,rfl,hdst⟩:=he
 refine Du hA ho ?_
 have hc:=Lib.run_convert_string_bytes (P:=P) w src dst el s h0 ht hel
 have hrun:(execOp a.eval o).run P w = .ok (.value (.slice (some ⟨w.heap.size,0,none⟩) s.size (grownCap w s.size 0 el))) (Lib.bytesWorld w el s):=by
  unfold execOp
  simp only [hop,hA.eval hv,Sem.run_bind,Sem.run_pure,Result.andThen_ok,run_program,hc]
 unfold Oper.wp
 rw [hrun]
 have hcells:(Lib.bytesCells w el s).toList=(sI s).flatMap fB++List.replicate (grownCap w s.size 0 el - s.size) (.int .u8 0):=by
  rw [Yd]
  unfold Lib.bytesCells byteCells
  simp
 have hlen:(Lib.bytesCells w el s).toList.length=grownCap w s.size 0 el:=by
  rw [hcells,List.length_append,Ri.flen,E5,List.length_replicate]
  have:=grownCap_ge w s.size 0 el
  omega
 have hT:OwM Ai w (Lib.bytesWorld w el s) [(w.heap.size,el,(sI s).flatMap fB++List.replicate (grownCap w s.size 0 el - s.size) (.int .u8 0))]:=by
  refine ⟨⟨by (unfold Lib.bytesWorld; simp [World.freeze]) <;> rfl,by (unfold Lib.bytesWorld; simp [World.freeze]) <;> rfl,by (unfold Lib.bytesWorld; simp [World.freeze]) <;> rfl,by rw [Lib.bytesWorld_size]; omega,fun k hk _=>Lib.bytesWorld_at_old w el s k hk⟩,fun y hy=>?_,List.pairwise_singleton _ _,fun y hy=>?_⟩
  · rw [List.mem_singleton] at hy; subst hy
    refine ⟨((Lib.bytesCells w el s).size,(Lib.bytesCells w el s).size+1),?_,?_⟩
    · rw [Lib.bytesWorld_at_new,← hcells]
    · right
      rw [← hcells]; simp
  · rw [List.mem_singleton] at hy; subst hy; exact .inl (Nat.le_refl _)
 refine hK _ _ (some ⟨w.heap.size,0,none⟩) (grownCap w s.size 0 el) _ ?_ ((hO.m.join hT).o) (.inr ⟨w.heap.size,_,rfl,by rw [E5]; exact grownCap_ge w s.size 0 el,grownCap_le_maxLen w s.size 0 el hsz,by rw [← hcells,hlen,Nat.mul_one],rfl⟩)
 rw [hdst,E5]; exact hA.put _ (by simpa [Nat.blt_eq] using hd)
theorem Nt {P:Program} {X:Nat->Prop} {w₀ w:World} {A A' B:OwL} (h:Ow P X w₀ w (A++B)) (p:A.Perm A'):Ow P X w₀ w (A'++B):=(h.m.perm (List.Perm.append_right B p)).o
theorem Ay {P:Program} {ops:Array Oper} {Q:Exit->Act->World->Prop} {S:World->Prop} {t t1:PT} {a:Act} {w:World} (R:Act->World->Prop) (h1 : ∀ a w,R a w->C9 P ops Q S t1 a w) (h2:(∀ a w,R a w->C9 P ops Q S t1 a w)->C9 P ops Q S t a w):C9 P ops Q S t a w:=h2 h1
end Go.Proofs.Sx
namespace Go.Proofs.YtdljjajjonfjbaaGreatDoor
open Go Go.RowKit Go.Proofs.Sx
structure CallL where
 call:Int
 a0:Int
 a1:Int
 a2:Int
 data:List Int
structure StL where
 mode:Int
 pos:Int
 inp:ByteArray
 jobs:List JobL
 rd:Int
 wr:Int
 pv:Int
 kids:List Int
 plan:List CallL
def Ao (n a b:Int):CallL:=⟨n,a,b,0,[]⟩
def Gc:StL:=⟨0,0,⟨#[]⟩,[],-1,-1,-1,[],[]⟩
def B4:CallL:=⟨10,2,0,0,[63,10]⟩
def E8 (t:Int):Bool:=decide (16<=t/\t < 32)
def mQ (n:Int):Bool:=decide (-1<=n/\n<=1000)
def okC (c:CallL):Bool:=mQ c.a0 && (mQ c.a1 && (mQ c.a2 && (decide (0<=c.call/\c.call < 20) && decide (c.data.length<=128))))
def Ec (l:List Int):Nat->Bool
 | 0=>true
 | i+1=>Ec l i && (E8 (l.getD i 0) && !(l.take i).contains (l.getD i 0))
def D8 (l:List Int) (p:List CallL):Bool:=Ec l l.length && (p.all okC && decide (p.length<=12))
def Ca (l:List JobL):Nat:=match l with
 | []=>0
 | j::_=>j.cmds.length
def jN (n:Int):Bool:=decide (-1<=n/\n < 8)
def nJ (s:StL):Bool:=jN s.rd && (jN s.wr && jN s.pv)
def fitB (s:StL):Bool:=decide (0<=s.mode/\s.mode<=7) && (decide (s.inp.size<=300) && (Aq s.jobs && (D8 s.kids s.plan && decide (0<=s.pos/\s.pos<=(Ca s.jobs:Int)))))
def nO (s:StL):Bool:=if s.mode=3\/s.mode=4 then decide (s.pos < (Ca s.jobs:Int)) else if s.mode=5 then decide (0 < s.jobs.length) else true
def Bn (s:StL):Bool:=nJ s && (fitB s && ((decide (0 < s.plan.length) == decide (s.mode=2\/s.mode=6)) && nO s))
def F4 (c:CmdL):Bool:=decide (1 < c.words.length)
def Ch (l:List CmdL):Bool:=l.any F4
def gE:ByteArray:=⟨#[101,120,105,116]⟩
def Rk (l:List CmdL):CmdL:=l.getD 0 E7
def Dy (c:CmdL):ByteArray:=c.words.getD 0 ⟨#[]⟩
def Bx (l:List CmdL):Bool:=decide (l.length=1) && ((Dy (Rk l)).toList == gE.toList)
def Xj (l:List UInt8):Bool:=l.all fun c=>decide (48<=c.toNat/\c.toNat<=57)
def qF (l:List UInt8):Nat:=l.foldl (fun n c=>10*n+(c.toNat - 48)) 0
def Cj (ws:List ByteArray):Int:=match ws with
 | _::w::_=>if Xj w.data.toList=true/\w.size<=3 then ((qF w.data.toList % 256:Nat):Int) else 1
 | _=>0
def Bc (l:List Int):List CallL:=(l.filter fun n=>decide (0<=n)).map fun n=>Ao 8 n 0
def B0 (s:StL):StL×Option CallL :=
 match s.jobs with
 | []=>(s,none)
 | j::r =>
  if Bx j.cmds=true/\s.pos=0 then ({s with mode:=7},some (Ao 0 (Cj (Rk j.cmds).words) 0))
  else if s.pos=0/\Ch j.cmds=true then ({s with jobs:=r,plan:=s.plan++[B4]},none)
  else if s.pos=(j.cmds.length:Int) - 1 then ({s with mode:=4},some (Ao 1 0 0))
  else if s.pos < (j.cmds.length:Int) then ({s with mode:=3},some (Ao 11 0 0))
  else if j.bg=false/\0 < s.kids.length then ({s with mode:=5},some (Ao 3 0 0))
  else ({s with jobs:=r,kids:=[],pos:=0,pv:=-1},none)
def Cz (s:StL) (n:Nat):StL:=match Dq false (s.inp.extract 0 n) with
 | .error _=>{s with inp:=s.inp.extract (n+1) s.inp.size,plan:=s.plan++[B4]}
 | .ok l=>{s with inp:=s.inp.extract (n+1) s.inp.size,jobs:=l}
def nlI (s:ByteArray):Int:=Lib.indexByte s.data.toList 10
def Do:Nat->StL->StL×CallL
 | 0,s=>(s,Ao 0 0 0)
 | k+1,s=>match s.plan with
  | c::_=>({s with mode:=2},c)
  | []=>match s.jobs with
   | _::_=>match B0 s with
    | (s',some c)=>(s',c)
    | (s',none)=>Do k s'
   | []=>if nlI s.inp < 0 then ({s with mode:=1},Ao 9 0 80) else Do k (Cz s (nlI s.inp).toNat)
def Kr (s:StL):Nat:=9*s.inp.size+s.jobs.length
def A3 (s:StL):StL×CallL:=Do (Kr s+2) s
def K4 (s:StL) (n:Int):StL×CallL:=({s with mode:=7},Ao 0 n 0)
def E0 (s:StL) (result:Int) (data:List Int):StL×CallL :=
 if 0 < result then A3 {s with inp:=s.inp++bsI ((data.take (min result.toNat data.length)).take (300 - s.inp.size))}
 else if s.inp.size=0 then K4 s (if result=0 then 0 else 1)
 else A3 {s with inp:=s.inp.extract 0 (min s.inp.size 299)++⟨#[10]⟩}
def upS (s:StL):StL×CallL:=A3 {s with plan:=s.plan++Bc [s.pv,s.rd,s.wr]++[B4],rd:=-1,wr:=-1,pv:=-1,pos:=(Ca s.jobs:Int)}
def Da (nm:ByteArray) (fl fd:Int):List CallL:=[⟨7,fl,0,0,sI nm⟩,Ao 12 (-1) fd,Ao 8 (-1) 0]
def Dp (s:StL) (c:CmdL):List CallL :=
 (if 0<=s.pv then [Ao 12 s.pv 0,Ao 8 s.pv 0] else [])++((if 0<=s.wr then [Ao 12 s.wr 1,Ao 8 s.wr 0,Ao 8 s.rd 0] else []) ++
  ((if c.inp.size=0 then [] else Da c.inp 0 0)++((if c.app=true then Da c.out 5 1 else if c.out.size=0 then [] else Da c.out 3 1)++[⟨2,0,0,0,sI (Dy c)⟩])))
def C3 (s:StL):CmdL:=match s.jobs with
 | []=>E7
 | j::_=>j.cmds.getD s.pos.toNat E7
def Br (l:List CallL):CallL:=l.getD 0 (Ao 0 0 0)
def C1 (l:List Int) (t:Int):List Int:=if E8 t=true/\l.contains t=false then l++[t] else l
def Gg (s:StL) (result:Int):StL×CallL :=
 if result < 0 then upS s
 else if result=0 then ({Gc with mode:=6,plan:=Dp s (C3 s)},Br (Dp s (C3 s)))
 else A3 {s with kids:=C1 s.kids (result % 32),plan:=s.plan++Bc [s.pv,s.wr],pv:=s.rd,rd:=-1,wr:=-1,pos:=s.pos+1}
def Rd (r:Int) (c:CallL):CallL:=if c.a0 = -1 then {c with a0:=r % 8} else c
def E6 (r:Int):List CallL->List CallL
 | a::b::l=>Rd r a::Rd r b::l
 | [a]=>[Rd r a]
 | []=>[]
def Ps (l:List CallL):List CallL:=if l.length=0 then [Ao 0 127 0] else l
def B7 (l:List CallL) (result:Int):List CallL :=
 if result < 0/\(Br l).call≠10 then [B4,Ao 0 127 0]
 else Ps (if (Br l).call=7 then E6 result l.tail else l.tail)
def F7 (s:StL) (result:Int):StL×CallL:=({s with plan:=B7 s.plan result},Br (B7 s.plan result))
def A9 (s:StL) (result:Int) (data:List Int):StL×CallL :=
 if s.mode=0 then A3 s
 else if s.mode=1 then E0 s result data
 else if s.mode=2 then A3 {s with plan:=s.plan.tail}
 else if s.mode=3 then (if result < 0 then upS s else ({s with rd:=result / 256 % 8,wr:=result % 256 % 8,mode:=4},Ao 1 0 0))
 else if s.mode=4 then Gg s result
 else if s.mode=5 then A3 {s with kids:=if result < 0 then [] else s.kids.filter fun t=>!(t == result / 256)}
 else if s.mode=6 then F7 s result
 else (s,Ao 0 255 0)
def Bb (s:StL) (result:Int) (data:List Int):StL×CallL:=if Bn s=true then A9 s result data else ({Gc with mode:=7},Ao 0 254 0)
def fN (x:Int):List Value:=[.int .i64 x]
theorem Fx:Enc fN 1:=⟨fun _=>rfl,fun x v hv=>by simp only [fN,List.mem_singleton] at hv; subst hv; rfl⟩
structure PV where
 p:Option Addr
 c:Nat
 d:CallL
def fP (x:PV):List Value:=[.int .i64 x.d.call,.int .i64 x.d.a0,.int .i64 x.d.a1,.int .i64 x.d.a2,.slice x.p x.d.data.length x.c]
theorem C8:Enc fP 5:=⟨fun _=>rfl,fun x v hv=>by
 simp only [fP,List.mem_cons,List.not_mem_nil,or_false] at hv
 rcases hv with rfl | rfl | rfl | rfl | rfl <;> rfl⟩
def VP (w:World) (x:PV):Prop:=Vw fB w (.slice x.p x.d.data.length x.c) x.d.data/\U8s x.d.data
def PL (w:World) (v:Value) (l:List PV):Prop:=Vw fP w v l/\∀ x∈l,VP w x
structure SV where
 mo:Int
 po:Int
 inp:ByteArray
 pj:Option Addr
 cj:Nat
 lj:List JV
 rd:Int
 wr:Int
 pv:Int
 pc:Option Addr
 cc:Nat
 lc:List Int
 pp:Option Addr
 cp:Nat
 lp:List PV
def SV.d (x:SV):StL:=⟨x.mo,x.po,x.inp,x.lj.map JV.d,x.rd,x.wr,x.pv,x.lc,x.lp.map PV.d⟩
@[reducible] def cS (mo po:Int) (inp:ByteArray) (pj:Option Addr) (nj kj:Nat) (rd wr pv:Int) (pn:Option Addr) (nn kn:Nat) (pp:Option Addr) (np kp:Nat):List Value:=[.int .i64 mo,.int .i64 po,.string inp,.slice pj nj kj,.int .i64 rd,.int .i64 wr,.int .i64 pv,.slice pn nn kn,.slice pp np kp]
def SV.cells (x:SV):List Value:=cS x.mo x.po x.inp x.pj x.lj.length x.cj x.rd x.wr x.pv x.pc x.lc.length x.cc x.pp x.lp.length x.cp
structure SV.ok (x:SV) (w:World):Prop where
 j:VL w (.slice x.pj x.lj.length x.cj) x.lj
 k:Vw fN w (.slice x.pc x.lc.length x.cc) x.lc
 p:PL w (.slice x.pp x.lp.length x.cp) x.lp
structure SV.sm (x:SV):Prop where
 i:x.inp.size<=1000000
 j:smL 1000000 (x.lj.map JV.d)
 k:x.lc.length<=1000000
 p:x.lp.length<=1000000
 ck:x.lc.length<=x.cc
 cj:x.lj.length<=x.cj
 cp:x.lp.length<=x.cp
theorem VP.keep {w w':World} {x:PV} (h:VP w x) (k:Only Ai w w'):VP w' x:=⟨h.1.keep k,h.2⟩
theorem PL.keep {w w':World} {v:Value} {l:List PV} (h:PL w v l) (k:Only Ai w w'):PL w' v l:=⟨h.1.keep k,fun x hx=>(h.2 x hx).keep k⟩
theorem SV.ok.keep {x:SV} {w w':World} (h:x.ok w) (k:Only Ai w w'):x.ok w':=⟨h.j.keep k,h.k.keep k,h.p.keep k⟩
def Ah (T:OwL) (Q:World->Prop):Prop:=∀ (X:Nat->Prop) (w₀ w:World),OwM X w₀ w T->Q w
theorem Ah.at {T A B:OwL} {Q:World->Prop} (h:Ah T Q) {X:Nat->Prop} {w₀ w:World} (hO:OwM X w₀ w (A++(T++B))):Q w :=
 h X w₀ w (hO.less ((List.sublist_append_left T B).trans (List.sublist_append_right A _)))
theorem Ah.mono {T:OwL} {Q R:World->Prop} (h:Ah T Q) (hq : ∀ w,Q w->R w):Ah T R:=fun X w₀ w hO=>hq w (h X w₀ w hO)
theorem Ah.l {T T':OwL} {Q:World->Prop} (h:Ah T Q):Ah (T++T') Q:=fun X w₀ w hO=>h X w₀ w (hO.less (List.sublist_append_left T T'))
theorem Ah.r {T T':OwL} {Q:World->Prop} (h:Ah T' Q):Ah (T++T') Q:=fun X w₀ w hO=>h X w₀ w (hO.less (List.sublist_append_right T T'))
theorem Ah.and {T:OwL} {Q R:World->Prop} (h:Ah T Q) (h':Ah T R):Ah T fun w=>Q w/\R w:=fun X w₀ w hO=>⟨h X w₀ w hO,h' X w₀ w hO⟩
theorem _root_.Go.Proofs.Sx.One.holds {α:Type} {f : α->List Value} {e:TypeId} {sz:Nat} {p:Option Addr} {c:Nat} {l:List α} {T:OwL} (h:One f e sz p c l T):Ah T fun w=>Vw f w (.slice p l.length c) l:=fun X w₀ w hO =>
 h.vw (A:=[]) (B:=[]) (by simpa using hO)
theorem P7 {α:Type} {l:List α} {i:Nat} {x d : α} (h:l[i]? = some x):l.getD i d=x:=by rw [List.getD_eq_getElem?_getD,h]; rfl
theorem _root_.Go.Proofs.Sx.Vw.tail {α:Type} {f : α->List Value} {sz:Nat} (E:Enc f sz) {w:World} {ad:Addr} {x : α} {r:List α} {m c c':Nat} (h:Vw f w (.slice (some ad) m c) (x::r)):Vw f w (.slice (some (ad.add sz)) r.length c') r:=by
 rcases h with ⟨h,_⟩ | ⟨ad',cap,h,hc⟩
 · cases h
 · cases h
   refine .inr ⟨_,c',rfl,fun j u hj=>?_⟩
   rw [Sx.add_add]
   refine hc (sz+j) u ?_
   rw [List.flatMap_cons,List.getElem?_append_right (by rw [E.len]; omega),E.len]
   simpa using hj
theorem _root_.Go.Proofs.Sx.Vw.nil_any {α:Type} {f : α->List Value} {w:World} {p:Option Addr} {m c:Nat} {x : α} (h:Vw f w (.slice p m c) [x]) (c':Nat):Vw f w (.slice p 0 c') []:=by
 rcases h with ⟨_,h⟩ | ⟨ad',cap,h,hc⟩
 · cases h
 · cases h
   exact .inr ⟨_,c',rfl,fun j u hj=>by simp at hj⟩
theorem M0 (w:World) :
 Calls Tryz.prog 24 #[] w fun e w'=>e = .returned (.agg #[i64 0,i64 0,str ⟨#[]⟩,.slice none 0 0,i64 (-1),i64 (-1),i64 (-1),.slice none 0 0,.slice none 0 0])/\Only Ai w w':=by
 refine An (args:=[]) (m:=2) (n:=2) Tryz.func24 rfl (by kernel_rfl) (by kernel_rfl) fun fr hA=>?_;have hO:=Ow.nil Tryz.prog Ai w;refine sr 1 (Mn [i64 0,i64 0,str (⟨#[]⟩),.slice none 0 0,i64 0,i64 0,i64 0,.slice none 0 0,.slice none 0 0] 39 0 hA hO fun fr w1 b1 hA hO=>Ab (Aa (sr 2 (Ka 1 [(1,.agg #[i64 0,i64 0,str (⟨#[]⟩),.slice none 0 0,i64 (-1),i64 (-1),i64 (-1),.slice none 0 0,.slice none 0 0])] hA fun fr hA=>Ms 0 [i64 0,i64 0,str (⟨#[]⟩),.slice none 0 0,i64 (-1),i64 (-1),i64 (-1),.slice none 0 0,.slice none 0 0] 0 hA hO fun w2 hO=>Ab (Aa (wp_ret (cR (cs:=[some (⟨b1,0,none⟩,39)]) (us:=[.agg #[i64 0,i64 0,str (⟨#[]⟩),.slice none 0 0,i64 (-1),i64 (-1),i64 (-1),.slice none 0 0,.slice none 0 0]]) hA [.agg #[i64 0,i64 0,str (⟨#[]⟩),.slice none 0 0,i64 (-1),i64 (-1),i64 (-1),.slice none 0 0,.slice none 0 0]] ⟨(hO.ln 0 0 39 [i64 0,i64 0,str (⟨#[]⟩),.slice none 0 0,i64 (-1),i64 (-1),i64 (-1),.slice none 0 0,.slice none 0 0]),trivial⟩ ?_)))))));have hF:=hO.only; clear hA hO;exact ⟨rfl,hF⟩
theorem Rm (n:Int) (w:World) :
 Calls Tryz.prog 28 #[i64 n,.slice none 0 0] w fun e w'=>e = .returned (.agg #[i64 n,i64 0,i64 0,i64 0,.slice none 0 0])/\Only Ai w w':=by
 refine An (args:=[i64 n,.slice none 0 0]) (m:=11) (n:=13) Tryz.func28 rfl (by kernel_rfl) (by kernel_rfl) fun fr hA=>?_;have hO:=Ow.nil Tryz.prog Ai w;refine sr 1 (Mn [i64 0,i64 0,i64 0,i64 0,.slice none 0 0] 43 4 hA hO fun fr w1 b1 hA hO=>Ab (Aa (sr 4 (Ka 2 [(7,.agg #[i64 n,i64 0,i64 0,i64 0,.slice none 0 0])] hA fun fr hA=>Mn [i64 0,i64 0,i64 0,i64 0,.slice none 0 0] 43 5 hA hO fun fr w2 b2 hA hO=>Ms 0 [i64 n,i64 0,i64 0,i64 0,.slice none 0 0] 0 hA hO fun w3 hO=>Ab (Aa (sr 4 (Kb 3 [(9,.slice (some ⟨b2,1,none⟩) 3 3),(10,.slice none 0 0)] hA [bl false] (cc (⟨by omega,by omega,by omega,by omega,by omega⟩:(0:Int)<=0/\(0:Int)<=((3:Nat):Int)/\((3:Nat):Int)<=((3:Nat):Int)/\((3:Nat):Int)<=((3:Nat):Int)/\((0:Int)=((3:Nat):Int)\/(0:Int)=0)) c0) fun fr hA=>Ag (mY (f:=fN) (el:=3) (L:=[(b2,43,[i64 n,i64 0,i64 0,i64 0,.slice none 0 0]),(b1,43,[i64 0,i64 0,i64 0,i64 0,.slice none 0 0])]) (t:=33) (tx:=33) (ty:=3) (x:= .slice none 0 0) (xs:=[]) (off:=1) (dl:=3) (dc:=3) (m:=0) (d:=(some 11)) (l':=[i64 n,i64 0,i64 0,i64 0,.slice none 0 0]) 0 Fx hA hO (.inl ⟨rfl,rfl⟩) rfl (Nat.le_of_ble_eq_true (by kernel_rfl)) (by kernel_rfl) ?_ (by omega)))))))));clear hA hO fr; intro fr w4 hA hO
 refine Ab (Aa (sr 2 (Kb 1 [(12,.agg #[i64 n,i64 0,i64 0,i64 0,.slice none 0 0])] hA [.agg #[i64 n,i64 0,i64 0,i64 0,.slice none 0 0]] (cc (hO.ln 0 0 43 [i64 n,i64 0,i64 0,i64 0,.slice none 0 0]) c0) fun fr hA=>Ms 0 [i64 n,i64 0,i64 0,i64 0,.slice none 0 0] 1 hA hO fun w5 hO=>Ab (Aa (wp_ret (cR (cs:=[some (⟨b1,0,none⟩,43)]) (us:=[.agg #[i64 n,i64 0,i64 0,i64 0,.slice none 0 0]]) hA [.agg #[i64 n,i64 0,i64 0,i64 0,.slice none 0 0]] ⟨(hO.ln 1 0 43 [i64 n,i64 0,i64 0,i64 0,.slice none 0 0]),trivial⟩ ?_))))));have hF:=hO.only; clear hA hO;exact ⟨rfl,hF⟩
theorem Dd (n x0:Int) (ad:Addr) (c:Nat) (w:World) (hv:Vw fN w (.slice (some ad) 1 c) [x0]) :
 Calls Tryz.prog 28 #[i64 n,.slice (some ad) 1 c] w fun e w'=>e = .returned (.agg #[i64 n,i64 x0,i64 0,i64 0,.slice none 0 0])/\Only Ai w w':=by
 refine An (args:=[i64 n,.slice (some ad) 1 c]) (m:=11) (n:=13) Tryz.func28 rfl (by kernel_rfl) (by kernel_rfl) fun fr hA=>?_;have hO:=Ow.nil Tryz.prog Ai w;refine sr 1 (Mn [i64 0,i64 0,i64 0,i64 0,.slice none 0 0] 43 4 hA hO fun fr w1 b1 hA hO=>Ab (Aa (sr 4 (Ka 2 [(7,.agg #[i64 n,i64 0,i64 0,i64 0,.slice none 0 0])] hA fun fr hA=>Mn [i64 0,i64 0,i64 0,i64 0,.slice none 0 0] 43 5 hA hO fun fr w2 b2 hA hO=>Ms 0 [i64 n,i64 0,i64 0,i64 0,.slice none 0 0] 0 hA hO fun w3 hO=>Ab (Aa (sr 4 (Kb 3 [(9,.slice (some ⟨b2,1,none⟩) 3 3),(10,.slice (some ad) 1 c)] hA [bl false] (cc (⟨by omega,by omega,by omega,by omega,by omega⟩:(0:Int)<=0/\(0:Int)<=((3:Nat):Int)/\((3:Nat):Int)<=((3:Nat):Int)/\((3:Nat):Int)<=((3:Nat):Int)/\((0:Int)=((3:Nat):Int)\/(0:Int)=0)) c0) fun fr hA=>Ag (mY (f:=fN) (el:=3) (L:=[(b2,43,[i64 n,i64 0,i64 0,i64 0,.slice none 0 0]),(b1,43,[i64 0,i64 0,i64 0,i64 0,.slice none 0 0])]) (t:=33) (tx:=33) (ty:=3) (x:= .slice (some ad) 1 c) (xs:=[x0]) (off:=1) (dl:=3) (dc:=3) (m:=1) (d:=(some 11)) (l':=[i64 n,i64 x0,i64 0,i64 0,.slice none 0 0]) 0 Fx hA hO (hv.keep hO.only) rfl (Nat.le_of_ble_eq_true (by kernel_rfl)) (by kernel_rfl) ?_ (by omega)))))))));clear hA hO fr; intro fr w4 hA hO
 refine Ab (Aa (sr 2 (Kb 1 [(12,.agg #[i64 n,i64 x0,i64 0,i64 0,.slice none 0 0])] hA [.agg #[i64 n,i64 x0,i64 0,i64 0,.slice none 0 0]] (cc (hO.ln 0 0 43 [i64 n,i64 x0,i64 0,i64 0,.slice none 0 0]) c0) fun fr hA=>Ms 0 [i64 n,i64 x0,i64 0,i64 0,.slice none 0 0] 1 hA hO fun w5 hO=>Ab (Aa (wp_ret (cR (cs:=[some (⟨b1,0,none⟩,43)]) (us:=[.agg #[i64 n,i64 x0,i64 0,i64 0,.slice none 0 0]]) hA [.agg #[i64 n,i64 x0,i64 0,i64 0,.slice none 0 0]] ⟨(hO.ln 1 0 43 [i64 n,i64 x0,i64 0,i64 0,.slice none 0 0]),trivial⟩ ?_))))));have hF:=hO.only; clear hA hO;exact ⟨rfl,hF⟩
theorem Es (n x0 x1:Int) (ad:Addr) (c:Nat) (w:World) (hv:Vw fN w (.slice (some ad) 2 c) [x0,x1]) :
 Calls Tryz.prog 28 #[i64 n,.slice (some ad) 2 c] w fun e w'=>e = .returned (.agg #[i64 n,i64 x0,i64 x1,i64 0,.slice none 0 0])/\Only Ai w w':=by
 refine An (args:=[i64 n,.slice (some ad) 2 c]) (m:=11) (n:=13) Tryz.func28 rfl (by kernel_rfl) (by kernel_rfl) fun fr hA=>?_;have hO:=Ow.nil Tryz.prog Ai w;refine sr 1 (Mn [i64 0,i64 0,i64 0,i64 0,.slice none 0 0] 43 4 hA hO fun fr w1 b1 hA hO=>Ab (Aa (sr 4 (Ka 2 [(7,.agg #[i64 n,i64 0,i64 0,i64 0,.slice none 0 0])] hA fun fr hA=>Mn [i64 0,i64 0,i64 0,i64 0,.slice none 0 0] 43 5 hA hO fun fr w2 b2 hA hO=>Ms 0 [i64 n,i64 0,i64 0,i64 0,.slice none 0 0] 0 hA hO fun w3 hO=>Ab (Aa (sr 4 (Kb 3 [(9,.slice (some ⟨b2,1,none⟩) 3 3),(10,.slice (some ad) 2 c)] hA [bl false] (cc (⟨by omega,by omega,by omega,by omega,by omega⟩:(0:Int)<=0/\(0:Int)<=((3:Nat):Int)/\((3:Nat):Int)<=((3:Nat):Int)/\((3:Nat):Int)<=((3:Nat):Int)/\((0:Int)=((3:Nat):Int)\/(0:Int)=0)) c0) fun fr hA=>Ag (mY (f:=fN) (el:=3) (L:=[(b2,43,[i64 n,i64 0,i64 0,i64 0,.slice none 0 0]),(b1,43,[i64 0,i64 0,i64 0,i64 0,.slice none 0 0])]) (t:=33) (tx:=33) (ty:=3) (x:= .slice (some ad) 2 c) (xs:=[x0,x1]) (off:=1) (dl:=3) (dc:=3) (m:=2) (d:=(some 11)) (l':=[i64 n,i64 x0,i64 x1,i64 0,.slice none 0 0]) 0 Fx hA hO (hv.keep hO.only) rfl (Nat.le_of_ble_eq_true (by kernel_rfl)) (by kernel_rfl) ?_ (by omega)))))))));clear hA hO fr; intro fr w4 hA hO
 refine Ab (Aa (sr 2 (Kb 1 [(12,.agg #[i64 n,i64 x0,i64 x1,i64 0,.slice none 0 0])] hA [.agg #[i64 n,i64 x0,i64 x1,i64 0,.slice none 0 0]] (cc (hO.ln 0 0 43 [i64 n,i64 x0,i64 x1,i64 0,.slice none 0 0]) c0) fun fr hA=>Ms 0 [i64 n,i64 x0,i64 x1,i64 0,.slice none 0 0] 1 hA hO fun w5 hO=>Ab (Aa (wp_ret (cR (cs:=[some (⟨b1,0,none⟩,43)]) (us:=[.agg #[i64 n,i64 x0,i64 x1,i64 0,.slice none 0 0]]) hA [.agg #[i64 n,i64 x0,i64 x1,i64 0,.slice none 0 0]] ⟨(hO.ln 1 0 43 [i64 n,i64 x0,i64 x1,i64 0,.slice none 0 0]),trivial⟩ ?_))))));have hF:=hO.only; clear hA hO;exact ⟨rfl,hF⟩
theorem Ru (t:Int) (w:World) :
 Calls Tryz.prog 80 #[i64 t] w fun e w'=>e = .returned (.bool (E8 t))/\Only Ai w w':=by
 refine An (args:=[i64 t]) (m:=8) (n:=9) Tryz.func80 rfl (by kernel_rfl) (by kernel_rfl) fun fr hA=>?_;have hO:=Ow.nil Tryz.prog Ai w;refine Sa [(2,bl false)] hA fun fr hA=>sr 7 (Ka 3 [(4,bl (decide (t ≥ 16))),(5,bl (decide (t ≥ 16)))] hA fun fr hA=>?_);rcases qV (decide (t ≥ 16)) with h1 | h1
 · rw [h1] at hA;have h1p:=qX h1;refine Ka 4 [(2,bl (decide (t < 32)))] hA fun fr hA=>Ab (Aa (wp_ret (cv [bl (decide (t < 32))] hA ?_)));have hF:=hO.only; clear hA hO;refine ⟨congrArg (fun b=>Ending.returned (.bool b)) ?_,hF⟩;unfold E8;first | exact (rA (by omega)).symm | exact (qZ (by omega)).symm | exact decide_eq_decide.2 (by omega)
 rw [h1] at hA;have h1p:=qY h1;refine Ka 4 [] hA fun fr hA=>Ab (Aa (wp_ret (cv [bl false] hA ?_)));have hF:=hO.only; clear hA hO;refine ⟨congrArg (fun b=>Ending.returned (.bool b)) ?_,hF⟩;unfold E8;first | exact (rA (by omega)).symm | exact (qZ (by omega)).symm | exact decide_eq_decide.2 (by omega)
theorem Dg (c:CallL):okC c=decide ((-1<=c.a0/\c.a0<=1000)/\(-1<=c.a1/\c.a1<=1000)/\(-1<=c.a2/\c.a2<=1000)/\(0<=c.call/\c.call < 20)/\c.data.length<=128):=by
 unfold okC mQ;rw [Bool.eq_iff_iff]; simp only [Bool.and_eq_true,decide_eq_true_eq]
theorem Xk (x:PV) (w:World) :
 Calls Tryz.prog 82 #[.agg #[i64 x.d.call,i64 x.d.a0,i64 x.d.a1,i64 x.d.a2,.slice x.p x.d.data.length x.c]] w fun e w'=>e = .returned (.bool (okC x.d))/\Only Ai w w':=by
 refine An (args:=[.agg #[i64 x.d.call,i64 x.d.a0,i64 x.d.a1,i64 x.d.a2,.slice x.p x.d.data.length x.c]]) (m:=30) (n:=31) Tryz.func82 rfl (by kernel_rfl) (by kernel_rfl) fun fr hA=>?_;have hO:=Ow.nil Tryz.prog Ai w
 refine sr 2 (Mn [i64 x.d.call,i64 x.d.a0,i64 x.d.a1,i64 x.d.a2,.slice x.p x.d.data.length x.c] 43 1 hA hO fun fr w1 b1 hA hO=>Ka 1 [(2,bl false)] hA fun fr hA=>Ab (Aa (wp_seq (Sb [(6,.agg #[i64 x.d.a0,i64 x.d.a1,i64 x.d.a2]),(7,i64 0)] hA [.agg #[i64 x.d.a0,i64 x.d.a1,i64 x.d.a2]] (cc (hO.ln 0 1 40 [i64 x.d.a0,i64 x.d.a1,i64 x.d.a2]) c0) fun fr hA=>wp_block (Bg (fun mm fr W=>(mm=3/\Holds 31 [] fr [(1,pt b1),(2,bl false),(6,.agg #[i64 x.d.a0,i64 x.d.a1,i64 x.d.a2]),(7,i64 0)]/\Ow Tryz.prog Ai w W [(b1,43,[i64 x.d.call,i64 x.d.a0,i64 x.d.a1,i64 x.d.a2,.slice x.p x.d.data.length x.c])])\/(mm=2/\Holds 31 [] fr [(1,pt b1),(2,bl false),(6,.agg #[i64 x.d.a0,i64 x.d.a1,i64 x.d.a2]),(7,i64 1)]/\Ow Tryz.prog Ai w W [(b1,43,[i64 x.d.call,i64 x.d.a0,i64 x.d.a1,i64 x.d.a2,.slice x.p x.d.data.length x.c])]/\(-1<=x.d.a0/\x.d.a0<=1000))\/(mm=1/\Holds 31 [] fr [(1,pt b1),(2,bl false),(6,.agg #[i64 x.d.a0,i64 x.d.a1,i64 x.d.a2]),(7,i64 2)]/\Ow Tryz.prog Ai w W [(b1,43,[i64 x.d.call,i64 x.d.a0,i64 x.d.a1,i64 x.d.a2,.slice x.p x.d.data.length x.c])]/\(-1<=x.d.a0/\x.d.a0<=1000)/\(-1<=x.d.a1/\x.d.a1<=1000))\/(mm=0/\Holds 31 [] fr [(1,pt b1),(2,bl false),(6,.agg #[i64 x.d.a0,i64 x.d.a1,i64 x.d.a2]),(7,i64 3)]/\Ow Tryz.prog Ai w W [(b1,43,[i64 x.d.call,i64 x.d.a0,i64 x.d.a1,i64 x.d.a2,.slice x.p x.d.data.length x.c])]/\(-1<=x.d.a0/\x.d.a0<=1000)/\(-1<=x.d.a1/\x.d.a1<=1000)/\(-1<=x.d.a2/\x.d.a2<=1000))) ?_ ?_)))))
 · exact ⟨_,(.inl ⟨rfl,hA.sb,hO.to⟩)⟩
 rintro _ fr w2 (⟨rfl,hA,hO⟩ | ⟨rfl,hA,hO,hu⟩ | ⟨rfl,hA,hO,hu⟩ | ⟨rfl,hA,hO,hu⟩)
 · refine Sa [(8,bl true)] hA fun fr hA=>wp_seq (cT hA (wp_skip (Aa (wp_seq (wp_block (Sb [(4,i64 x.d.a0)] hA [i64 x.d.a0] (cc (⟨by omega,by omega,by kernel_rfl⟩:(0:Int)<=0/\0 < ((3:Nat):Int)/\(#[i64 x.d.a0,i64 x.d.a1,i64 x.d.a2])[(0:Int).toNat*1]? = some (i64 x.d.a0)) c0) fun fr hA=>sr 6 (Ka 3 [(11,bl (decide (x.d.a0 < (-1)))),(12,bl (decide (x.d.a0 < (-1))))] hA fun fr hA=>?_)))))));rcases qV (decide (x.d.a0 < (-1))) with h1 | h1
   · rw [h1] at hA;have h1p:=qX h1;refine Ka 3 [(15,bl true)] hA fun fr hA=>Ab (Aa (cT hA (Sa [] hA fun fr hA=>wp_ret (Ae (Ac (Ac (Ae (Ac (cv [bl false] hA ?_)))))))));have hF:=hO.only; clear hA hO;refine ⟨congrArg (fun b=>Ending.returned (.bool b)) ?_,hF⟩;rw [Dg];first | exact (rA (by omega)).symm | exact (qZ (by omega)).symm | exact decide_eq_decide.2 (by omega)
   rw [h1] at hA;have h1p:=qY h1;refine Ka 3 [(15,bl (decide (x.d.a0 > 1000)))] hA fun fr hA=>Ab (Aa ?_);rcases qV (decide (x.d.a0 > 1000)) with h2 | h2
   · rw [h2] at hA;have h2p:=qX h2;refine cT hA (Sa [] hA fun fr hA=>wp_ret (Ae (Ac (Ac (Ae (Ac (cv [bl false] hA ?_)))))));have hF:=hO.only; clear hA hO;refine ⟨congrArg (fun b=>Ending.returned (.bool b)) ?_,hF⟩;rw [Dg];first | exact (rA (by omega)).symm | exact (qZ (by omega)).symm | exact decide_eq_decide.2 (by omega)
   rw [h2] at hA;have h2p:=qY h2;exact cF hA (wp_skip (Ad (Aa (Rc [(7,i64 1)] hA [bl false] c0 fun fr hA=>Aa (⟨2,by decide,(.inr (.inl ⟨rfl,hA.sb,hO.to,(by omega)⟩))⟩)))))
 · refine Sa [(7,i64 1),(8,bl true)] hA fun fr hA=>wp_seq (cT hA (wp_skip (Aa (wp_seq (wp_block (Sb [(4,i64 x.d.a1)] hA [i64 x.d.a1] (cc (⟨by omega,by omega,by kernel_rfl⟩:(0:Int)<=1/\1 < ((3:Nat):Int)/\(#[i64 x.d.a0,i64 x.d.a1,i64 x.d.a2])[(1:Int).toNat*1]? = some (i64 x.d.a1)) c0) fun fr hA=>sr 6 (Ka 3 [(11,bl (decide (x.d.a1 < (-1)))),(12,bl (decide (x.d.a1 < (-1))))] hA fun fr hA=>?_)))))));rcases qV (decide (x.d.a1 < (-1))) with h3 | h3
   · rw [h3] at hA;have h3p:=qX h3;refine Ka 3 [(15,bl true)] hA fun fr hA=>Ab (Aa (cT hA (Sa [] hA fun fr hA=>wp_ret (Ae (Ac (Ac (Ae (Ac (cv [bl false] hA ?_)))))))));have hF:=hO.only; clear hA hO;refine ⟨congrArg (fun b=>Ending.returned (.bool b)) ?_,hF⟩;rw [Dg];first | exact (rA (by omega)).symm | exact (qZ (by omega)).symm | exact decide_eq_decide.2 (by omega)
   rw [h3] at hA;have h3p:=qY h3;refine Ka 3 [(15,bl (decide (x.d.a1 > 1000)))] hA fun fr hA=>Ab (Aa ?_);rcases qV (decide (x.d.a1 > 1000)) with h4 | h4
   · rw [h4] at hA;have h4p:=qX h4;refine cT hA (Sa [] hA fun fr hA=>wp_ret (Ae (Ac (Ac (Ae (Ac (cv [bl false] hA ?_)))))));have hF:=hO.only; clear hA hO;refine ⟨congrArg (fun b=>Ending.returned (.bool b)) ?_,hF⟩;rw [Dg];first | exact (rA (by omega)).symm | exact (qZ (by omega)).symm | exact decide_eq_decide.2 (by omega)
   rw [h4] at hA;have h4p:=qY h4;exact cF hA (wp_skip (Ad (Aa (Rc [(7,i64 2)] hA [bl false] c0 fun fr hA=>Aa (⟨1,by decide,(.inr (.inr (.inl ⟨rfl,hA.sb,hO.to,(by omega)⟩)))⟩)))))
 · refine Sa [(7,i64 2),(8,bl true)] hA fun fr hA=>wp_seq (cT hA (wp_skip (Aa (wp_seq (wp_block (Sb [(4,i64 x.d.a2)] hA [i64 x.d.a2] (cc (⟨by omega,by omega,by kernel_rfl⟩:(0:Int)<=2/\2 < ((3:Nat):Int)/\(#[i64 x.d.a0,i64 x.d.a1,i64 x.d.a2])[(2:Int).toNat*1]? = some (i64 x.d.a2)) c0) fun fr hA=>sr 6 (Ka 3 [(11,bl (decide (x.d.a2 < (-1)))),(12,bl (decide (x.d.a2 < (-1))))] hA fun fr hA=>?_)))))));rcases qV (decide (x.d.a2 < (-1))) with h5 | h5
   · rw [h5] at hA;have h5p:=qX h5;refine Ka 3 [(15,bl true)] hA fun fr hA=>Ab (Aa (cT hA (Sa [] hA fun fr hA=>wp_ret (Ae (Ac (Ac (Ae (Ac (cv [bl false] hA ?_)))))))));have hF:=hO.only; clear hA hO;refine ⟨congrArg (fun b=>Ending.returned (.bool b)) ?_,hF⟩;rw [Dg];first | exact (rA (by omega)).symm | exact (qZ (by omega)).symm | exact decide_eq_decide.2 (by omega)
   rw [h5] at hA;have h5p:=qY h5;refine Ka 3 [(15,bl (decide (x.d.a2 > 1000)))] hA fun fr hA=>Ab (Aa ?_);rcases qV (decide (x.d.a2 > 1000)) with h6 | h6
   · rw [h6] at hA;have h6p:=qX h6;refine cT hA (Sa [] hA fun fr hA=>wp_ret (Ae (Ac (Ac (Ae (Ac (cv [bl false] hA ?_)))))));have hF:=hO.only; clear hA hO;refine ⟨congrArg (fun b=>Ending.returned (.bool b)) ?_,hF⟩;rw [Dg];first | exact (rA (by omega)).symm | exact (qZ (by omega)).symm | exact decide_eq_decide.2 (by omega)
   rw [h6] at hA;have h6p:=qY h6;exact cF hA (wp_skip (Ad (Aa (Rc [(7,i64 3)] hA [bl false] c0 fun fr hA=>Aa (⟨0,by decide,(.inr (.inr (.inr ⟨rfl,hA.sb,hO.to,(by omega)⟩)))⟩)))))
 refine Sa [(7,i64 3),(8,bl false)] hA fun fr hA=>wp_seq (cF hA (wp_exit (Aj (Aj (Ap (Aa (sr 15 (Kb 4 [(19,bl (decide (x.d.call ≥ 0))),(20,bl (decide (x.d.call ≥ 0)))] hA [i64 x.d.call] (cc (hO.l1 0 0 3 (i64 x.d.call)) c0) fun fr hA=>?_))))))));rcases qV (decide (x.d.call ≥ 0)) with h7 | h7
 · rw [h7] at hA;have h7p:=qX h7;refine Kb 5 [(23,bl (decide (x.d.call < 20))),(24,bl (decide (x.d.call < 20))),(25,bl (decide (x.d.call < 20)))] hA [i64 x.d.call] (cc (hO.l1 0 0 3 (i64 x.d.call)) c0) fun fr hA=>?_;rcases qV (decide (x.d.call < 20)) with h8 | h8
   · rw [h8] at hA;have h8p:=qX h8;refine Kb 6 [(2,bl (decide (((x.d.data.length:Nat):Int)<=128)))] hA [.slice x.p x.d.data.length x.c] (cc (hO.l1 0 4 41 (.slice x.p x.d.data.length x.c)) c0) fun fr hA=>Ab (Aa (wp_ret (cv [bl (decide (((x.d.data.length:Nat):Int)<=128))] hA ?_)));have hF:=hO.only; clear hA hO;refine ⟨congrArg (fun b=>Ending.returned (.bool b)) ?_,hF⟩;rw [Dg];first | exact (rA (by omega)).symm | exact (qZ (by omega)).symm | exact decide_eq_decide.2 (by omega)
   rw [h8] at hA;have h8p:=qY h8;refine Ka 6 [] hA fun fr hA=>Ab (Aa (wp_ret (cv [bl false] hA ?_)));have hF:=hO.only; clear hA hO;refine ⟨congrArg (fun b=>Ending.returned (.bool b)) ?_,hF⟩;rw [Dg];first | exact (rA (by omega)).symm | exact (qZ (by omega)).symm | exact decide_eq_decide.2 (by omega)
 rw [h7] at hA;have h7p:=qY h7;refine Ka 11 [] hA fun fr hA=>Ab (Aa (wp_ret (cv [bl false] hA ?_)));have hF:=hO.only; clear hA hO;refine ⟨congrArg (fun b=>Ending.returned (.bool b)) ?_,hF⟩;rw [Dg];first | exact (rA (by omega)).symm | exact (qZ (by omega)).symm | exact decide_eq_decide.2 (by omega)
def PV0:PV:=⟨none,0,Ao 0 0 0⟩
theorem ldN {P:Program} {w:World} {ad:Addr} {m c:Nat} {l:List Int} (h:Vw fN w (.slice (some ad) m c) l) {i:Nat} {x:Int} (hx:l[i]? = some x) {t:TypeId} (ht:Lj P t=true:=by kernel_rfl):Ld P w (ad.add i) t (.int .i64 x):=by
 have:=h.cell Fx (k:=0) hx (v:= .int .i64 x) rfl;rw [Nat.mul_one,Nat.add_zero] at this;exact Cv ht this
theorem mE {l:List Int} {i:Nat} {x v:Int} (h:(l.take i).contains x=false) (hx:l[i]? = some v) (hn:(x == v)=false):(l.take (i+1)).contains x=false:=by
 rw [List.take_add_one,hx,List.contains_append,h,Bool.false_or];show [v].contains x=false;rw [List.contains_cons,hn]; rfl
theorem gN {l:List Int} {i:Nat} {x v:Int} (hx:l[i]? = some v) (hn:(x == v)=true):l.contains x=true:=by
 rw [List.contains_iff_exists_mem_beq];exact ⟨v,List.mem_of_getElem? hx,hn⟩
theorem gO {l:List Int} {i:Nat} {x:Int} (h:(l.take i).contains x=false) (hi : ¬ i < l.length):l.contains x=false:=by rwa [List.take_of_length_le (by omega)] at h
theorem _root_.Go.Proofs.Sx.Vw.take {α:Type} {f : α->List Value} {w:World} {p:Option Addr} {m c i c':Nat} {l:List α} (h:Vw f w (.slice p m c) l) (hm:m=l.length) (hi:i<=l.length) (hp:p=none->c'=0):Vw f w (.slice p i c') (l.take i):=by
 rcases h with ⟨h,rfl⟩ | ⟨ad,cap,h,hc⟩
 · cases h;have:i=0:=by simpa using hi
   subst this;rw [hp rfl]; exact .inl ⟨rfl,rfl⟩
 cases h;refine .inr ⟨ad,c',?_,fun j u hj=>hc j u ?_⟩
 · rw [List.length_take,Nat.min_eq_left hi]
 have e:l.flatMap f=(l.take i).flatMap f++(l.drop i).flatMap f:=by rw [← List.flatMap_append,List.take_append_drop]
 rw [e,List.getElem?_append_left (List.getElem?_eq_some_iff.1 hj).1]; exact hj
theorem _root_.Go.Proofs.Sx.Vw.nilcap {α:Type} {f : α->List Value} {w:World} {p:Option Addr} {m c:Nat} {l:List α} (h:Vw f w (.slice p m c) l):p=none->c=0:=by
 rcases h with ⟨h,_⟩ | ⟨ad,cap,h,_⟩
 · cases h; exact fun _=>rfl
 cases h; exact fun h=>by cases h
theorem _root_.Go.Proofs.Sx.Vw.len {α:Type} {f : α->List Value} {w:World} {p:Option Addr} {m c:Nat} {l:List α} (h:Vw f w (.slice p m c) l):m=l.length:=by
 rcases h with ⟨h,rfl⟩ | ⟨ad,cap,h,_⟩
 · cases h; rfl
 cases h; rfl
theorem lD (p:Option Addr) (c:Nat) (l:List Int) (x:Int) (w:World) (hv:Vw fN w (.slice p l.length c) l) (hm:l.length<=1000000) :
 Calls Tryz.prog 105 #[.slice p l.length c,i64 x] w fun e w'=>∃ r:Int,e = .returned (i64 r)/\decide (r ≥ 0)=l.contains x/\Only Ai w w':=by
 refine An (args:=[.slice p l.length c,i64 x]) (m:=17) (n:=19) Tryz.func105 rfl (by kernel_rfl) (by kernel_rfl) fun fr hA=>?_;have hO:=Ow.nil Tryz.prog Ai w;refine Sa [(4,i64 0)] hA fun fr hA=>wp_seq (Sa [(7,i64 ((l.length:Nat):Int)),(8,i64 0)] hA fun fr hA=>wp_block (Bg (fun mm fr W=>∃ (i:Nat),mm=l.length - i/\Holds 19 [] fr [(0,.slice p l.length c),(1,i64 x),(4,i64 0),(7,i64 ((l.length:Nat):Int)),(8,i64 ((i:Nat):Int))]/\Ow Tryz.prog Ai w W []/\i<=l.length/\(l.take i).contains x=false/\True) ?_ ?_))
 · exact ⟨_,0,rfl,hA.ss,hO.to,(Nat.zero_le _),rfl,trivial⟩
 rintro _ fr w1 ⟨i,rfl,hA,hO,hi,ho,-⟩;refine Sa [(9,bl (decide (((i:Nat):Int) < ((l.length:Nat):Int))))] hA fun fr hA=>wp_seq ?_;rcases qV (decide (((i:Nat):Int) < ((l.length:Nat):Int))) with h1 | h1
 · rw [h1] at hA;have h1p:=qX h1;obtain ⟨ad1,rfl⟩:=((hv.keep hO.only)).pos (by first | omega | exact Nat.zero_lt_succ _);obtain ⟨v1,hx1⟩ : ∃ x,(l)[i]? = some x:=⟨_,Bi _ 0 (by first | omega | exact Nat.zero_lt_succ _)⟩;refine cT hA (wp_skip (Aa (wp_seq (wp_block (Sa [(0,.slice (some ad1) l.length c),(5,i64 ((i:Nat):Int))] hA fun fr hA=>Sb [(16,bl (x == v1))] hA [i64 v1] (cc (⟨by omega,by omega⟩:(0:Int)<=((i:Nat):Int)/\((i:Nat):Int) < ((l.length:Nat):Int)) (cc ((ldN ((hv.keep hO.only)) hx1):Ld Tryz.prog w1 (ad1.add i) 3 (i64 v1)) c0)) fun fr hA=>?_)))));rcases qV (x == v1) with h2 | h2
   · rw [h2] at hA;have h2p:=eq_of_beq h2;refine cT hA (Sa [(4,i64 ((i:Nat):Int))] hA fun fr hA=>wp_ret (Ae (Ac (Ac (Ae (Ac (cv [i64 ((i:Nat):Int)] hA ?_)))))));have hF:=hO.only; clear hA hO;first | exact ⟨_,rfl,(qZ (by omega)).trans (gN hx1 (by assumption)).symm,hF⟩ | exact ⟨_,rfl,(rA (by omega)).trans (gO ho (by omega)).symm,hF⟩
   rw [h2] at hA;have h2p:=ne_of_beq_false h2;exact cF hA (wp_skip (Ad (Aa (Rc [(8,i64 (((i:Nat):Int)+1))] hA [bl true] (cc ((Am (by omega) (by omega)):inK .i64 (((i:Nat):Int)+1)) c0) fun fr hA=>Aa (⟨_,by omega,i+1,rfl,hA.ss,hO.to,(by omega),(mE ho hx1 (by assumption)),trivial⟩)))))
 rw [h1] at hA;have h1p:=qY h1;refine cF hA (wp_exit (Aj (Aj (Ap (Aa (Sa [(4,i64 (-1))] hA fun fr hA=>wp_ret (cv [i64 (-1)] hA ?_)))))));have hF:=hO.only; clear hA hO;first | exact ⟨_,rfl,(qZ (by omega)).trans (gN hx1 (by assumption)).symm,hF⟩ | exact ⟨_,rfl,(rA (by omega)).trans (gO ho (by omega)).symm,hF⟩
theorem Pc (p:Option Addr) (c:Nat) (l:List Int) (x:Int) (w:World) (hv:Vw fN w (.slice p l.length c) l) (hm:l.length<=1000000) :
 Calls Tryz.prog 81 #[.slice p l.length c,i64 x] w fun e w'=>e = .returned (.bool (l.contains x))/\Only Ai w w':=by
 refine An (args:=[.slice p l.length c,i64 x]) (m:=7) (n:=9) Tryz.func81 rfl (by kernel_rfl) (by kernel_rfl) fun fr hA=>?_;have hO:=Ow.nil Tryz.prog Ai w;refine Sa [(4,bl false)] hA fun fr hA=>sr 5 (Ka 2 [(5,.slice p l.length c),(6,i64 x)] hA fun fr hA=>Ag (mC (d:=(some 7)) hA Tryz.func105 ((lD p c l x _ (hv.keep hO.only) hm).mono ?_)));rintro en w1 ⟨r1,rfl,hr1,ho⟩;refine ⟨_,rfl,?_⟩;clear hA fr; intro fr hA;replace hO:=hO.st ho; clear ho;refine Ka 2 [(4,bl (decide (r1 ≥ 0)))] hA fun fr hA=>Ab (Aa (wp_ret (cv [bl (decide (r1 ≥ 0))] hA ?_)));have hF:=hO.only; clear hA hO;exact ⟨congrArg (fun b=>Ending.returned (.bool b)) hr1,hF⟩
theorem K5 (p:Option Addr) (m c:Nat) (l:List Int) (x:Int) (w:World) (hv:Vw fN w (.slice p m c) l) (hm:l.length<=1000000):Calls Tryz.prog 81 #[.slice p m c,i64 x] w fun e w'=>e = .returned (.bool (l.contains x))/\Only Ai w w':=by
 have:=hv.len;subst this;exact Pc p c l x w hv hm
theorem dY {l:List JV} (h:((l.length:Nat):Int)=0):Ca (l.map JV.d)=0:=by
 cases l with
 | nil=>rfl
 | cons x r=>simp only [List.length_cons] at h; omega
theorem jY {l:List JV} {xp:Option Addr} {xc:Nat} {xl:List CV} {xb:Bool} (h:l[0]? = some ⟨xp,xc,xl,xb⟩):Ca (l.map JV.d)=xl.length:=by
 cases l with
 | nil=>simp at h
 | cons x r =>
  simp only [List.getElem?_cons_zero,Option.some.injEq] at h;subst h;show (xl.map CV.d).length=_;rw [List.length_map]
theorem Di (mo po:Int) (inp:ByteArray) (pj:Option Addr) (kj:Nat) (lj:List JV) (rd wr pv:Int) (pn:Option Addr) (kn:Nat) (ln:List Int) (pp:Option Addr) (kp:Nat) (lp:List PV) (w:World) (hs:SV.ok (⟨mo,po,inp,pj,kj,lj,rd,wr,pv,pn,kn,ln,pp,kp,lp⟩:SV) w) :
 Calls Tryz.prog 47 #[.agg #[i64 mo,i64 po,str inp,.slice pj lj.length kj,i64 rd,i64 wr,i64 pv,.slice pn ln.length kn,.slice pp lp.length kp]] w fun e w'=>e = .returned (i64 ((Ca (lj.map JV.d):Nat):Int))/\Only Ai w w':=by
 refine An (args:=[.agg #[i64 mo,i64 po,str inp,.slice pj lj.length kj,i64 rd,i64 wr,i64 pv,.slice pn ln.length kn,.slice pp lp.length kp]]) (m:=12) (n:=13) Tryz.func47 rfl (by kernel_rfl) (by kernel_rfl) fun fr hA=>?_;have hO:=Ow.nil Tryz.prog Ai w;have hv_j:VL w (.slice pj lj.length kj) lj:=hs.j;have hv_k:Vw fN w (.slice pn ln.length kn) ln:=hs.k;have hv_p:PL w (.slice pp lp.length kp) lp:=hs.p;refine sr 2 (Mn [i64 mo,i64 po,str inp,.slice pj lj.length kj,i64 rd,i64 wr,i64 pv,.slice pn ln.length kn,.slice pp lp.length kp] 39 1 hA hO fun fr w1 b1 hA hO=>Ka 1 [(2,i64 0)] hA fun fr hA=>Ab (Aa (wp_seq (Sb [(6,bl (((lj.length:Nat):Int) == 0))] hA [.slice pj lj.length kj] (cc (hO.l1 0 3 36 (.slice pj lj.length kj)) c0) fun fr hA=>?_))));rcases qV (((lj.length:Nat):Int) == 0) with h1 | h1
 · rw [h1] at hA;have h1p:=eq_of_beq h1;refine cT hA (Sa [] hA fun fr hA=>wp_ret (Ac (cv [i64 0] hA ?_)));have hF:=hO.only; clear hA hO;exact ⟨congrArg (fun k:Nat=>Ending.returned (i64 ((k:Nat):Int))) (dY (by assumption)).symm,hF⟩
 rw [h1] at hA;have h1p:=ne_of_beq_false h1;obtain ⟨ad1,rfl⟩:=((hv_j.keep hO.only).1).pos (by first | omega | exact Nat.zero_lt_succ _);obtain ⟨⟨xp1,xc1,xl1,xb1⟩,hx1⟩ : ∃ x,(lj)[0]? = some x:=⟨_,Bi _ JV0 (by first | omega | exact Nat.zero_lt_succ _)⟩;refine cF hA (wp_skip (Aa (Sb [(2,i64 ((xl1.length:Nat):Int))] hA [.slice (some ad1) lj.length kj,.slice xp1 xl1.length xc1] (cc (hO.l1 0 3 36 (.slice (some ad1) lj.length kj)) (cc (⟨by omega,by omega⟩:(0:Int)<=0/\0 < ((lj.length:Nat):Int)) (cc ((((hv_j.keep hO.only).1).ld0 Eb hx1 (by rfl)):Ld Tryz.prog w1 (ad1.add 0) 101 (.slice xp1 xl1.length xc1)) c0))) fun fr hA=>wp_ret (cv [i64 ((xl1.length:Nat):Int)] hA ?_))));have hF:=hO.only; clear hA hO;exact ⟨congrArg (fun k:Nat=>Ending.returned (i64 ((k:Nat):Int))) (jY hx1).symm,hF⟩
end Go.Proofs.YtdljjajjonfjbaaGreatDoor
