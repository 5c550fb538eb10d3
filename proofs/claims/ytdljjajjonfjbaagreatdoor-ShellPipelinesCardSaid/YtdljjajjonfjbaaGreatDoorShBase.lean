import Derived.Test.YtdljjajjonfjbaaGreatDoorParsf
import Derived.Test.YtdljjajjonfjbaaGreatDoorSn
import Derived.Lib.ConvBytes
import Derived.Laws.AppendOwn
set_option linter.unusedVariables false
set_option linter.unusedSimpArgs false
set_option maxRecDepth 10000
open Go.Proofs.Tryz renaming prog->sA
open Go.Ending renaming returned->sB
open List renaming length_map->sG,mem_singleton->sM
namespace Go.Proofs.YtdljjajjonfjbaaGreatDoor
open Go Go.Shelf Go.RowKit Go.Proofs Go.Proofs.Sx
def Cf (s:ByteArray):Bool:=decide (s.size=0) || A3 s
def Au (d:CmdL):Bool:=d.words.all A3 && (decide (1<=d.words.length/\d.words.length<=4) && (Cf d.inp && (Cf d.out && (!d.app || !decide (d.out.size=0)))))
def Bq (x:JobL):Bool:=decide (1<=x.cmds.length/\x.cmds.length<=4) && x.cmds.all Au
def Aq (l:List JobL):Bool:=l.all Bq && decide (l.length<=8)
def smC (N:Nat) (d:CmdL):Prop:=(∀ u∈d.words,u.size<=N)/\d.inp.size<=N/\d.out.size<=N/\d.words.length<=N
def smJ (N:Nat) (x:JobL):Prop:=x.cmds.length<=N/\∀ c∈x.cmds,smC N c
def smL (N:Nat) (l:List JobL):Prop:=l.length<=N/\∀ x∈l,smJ N x
section
variable {N:Nat}
theorem smL.at {l:List JV} {i:Nat} {x:JV} (h:smL N (l.map JV.d)) (hx:l[i]? = some x):smJ N x.d:=h.2 _ (List.mem_map.2 ⟨x,List.mem_of_getElem? hx,rfl⟩)
theorem smL.len {l:List JV} (h:smL N (l.map JV.d)):l.length<=N:=by have:=h.1; rwa [sG] at this
theorem smJ.len {x:JV} (h:smJ N x.d):x.cmds.length<=N:=by have:=h.1; unfold JV.d at this; rwa [sG] at this
theorem smJ.at {x:JV} {k:Nat} {c:CV} (h:smJ N x.d) (hx:x.cmds[k]? = some c):smC N c.d:=h.2 _ (List.mem_map.2 ⟨c,List.mem_of_getElem? hx,rfl⟩)
theorem smC.at {d:CmdL} {j:Nat} {z:ByteArray} (h:smC N d) (hz:d.words[j]? = some z):z.size<=N:=h.1 _ (List.mem_of_getElem? hz)
end
theorem B2 {d:CmdL} {j:Nat} {z:ByteArray} (hz:d.words[j]? = some z) (h:A3 z=false):Au d=false:=by unfold Au; rw [Kj hz h]; rfl
theorem Vq {x:JobL}:Bq x=(decide (1<=x.cmds.length/\x.cmds.length<=4) && x.cmds.all Au):=rfl
theorem eN {s:ByteArray} (h : ¬ s.size=0):Cf s=A3 s:=by unfold Cf; rw [rZ h]; rfl
theorem eO {s:ByteArray} (h:s.size=0):Cf s=true:=by unfold Cf; rw [rY h]; rfl
section
variable {xp:Option Addr} {xc:Nat} {xl:List CV} {xb:Bool}
theorem Nk (h1 : 1<=xl.length/\xl.length<=4) (h:xl.all (fun y=>Au y.d)=true):Bq (JV.d ⟨xp,xc,xl,xb⟩)=true:=by
 unfold Bq JV.d;simp only [sG,List.all_map];rw [rY h1,Bool.true_and]; exact h
theorem B1 (h : ¬ (1<=xl.length/\xl.length<=4)):Bq (JV.d ⟨xp,xc,xl,xb⟩)=false:=by
 unfold Bq JV.d;simp only [sG];rw [rZ h]; rfl
theorem B7 {k:Nat} {y:CV} (hy:xl[k]? = some y) (h:Au y.d=false):Bq (JV.d ⟨xp,xc,xl,xb⟩)=false:=by
 unfold Bq JV.d;simp only [List.all_map];rw [Kj (p:=Au ∘ CV.d) hy h,Bool.and_false]
theorem B0 {l:List JV} (h:l.all (fun x=>Bq x.d)=true):Aq (l.map JV.d)=decide (l.length<=8):=by
 unfold Aq;rw [List.all_map,sG,show l.all (Bq ∘ JV.d)=true from h,Bool.true_and]
theorem A6 {l:List JV} {i:Nat} {x:JV} (hx:l[i]? = some x) (h:Bq x.d=false):Aq (l.map JV.d)=false:=by
 unfold Aq;rw [List.all_map,Kj (p:=Bq ∘ JV.d) hx h]; rfl
end
theorem aF (p:Option Addr) (c:Nat) (d:CmdL) (w:World) (hv:Vw fT w (.slice p d.words.length c) d.words) (hsm:smC 1000000 d) :
 Calls sA 79 #[.agg #[.slice p d.words.length c,Y d.inp,Y d.out,I d.app]] w fun e w'=>e = .returned (.bool (Au d))/\Only Ai w w':=by
 refine Ao (args:=[.agg #[.slice p d.words.length c,Y d.inp,Y d.out,I d.app]]) (m:=55) (n:=56) Tryz.func79 rfl (by kernel_rfl) (by kernel_rfl) fun J V=>?_;have O:=Ow.nil sA Ai w;obtain ⟨smw_,smi_,smo_,sml_⟩:=id hsm;refine sr 2 (Mn [.slice p d.words.length c,Y d.inp,Y d.out,I d.app] 104 1 V O ?_);clear V O J; intro J w1 b1 V O;refine Ka 1 [(2,I false)] V ?_;clear V J; intro J V;refine Ab (Aa (wp_seq (Sb [(7,.slice p d.words.length c),(8,Z ((d.words.length:Nat):Int)),(9,Z 0)] V [.slice p d.words.length c] (cc (O.l1 0 0 30 (.slice p d.words.length c)) c0) ?_)));clear V J; intro J V;refine wp_block (Bc (fun mm J W=>∃ (i:Nat),mm=d.words.length - i/\Holds 56 [] J [(1,pt b1),(2,I false),(7,.slice p d.words.length c),(8,Z ((d.words.length:Nat):Int)),(9,Z ((i:Nat):Int))]/\Ow sA Ai w W [(b1,104,[.slice p d.words.length c,Y d.inp,Y d.out,I d.app])]/\i<=d.words.length/\(d.words.take i).all A3=true/\True) ?_ ?_)
 · exact ⟨_,0,rfl,V.ss,O.to,(Nat.zero_le _),rfl,trivial⟩
 rintro _ J w2 ⟨i,rfl,V,O,hi,ho,-⟩;refine Sa [(10,I (decide (((i:Nat):Int) < ((d.words.length:Nat):Int))))] V ?_;clear V J; intro J V;refine wp_seq ?_;rcases rU (decide (((i:Nat):Int) < ((d.words.length:Nat):Int))) with h1 | h1
 · rw [h1] at V;have h1p:=rV h1;obtain ⟨ad1,rfl⟩:=(hv).pos (by omega);obtain ⟨z1,hz1⟩ : ∃ x,d.words[i]? = some x:=⟨_,Bg _ ⟨#[]⟩ (by omega)⟩;refine cT V (wp_skip (Aa (wp_seq (wp_block (Sb [(4,Y z1),(7,.slice (some ad1) d.words.length c)] V [Y z1] (cc (⟨by omega,by omega⟩:(0:Int)<=((i:Nat):Int)/\((i:Nat):Int) < ((d.words.length:Nat):Int)) (cc (((hv.keep O.only).ldT hz1):Ld sA w2 (ad1.add i) 9 (Y z1)) c0)) ?_)))));clear V J; intro J V;refine sr 3 (Ka 1 [(13,Y z1)] V ?_);clear V J; intro J V;refine Mk 14 V O Tryz.func104 (Ha z1 _ (by first | omega | exact hsm.at (by assumption))) ?_;clear V O J; intro J w3 V O;refine Ka 1 [(15,I (!(A3 z1)))] V ?_;clear V J; intro J V;refine Ab (Aa ?_);rcases rU (A3 z1) with h2 | h2
   · rw [h2] at V;refine cF V (wp_skip (Ac (Aa (Rc [(9,Z (((i:Nat):Int)+1))] V [I true] (cc ((Am (by omega) (by omega)):inK .i64 (((i:Nat):Int)+1)) c0) ?_))));clear V J; intro J V;exact Aa (⟨_,by omega,i+1,rfl,V.ss,O.to,(by omega),(Db ho (by assumption) (by assumption)),trivial⟩)
   rw [h2] at V;refine cT V (Sa [] V ?_);clear V J; intro J V;refine wp_ret (Ae (Ad (Ad (Ae (Ad (cv [I false] V ?_))))));have hF:=O.only; clear V O;exact ⟨congrArg (fun b=>sB (.bool b)) (B2 (by assumption) (by assumption)).symm,hF⟩
 rw [h1] at V;have h1p:=rX h1;refine cF V (wp_exit (Aj (Aj (An (Aa (Sb [(5,Z ((d.words.length:Nat):Int))] V [.slice p d.words.length c] (cc (O.l1 0 0 30 (.slice p d.words.length c)) c0) ?_))))));clear V J; intro J V;refine sr 37 (Ka 3 [(21,I (decide (((d.words.length:Nat):Int) ≥ 1))),(22,I (decide (((d.words.length:Nat):Int) ≥ 1)))] V ?_);clear V J; intro J V;rcases rU (decide (((d.words.length:Nat):Int) ≥ 1)) with h3 | h3
 · rw [h3] at V;have h3p:=rV h3;refine Ka 4 [(24,I (decide (((d.words.length:Nat):Int)<=4))),(25,I (decide (((d.words.length:Nat):Int)<=4))),(26,I (decide (((d.words.length:Nat):Int)<=4)))] V ?_;clear V J; intro J V;rcases rU (decide (((d.words.length:Nat):Int)<=4)) with h4 | h4
   · rw [h4] at V;have h4p:=rV h4;refine Kb 4 [(26,I true),(29,I (d.inp.toList == (⟨#[]⟩:ByteArray).toList)),(30,I (d.inp.toList == (⟨#[]⟩:ByteArray).toList))] V [Y d.inp] (cc (O.l1 0 1 9 (Y d.inp)) c0) ?_;clear V J; intro J V;rw [(As d.inp:(d.inp.toList == (⟨#[]⟩:ByteArray).toList)=(decide (d.inp.size=0)))] at V;rcases rU (decide (d.inp.size=0)) with h5 | h5
     · rw [h5] at V;have h5p:=rV h5;refine Kb 10 [(36,I true),(39,I (d.out.toList == (⟨#[]⟩:ByteArray).toList)),(40,I (d.out.toList == (⟨#[]⟩:ByteArray).toList))] V [Y d.out] (cc (O.l1 0 2 9 (Y d.out)) c0) ?_;clear V J; intro J V;rw [(As d.out:(d.out.toList == (⟨#[]⟩:ByteArray).toList)=(decide (d.out.size=0)))] at V;rcases rU (decide (d.out.size=0)) with h6 | h6
       · rw [h6] at V;have h6p:=rV h6;refine Kb 10 [(46,I true),(49,I (!d.app)),(50,I (!d.app))] V [I d.app] (cc (O.l1 0 3 4 (I d.app)) c0) ?_;clear V J; intro J V;rcases rU (d.app) with h7 | h7
         · rw [h7] at V;refine Kb 6 [(2,I (!(d.out.toList == (⟨#[]⟩:ByteArray).toList)))] V [Y d.out] (cc (O.l1 0 2 9 (Y d.out)) c0) ?_;clear V J; intro J V;rw [(As d.out:(d.out.toList == (⟨#[]⟩:ByteArray).toList)=(decide (d.out.size=0)))] at V;refine Ab (Aa (wp_ret (cv [I (!(decide (d.out.size=0)))] V ?_)));have hF:=O.only; clear V O;have hall:=A7 ho (by omega);refine ⟨congrArg (fun b=>sB (.bool b)) ?_,hF⟩;unfold Au;rw [hall];first | rw [rY (show 1<=d.words.length/\d.words.length<=4 by omega)] | (rw [rZ (show ¬ (1<=d.words.length/\d.words.length<=4) by omega)])
           try simp_all [Cf]
         rw [h7] at V;refine Ka 6 [(2,I true)] V ?_;clear V J; intro J V;refine Ab (Aa (wp_ret (cv [I true] V ?_)));have hF:=O.only; clear V O;have hall:=A7 ho (by omega);refine ⟨congrArg (fun b=>sB (.bool b)) ?_,hF⟩;unfold Au;rw [hall];first | rw [rY (show 1<=d.words.length/\d.words.length<=4 by omega)] | (rw [rZ (show ¬ (1<=d.words.length/\d.words.length<=4) by omega)])
         try simp_all [Cf]
       rw [h6] at V;have h6p:=rX h6;refine Kb 2 [(40,I false),(42,Y d.out)] V [Y d.out] (cc (O.l1 0 2 9 (Y d.out)) c0) ?_;clear V J; intro J V;refine Mk 43 V O Tryz.func104 (Ha d.out _ (by first | omega | exact hsm.at (by assumption))) ?_;clear V O J; intro J w4 V O;refine Ka 3 [(44,I (A3 d.out)),(45,I (A3 d.out)),(46,I (A3 d.out))] V ?_;clear V J; intro J V;rcases rU (A3 d.out) with h8 | h8
       · rw [h8] at V;refine Kb 4 [(46,I true),(49,I (!d.app)),(50,I (!d.app))] V [I d.app] (cc (O.l1 0 3 4 (I d.app)) c0) ?_;clear V J; intro J V;rcases rU (d.app) with h9 | h9
         · rw [h9] at V;refine Kb 6 [(2,I (!(d.out.toList == (⟨#[]⟩:ByteArray).toList)))] V [Y d.out] (cc (O.l1 0 2 9 (Y d.out)) c0) ?_;clear V J; intro J V;rw [(As d.out:(d.out.toList == (⟨#[]⟩:ByteArray).toList)=(decide (d.out.size=0)))] at V;refine Ab (Aa (wp_ret (cv [I (!(decide (d.out.size=0)))] V ?_)));have hF:=O.only; clear V O;have hall:=A7 ho (by omega);refine ⟨congrArg (fun b=>sB (.bool b)) ?_,hF⟩;unfold Au;rw [hall];first | rw [rY (show 1<=d.words.length/\d.words.length<=4 by omega)] | (rw [rZ (show ¬ (1<=d.words.length/\d.words.length<=4) by omega)])
           try simp_all [Cf]
         rw [h9] at V;refine Ka 6 [(2,I true)] V ?_;clear V J; intro J V;refine Ab (Aa (wp_ret (cv [I true] V ?_)));have hF:=O.only; clear V O;have hall:=A7 ho (by omega);refine ⟨congrArg (fun b=>sB (.bool b)) ?_,hF⟩;unfold Au;rw [hall];first | rw [rY (show 1<=d.words.length/\d.words.length<=4 by omega)] | (rw [rZ (show ¬ (1<=d.words.length/\d.words.length<=4) by omega)])
         try simp_all [Cf]
       rw [h8] at V;refine Ka 10 [] V ?_;clear V J; intro J V;refine Ab (Aa (wp_ret (cv [I false] V ?_)));have hF:=O.only; clear V O;have hall:=A7 ho (by omega);refine ⟨congrArg (fun b=>sB (.bool b)) ?_,hF⟩;unfold Au;rw [hall];first | rw [rY (show 1<=d.words.length/\d.words.length<=4 by omega)] | (rw [rZ (show ¬ (1<=d.words.length/\d.words.length<=4) by omega)])
       try simp_all [Cf]
     rw [h5] at V;have h5p:=rX h5;refine Kb 2 [(30,I false),(32,Y d.inp)] V [Y d.inp] (cc (O.l1 0 1 9 (Y d.inp)) c0) ?_;clear V J; intro J V;refine Mk 33 V O Tryz.func104 (Ha d.inp _ (by first | omega | exact hsm.at (by assumption))) ?_;clear V O J; intro J w5 V O;refine Ka 3 [(34,I (A3 d.inp)),(35,I (A3 d.inp)),(36,I (A3 d.inp))] V ?_;clear V J; intro J V;rcases rU (A3 d.inp) with h10 | h10
     · rw [h10] at V;refine Kb 4 [(36,I true),(39,I (d.out.toList == (⟨#[]⟩:ByteArray).toList)),(40,I (d.out.toList == (⟨#[]⟩:ByteArray).toList))] V [Y d.out] (cc (O.l1 0 2 9 (Y d.out)) c0) ?_;clear V J; intro J V;rw [(As d.out:(d.out.toList == (⟨#[]⟩:ByteArray).toList)=(decide (d.out.size=0)))] at V;rcases rU (decide (d.out.size=0)) with h11 | h11
       · rw [h11] at V;have h11p:=rV h11;refine Kb 10 [(46,I true),(49,I (!d.app)),(50,I (!d.app))] V [I d.app] (cc (O.l1 0 3 4 (I d.app)) c0) ?_;clear V J; intro J V;rcases rU (d.app) with h12 | h12
         · rw [h12] at V;refine Kb 6 [(2,I (!(d.out.toList == (⟨#[]⟩:ByteArray).toList)))] V [Y d.out] (cc (O.l1 0 2 9 (Y d.out)) c0) ?_;clear V J; intro J V;rw [(As d.out:(d.out.toList == (⟨#[]⟩:ByteArray).toList)=(decide (d.out.size=0)))] at V;refine Ab (Aa (wp_ret (cv [I (!(decide (d.out.size=0)))] V ?_)));have hF:=O.only; clear V O;have hall:=A7 ho (by omega);refine ⟨congrArg (fun b=>sB (.bool b)) ?_,hF⟩;unfold Au;rw [hall];first | rw [rY (show 1<=d.words.length/\d.words.length<=4 by omega)] | (rw [rZ (show ¬ (1<=d.words.length/\d.words.length<=4) by omega)])
           try simp_all [Cf]
         rw [h12] at V;refine Ka 6 [(2,I true)] V ?_;clear V J; intro J V;refine Ab (Aa (wp_ret (cv [I true] V ?_)));have hF:=O.only; clear V O;have hall:=A7 ho (by omega);refine ⟨congrArg (fun b=>sB (.bool b)) ?_,hF⟩;unfold Au;rw [hall];first | rw [rY (show 1<=d.words.length/\d.words.length<=4 by omega)] | (rw [rZ (show ¬ (1<=d.words.length/\d.words.length<=4) by omega)])
         try simp_all [Cf]
       rw [h11] at V;have h11p:=rX h11;refine Kb 2 [(40,I false),(42,Y d.out)] V [Y d.out] (cc (O.l1 0 2 9 (Y d.out)) c0) ?_;clear V J; intro J V;refine Mk 43 V O Tryz.func104 (Ha d.out _ (by first | omega | exact hsm.at (by assumption))) ?_;clear V O J; intro J w6 V O;refine Ka 3 [(44,I (A3 d.out)),(45,I (A3 d.out)),(46,I (A3 d.out))] V ?_;clear V J; intro J V;rcases rU (A3 d.out) with h13 | h13
       · rw [h13] at V;refine Kb 4 [(46,I true),(49,I (!d.app)),(50,I (!d.app))] V [I d.app] (cc (O.l1 0 3 4 (I d.app)) c0) ?_;clear V J; intro J V;rcases rU (d.app) with h14 | h14
         · rw [h14] at V;refine Kb 6 [(2,I (!(d.out.toList == (⟨#[]⟩:ByteArray).toList)))] V [Y d.out] (cc (O.l1 0 2 9 (Y d.out)) c0) ?_;clear V J; intro J V;rw [(As d.out:(d.out.toList == (⟨#[]⟩:ByteArray).toList)=(decide (d.out.size=0)))] at V;refine Ab (Aa (wp_ret (cv [I (!(decide (d.out.size=0)))] V ?_)));have hF:=O.only; clear V O;have hall:=A7 ho (by omega);refine ⟨congrArg (fun b=>sB (.bool b)) ?_,hF⟩;unfold Au;rw [hall];first | rw [rY (show 1<=d.words.length/\d.words.length<=4 by omega)] | (rw [rZ (show ¬ (1<=d.words.length/\d.words.length<=4) by omega)])
           try simp_all [Cf]
         rw [h14] at V;refine Ka 6 [(2,I true)] V ?_;clear V J; intro J V;refine Ab (Aa (wp_ret (cv [I true] V ?_)));have hF:=O.only; clear V O;have hall:=A7 ho (by omega);refine ⟨congrArg (fun b=>sB (.bool b)) ?_,hF⟩;unfold Au;rw [hall];first | rw [rY (show 1<=d.words.length/\d.words.length<=4 by omega)] | (rw [rZ (show ¬ (1<=d.words.length/\d.words.length<=4) by omega)])
         try simp_all [Cf]
       rw [h13] at V;refine Ka 10 [] V ?_;clear V J; intro J V;refine Ab (Aa (wp_ret (cv [I false] V ?_)));have hF:=O.only; clear V O;have hall:=A7 ho (by omega);refine ⟨congrArg (fun b=>sB (.bool b)) ?_,hF⟩;unfold Au;rw [hall];first | rw [rY (show 1<=d.words.length/\d.words.length<=4 by omega)] | (rw [rZ (show ¬ (1<=d.words.length/\d.words.length<=4) by omega)])
       try simp_all [Cf]
     rw [h10] at V;refine Ka 20 [] V ?_;clear V J; intro J V;refine Ab (Aa (wp_ret (cv [I false] V ?_)));have hF:=O.only; clear V O;have hall:=A7 ho (by omega);refine ⟨congrArg (fun b=>sB (.bool b)) ?_,hF⟩;unfold Au;rw [hall];first | rw [rY (show 1<=d.words.length/\d.words.length<=4 by omega)] | (rw [rZ (show ¬ (1<=d.words.length/\d.words.length<=4) by omega)])
     try simp_all [Cf]
   rw [h4] at V;have h4p:=rX h4;refine Ka 30 [] V ?_;clear V J; intro J V;refine Ab (Aa (wp_ret (cv [I false] V ?_)));have hF:=O.only; clear V O;have hall:=A7 ho (by omega);refine ⟨congrArg (fun b=>sB (.bool b)) ?_,hF⟩;unfold Au;rw [hall];first | rw [rY (show 1<=d.words.length/\d.words.length<=4 by omega)] | (rw [rZ (show ¬ (1<=d.words.length/\d.words.length<=4) by omega)])
   try simp_all [Cf]
 rw [h3] at V;have h3p:=rX h3;refine Ka 34 [] V ?_;clear V J; intro J V;refine Ab (Aa (wp_ret (cv [I false] V ?_)));have hF:=O.only; clear V O;have hall:=A7 ho (by omega);refine ⟨congrArg (fun b=>sB (.bool b)) ?_,hF⟩;unfold Au;rw [hall];first | rw [rY (show 1<=d.words.length/\d.words.length<=4 by omega)] | (rw [rZ (show ¬ (1<=d.words.length/\d.words.length<=4) by omega)])
 try simp_all [Cf]
theorem cU (p:Option Addr) (c:Nat) (l:List JV) (w:World) (hv:VL w (.slice p l.length c) l) (hsm:smL 1000000 (l.map JV.d)) :
 Calls sA 45 #[.slice p l.length c] w fun e w'=>e = .returned (.bool (Aq (l.map JV.d)))/\Only Ai w w':=by
 refine Ao (args:=[.slice p l.length c]) (m:=37) (n:=38) Tryz.func45 rfl (by kernel_rfl) (by kernel_rfl) fun J V=>?_;have O:=Ow.nil sA Ai w;have hsl:=hsm.len;refine Sa [(2,I false)] V ?_;clear V J; intro J V;refine wp_seq (Sa [(8,.slice p l.length c),(9,Z ((l.length:Nat):Int)),(10,Z 0)] V ?_);clear V J; intro J V;refine wp_block (Bc (fun mm J W=>∃ (i:Nat),mm=l.length - i/\Holds 38 [] J [(0,.slice p l.length c),(2,I false),(8,.slice p l.length c),(9,Z ((l.length:Nat):Int)),(10,Z ((i:Nat):Int))]/\Ow sA Ai w W []/\i<=l.length/\(l.take i).all (fun x=>Bq x.d)=true/\True) ?_ ?_)
 · exact ⟨_,0,rfl,V.ss,O.to,(Nat.zero_le _),rfl,trivial⟩
 rintro _ J w1 ⟨i,rfl,V,O,hi,ho,-⟩;refine Sa [(11,I (decide (((i:Nat):Int) < ((l.length:Nat):Int))))] V ?_;clear V J; intro J V;refine wp_seq ?_;rcases rU (decide (((i:Nat):Int) < ((l.length:Nat):Int))) with h1 | h1
 · rw [h1] at V;have h1p:=rV h1;obtain ⟨ad1,rfl⟩:=(hv.1).pos (by omega);obtain ⟨⟨xp1,xc1,xl1,xb1⟩,hx1⟩ : ∃ x,l[i]? = some x:=⟨_,Bg _ JV0 (by omega)⟩;have hvx1:Vw fC _ (.slice xp1 xl1.length xc1) xl1/\∀ y∈xl1,VC _ y:=hv.2 _ (List.mem_of_getElem? hx1);have hsj1:smJ _ (JV.d ⟨xp1,xc1,xl1,xb1⟩):=hsm.at hx1;have hsjl1:xl1.length<=_:=smJ.len (x:=⟨xp1,xc1,xl1,xb1⟩) hsj1;refine cT V (wp_skip (Aa (wp_seq (wp_block (sr 4 (Kb 2 [(0,.slice (some ad1) l.length c),(8,.slice (some ad1) l.length c),(13,.agg #[.slice xp1 xl1.length xc1,I xb1])] V [.agg #[.slice xp1 xl1.length xc1,I xb1]] (cc (⟨by omega,by omega⟩:(0:Int)<=((i:Nat):Int)/\((i:Nat):Int) < ((l.length:Nat):Int)) (cc (((hv.1.keep O.only).ldn Ec hx1):Ld sA w1 (ad1.add (i*2)) 103 (.agg #[.slice xp1 xl1.length xc1,I xb1])) c0)) ?_))))));clear V J; intro J V;refine Mn [.slice none 0 0,I false] 103 4 V O ?_;clear V O J; intro J w2 b1 V O;refine Ms 0 [.slice xp1 xl1.length xc1,I xb1] 0 V O ?_;clear O; intro w3 O;refine Ab (Aa (wp_seq (Sb [(5,Z ((xl1.length:Nat):Int))] V [.slice xp1 xl1.length xc1] (cc (O.l1 0 0 101 (.slice xp1 xl1.length xc1)) c0) ?_)));clear V J; intro J V;refine sr 6 (Ka 3 [(18,I (decide (((xl1.length:Nat):Int) < 1))),(19,I (decide (((xl1.length:Nat):Int) < 1)))] V ?_);clear V J; intro J V;rcases rU (decide (((xl1.length:Nat):Int) < 1)) with h2 | h2
   · rw [h2] at V;have h2p:=rV h2;refine Ka 3 [(22,I true)] V ?_;clear V J; intro J V;refine Ab (Aa (cT V (Sa [] V ?_)));clear V J; intro J V;refine wp_ret (Ad (Ae (Ad (Ad (Ae (Ad (cv [I false] V ?_)))))));have hF:=O.only; clear V O;refine ⟨congrArg (fun b=>sB (.bool b)) ?_,hF⟩;first | (rw [B0 (A7 ho (by omega))]; exact decide_eq_decide.2 (by omega)) | exact (A6 hx1 (B1 (by omega))).symm | exact (A6 hx1 (B7 hy1 (by assumption))).symm
   rw [h2] at V;have h2p:=rX h2;refine Ka 3 [(22,I (decide (((xl1.length:Nat):Int) > 4)))] V ?_;clear V J; intro J V;refine Ab (Aa ?_);rcases rU (decide (((xl1.length:Nat):Int) > 4)) with h3 | h3
   · rw [h3] at V;have h3p:=rV h3;refine cT V (Sa [] V ?_);clear V J; intro J V;refine wp_ret (Ad (Ae (Ad (Ad (Ae (Ad (cv [I false] V ?_)))))));have hF:=O.only; clear V O;refine ⟨congrArg (fun b=>sB (.bool b)) ?_,hF⟩;first | (rw [B0 (A7 ho (by omega))]; exact decide_eq_decide.2 (by omega)) | exact (A6 hx1 (B1 (by omega))).symm | exact (A6 hx1 (B7 hy1 (by assumption))).symm
   rw [h3] at V;have h3p:=rX h3;refine cF V (wp_skip (Aa (Sb [(24,.slice xp1 xl1.length xc1),(25,Z ((xl1.length:Nat):Int)),(26,Z 0)] V [.slice xp1 xl1.length xc1] (cc (O.l1 0 0 101 (.slice xp1 xl1.length xc1)) c0) ?_)));clear V J; intro J V;refine wp_block (Bc (fun mm J W=>∃ (k:Nat),mm=xl1.length - k/\Holds 38 [] J [(0,.slice (some ad1) l.length c),(2,I false),(8,.slice (some ad1) l.length c),(9,Z ((l.length:Nat):Int)),(10,Z ((i:Nat):Int)),(24,.slice xp1 xl1.length xc1),(25,Z ((xl1.length:Nat):Int)),(26,Z ((k:Nat):Int))]/\Ow sA Ai w W [(b1,103,[.slice xp1 xl1.length xc1,I xb1])]/\k<=xl1.length/\(xl1.take k).all (fun y=>Au y.d)=true/\True) ?_ ?_)
   · exact ⟨_,0,rfl,V.ss,O.to,(Nat.zero_le _),rfl,trivial⟩
   rintro _ J w4 ⟨k,rfl,V,O,hk,hok,-⟩;refine Sa [(27,I (decide (((k:Nat):Int) < ((xl1.length:Nat):Int))))] V ?_;clear V J; intro J V;refine wp_seq ?_;rcases rU (decide (((k:Nat):Int) < ((xl1.length:Nat):Int))) with h4 | h4
   · rw [h4] at V;have h4p:=rV h4;obtain ⟨ad2,rfl⟩:=(hvx1.1).pos (by omega);obtain ⟨⟨yp1,yc1,yd1⟩,hy1⟩ : ∃ x,xl1[k]? = some x:=⟨_,Bg _ CV0 (by omega)⟩;have hvy1:Vw fT _ (.slice yp1 yd1.words.length yc1) yd1.words:=hvx1.2 _ (List.mem_of_getElem? hy1);have hsc1:smC _ yd1:=smJ.at (x:=⟨_,_,xl1,_⟩) hsj1 hy1;obtain ⟨-,smi1,smo1,sml1⟩:=id hsc1;refine cT V (wp_skip (Aa (wp_seq (wp_block (sr 4 (Kb 2 [(24,.slice (some ad2) xl1.length xc1),(29,.agg #[.slice yp1 yd1.words.length yc1,Y yd1.inp,Y yd1.out,I yd1.app])] V [.agg #[.slice yp1 yd1.words.length yc1,Y yd1.inp,Y yd1.out,I yd1.app]] (cc (⟨by omega,by omega⟩:(0:Int)<=((k:Nat):Int)/\((k:Nat):Int) < ((xl1.length:Nat):Int)) (cc (((hvx1.1.keep O.only).ldn Ey hy1):Ld sA w4 (ad2.add (k*4)) 104 (.agg #[.slice yp1 yd1.words.length yc1,Y yd1.inp,Y yd1.out,I yd1.app])) c0)) ?_))))));clear V J; intro J V;refine Mn [.slice none 0 0,Y (⟨#[]⟩),Y (⟨#[]⟩),I false] 104 7 V O ?_;clear V O J; intro J w5 b2 V O;refine Ms 0 [.slice yp1 yd1.words.length yc1,Y yd1.inp,Y yd1.out,I yd1.app] 0 V O ?_;clear O; intro w6 O;refine Ab (Aa (sr 3 (Kb 1 [(30,.agg #[.slice yp1 yd1.words.length yc1,Y yd1.inp,Y yd1.out,I yd1.app])] V [.agg #[.slice yp1 yd1.words.length yc1,Y yd1.inp,Y yd1.out,I yd1.app]] (cc (O.ln 0 0 104 [.slice yp1 yd1.words.length yc1,Y yd1.inp,Y yd1.out,I yd1.app]) c0) ?_)));clear V J; intro J V;refine Mk 31 V O Tryz.func79 (aF yp1 yc1 yd1 _ (hvy1.keep O.only) hsc1) ?_;clear V O J; intro J w7 V O
     refine Ka 1 [(32,I (!(Au yd1)))] V ?_;clear V J; intro J V;refine Ab (Aa ?_);rcases rU (Au yd1) with h5 | h5
     · rw [h5] at V;refine cF V (wp_skip (Ac (Aa (Rc [(26,Z (((k:Nat):Int)+1))] V [I true] (cc ((Am (by omega) (by omega)):inK .i64 (((k:Nat):Int)+1)) c0) ?_))));clear V J; intro J V;exact Aa (⟨_,by omega,k+1,rfl,V.ss,(O.sub [1]),(by omega),(Db hok (by assumption) (by assumption)),trivial⟩)
     rw [h5] at V;refine cT V (Sa [] V ?_);clear V J; intro J V;refine wp_ret (Ae (Ad (Ad (Ae (Ae (Ad (Ad (Ae (Ad (cv [I false] V ?_))))))))));have hF:=O.only; clear V O;refine ⟨congrArg (fun b=>sB (.bool b)) ?_,hF⟩;first | (rw [B0 (A7 ho (by omega))]; exact decide_eq_decide.2 (by omega)) | exact (A6 hx1 (B1 (by omega))).symm | exact (A6 hx1 (B7 hy1 (by assumption))).symm
   rw [h4] at V;have h4p:=rX h4;refine cF V (wp_exit (Aj (Aj (An (Ac (Aa (Rc [(10,Z (((i:Nat):Int)+1))] V [I true] (cc ((Am (by omega) (by omega)):inK .i64 (((i:Nat):Int)+1)) c0) ?_)))))));clear V J; intro J V;exact Aa (⟨_,by omega,i+1,rfl,V.ss,(O.sub []),(by omega),(Db ho hx1 (Nk (by omega) (A7 hok (by omega)))),trivial⟩)
 rw [h1] at V;have h1p:=rX h1;refine cF V (wp_exit (Aj (Aj (An (Aa (Sa [(2,I (decide (((l.length:Nat):Int)<=8)))] V ?_))))));clear V J; intro J V;refine wp_ret (cv [I (decide (((l.length:Nat):Int)<=8))] V ?_);have hF:=O.only; clear V O;refine ⟨congrArg (fun b=>sB (.bool b)) ?_,hF⟩;first | (rw [B0 (A7 ho (by omega))]; exact decide_eq_decide.2 (by omega)) | exact (A6 hx1 (B1 (by omega))).symm | exact (A6 hx1 (B7 hy1 (by assumption))).symm
section
variable {d:CmdL}
theorem Cq (h : ¬ (1<=d.words.length/\d.words.length<=4)):Au d=false:=by unfold Au; rw [rZ h,Bool.false_and,Bool.and_false]
theorem Cr (h:Cf d.inp=false):Au d=false:=by unfold Au; rw [h]; simp
theorem Cp (h:Cf d.out=false):Au d=false:=by unfold Au; rw [h]; simp
theorem Ct (h:d.app=true) (h2:d.out.size=0):Au d=false:=by unfold Au; rw [h,h2]; simp
theorem Jy (h1 : 1<=d.words.length/\d.words.length<=4) (hi:Cf d.inp=true) (ho:Cf d.out=true) (ha:d.app=true->¬ d.out.size=0) (hw:d.words.all A3=true):Au d=true:=by
 unfold Au;rw [hw,rY h1,hi,ho];cases hap:d.app with
 | false=>rfl
 | true=>rw [rZ (ha hap)]; rfl
def H6 (d:CmdL):Bool:=decide (d.words.length<=8) && (decide (d.inp.size+d.out.size<=300) && d.words.all (fun u=>decide (u.size<=100)))
def L2 (x:JobL):Bool:=decide (x.cmds.length<=8) && x.cmds.all H6
def Ot (l:List JobL):Bool:=l.all L2 && decide (l.length<=12)
theorem K8 (h : ¬ (d.words.length<=8/\d.inp.size+d.out.size<=300)):H6 d=false:=by
 unfold H6;by_cases h1:d.words.length<=8
 · rw [rZ (show ¬ (d.inp.size+d.out.size<=300) from fun h2=>h ⟨h1,h2⟩)]; simp
 rw [rZ h1]; rfl
theorem Gr {j:Nat} {z:ByteArray} (hz:d.words[j]? = some z) (h : ¬ z.size<=100):H6 d=false:=by unfold H6; rw [Kj hz (rZ h)]; simp
theorem gY (h:d.words.length<=8/\d.inp.size+d.out.size<=300) (hw:d.words.all (fun u=>decide (u.size<=100))=true):H6 d=true:=by unfold H6; rw [hw,rY h.1,rY h.2]; rfl
variable {xp:Option Addr} {xc:Nat} {xl:List CV} {xb:Bool}
theorem gX (h1:xl.length<=8) (h:xl.all (fun y=>H6 y.d)=true):L2 (JV.d ⟨xp,xc,xl,xb⟩)=true:=by
 unfold L2 JV.d;simp only [sG,List.all_map];rw [rY h1,Bool.true_and]; exact h
theorem H5 (h : ¬ xl.length<=8):L2 (JV.d ⟨xp,xc,xl,xb⟩)=false:=by
 unfold L2 JV.d;simp only [sG];rw [rZ h]; rfl
theorem K7 {k:Nat} {y:CV} (hy:xl[k]? = some y) (h:H6 y.d=false):L2 (JV.d ⟨xp,xc,xl,xb⟩)=false:=by
 unfold L2 JV.d;simp only [List.all_map];rw [Kj (p:=H6 ∘ CV.d) hy h,Bool.and_false]
theorem H4 {l:List JV} (h:l.all (fun x=>L2 x.d)=true):Ot (l.map JV.d)=decide (l.length<=12):=by
 unfold Ot;rw [List.all_map,sG,show l.all (L2 ∘ JV.d)=true from h,Bool.true_and]
theorem E4 {l:List JV} {i:Nat} {x:JV} (hx:l[i]? = some x) (h:L2 x.d=false):Ot (l.map JV.d)=false:=by
 unfold Ot;rw [List.all_map,Kj (p:=L2 ∘ JV.d) hx h]; rfl
end
theorem oD (p:Option Addr) (c:Nat) (l:List JV) (w:World) (hv:VL w (.slice p l.length c) l) (hsm:smL 1000000000000000000 (l.map JV.d)) :
 Calls sA 25 #[.slice p l.length c] w fun e w'=>e = .returned (.bool (Ot (l.map JV.d)))/\Only Ai w w':=by
 refine Ao (args:=[.slice p l.length c]) (m:=68) (n:=69) Tryz.func25 rfl (by kernel_rfl) (by kernel_rfl) fun J V=>?_;have O:=Ow.nil sA Ai w;have hsl:=hsm.len;refine Sa [(2,I false)] V ?_;clear V J; intro J V;refine wp_seq (Sa [(3,Z 0)] V ?_);clear V J; intro J V;refine wp_block (Bc (fun mm J W=>∃ (i:Nat),mm=l.length - i/\Holds 69 [] J [(0,.slice p l.length c),(2,I false),(3,Z ((i:Nat):Int))]/\Ow sA Ai w W []/\i<=l.length/\(l.take i).all (fun x=>L2 x.d)=true/\True) ?_ ?_)
 · exact ⟨_,0,rfl,V.ss,O.to,(Nat.zero_le _),rfl,trivial⟩
 rintro _ J w1 ⟨i,rfl,V,O,hi_i,ho,-⟩;refine wp_seq (Sa [(10,I (decide (((i:Nat):Int) < ((l.length:Nat):Int))))] V ?_);clear V J; intro J V;rcases rU (decide (((i:Nat):Int) < ((l.length:Nat):Int))) with h1 | h1
 · rw [h1] at V;have h1p:=rV h1;obtain ⟨ad1,rfl⟩:=(hv.1).pos (by omega);obtain ⟨⟨xp1,xc1,xl1,xb1⟩,hx1⟩ : ∃ x,l[i]? = some x:=⟨_,Bg _ JV0 (by omega)⟩;have hvx1:Vw fC _ (.slice xp1 xl1.length xc1) xl1/\∀ y∈xl1,VC _ y:=hv.2 _ (List.mem_of_getElem? hx1);have hsj1:smJ _ (JV.d ⟨xp1,xc1,xl1,xb1⟩):=hsm.at hx1;have hsjl1:xl1.length<=_:=smJ.len (x:=⟨xp1,xc1,xl1,xb1⟩) hsj1;refine cT V (wp_skip (Aa (wp_seq (wp_block (wp_seq (Sb [(0,.slice (some ad1) l.length c),(19,I (decide (((xl1.length:Nat):Int) > 8)))] V [.slice xp1 xl1.length xc1] (cc (⟨by omega,by omega⟩:(0:Int)<=((i:Nat):Int)/\((i:Nat):Int) < ((l.length:Nat):Int)) (cc (((hv.1.keep O.only).ld0 Ec hx1 (by rfl)):Ld sA w1 (ad1.add (i*2)) 69 (.slice xp1 xl1.length xc1)) c0)) ?_))))));clear V J; intro J V;rcases rU (decide (((xl1.length:Nat):Int) > 8)) with h2 | h2
   · rw [h2] at V;have h2p:=rV h2;refine cT V (Sa [] V ?_);clear V J; intro J V;refine wp_ret (Ad (Ae (Ad (Ad (Ae (Ad (cv [I false] V ?_)))))));have hF:=O.only; clear V O;refine ⟨congrArg (fun b=>sB (.bool b)) ?_,hF⟩;first | (rw [H4 (A7 ho (by omega))]; exact decide_eq_decide.2 (by omega)) | exact (E4 hx1 (H5 (by omega))).symm | (refine (E4 hx1 (K7 hy1 ?_)).symm; show H6 yd1=false; first | exact Gr (by assumption) (by omega) | exact K8 (by omega))
   rw [h2] at V;have h2p:=rX h2;refine cF V (wp_skip (Aa (Sa [(4,Z 0)] V ?_)));clear V J; intro J V;refine wp_block (Bc (fun mm J W=>∃ (k:Nat),mm=xl1.length - k/\Holds 69 [] J [(0,.slice (some ad1) l.length c),(2,I false),(3,Z ((i:Nat):Int)),(4,Z ((k:Nat):Int))]/\Ow sA Ai w W []/\k<=xl1.length/\(xl1.take k).all (fun y=>H6 y.d)=true/\True) ?_ ?_)
   · exact ⟨_,0,rfl,V.ss,O.to,(Nat.zero_le _),rfl,trivial⟩
   rintro _ J w2 ⟨k,rfl,V,O,hi_k,hok,-⟩;refine wp_seq (Sb [(27,I (decide (((k:Nat):Int) < ((xl1.length:Nat):Int))))] V [.slice xp1 xl1.length xc1] (cc (⟨by omega,by omega⟩:(0:Int)<=((i:Nat):Int)/\((i:Nat):Int) < ((l.length:Nat):Int)) (cc (((hv.1.keep O.only).ld0 Ec hx1 (by rfl)):Ld sA w2 (ad1.add (i*2)) 69 (.slice xp1 xl1.length xc1)) c0)) ?_);clear V J; intro J V;rcases rU (decide (((k:Nat):Int) < ((xl1.length:Nat):Int))) with h3 | h3
   · rw [h3] at V;have h3p:=rV h3;obtain ⟨ad2,rfl⟩:=(hvx1.1).pos (by omega);obtain ⟨⟨yp1,yc1,yd1⟩,hy1⟩ : ∃ x,xl1[k]? = some x:=⟨_,Bg _ CV0 (by omega)⟩;have hvy1:Vw fT _ (.slice yp1 yd1.words.length yc1) yd1.words:=hvx1.2 _ (List.mem_of_getElem? hy1);have hsc1:smC _ yd1:=smJ.at (x:=⟨_,_,xl1,_⟩) hsj1 hy1;obtain ⟨-,smi1,smo1,sml1⟩:=id hsc1;refine cT V (wp_skip (Aa (wp_seq (wp_block (sr 10 (Kb 8 [(37,.agg #[.slice yp1 yd1.words.length yc1,Y yd1.inp,Y yd1.out,I yd1.app])] V [.slice (some ad2) xl1.length xc1,.agg #[.slice yp1 yd1.words.length yc1,Y yd1.inp,Y yd1.out,I yd1.app]] (cc (⟨by omega,by omega⟩:(0:Int)<=((i:Nat):Int)/\((i:Nat):Int) < ((l.length:Nat):Int)) (cc (((hv.1.keep O.only).ld0 Ec hx1 (by rfl)):Ld sA w2 (ad1.add (i*2)) 69 (.slice (some ad2) xl1.length xc1)) (cc (⟨by omega,by omega⟩:(0:Int)<=((k:Nat):Int)/\((k:Nat):Int) < ((xl1.length:Nat):Int)) (cc (((hvx1.1.keep O.only).ldn Ey hy1):Ld sA w2 (ad2.add (k*4)) 73 (.agg #[.slice yp1 yd1.words.length yc1,Y yd1.inp,Y yd1.out,I yd1.app])) c0)))) ?_))))));clear V J; intro J V;refine Mn [.slice none 0 0,Y (⟨#[]⟩),Y (⟨#[]⟩),I false] 73 5 V O ?_;clear V O J; intro J w3 b1 V O;refine Ms 0 [.slice yp1 yd1.words.length yc1,Y yd1.inp,Y yd1.out,I yd1.app] 0 V O ?_;clear O; intro w4 O;refine Ab (Aa (wp_seq (sr 14 (Kb 5 [(41,I (decide (((yd1.words.length:Nat):Int) > 8))),(42,I (decide (((yd1.words.length:Nat):Int) > 8)))] V [.slice yp1 yd1.words.length yc1] (cc (O.l1 0 0 30 (.slice yp1 yd1.words.length yc1)) c0) ?_))));clear V J; intro J V
     rcases rU (decide (((yd1.words.length:Nat):Int) > 8)) with h4 | h4
     · rw [h4] at V;have h4p:=rV h4;refine Ka 9 [(51,I true)] V ?_;clear V J; intro J V;refine Ab (Aa (cT V (Sa [] V ?_)));clear V J; intro J V;refine wp_ret (Ad (Ae (Ad (Ad (Ae (Ae (Ad (Ad (Ae (Ad (cv [I false] V ?_)))))))))));have hF:=O.only; clear V O;refine ⟨congrArg (fun b=>sB (.bool b)) ?_,hF⟩;first | (rw [H4 (A7 ho (by omega))]; exact decide_eq_decide.2 (by omega)) | exact (E4 hx1 (H5 (by omega))).symm | (refine (E4 hx1 (K7 hy1 ?_)).symm; show H6 yd1=false; first | exact Gr (by assumption) (by omega) | exact K8 (by omega))
     rw [h4] at V;have h4p:=rX h4;refine Kb 9 [(51,I (decide ((((yd1.inp.size:Nat):Int)+((yd1.out.size:Nat):Int)) > 300)))] V [Y yd1.inp,Y yd1.out,I true] (cc (O.l1 0 1 9 (Y yd1.inp)) (cc (O.l1 0 2 9 (Y yd1.out)) (cc ((Am (by omega) (by omega)):inK .i64 (((yd1.inp.size:Nat):Int)+((yd1.out.size:Nat):Int))) c0))) ?_;clear V J; intro J V;refine Ab (Aa ?_);rcases rU (decide ((((yd1.inp.size:Nat):Int)+((yd1.out.size:Nat):Int)) > 300)) with h5 | h5
     · rw [h5] at V;have h5p:=rV h5;refine cT V (Sa [] V ?_);clear V J; intro J V;refine wp_ret (Ad (Ae (Ad (Ad (Ae (Ae (Ad (Ad (Ae (Ad (cv [I false] V ?_)))))))))));have hF:=O.only; clear V O;refine ⟨congrArg (fun b=>sB (.bool b)) ?_,hF⟩;first | (rw [H4 (A7 ho (by omega))]; exact decide_eq_decide.2 (by omega)) | exact (E4 hx1 (H5 (by omega))).symm | (refine (E4 hx1 (K7 hy1 ?_)).symm; show H6 yd1=false; first | exact Gr (by assumption) (by omega) | exact K8 (by omega))
     rw [h5] at V;have h5p:=rX h5;refine cF V (wp_skip (Aa (sC (e':=[(0,.slice (some ad1) l.length c),(2,I false),(3,Z ((i:Nat):Int)),(4,Z ((k:Nat):Int)),(5,pt b1),(6,Z 0)]) 1 V [] c0 ?_)));clear V J; intro J V;refine wp_block (Bc (fun mm J W=>∃ (j:Nat),mm=yd1.words.length - j/\Holds 69 [] J [(0,.slice (some ad1) l.length c),(2,I false),(3,Z ((i:Nat):Int)),(4,Z ((k:Nat):Int)),(5,pt b1),(6,Z ((j:Nat):Int))]/\Ow sA Ai w W [(b1,73,[.slice yp1 yd1.words.length yc1,Y yd1.inp,Y yd1.out,I yd1.app])]/\j<=yd1.words.length/\(yd1.words.take j).all (fun u=>decide (u.size<=100))=true/\True) ?_ ?_)
     · exact ⟨_,0,rfl,(V.sub (e':=[(0,.slice (some ad1) l.length c),(2,I false),(3,Z ((i:Nat):Int)),(4,Z ((k:Nat):Int)),(5,pt b1),(6,Z 0)]) [0,2,3,4,5,6] (by kernel_rfl)).cast (by kernel_rfl),O.to,(Nat.zero_le _),rfl,trivial⟩
     rintro _ J w5 ⟨j,rfl,V,O,hi_j,hoj,-⟩;refine wp_seq (sC (e':=[(0,.slice (some ad1) l.length c),(2,I false),(3,Z ((i:Nat):Int)),(4,Z ((k:Nat):Int)),(5,pt b1),(6,Z ((j:Nat):Int)),(56,I (decide (((j:Nat):Int) < ((yd1.words.length:Nat):Int))))]) 5 V [.slice yp1 yd1.words.length yc1] (cc (O.l1 0 0 30 (.slice yp1 yd1.words.length yc1)) c0) ?_);clear V J; intro J V;rcases rU (decide (((j:Nat):Int) < ((yd1.words.length:Nat):Int))) with h6 | h6
     · rw [h6] at V;have h6p:=rV h6;obtain ⟨ad3,rfl⟩:=(hvy1).pos (by omega);obtain ⟨z1,hz1⟩ : ∃ x,yd1.words[j]? = some x:=⟨_,Bg _ ⟨#[]⟩ (by omega)⟩;have hszz1:=smC.at hsc1 hz1;refine cT V (wp_skip (Aa (wp_seq (wp_block (Sb [(65,I (decide (((z1.size:Nat):Int) > 100)))] V [.slice (some ad3) yd1.words.length yc1,Y z1] (cc (O.l1 0 0 30 (.slice (some ad3) yd1.words.length yc1)) (cc (⟨by omega,by omega⟩:(0:Int)<=((j:Nat):Int)/\((j:Nat):Int) < ((yd1.words.length:Nat):Int)) (cc (((hvy1.keep O.only).ldT hz1):Ld sA w5 (ad3.add j) 9 (Y z1)) c0))) ?_)))));clear V J; intro J V;rcases rU (decide (((z1.size:Nat):Int) > 100)) with h7 | h7
       · rw [h7] at V;have h7p:=rV h7;refine cT V (Sa [] V ?_);clear V J; intro J V;refine wp_ret (Ae (Ad (Ad (Ae (Ae (Ad (Ad (Ae (Ae (Ad (Ad (Ae (Ad (cv [I false] V ?_))))))))))))));have hF:=O.only; clear V O;refine ⟨congrArg (fun b=>sB (.bool b)) ?_,hF⟩;first | (rw [H4 (A7 ho (by omega))]; exact decide_eq_decide.2 (by omega)) | exact (E4 hx1 (H5 (by omega))).symm | (refine (E4 hx1 (K7 hy1 ?_)).symm; show H6 yd1=false; first | exact Gr (by assumption) (by omega) | exact K8 (by omega))
       rw [h7] at V;have h7p:=rX h7;refine cF V (wp_skip (Ac (Aa (Rc [(6,Z (((j:Nat):Int)+1))] V [I true] (cc ((Am (by omega) (by omega)):inK .i64 (((j:Nat):Int)+1)) c0) ?_))));clear V J; intro J V;exact Aa (⟨_,by omega,j+1,rfl,V.ss,O.to,(by omega),(Db hoj (by assumption) (rY (by omega))),trivial⟩)
     rw [h6] at V;have h6p:=rX h6;refine cF V (wp_exit (Aj (Aj (An (Ac (Aa (Rc [(4,Z (((k:Nat):Int)+1))] V [I true] (cc ((Am (by omega) (by omega)):inK .i64 (((k:Nat):Int)+1)) c0) ?_)))))));clear V J; intro J V;exact Aa (⟨_,by omega,k+1,rfl,V.ss,(O.sub []),(by omega),(Db hok hy1 (show H6 yd1=true from gY (by omega) (A7 hoj (by omega)))),trivial⟩)
   rw [h3] at V;have h3p:=rX h3;refine cF V (wp_exit (Aj (Aj (An (Ac (Aa (Rc [(3,Z (((i:Nat):Int)+1))] V [I true] (cc ((Am (by omega) (by omega)):inK .i64 (((i:Nat):Int)+1)) c0) ?_)))))));clear V J; intro J V;exact Aa (⟨_,by omega,i+1,rfl,V.ss,O.to,(by omega),(Db ho hx1 (gX (by omega) (A7 hok (by omega)))),trivial⟩)
 rw [h1] at V;have h1p:=rX h1;refine cF V (wp_exit (Aj (Aj (An (Aa (Sa [(2,I (decide (((l.length:Nat):Int)<=12)))] V ?_))))));clear V J; intro J V;refine wp_ret (cv [I (decide (((l.length:Nat):Int)<=12))] V ?_);have hF:=O.only; clear V O;refine ⟨congrArg (fun b=>sB (.bool b)) ?_,hF⟩;first | (rw [H4 (A7 ho (by omega))]; exact decide_eq_decide.2 (by omega)) | exact (E4 hx1 (H5 (by omega))).symm | (refine (E4 hx1 (K7 hy1 ?_)).symm; show H6 yd1=false; first | exact Gr (by assumption) (by omega) | exact K8 (by omega))
def JV.S (x:JV):List CV×Bool:=(x.cmds,x.bg)
end Go.Proofs.YtdljjajjonfjbaaGreatDoor
namespace Go.Proofs.Sx
open Go Go.RowKit
theorem mB {P:Program} {ops:Array Oper} {Q:Exit->Act->World->Prop} {n:Nat} {ds:List Deferred} {a:Act} {e:Env} {w:World} {K:Act->World->Prop} {i:Nat} {L:OwL} {X:Nat->Prop} {w₀:World} {t0 t el:TypeId} {s:ByteArray} {d:Nat}
 (V:Holds n ds a e) (O:Ow P X w₀ w L) (hsz:s.size<=maxLen) (hK : ∀ a' w' p c T,Holds n ds a' ((d,.slice p (sI s).length c)::e)->Ow P X w₀ w' (L++T)->One fB el 1 p c (sI s) T->K a' w')
 (he:Rx ops e i=some (t0,t,.string s,some d):=by kernel_rfl) (hd:Nat.blt d n=true:=by kernel_rfl) (h0:P.underlying t0=some .string:=by kernel_rfl) (ht:P.underlying t=some (.slice el):=by kernel_rfl) (hel:P.underlying el=some (.int .u8):=by kernel_rfl):wpOp P ops Q i K a w:=by
 unfold Rx at he
 repeat' split at he
 all_goals try (cases he; done)
 rename_i o ho _ src dst x hop _ v hv
 simp only [Option.some.injEq,Prod.mk.injEq] at he
 obtain ⟨rfl,rfl,rfl,hdst⟩:=he
 refine D2 V ho ?_
 have hc:=Lib.run_convert_string_bytes (P:=P) w src dst el s h0 ht hel
 have hrun:(execOp a.eval o).run P w = .ok (.value (.slice (some ⟨w.heap.size,0,none⟩) s.size (grownCap w s.size 0 el))) (Lib.bytesWorld w el s):=by
  unfold execOp
  simp only [hop,V.eval hv,Sem.run_bind,Sem.run_pure,Result.andThen_ok,run_program,hc]
 unfold Oper.wp
 rw [hrun]
 have hcells:(Lib.bytesCells w el s).toList=(sI s).flatMap fB++List.replicate (grownCap w s.size 0 el - s.size) (.int .u8 0):=by
  rw [Yt]
  unfold Lib.bytesCells byteCells
  simp
 have hlen:(Lib.bytesCells w el s).toList.length=grownCap w s.size 0 el:=by
  rw [hcells,List.length_append,U1.flen,Fc,List.length_replicate]
  have:=grownCap_ge w s.size 0 el
  omega
 have hT:OwM Ai w (Lib.bytesWorld w el s) [(w.heap.size,el,(sI s).flatMap fB++List.replicate (grownCap w s.size 0 el - s.size) (.int .u8 0))]:=by
  refine ⟨⟨by (unfold Lib.bytesWorld; simp [World.freeze]) <;> rfl,by (unfold Lib.bytesWorld; simp [World.freeze]) <;> rfl,by (unfold Lib.bytesWorld; simp [World.freeze]) <;> rfl,by rw [Lib.bytesWorld_size]; omega,fun k hk _=>Lib.bytesWorld_at_old w el s k hk⟩,fun y hy=>?_,List.pairwise_singleton _ _,fun y hy=>?_⟩
  · rw [sM] at hy; subst hy
    refine ⟨((Lib.bytesCells w el s).size,(Lib.bytesCells w el s).size+1),?_,?_⟩
    · rw [Lib.bytesWorld_at_new,← hcells]
    · right
      rw [← hcells]; simp
  · rw [sM] at hy; subst hy; exact .inl (Nat.le_refl _)
 refine hK _ _ (some ⟨w.heap.size,0,none⟩) (grownCap w s.size 0 el) _ ?_ ((O.m.join hT).o) (.inr ⟨w.heap.size,_,rfl,by rw [Fc]; exact grownCap_ge w s.size 0 el,grownCap_le_maxLen w s.size 0 el hsz,by rw [← hcells,hlen,Nat.mul_one],rfl⟩)
 rw [hdst,Fc]; exact V.put _ (by simpa [Nat.blt_eq] using hd)
theorem N2 {P:Program} {X:Nat->Prop} {w₀ w:World} {A A' B:OwL} (h:Ow P X w₀ w (A++B)) (p:A.Perm A'):Ow P X w₀ w (A'++B):=(h.m.perm (List.Perm.append_right B p)).o
theorem A2 {P:Program} {ops:Array Oper} {Q:Exit->Act->World->Prop} {S:World->Prop} {t t1:PT} {a:Act} {w:World} (R:Act->World->Prop) (h1 : ∀ a w,R a w->Df P ops Q S t1 a w) (h2:(∀ a w,R a w->Df P ops Q S t1 a w)->Df P ops Q S t a w):Df P ops Q S t a w:=h2 h1
end Go.Proofs.Sx
namespace Go.Proofs.YtdljjajjonfjbaaGreatDoor
open Go Go.RowKit Go.Proofs.Sx
structure CallL where
 call:Int
 a0:Int
 a1:Int
 a2:Int
 data:List Int
structure StL where
 mode:Int
 pos:Int
 inp:ByteArray
 jobs:List JobL
 rd:Int
 wr:Int
 pv:Int
 kids:List Int
 plan:List CallL
def Ap (n a b:Int):CallL:=⟨n,a,b,0,[]⟩
def Gi:StL:=⟨0,0,⟨#[]⟩,[],-1,-1,-1,[],[]⟩
def Ca:CallL:=⟨10,2,0,0,[63,10]⟩
def Fi (t:Int):Bool:=decide (16<=t/\t < 32)
def nX (n:Int):Bool:=decide (-1<=n/\n<=1000)
def okC (c:CallL):Bool:=nX c.a0 && (nX c.a1 && (nX c.a2 && (decide (0<=c.call/\c.call < 20) && decide (c.data.length<=128))))
def Ek (l:List Int):Nat->Bool
 | 0=>true
 | i+1=>Ek l i && (Fi (l.getD i 0) && !(l.take i).contains (l.getD i 0))
def Eh (l:List Int) (p:List CallL):Bool:=Ek l l.length && (p.all okC && decide (p.length<=12))
def Cg (l:List JobL):Nat:=match l with
 | []=>0
 | j::_=>j.cmds.length
def kK (n:Int):Bool:=decide (-1<=n/\n < 8)
def oJ (s:StL):Bool:=kK s.rd && (kK s.wr && kK s.pv)
def fitB (s:StL):Bool:=decide (0<=s.mode/\s.mode<=7) && (decide (s.inp.size<=300) && (Aq s.jobs && (Eh s.kids s.plan && decide (0<=s.pos/\s.pos<=(Cg s.jobs:Int)))))
def oO (s:StL):Bool:=if s.mode=3\/s.mode=4 then decide (s.pos < (Cg s.jobs:Int)) else if s.mode=5 then decide (0 < s.jobs.length) else true
def Br (s:StL):Bool:=oJ s && (fitB s && ((decide (0 < s.plan.length) == decide (s.mode=2\/s.mode=6)) && oO s))
def Cy (c:CmdL):Bool:=decide (1 < c.words.length)
def Bz (l:List CmdL):Bool:=l.any Cy
def Z1:ByteArray:=⟨#[101,120,105,116]⟩
def Pk (l:List CmdL):CmdL:=l.getD 0 Fh
def Bp (c:CmdL):ByteArray:=c.words.getD 0 ⟨#[]⟩
def Be (l:List CmdL):Bool:=decide (l.length=1) && ((Bp (Pk l)).toList == Z1.toList)
def X4 (l:List UInt8):Bool:=l.all fun c=>decide (48<=c.toNat/\c.toNat<=57)
def qZ (l:List UInt8):Nat:=l.foldl (fun n c=>10*n+(c.toNat - 48)) 0
def Co (ws:List ByteArray):Int:=match ws with
 | _::w::_=>if X4 w.data.toList=true/\w.size<=3 then ((qZ w.data.toList % 256:Nat):Int) else 1
 | _=>0
def Bh (l:List Int):List CallL:=(l.filter fun n=>decide (0<=n)).map fun n=>Ap 8 n 0
def B6 (s:StL):StL×Option CallL :=
 match s.jobs with
 | []=>(s,none)
 | j::r =>
  if Be j.cmds=true/\s.pos=0 then ({s with mode:=7},some (Ap 0 (Co (Pk j.cmds).words) 0))
  else if s.pos=0/\Bz j.cmds=true then ({s with jobs:=r,plan:=s.plan++[Ca]},none)
  else if s.pos=(j.cmds.length:Int) - 1 then ({s with mode:=4},some (Ap 1 0 0))
  else if s.pos < (j.cmds.length:Int) then ({s with mode:=3},some (Ap 11 0 0))
  else if j.bg=false/\0 < s.kids.length then ({s with mode:=5},some (Ap 3 0 0))
  else ({s with jobs:=r,kids:=[],pos:=0,pv:=-1},none)
def C3 (s:StL) (n:Nat):StL:=match Dy false (s.inp.extract 0 n) with
 | .error _=>{s with inp:=s.inp.extract (n+1) s.inp.size,plan:=s.plan++[Ca]}
 | .ok l=>{s with inp:=s.inp.extract (n+1) s.inp.size,jobs:=l}
def nlI (s:ByteArray):Int:=Lib.indexByte s.data.toList 10
def Dw:Nat->StL->StL×CallL
 | 0,s=>(s,Ap 0 0 0)
 | k+1,s=>match s.plan with
  | c::_=>({s with mode:=2},c)
  | []=>match s.jobs with
   | _::_=>match B6 s with
    | (s',some c)=>(s',c)
    | (s',none)=>Dw k s'
   | []=>if nlI s.inp < 0 then ({s with mode:=1},Ap 9 0 80) else Dw k (C3 s (nlI s.inp).toNat)
def Ky (s:StL):Nat:=9*s.inp.size+s.jobs.length
def A5 (s:StL):StL×CallL:=Dw (Ky s+2) s
def Lb (s:StL) (n:Int):StL×CallL:=({s with mode:=7},Ap 0 n 0)
def E7 (s:StL) (result:Int) (data:List Int):StL×CallL :=
 if 0 < result then A5 {s with inp:=s.inp++bsI ((data.take (min result.toNat data.length)).take (300 - s.inp.size))}
 else if s.inp.size=0 then Lb s (if result=0 then 0 else 1)
 else A5 {s with inp:=s.inp.extract 0 (min s.inp.size 299)++⟨#[10]⟩}
def upS (s:StL):StL×CallL:=A5 {s with plan:=s.plan++Bh [s.pv,s.rd,s.wr]++[Ca],rd:=-1,wr:=-1,pv:=-1,pos:=(Cg s.jobs:Int)}
def Dg (nm:ByteArray) (fl fd:Int):List CallL:=[⟨7,fl,0,0,sI nm⟩,Ap 12 (-1) fd,Ap 8 (-1) 0]
def Dx (s:StL) (c:CmdL):List CallL :=
 (if 0<=s.pv then [Ap 12 s.pv 0,Ap 8 s.pv 0] else [])++((if 0<=s.wr then [Ap 12 s.wr 1,Ap 8 s.wr 0,Ap 8 s.rd 0] else []) ++
  ((if c.inp.size=0 then [] else Dg c.inp 0 0)++((if c.app=true then Dg c.out 5 1 else if c.out.size=0 then [] else Dg c.out 3 1)++[⟨2,0,0,0,sI (Bp c)⟩])))
def C9 (s:StL):CmdL:=match s.jobs with
 | []=>Fh
 | j::_=>j.cmds.getD s.pos.toNat Fh
def Bv (l:List CallL):CallL:=l.getD 0 (Ap 0 0 0)
def C6 (l:List Int) (t:Int):List Int:=if Fi t=true/\l.contains t=false then l++[t] else l
def Gn (s:StL) (result:Int):StL×CallL :=
 if result < 0 then upS s
 else if result=0 then ({Gi with mode:=6,plan:=Dx s (C9 s)},Bv (Dx s (C9 s)))
 else A5 {s with kids:=C6 s.kids (result % 32),plan:=s.plan++Bh [s.pv,s.wr],pv:=s.rd,rd:=-1,wr:=-1,pos:=s.pos+1}
def Rr (r:Int) (c:CallL):CallL:=if c.a0 = -1 then {c with a0:=r % 8} else c
def Ff (r:Int):List CallL->List CallL
 | a::b::l=>Rr r a::Rr r b::l
 | [a]=>[Rr r a]
 | []=>[]
def P4 (l:List CallL):List CallL:=if l.length=0 then [Ap 0 127 0] else l
def Cd (l:List CallL) (result:Int):List CallL :=
 if result < 0/\(Bv l).call≠10 then [Ca,Ap 0 127 0]
 else P4 (if (Bv l).call=7 then Ff result l.tail else l.tail)
def Gd (s:StL) (result:Int):StL×CallL:=({s with plan:=Cd s.plan result},Bv (Cd s.plan result))
def Bb (s:StL) (result:Int) (data:List Int):StL×CallL :=
 if s.mode=0 then A5 s
 else if s.mode=1 then E7 s result data
 else if s.mode=2 then A5 {s with plan:=s.plan.tail}
 else if s.mode=3 then (if result < 0 then upS s else ({s with rd:=result / 256 % 8,wr:=result % 256 % 8,mode:=4},Ap 1 0 0))
 else if s.mode=4 then Gn s result
 else if s.mode=5 then A5 {s with kids:=if result < 0 then [] else s.kids.filter fun t=>!(t == result / 256)}
 else if s.mode=6 then Gd s result
 else (s,Ap 0 255 0)
def Bf (s:StL) (result:Int) (data:List Int):StL×CallL:=if Br s=true then Bb s result data else ({Gi with mode:=7},Ap 0 254 0)
def fN (x:Int):List Value:=[.int .i64 x]
theorem Fg:Enc fN 1:=⟨fun _=>rfl,fun x v hv=>by simp only [fN,sM] at hv; subst hv; rfl⟩
structure PV where
 p:Option Addr
 c:Nat
 d:CallL
def fP (x:PV):List Value:=[.int .i64 x.d.call,.int .i64 x.d.a0,.int .i64 x.d.a1,.int .i64 x.d.a2,.slice x.p x.d.data.length x.c]
theorem De:Enc fP 5:=⟨fun _=>rfl,fun x v hv=>by
 simp only [fP,List.mem_cons,List.not_mem_nil,or_false] at hv
 rcases hv with rfl | rfl | rfl | rfl | rfl <;> rfl⟩
def VP (w:World) (x:PV):Prop:=Vw fB w (.slice x.p x.d.data.length x.c) x.d.data/\U8s x.d.data
def PL (w:World) (v:Value) (l:List PV):Prop:=Vw fP w v l/\∀ x∈l,VP w x
structure SV where
 mo:Int
 po:Int
 inp:ByteArray
 pj:Option Addr
 cj:Nat
 lj:List JV
 rd:Int
 wr:Int
 pv:Int
 pc:Option Addr
 cc:Nat
 lc:List Int
 pp:Option Addr
 cp:Nat
 lp:List PV
def SV.d (x:SV):StL:=⟨x.mo,x.po,x.inp,x.lj.map JV.d,x.rd,x.wr,x.pv,x.lc,x.lp.map PV.d⟩
@[reducible] def cS (mo po:Int) (inp:ByteArray) (pj:Option Addr) (nj kj:Nat) (rd wr pv:Int) (pn:Option Addr) (nn kn:Nat) (pp:Option Addr) (np kp:Nat):List Value:=[.int .i64 mo,.int .i64 po,.string inp,.slice pj nj kj,.int .i64 rd,.int .i64 wr,.int .i64 pv,.slice pn nn kn,.slice pp np kp]
def SV.cells (x:SV):List Value:=cS x.mo x.po x.inp x.pj x.lj.length x.cj x.rd x.wr x.pv x.pc x.lc.length x.cc x.pp x.lp.length x.cp
structure SV.ok (x:SV) (w:World):Prop where
 j:VL w (.slice x.pj x.lj.length x.cj) x.lj
 k:Vw fN w (.slice x.pc x.lc.length x.cc) x.lc
 p:PL w (.slice x.pp x.lp.length x.cp) x.lp
structure SV.sm (x:SV):Prop where
 i:x.inp.size<=1000000
 j:smL 1000000 (x.lj.map JV.d)
 k:x.lc.length<=1000000
 p:x.lp.length<=1000000
 ck:x.lc.length<=x.cc
 cj:x.lj.length<=x.cj
 cp:x.lp.length<=x.cp
theorem VP.keep {w w':World} {x:PV} (h:VP w x) (k:Only Ai w w'):VP w' x:=⟨h.1.keep k,h.2⟩
theorem PL.keep {w w':World} {v:Value} {l:List PV} (h:PL w v l) (k:Only Ai w w'):PL w' v l:=⟨h.1.keep k,fun x hx=>(h.2 x hx).keep k⟩
theorem SV.ok.keep {x:SV} {w w':World} (h:x.ok w) (k:Only Ai w w'):x.ok w':=⟨h.j.keep k,h.k.keep k,h.p.keep k⟩
def Ah (T:OwL) (Q:World->Prop):Prop:=∀ (X:Nat->Prop) (w₀ w:World),OwM X w₀ w T->Q w
theorem Ah.at {T A B:OwL} {Q:World->Prop} (h:Ah T Q) {X:Nat->Prop} {w₀ w:World} (O:OwM X w₀ w (A++(T++B))):Q w :=
 h X w₀ w (O.less ((List.sublist_append_left T B).trans (List.sublist_append_right A _)))
theorem Ah.mono {T:OwL} {Q R:World->Prop} (h:Ah T Q) (hq : ∀ w,Q w->R w):Ah T R:=fun X w₀ w O=>hq w (h X w₀ w O)
theorem Ah.l {T T':OwL} {Q:World->Prop} (h:Ah T Q):Ah (T++T') Q:=fun X w₀ w O=>h X w₀ w (O.less (List.sublist_append_left T T'))
theorem Ah.r {T T':OwL} {Q:World->Prop} (h:Ah T' Q):Ah (T++T') Q:=fun X w₀ w O=>h X w₀ w (O.less (List.sublist_append_right T T'))
theorem Ah.and {T:OwL} {Q R:World->Prop} (h:Ah T Q) (h':Ah T R):Ah T fun w=>Q w/\R w:=fun X w₀ w O=>⟨h X w₀ w O,h' X w₀ w O⟩
theorem _root_.Go.Proofs.Sx.One.holds {α:Type} {f : α->List Value} {e:TypeId} {sz:Nat} {p:Option Addr} {c:Nat} {l:List α} {T:OwL} (h:One f e sz p c l T):Ah T fun w=>Vw f w (.slice p l.length c) l:=fun X w₀ w O =>
 h.vw (A:=[]) (B:=[]) (by simpa using O)
theorem K2 {α:Type} {l:List α} {i:Nat} {x d : α} (h:l[i]? = some x):l.getD i d=x:=by rw [List.getD_eq_getElem?_getD,h]; rfl
theorem _root_.Go.Proofs.Sx.Vw.tail {α:Type} {f : α->List Value} {sz:Nat} (E:Enc f sz) {w:World} {ad:Addr} {x : α} {r:List α} {m c c':Nat} (h:Vw f w (.slice (some ad) m c) (x::r)):Vw f w (.slice (some (ad.add sz)) r.length c') r:=by
 rcases h with ⟨h,_⟩ | ⟨ad',cap,h,hc⟩
 · cases h
 · cases h
   refine .inr ⟨_,c',rfl,fun j u hj=>?_⟩
   rw [Sx.add_add]
   refine hc (sz+j) u ?_
   rw [List.flatMap_cons,List.getElem?_append_right (by rw [E.len]; omega),E.len]
   simpa using hj
theorem _root_.Go.Proofs.Sx.Vw.nil_any {α:Type} {f : α->List Value} {w:World} {p:Option Addr} {m c:Nat} {x : α} (h:Vw f w (.slice p m c) [x]) (c':Nat):Vw f w (.slice p 0 c') []:=by
 rcases h with ⟨_,h⟩ | ⟨ad',cap,h,hc⟩
 · cases h
 · cases h
   exact .inr ⟨_,c',rfl,fun j u hj=>by simp at hj⟩
end Go.Proofs.YtdljjajjonfjbaaGreatDoor
