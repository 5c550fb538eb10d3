import Derived.Test.YtdljjajjonfjbaaDoorPars
import Derived.Test.YtdljjajjonfjbaaDoorSn
import Derived.Test.YtdljjajjonfjbaaDoorCmdBase
import Derived.Test.YtdljjajjonfjbaaDoorSz
set_option linter.unusedVariables false
set_option linter.unusedSimpArgs false
set_option maxRecDepth 10000
namespace Go.Proofs.YtdljjajjonfjbaaDoor
open Go Go.Shelf Go.RowKit Go.Proofs Go.Proofs.Sx
theorem take_any (pb:Nat) (sv:ByteArray) (n:Nat) (w:World) (hn:n<=sv.size) (hs:sv.size<=1000000) (t:ByteArray) (ht:n+t.size<=sv.size) (h0:Ow Tryd.prog (inT (TP pb sv n)) w w (TP pb sv n)) :
    Calls Tryd.prog 70 #[pt pb,str t] w fun e w'=>e = .returned (.tuple #[])/\Ow Tryd.prog (inT (TP pb sv n)) w w' (TP pb sv (sk sv (n+t.size))):=by
 refine c_enter (args:=[pt pb,str t]) (m:=13) (n:=15) Tryd.func70 rfl (by kernel_rfl) (by kernel_rfl) fun fr hA=>?_
 have hO:Ow Tryd.prog (inT (TP pb sv n)) w w [(pb,103,[str sv,i64 ((n:Nat):Int),.slice none 0 0])]:=h0
 refine sr 10 ?_
 refine Kb 9 [(10,i64 (((n:Nat):Int)+((t.size:Nat):Int))),(12,pf pb 1)] hA [i64 ((n:Nat):Int),bl true] (cc (hO.l1 0 1 3 (i64 ((n:Nat):Int))) (cc ((inK_i64 (by omega) (by omega)):inK .i64 (((n:Nat):Int)+((t.size:Nat):Int))) c0)) fun fr hA=>?_
 refine Ms 1 [i64 (((n:Nat):Int)+((t.size:Nat):Int))] 0 hA hO fun w1 hO=>?_
 refine end_ops ?_
 refine then_normal ?_
 refine rr 2 ?_
 refine Ka 1 [(13,pt pb)] hA fun fr hA=>?_
 refine wpOps_cons' (mC (d:=(some 14)) hA Tryd.func65 ((skip_any pb sv (n+t.size) _ (by omega) (by omega) (Ow.self (A:=[]) (hO.tt))).mono ?_))
 rintro en w2 ⟨rfl,hW⟩
 refine ⟨_,rfl,?_⟩
 clear hA fr; intro fr hA
 replace hO:=Ow.pass (A:=[]) hO hW; clear hW
 refine end_ops ?_
 refine c_end ?_
 refine cv [] hA ?_
 exact ⟨rfl,hO.tt⟩
theorem part_tk {s:ByteArray} {n:Nat} (h : ¬ (kd s n=0\/kd s n=8)):partI (sb (tk s n) 0)=decide (kd s n=1):=by
 have h1:=kd_spec s n
 have h2:=tl_kd s n
 rw [sb_tk (by omega),Nat.add_zero]
 rcases h1 with h1 | ⟨h1,_,h3⟩ | ⟨h1,h3,h4⟩
 · omega
 · rw [h3]; exact (decide_eq_true h1).symm
 rw [h3]; exact (decide_eq_false (by omega)).symm
theorem byte_tk {s:ByteArray} {n:Nat} (h : ¬ (kd s n=0\/kd s n=8)) (h1:kd s n≠1):(sb (tk s n) 0=60↔kd s n=2)/\(sb (tk s n) 0=62↔kd s n=3\/kd s n=4):=by
 have h3:=kd_spec s n
 have h2:=tl_kd s n
 rw [sb_tk (by omega),Nat.add_zero]
 omega
theorem begins_any (sv:ByteArray) (n:Nat) (w:World) :
    Calls Tryd.prog 66 #[str (tk sv n)] w fun e w'=>e = .returned (.bool (begK (kd sv n)))/\Only none' w w':=by
 refine c_enter (args:=[str (tk sv n)]) (m:=19) (n:=20) Tryd.func66 rfl (by kernel_rfl) (by kernel_rfl) fun fr hA=>?_
 have hO:=Ow.nil Tryd.prog none' w
 have htl:=tl_kd sv n
 have htz:=tk_size sv n
 have hsb:=sb_b (tk sv n) 0
 have hby:=fun (q1 : ¬ (kd sv n=0\/kd sv n=8)) (q2:kd sv n≠1)=>byte_tk q1 q2
 refine Sa [(2,bl false)] hA fun fr hA=>?_
 refine sr 18 ?_
 refine Ka 3 [(4,bl (!((tk sv n).toList == (⟨#[]⟩:ByteArray).toList))),(5,bl (!((tk sv n).toList == (⟨#[]⟩:ByteArray).toList)))] hA fun fr hA=>?_
 rw [(tk_none sv n:((tk sv n).toList == (⟨#[]⟩:ByteArray).toList)=(decide (kd sv n=0\/kd sv n=8)))] at hA
 rcases Bool.eq_false_or_eq_true (decide (kd sv n=0\/kd sv n=8)) with h1 | h1
 · rw [h1] at hA
   have h1p:=of_decide_eq_true h1
   refine Ka 15 [] hA fun fr hA=>?_
   refine end_ops ?_
   refine then_normal ?_
   refine wp_ret ?_
   refine cv [bl false] hA ?_
   have hF:=hO.only; clear hA hO
   refine ⟨congrArg (fun b=>Ending.returned (.bool b)) ?_,hF⟩
   unfold begK
   by_cases q1:kd sv n=0\/kd sv n=8
   · first | exact (decide_eq_false (by omega)).symm | (exfalso; omega)
   by_cases q2:kd sv n=1
   · first | exact (decide_eq_true (by omega)).symm | (exfalso; omega)
   have q3:=hby q1 q2
   first | exact (decide_eq_true (by omega)).symm | exact (decide_eq_false (by omega)).symm | (rw [Bool.eq_iff_iff]; simp only [beq_iff_eq,decide_eq_true_eq]; omega)
 rw [h1] at hA
 have h1p:=of_decide_eq_false h1
 refine Kb 2 [(5,bl true),(7,u8 (sb (tk sv n) 0))] hA [] (cc (⟨by omega,by omega⟩:(0:Int)<=0/\0 < (((tk sv n).size:Nat):Int)) c0) fun fr hA=>?_
 refine Mk 8 hA hO Tryd.func57 (part_any (sb (tk sv n) 0) _ (by omega) (by omega)) fun fr w1 hA hO=>?_
 refine Ka 1 [(9,bl (partI (sb (tk sv n) 0)))] hA fun fr hA=>?_
 rw [(part_tk (by omega):(partI (sb (tk sv n) 0))=(decide (kd sv n=1)))] at hA
 rcases Bool.eq_false_or_eq_true (decide (kd sv n=1)) with h2 | h2
 · rw [h2] at hA
   have h2p:=of_decide_eq_true h2
   refine Ka 11 [(2,bl true)] hA fun fr hA=>?_
   refine end_ops ?_
   refine then_normal ?_
   refine wp_ret ?_
   refine cv [bl true] hA ?_
   have hF:=hO.only; clear hA hO
   refine ⟨congrArg (fun b=>Ending.returned (.bool b)) ?_,hF⟩
   unfold begK
   by_cases q1:kd sv n=0\/kd sv n=8
   · first | exact (decide_eq_false (by omega)).symm | (exfalso; omega)
   by_cases q2:kd sv n=1
   · first | exact (decide_eq_true (by omega)).symm | (exfalso; omega)
   have q3:=hby q1 q2
   first | exact (decide_eq_true (by omega)).symm | exact (decide_eq_false (by omega)).symm | (rw [Bool.eq_iff_iff]; simp only [beq_iff_eq,decide_eq_true_eq]; omega)
 rw [h2] at hA
 have h2p:=of_decide_eq_false h2
 refine Kb 5 [(12,bl ((sb (tk sv n) 0) == 60)),(13,bl ((sb (tk sv n) 0) == 60)),(14,bl ((sb (tk sv n) 0) == 60))] hA [] (cc (⟨by omega,by omega⟩:(0:Int)<=0/\0 < (((tk sv n).size:Nat):Int)) c0) fun fr hA=>?_
 rcases Bool.eq_false_or_eq_true ((sb (tk sv n) 0) == 60) with h3 | h3
 · rw [h3] at hA
   have h3p:=eq_of_beq h3
   refine Ka 6 [(2,bl true)] hA fun fr hA=>?_
   refine end_ops ?_
   refine then_normal ?_
   refine wp_ret ?_
   refine cv [bl true] hA ?_
   have hF:=hO.only; clear hA hO
   refine ⟨congrArg (fun b=>Ending.returned (.bool b)) ?_,hF⟩
   unfold begK
   by_cases q1:kd sv n=0\/kd sv n=8
   · first | exact (decide_eq_false (by omega)).symm | (exfalso; omega)
   by_cases q2:kd sv n=1
   · first | exact (decide_eq_true (by omega)).symm | (exfalso; omega)
   have q3:=hby q1 q2
   first | exact (decide_eq_true (by omega)).symm | exact (decide_eq_false (by omega)).symm | (rw [Bool.eq_iff_iff]; simp only [beq_iff_eq,decide_eq_true_eq]; omega)
 rw [h3] at hA
 have h3p:=ne_of_beq_false h3
 refine Kb 6 [(2,bl ((sb (tk sv n) 0) == 62))] hA [] (cc (⟨by omega,by omega⟩:(0:Int)<=0/\0 < (((tk sv n).size:Nat):Int)) c0) fun fr hA=>?_
 refine end_ops ?_
 refine then_normal ?_
 refine wp_ret ?_
 refine cv [bl ((sb (tk sv n) 0) == 62)] hA ?_
 have hF:=hO.only; clear hA hO
 refine ⟨congrArg (fun b=>Ending.returned (.bool b)) ?_,hF⟩
 unfold begK
 by_cases q1:kd sv n=0\/kd sv n=8
 · first | exact (decide_eq_false (by omega)).symm | (exfalso; omega)
 by_cases q2:kd sv n=1
 · first | exact (decide_eq_true (by omega)).symm | (exfalso; omega)
 have q3:=hby q1 q2
 first | exact (decide_eq_true (by omega)).symm | exact (decide_eq_false (by omega)).symm | (rw [Bool.eq_iff_iff]; simp only [beq_iff_eq,decide_eq_true_eq]; omega)
theorem fail_any (pb:Nat) (sv:ByteArray) (n:Nat) (w:World) (hn:n<=sv.size) (hs:sv.size<=1000000) (er:Int) (hB:Blk w pb 103 [str sv,i64 ((n:Nat):Int),.slice none 0 0]) :
    Calls Tryd.prog 68 #[pt pb,i64 er] w fun e w'=>e = .panicked (pnc n er)/\Only none' w w':=by
 refine c_enter (args:=[pt pb,i64 er]) (m:=9) (n:=11) Tryd.func68 rfl (by kernel_rfl) (by kernel_rfl) fun fr hA=>?_
 have hO:=Ow.nil Tryd.prog none' w
 refine rr 8 ?_
 refine Kb 7 [(10,.iface 99 (.agg #[i64 ((n:Nat):Int),i64 er]))] hA [i64 ((n:Nat):Int)] (cc (((hB.keep hO.only (fun h=>h)).ld1 (i:=1) (by kernel_rfl) (by kernel_rfl)):Ld Tryd.prog w ⟨pb,1,none⟩ 3 (i64 ((n:Nat):Int))) c0) fun fr hA=>?_
 refine wpOps_cons' (m_panic (t:=99) (v:=(.agg #[i64 ((n:Nat):Int),i64 er])) hA ?_)
 show _/\_
 exact ⟨hA.dfr,rfl,hO.only⟩
abbrev PP {α:Type} (r:PR α) (T:OwL) (w w':World) (e:Ending) (ok : α->Nat->Prop):Prop :=
  (∃ a b,r = .error (a,b)/\e = .panicked (pnc a b)/\Only (inT T) w w')\/∃ v m,r = .ok (v,m)/\ok v m
theorem wordP_ok {s:ByteArray} {n m:Nat} {v:ByteArray} (hn:n<=s.size) (h:wordP s n = .ok (v,m)):v=tk s n/\m=nx s n/\m<=s.size/\n < m/\kd s n=1/\v.size<=60/\1<=v.size:=by
 unfold wordP at h
 split at h
 · cases h
 rename_i h1
 split at h
 · cases h
 rename_i h2
 cases h
 have h3:=tk_size s n
 have h4:=tl_kd s n
 exact ⟨rfl,rfl,nx_le hn,nx_gt (by omega),by omega,by omega,by omega⟩
theorem word_any (pb:Nat) (sv:ByteArray) (n:Nat) (w:World) (hn:n<=sv.size) (hs:sv.size<=1000000) (h0:Ow Tryd.prog (inT (TP pb sv n)) w w (TP pb sv n)) :
    Calls Tryd.prog 84 #[pt pb] w fun e w'=>PP (wordP sv n) (TP pb sv n) w w' e fun v m=>e = .returned (str v)/\Ow Tryd.prog (inT (TP pb sv n)) w w' (TP pb sv m):=by
 refine c_enter (args:=[pt pb]) (m:=26) (n:=27) Tryd.func84 rfl (by kernel_rfl) (by kernel_rfl) fun fr hA=>?_
 have hO:Ow Tryd.prog (inT (TP pb sv n)) w w [(pb,103,[str sv,i64 ((n:Nat):Int),.slice none 0 0])]:=h0
 have htl:=tl_kd sv n
 have htz:=tk_size sv n
 have hsb:=sb_b (tk sv n) 0
 refine Sa [(2,str (⟨#[]⟩))] hA fun fr hA=>?_
 refine sr 3 ?_
 refine Ka 1 [(4,pt pb)] hA fun fr hA=>?_
 refine Mk 5 hA hO Tryd.func67 (next_any pb sv n _ (by omega) (by omega) (hO.b 0)) fun fr w1 hA hO=>?_
 refine Ka 1 [(3,str (tk sv n))] hA fun fr hA=>?_
 refine end_ops ?_
 refine then_normal ?_
 refine wp_seq ?_
 refine wp_block ?_
 refine sr 9 ?_
 refine Ka 3 [(8,bl ((tk sv n).toList == (⟨#[]⟩:ByteArray).toList)),(9,bl ((tk sv n).toList == (⟨#[]⟩:ByteArray).toList))] hA fun fr hA=>?_
 rw [(tk_none sv n:((tk sv n).toList == (⟨#[]⟩:ByteArray).toList)=(decide (kd sv n=0\/kd sv n=8)))] at hA
 rcases Bool.eq_false_or_eq_true (decide (kd sv n=0\/kd sv n=8)) with h1 | h1
 · rw [h1] at hA
   have h1p:=of_decide_eq_true h1
   refine Ka 6 [(6,bl true)] hA fun fr hA=>?_
   refine end_ops ?_
   refine then_normal ?_
   refine cT hA ?_
   refine rr 2 ?_
   refine Ka 1 [(15,pt pb)] hA fun fr hA=>?_
   refine wpOps_cons' (mP (d:=(some 16)) hA Tryd.func68 ((fail_any pb sv n _ (by omega) (by omega) 3 (hO.b 0)).mono ?_))
   rintro en w2 ⟨rfl,hW⟩
   refine .inr ⟨_,rfl,?_⟩
   show _/\_
   exact ⟨hA.dfr,Or.inl ⟨_,_,(by unfold wordP; rw [if_pos (by omega)]),rfl,Ow.pan0 hO hW⟩⟩
 rw [h1] at hA
 have h1p:=of_decide_eq_false h1
 refine Kb 2 [(9,bl false),(11,u8 (sb (tk sv n) 0))] hA [] (cc (⟨by omega,by omega⟩:(0:Int)<=0/\0 < (((tk sv n).size:Nat):Int)) c0) fun fr hA=>?_
 refine Mk 12 hA hO Tryd.func57 (part_any (sb (tk sv n) 0) _ (by omega) (by omega)) fun fr w3 hA hO=>?_
 refine Ka 3 [(6,bl (!(partI (sb (tk sv n) 0))))] hA fun fr hA=>?_
 rw [(part_tk (by omega):(partI (sb (tk sv n) 0))=(decide (kd sv n=1)))] at hA
 refine end_ops ?_
 refine then_normal ?_
 rcases Bool.eq_false_or_eq_true (decide (kd sv n=1)) with h2 | h2
 · rw [h2] at hA
   have h2p:=of_decide_eq_true h2
   refine cF hA ?_
   refine Sa [(17,bl (decide ((((tk sv n).size:Nat):Int) > 60)))] hA fun fr hA=>?_
   rcases Bool.eq_false_or_eq_true (decide ((((tk sv n).size:Nat):Int) > 60)) with h3 | h3
   · rw [h3] at hA
     have h3p:=of_decide_eq_true h3
     refine cT hA ?_
     refine rr 2 ?_
     refine Ka 1 [(21,pt pb)] hA fun fr hA=>?_
     refine wpOps_cons' (mP (d:=(some 22)) hA Tryd.func68 ((fail_any pb sv n _ (by omega) (by omega) 6 (hO.b 0)).mono ?_))
     rintro en w4 ⟨rfl,hW⟩
     refine .inr ⟨_,rfl,?_⟩
     show _/\_
     exact ⟨hA.dfr,Or.inl ⟨_,_,(by unfold wordP; rw [if_neg (by omega),if_pos (by omega)]),rfl,Ow.pan0 hO hW⟩⟩
   rw [h3] at hA
   have h3p:=of_decide_eq_false h3
   refine cF hA ?_
   refine wp_skip ?_
   refine inBlock_normal ?_
   refine then_normal ?_
   refine sr 3 ?_
   refine Ka 2 [(23,pt pb),(24,str (tk sv n))] hA fun fr hA=>?_
   refine wpOps_cons' (mC (d:=(some 25)) hA Tryd.func70 ((take_any pb sv n _ (by omega) (by omega) (tk sv n) (by first | omega | (have:=tk_size sv n; have:=tl_le sv n; omega)) (Ow.self (A:=[]) (hO.tt))).mono ?_))
   rintro en w5 ⟨rfl,hW⟩
   refine ⟨_,rfl,?_⟩
   clear hA fr; intro fr hA
   replace hO:=Ow.pass (A:=[]) hO hW; clear hW
   refine end_ops ?_
   refine then_normal ?_
   refine Sa [(2,str (tk sv n))] hA fun fr hA=>?_
   refine wp_ret ?_
   refine cv [str (tk sv n)] hA ?_
   exact Or.inr ⟨_,_,by unfold wordP; rw [if_neg (by omega),if_neg (by omega)],rfl,by unfold nx; rw [← htz]; exact hO⟩
 rw [h2] at hA
 have h2p:=of_decide_eq_false h2
 refine cT hA ?_
 refine rr 2 ?_
 refine Ka 1 [(15,pt pb)] hA fun fr hA=>?_
 refine wpOps_cons' (mP (d:=(some 16)) hA Tryd.func68 ((fail_any pb sv n _ (by omega) (by omega) 3 (hO.b 0)).mono ?_))
 rintro en w6 ⟨rfl,hW⟩
 refine .inr ⟨_,rfl,?_⟩
 show _/\_
 exact ⟨hA.dfr,Or.inl ⟨_,_,(by unfold wordP; rw [if_pos (by omega)]),rfl,Ow.pan0 hO hW⟩⟩
end Go.Proofs.YtdljjajjonfjbaaDoor
namespace Go.Proofs.YtdljjajjonfjbaaDoor
open Go Go.RowKit Go.Proofs.Sx
structure CV where
  p:Option Addr
  c:Nat
  d:CmdL
structure JV where
  p:Option Addr
  c:Nat
  cmds:List CV
  bg:Bool
def CV0:CV:=⟨none,0,cmd0⟩
def JV0:JV:=⟨none,0,[],false⟩
def JV.d (x:JV):JobL:=⟨x.cmds.map (·.d),x.bg⟩
def fC (x:CV):List Value:=[.slice x.p x.d.words.length x.c,.string x.d.inp,.string x.d.out,.bool x.d.app]
def fJ (x:JV):List Value:=[.slice x.p x.cmds.length x.c,.bool x.bg]
theorem encC:Enc fC 4:=⟨fun _=>rfl,fun x v hv=>by
  simp only [fC,List.mem_cons,List.not_mem_nil,or_false] at hv
  rcases hv with rfl | rfl | rfl | rfl <;> rfl⟩
theorem encJ:Enc fJ 2:=⟨fun _=>rfl,fun x v hv=>by
  simp only [fJ,List.mem_cons,List.not_mem_nil,or_false] at hv
  rcases hv with rfl | rfl <;> rfl⟩
def VC (w:World) (x:CV):Prop:=Vw fT w (.slice x.p x.d.words.length x.c) x.d.words
def VJ (w:World) (x:JV):Prop:=Vw fC w (.slice x.p x.cmds.length x.c) x.cmds/\∀ y∈x.cmds,VC w y
def VL (w:World) (v:Value) (l:List JV):Prop:=Vw fJ w v l/\∀ x∈l,VJ w x
section
variable {w w':World}
theorem VC.keep {x:CV} (h:VC w x) (k:Only none' w w'):VC w' x:=Vw.keep h k
theorem VJ.keep {x:JV} (h:VJ w x) (k:Only none' w w'):VJ w' x:=⟨h.1.keep k,fun y hy=>(h.2 y hy).keep k⟩
theorem VL.keep {v:Value} {l:List JV} (h:VL w v l) (k:Only none' w w'):VL w' v l:=⟨h.1.keep k,fun y hy=>(h.2 y hy).keep k⟩
end
def InC (eT:TypeId):List CV->OwL->Prop
  | [],T=>T=[]
  | x::r,T=>∃ Tx Tr,One fT eT 1 x.p x.c x.d.words Tx/\InC eT r Tr/\T=Tx++Tr
def InJ (eC eT:TypeId):List JV->OwL->Prop
  | [],T=>T=[]
  | x::r,T=>∃ T0 Tc Tr,One fC eC 4 x.p x.c x.cmds T0/\InC eT x.cmds Tc/\InJ eC eT r Tr/\T=T0++(Tc++Tr)
def InW (eC:TypeId):List JV->OwL->Prop
  | [],T=>T=[]
  | x::r,T=>∃ T0 Tr,One fC eC 4 x.p x.c x.cmds T0/\InW eC r Tr/\T=T0++Tr
section
variable {eC eT:TypeId}
theorem InC.snoc {x:CV} {Tw:OwL} (h1:One fT eT 1 x.p x.c x.d.words Tw) : ∀ {l:List CV} {T:OwL},InC eT l T->InC eT (l++[x]) (T++Tw)
  | [],T,h=>by subst h; exact ⟨Tw,[],h1,rfl,by simp⟩
  | y::r,T,h=>by
    obtain ⟨Tx,Tr,a,b,rfl⟩:=h
    exact ⟨Tx,Tr++Tw,a,InC.snoc h1 b,by simp⟩
theorem InJ.snoc {x:JV} {T0 Tc:OwL} (h1:One fC eC 4 x.p x.c x.cmds T0) (h2:InC eT x.cmds Tc) : ∀ {l:List JV} {T:OwL},InJ eC eT l T->InJ eC eT (l++[x]) (T++(T0++Tc))
  | [],T,h=>by subst h; exact ⟨T0,Tc,[],h1,h2,rfl,by simp⟩
  | y::r,T,h=>by
    obtain ⟨Ta,Tb,Tr,a,b,c,rfl⟩:=h
    exact ⟨Ta,Tb,Tr++(T0++Tc),a,b,InJ.snoc h1 h2 c,by simp⟩
theorem InW.snoc {x:JV} {T0:OwL} (h1:One fC eC 4 x.p x.c x.cmds T0) : ∀ {l:List JV} {T:OwL},InW eC l T->InW eC (l++[x]) (T++T0)
  | [],T,h=>by subst h; exact ⟨T0,[],h1,rfl,by simp⟩
  | y::r,T,h=>by
    obtain ⟨Ta,Tr,a,c,rfl⟩:=h
    exact ⟨Ta,Tr++T0,a,InW.snoc h1 c,by simp⟩
variable {X:Nat->Prop} {w₀ w:World}
theorem InC.view : ∀ {l:List CV} {T A B:OwL},InC eT l T->OwM X w₀ w (A++(T++B))->∀ y∈l,VC w y
  | [],T,A,B,_,_,y,hy=>absurd hy List.not_mem_nil
  | x::r,T,A,B,h,hO,y,hy=>by
    obtain ⟨Tx,Tr,h1,h2,rfl⟩:=h
    rcases List.mem_cons.1 hy with rfl | hy
    · exact One.vw (A:=A) (B:=Tr++B) h1 (by simpa using hO)
    · exact InC.view (A:=A++Tx) (B:=B) h2 (by simpa using hO) y hy
theorem InJ.view : ∀ {l:List JV} {T A B:OwL},InJ eC eT l T->OwM X w₀ w (A++(T++B))->∀ y∈l,VJ w y
  | [],T,A,B,_,_,y,hy=>absurd hy List.not_mem_nil
  | x::r,T,A,B,h,hO,y,hy=>by
    obtain ⟨T0,Tc,Tr,h1,h2,h3,rfl⟩:=h
    rcases List.mem_cons.1 hy with rfl | hy
    · exact ⟨One.vw (A:=A) (B:=Tc++(Tr++B)) h1 (by simpa using hO),InC.view (A:=A++T0) (B:=Tr++B) h2 (by simpa using hO)⟩
    · exact InJ.view (A:=A++(T0++Tc)) (B:=B) h3 (by simpa using hO) y hy
theorem InW.view : ∀ {l:List JV} {T A B:OwL},InW eC l T->OwM X w₀ w (A++(T++B))->(∀ x∈l,∀ y∈x.cmds,VC w y)->∀ y∈l,VJ w y
  | [],T,A,B,_,_,_,y,hy=>absurd hy List.not_mem_nil
  | x::r,T,A,B,h,hO,hv,y,hy=>by
    obtain ⟨T0,Tr,h1,h3,rfl⟩:=h
    rcases List.mem_cons.1 hy with rfl | hy
    · exact ⟨One.vw (A:=A) (B:=Tr++B) h1 (by simpa using hO),fun z hz=>hv _ List.mem_cons_self z hz⟩
    · exact InW.view (A:=A++T0) (B:=B) h3 (by simpa using hO) (fun a ha=>hv a (List.mem_cons_of_mem _ ha)) y hy
end
end Go.Proofs.YtdljjajjonfjbaaDoor
