import Derived.Test.YtdljjajjonfjbaaDoorShInputb
import Derived.Test.YtdljjajjonfjbaaDoorSwe
set_option linter.unusedVariables false
set_option linter.unusedSimpArgs false
namespace Go.Proofs.YtdljjajjonfjbaaDoor
open Go Go.RowKit Go.Proofs.Sx
def itA:Nat->WL->WL
  | 0,w=>w
  | k+1,w=>itA k (stepA w)
theorem itA_add : ∀ (i j:Nat) (w:WL),itA (i+j) w=itA j (itA i w)
  | 0,j,w=>by rw [Nat.zero_add]; rfl
  | i+1,j,w=>by rw [show i+1+j=(i+j)+1 by omega]; exact itA_add i j (stepA w)
theorem play_abs {text:ByteArray} (hT:textOk text) : ∀ (m:Nat) (w:WL),InvI text w->∃ j,absW (playF m w)=itA j (absW w)/\InvI text (playF m w)
  | 0,w,h=>⟨0,rfl,h⟩
  | m+1,w,h=>by
    by_cases he:w.exit < 0
    · rw [play_on he]
      obtain ⟨h1,h2⟩:=sim hT h he
      obtain ⟨j,h3,h4⟩:=play_abs hT m (stepW w) h1
      rcases h2 with h2 | h2
      · exact ⟨j,by rw [h3,h2],h4⟩
      · exact ⟨j+1,by rw [h3,h2]; rfl,h4⟩
    · rw [play_end he]
      exact ⟨0,rfl,h⟩
theorem abs_end {text:ByteArray} {w:WL} (h:InvI text w) (he : 0<=w.exit):stepA (absW w)=absW w:=by
  obtain ⟨h0,h1⟩:=h.ex he
  have hmo:w.st.mode≠1:=by
    rcases h.m with ⟨_,hx,_⟩ | ⟨q,_⟩ | ⟨q,_⟩ | ⟨q,_⟩ | ⟨q,_⟩ | ⟨q,_⟩
    · simp only at hx
      rw [hx] at h0
      cases h0
    all_goals (simp only at q; omega)
  rw [abs_go hmo]
  unfold stepA
  rw [if_pos (show w.x.call=0 from h0)]
  simp only
  rw [← h1]
theorem abs_stay {text:ByteArray} {w:WL} (h:InvI text w) (he : 0<=w.exit) : ∀ k,itA k (absW w)=absW w
  | 0=>rfl
  | k+1=>by
    show itA k (stepA (absW w))=_
    rw [abs_end h he]
    exact abs_stay h he k
theorem new_proc:procS newS=({newS with mode:=1},callL 9 0 80):=proc_read rfl rfl (by decide)
theorem play0_eq (inp:List ByteArray) (fails:List Int):play0 inp fails=⟨{newS with mode:=1},callL 9 0 80,fl0,inp,fails,0,0,[],[],[],0,-1,false,true⟩:=by
  have e:stepP newS 0 []=({newS with mode:=1},callL 9 0 80):=by
    rw [stepP_v (by rfl)]
    exact new_proc
  unfold play0 goW
  simp only
  rw [e]
theorem play0_inv {text:ByteArray} {inp:List ByteArray} (hc:catB inp=text) (hs : ∀ c∈inp,0 < c.size/\c.size<=80):InvI text (play0 inp []):=by
  rw [play0_eq]
  refine ⟨by rfl,.inl ⟨rfl,rfl,rfl,rfl,(by show nlI (⟨#[]⟩:ByteArray) < 0; decide)⟩,?_,hs,rfl,rfl,Int.le_refl _,fun q=>absurd q (by show ¬ (0:Int)<=-1; decide)⟩
  show suf text ((⟨#[]⟩:ByteArray)++catB inp)
  rw [hc]
  refine ⟨⟨#[]⟩,?_⟩
  apply ba_ext
  simp only [ByteArray.data_append,Array.toList_append]
  rfl
theorem play0_abs {a b:List ByteArray} (h:catB a=catB b):absW (play0 a [])=absW (play0 b []):=by
  rw [play0_eq,play0_eq]
  unfold absW
  simp only
  rw [h]
theorem input_law {text:ByteArray} (hT:textOk text) {a b:List ByteArray} (ha:catB a=text) (hb:catB b=text) (has : ∀ c∈a,0 < c.size/\c.size<=80) (hbs : ∀ c∈b,0 < c.size/\c.size<=80) :
    (playW a []).ok=true/\(playW b []).ok=true/\((playW a []).exit < 0\/(playW b []).exit < 0\/((playW a []).runs=(playW b []).runs/\(playW a []).exit=(playW b []).exit/\(playW a []).told=(playW b []).told)):=by
  obtain ⟨i,h1,h2⟩:=play_abs hT 900 _ (play0_inv ha has)
  obtain ⟨j,h3,h4⟩:=play_abs hT 900 _ (play0_inv hb hbs)
  refine ⟨h2.ok,h4.ok,?_⟩
  by_cases hea:(playW a []).exit < 0
  · exact .inl hea
  by_cases heb:(playW b []).exit < 0
  · exact .inr (.inl heb)
  refine .inr (.inr ?_)
  have hea' : 0<=(playF 900 (play0 a [])).exit:=by have : ¬ (playF 900 (play0 a [])).exit < 0:=hea; omega
  have heb' : 0<=(playF 900 (play0 b [])).exit:=by have : ¬ (playF 900 (play0 b [])).exit < 0:=heb; omega
  have e0:=play0_abs (ha.trans hb.symm)
  have key:absW (playF 900 (play0 a []))=absW (playF 900 (play0 b [])):=by
    rcases Nat.le_total i j with hij | hij
    · have:itA j (absW (play0 b []))=absW (playF 900 (play0 a [])):=by
        rw [← e0,show j=i+(j - i) by omega,itA_add,← h1]
        exact abs_stay h2 hea' _
      rw [h3,this]
    · have:itA i (absW (play0 a []))=absW (playF 900 (play0 b [])):=by
        rw [e0,show i=j+(i - j) by omega,itA_add,← h3]
        exact abs_stay h4 heb' _
      rw [h1,this]
  have k1:(absW (playF 900 (play0 a []))).runs=(absW (playF 900 (play0 b []))).runs:=by rw [key]
  have k2:(absW (playF 900 (play0 a []))).exit=(absW (playF 900 (play0 b []))).exit:=by rw [key]
  have k3:(absW (playF 900 (play0 a []))).told=(absW (playF 900 (play0 b []))).told:=by rw [key]
  exact ⟨k1,k2,k3⟩
theorem ix_none : ∀ (l:List UInt8) (c:UInt8),Lib.indexByte l c < 0->∀ x∈l,x≠c
  | [],_,_,x,hx=>absurd hx List.not_mem_nil
  | y::l,c,h,x,hx=>by
    simp only [Lib.indexByte] at h
    split at h
    · exact absurd h (by decide)
    · rename_i hy
      have h0:=ixb_ge l c
      have h3:Lib.indexByte l c < 0:=by
        by_cases h2:(Lib.indexByte l c == -1)=true
        · have:=eq_of_beq h2; omega
        · rw [if_neg h2] at h
          have h4:Lib.indexByte l c≠-1:=fun e=>h2 (beq_iff_eq.2 e)
          omega
      rcases List.mem_cons.1 hx with rfl | hx
      · intro e; subst e; exact hy (by simp)
      · exact ix_none l c h3 x hx
theorem nl_none {u:ByteArray} (h:nlI u < 0) {i:Nat} (hi:i < u.size):sb u i≠10:=by
  have hl:i < u.data.toList.length:=by rw [size_list]; exact hi
  have hx:=ix_none _ _ h (u.data.toList[i]) (List.getElem_mem hl)
  intro e
  apply hx
  have e2:sb u i=((u.data.toList[i]).toNat:Int):=by unfold sb; rw [List.getD_eq_getElem?_getD,List.getElem?_eq_getElem hl]; rfl
  rw [e2] at e
  have:(u.data.toList[i]).toNat=10:=by omega
  apply UInt8.toNat_inj.1
  rw [this]; rfl
theorem sb_app1 {a b:ByteArray} {i:Nat} (h:i < a.size):sb (a++b) i=sb a i:=by
  unfold sb
  rw [ByteArray.data_append,Array.toList_append,List.getD_eq_getElem?_getD,List.getD_eq_getElem?_getD,List.getElem?_append_left (by rw [size_list]; exact h)]
theorem sb_app2 {a b:ByteArray} {i:Nat}:sb (a++b) (a.size+i)=sb b i:=by
  unfold sb
  rw [ByteArray.data_append,Array.toList_append,List.getD_eq_getElem?_getD,List.getD_eq_getElem?_getD,List.getElem?_append_right (by rw [size_list]; omega),size_list,Nat.add_sub_cancel_left]
def lnl (s:ByteArray):Nat->Int
  | 0=>-1
  | i+1=>if sb s i=10 then (i:Int) else lnl s i
theorem lnl_lt {s:ByteArray} {p:Nat} : ∀ (k:Nat),(∀ i,p<=i->i < p+k->sb s i≠10)->lnl s (p+k)=lnl s p
  | 0,_=>rfl
  | k+1,h=>by
    rw [show p+(k+1)=(p+k)+1 by omega]
    simp only [lnl]
    rw [if_neg (h (p+k) (by omega) (by omega))]
    exact lnl_lt k (fun i h1 h2=>h i h1 (by omega))
theorem lnl_le (s:ByteArray) : ∀ i,lnl s i < (i:Int)
  | 0=>by show (-1:Int) < 0; decide
  | i+1=>by
    simp only [lnl]
    split
    · omega
    · have:=lnl_le s i; omega
def linesOk (s:ByteArray):Prop:=∀ i,i < s.size->(i:Int) - lnl s (i+1)<=200
theorem lines_text {s:ByteArray} (h:linesOk s):textOk (s++(⟨#[10]⟩:ByteArray)):=by
  have hsz:(s++(⟨#[10]⟩:ByteArray)).size=s.size+1:=by rw [ByteArray.size_append]; rfl
  have hlast:sb (s++(⟨#[10]⟩:ByteArray)) s.size=10:=by
    have:=sb_app2 (a:=s) (b:=(⟨#[10]⟩:ByteArray)) (i:=0)
    rw [Nat.add_zero] at this
    rw [this]; rfl
  have hend : ∀ p u q:ByteArray,s++(⟨#[10]⟩:ByteArray)=p++(u++q)->nlI u < 0->p.size+u.size<=s.size\/u.size=0:=by
    intro p u q e hn
    by_cases h0:u.size=0
    · exact .inr h0
    · refine .inl ?_
      have hs2:s.size+1=p.size+(u.size+q.size):=by rw [← hsz,e,ByteArray.size_append,ByteArray.size_append]
      rcases Nat.lt_or_ge s.size (p.size+u.size) with hlt | hge
      · exfalso
        have hi:s.size - p.size < u.size:=by omega
        have hp:p.size<=s.size:=by omega
        have:=nl_none hn hi
        rw [e,show s.size=p.size+(s.size - p.size) by omega,sb_app2,sb_app1 hi] at hlast
        exact this hlast
      · exact hge
  refine ⟨fun p u q e hn=>?_,fun p u e hn=>?_⟩
  · rcases hend p u q e hn with h1 | h1
    · rcases Nat.lt_or_ge 200 u.size with h2 | h2
      · exfalso
        have h3:=h (p.size+200) (by omega)
        have h4:lnl s (p.size+200+1)=lnl s p.size:=lnl_lt 201 (fun i hi1 hi2=>by
          have hi:i - p.size < u.size:=by omega
          have:=nl_none hn hi
          have e2:sb s i=sb u (i - p.size):=by
            rw [← sb_app1 (a:=s) (b:=(⟨#[10]⟩:ByteArray)) (show i < s.size by omega),e,show i=p.size+(i - p.size) by omega,sb_app2,sb_app1 (by omega)]
            congr 1; omega
          rw [e2]; exact this)
        have h5:=lnl_le s p.size
        rw [h4] at h3
        omega
      · exact h2
    · omega
  · rcases hend p u ⟨#[]⟩ (by rw [app_nil]; exact e) hn with h1 | h1
    · have:s.size+1=p.size+u.size:=by rw [← hsz,e,ByteArray.size_append]
      omega
    · exact h1
theorem chunks_cat {n:Nat} (hn : 1<=n) : ∀ (k:Nat) (s:ByteArray),s.size<=k->catB (chunksF k s n)=s
  | 0,s,h=>app_nil s
  | k+1,s,h=>by
    simp only [chunksF]
    split
    · rename_i hlt
      show s.extract 0 n++catB (chunksF k (s.extract n s.size) n)=s
      rw [chunks_cat hn k _ (by rw [ByteArray.size_extract]; omega)]
      apply ba_ext
      rw [ByteArray.data_append,Array.toList_append,ext_bytes,ext_bytes,List.drop_zero,Nat.sub_zero,List.take_of_length_le (l:=s.data.toList.drop n) (by rw [List.length_drop,size_list]; exact Nat.le_refl _),List.take_append_drop]
    · exact app_nil s
theorem chunks_pos {n:Nat} (hn : 1<=n) : ∀ (k:Nat) (s:ByteArray),s.size<=k->0 < s.size->∀ c∈chunksF k s n,0 < c.size
  | 0,s,h,h0=>by omega
  | k+1,s,h,h0=>by
    intro c hc
    simp only [chunksF] at hc
    split at hc
    · rcases List.mem_cons.1 hc with rfl | hc
      · rw [ByteArray.size_extract]; omega
      · exact chunks_pos hn k _ (by rw [ByteArray.size_extract]; omega) (by rw [ByteArray.size_extract]; omega) c hc
    · have:c=s:=by simpa using hc
      rw [this]; exact h0
theorem shell_input {s:ByteArray} (h:linesOk s) (n:Nat) (hn : 1<=n/\n<=80) :
    let a:=playW (chunksP (s++(⟨#[10]⟩:ByteArray)) 80) []
    let b:=playW (chunksP (s++(⟨#[10]⟩:ByteArray)) n) []
    a.ok=true/\b.ok=true/\(a.exit < 0\/b.exit < 0\/(a.runs=b.runs/\a.exit=b.exit/\a.told=b.told)):=by
  have h0 : 0 < (s++(⟨#[10]⟩:ByteArray)).size:=by rw [ByteArray.size_append]; exact Nat.lt_of_lt_of_le Nat.zero_lt_one (Nat.le_add_left _ _)
  refine input_law (lines_text h) (chunks_cat (by decide) _ _ (Nat.le_refl _)) (chunks_cat hn.1 _ _ (Nat.le_refl _)) (fun c hc=>⟨chunks_pos (by decide) _ _ (Nat.le_refl _) h0 c hc,chunks_le (by decide) _ _ (Nat.le_refl _) c hc⟩) (fun c hc=>⟨chunks_pos hn.1 _ _ (Nat.le_refl _) h0 c hc,?_⟩)
  have:=chunks_le hn.1 _ _ (Nat.le_refl _) c hc
  omega
end Go.Proofs.YtdljjajjonfjbaaDoor
