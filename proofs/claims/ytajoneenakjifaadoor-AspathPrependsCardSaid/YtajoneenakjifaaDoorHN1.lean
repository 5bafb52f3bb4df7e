/- Rows of rows that are written into. -/
import Derived.Test.YtajoneenakjifaaDoorHCP
import Derived.Test.YtajoneenakjifaaDoorHPR
namespace Go.VM
open Go.RowKit
theorem ownG.store {w : World} {base z g n c : Nat} {xs : List Value} (h : ownG w base z (.slice (some ⟨g, 0, none⟩) n c) n xs) (j : Nat) (hj : j < n * z) (u : Value) :
  w.cell? ⟨g,j,none⟩=xs[j]?∧w.frozen? ⟨g,j,none⟩=false∧ownG (w.setCell ⟨g,j,none⟩ u) base z (.slice (some ⟨g,0,none⟩) n c) n (xs.set j u)∧w.grownBy (w.setCell ⟨g,j,none⟩ u) (some g):=by
 obtain ⟨h1,⟨h',_⟩ | ⟨g',c',cur,e,fr,h',hb,hh,hfz,hc,hm,hs,ht⟩⟩:=h
 · cases h'
 · cases h'
   have hjc:j < cur.size:=by rw [hs]; exact Nat.lt_of_lt_of_le hj (Nat.mul_le_mul_right z hc)
   refine ⟨?_,?_,⟨by simpa using h1,.inr ⟨g,c,cur.setIfInBounds j u,e,fr,rfl,hb,?_,?_,hc,hm,by simpa using hs,?_⟩⟩,rfl,rfl,rfl,by simp,fun k _ hk=>heap_setCell_other w ⟨g,j,none⟩ k u (fun e=>hk (by simp [e]))⟩
   · rw [cell_of_row w g j cur e fr hh,← ht,List.getElem?_take,if_pos hj]
     simp
   · obtain ⟨lo,hi⟩:=fr
     simp only [World.frozen?,hh]
     rcases hfz with q | q
     · have q:hi≤lo:=q
       rw [Bool.and_eq_false_iff]
       by_cases h0:lo≤j
       · exact .inr (decide_eq_false (by omega))
       · exact .inl (decide_eq_false h0)
     · have q:cur.size≤lo:=q
       rw [Bool.and_eq_false_iff]
       exact .inl (decide_eq_false (by omega))
   · rw [setCell_eq_setRow w g j cur e fr u hh]
     exact setRow_heap w g cur _ e fr hh
   · rw [Array.size_setIfInBounds]; exact hfz
   · rw [Array.toList_setIfInBounds,← ht,List.take_set]
theorem intC_set (l:List Int) (j:Nat) (x:Int):(intC l).set j (.int .i64 x)=intC (l.set j x):=by
 unfold intC
 rw [List.map_set]
section
variable {w:World} {base:Nat} {v:Value} {L:List (Bool×List Int)} {vs:List Value} {i:Nat}
theorem Deep.setB {g n c : Nat} (h : Deep w base (.slice (some ⟨g, 0, none⟩) n c) L vs) (hi : i < L.length) (b : Bool) :
  w.cell? ⟨g,i * 2,none⟩=some (.bool L[i].1)∧w.frozen? ⟨g,i * 2,none⟩=false∧Deep (w.setCell ⟨g,i * 2,none⟩ (.bool b)) base (.slice (some ⟨g,0,none⟩) n c) (L.set i (b,L[i].2)) vs∧w.grownBy (w.setCell ⟨g,i * 2,none⟩ (.bool b)) (some g):=by
 have hn:n=L.length:=by
  rcases owns_slice h.row with ⟨q,_⟩ | ⟨g',c',q⟩
  · cases q
  · cases q; rfl
 have hr:=h.row
 rw [← hn] at hr
 obtain ⟨hs1,hs2⟩:=hr.stored (i * 2) (.bool b)
 rw [segC_set0 b L[i].2 h.len hi] at hs1
 refine ⟨by rw [hr.cellAt _ (by omega)]; exact segC_get0 h.len hi,hr.frozenAt _,⟨by simp [h.len],by rw [List.length_set,← hn]; exact hs1,fun j hj hj'=>?_,h.apart,h.out⟩,hs2⟩
 have hj2:j < L.length:=by simpa using hj
 have e:(L.set i (b,L[i].2))[j].2=L[j].2:=by
  by_cases e:i=j
  · subst e; simp
  · simp [List.getElem_set_ne e]
 rw [e]
 exact (h.ins j hj2 hj').kept hs2 (.inr fun q=>h.out j hj' g q rfl)
theorem Deep.getR {g n c : Nat} (h : Deep w base (.slice (some ⟨g, 0, none⟩) n c) L vs) (hi : i < L.length) (hi' : i < vs.length) :
  w.cell? ⟨g,i * 2+1,none⟩=some vs[i]∧w.frozen? ⟨g,i * 2+1,none⟩=false∧g < w.heap.size:=by
 have hn:n=L.length:=by
  rcases owns_slice h.row with ⟨q,_⟩ | ⟨g',c',q⟩
  · cases q
  · cases q; rfl
 have hr:=h.row
 rw [← hn] at hr
 exact ⟨by rw [hr.cellAt _ (by omega)]; exact segC_get1 h.len hi',hr.frozenAt _,(World.ownsRow.lt hr g rfl).2⟩
theorem Deep.rowStore {r n c : Nat} (h : Deep w base v L vs) (hi : i < L.length) (hi' : i < vs.length) (hu : vs[i] = .slice (some ⟨r, 0, none⟩) n c) (j : Nat) (hj : j < L[i].2.length) (x : Int) :
  n=L[i].2.length∧w.cell? ⟨r,j,none⟩=some (.int .i64 L[i].2[j])∧w.frozen? ⟨r,j,none⟩=false∧Deep (w.setCell ⟨r,j,none⟩ (.int .i64 x)) base v (L.set i (L[i].1,L[i].2.set j x)) vs∧w.grownBy (w.setCell ⟨r,j,none⟩ (.int .i64 x)) (some r):=by
 have ho:=h.ins i hi hi'
 rw [hu] at ho
 have hn:n=L[i].2.length:=by
  rcases ho.shape with ⟨q,_⟩ | ⟨g',c',q⟩
  · cases q
  · cases q; rfl
 subst hn
 obtain ⟨q1,q2,q3,q4⟩:=ho.store j (by omega) (.int .i64 x)
 rw [intC_set] at q3
 have hur:(vs[i]'hi').ownBlock=some r:=by rw [hu]; rfl
 refine ⟨rfl,by rw [q1]; unfold intC; rw [List.getElem?_map,List.getElem?_eq_getElem hj]; rfl,q2,⟨by simp [h.len],?_,fun k hk hk'=>?_,h.apart,h.out⟩,q4⟩
 · rw [segC_fst (M:=L) _ (set_fst hi _),List.length_set]
   exact h.row.kept q4 (.inr (h.out i hi' r hur))
 · have hk2:k < L.length:=by simpa using hk
   by_cases e:i=k
   · subst e
     simp only [List.getElem_set_self,hu,List.length_set]
     exact q3
   · simp only [List.getElem_set_ne e]
     exact (h.ins k hk2 hk').kept q4 (.inr fun q=>h.apart i k hi' hk' e r hur q)
end
theorem nil_set {L : List (Bool × List Int)} {vs : List Value} {k : Nat} {b : Bool} {l : List Int} {u : Value} (hn : ∀ j (hj : j < L.length) (hj' : j < vs.length), L[j].2 = [] → vs[j] = .slice none 0 0) (hu : l = [] → u = .slice none 0 0) :
  ∀ j (hj:j < (L.set k (b,l)).length) (hj':j < (vs.set k u).length),(L.set k (b,l))[j].2=[]→(vs.set k u)[j]=.slice none 0 0:=fun j hj hj' h=>by
 by_cases e:k=j
 · subst e
   simp only [List.getElem_set_self] at h ⊢
   exact hu h
 · simp only [List.getElem_set_ne e] at h ⊢
   exact hn j (by simpa using hj) (by simpa using hj') h
end Go.VM
namespace Go.Proofs.YtajoneenakjifaaDoor
open Go.RowKit Go.Lib Go.VM
/-- A path whose rows may be read. -/
structure Soft (w:World) (base:Nat) (v:Value) (M:List Seg) (vs:List Value):Prop where
 len:vs.length=M.length
 row:ownG w base 2 v M.length (segC M vs)
 ins:∀ i (h:i < M.length) (h':i < vs.length),ownG w base 1 vs[i] M[i].2.length (intC M[i].2)
 nil:∀ i (h:i < M.length) (h':i < vs.length),M[i].2=[]→vs[i]=.slice none 0 0
 out:v≠.slice none 0 0
/-- What near comes to. -/
def NrPost (w:World) (M:List Seg) (r:Ending) (w':World):Prop:=∃ v' vs,r=.returned v'∧Soft w' w.heap.size v' M vs∧Below w.heap.size w w'
/-- The copy that near writes into. -/
structure Cpd (w wr:World) (v:Value) (L:List Seg) (vs:List Value):Prop where
 deep:Deep wr w.heap.size v L vs
 nil:∀ j (hj:j < L.length) (hj':j < vs.length),L[j].2=[]→vs[j]=.slice none 0 0
 bel:Below w.heap.size w wr
theorem cpd {w : World} {L : List Seg} (a : Option Addr) (n cap : Nat) (hv : HV w (fun b => b < w.heap.size) (.sl tyS) L (.slice a n cap)) (hm : Mid L) (h0 : L ≠ []) :
  Calls Tryd.prog 41 #[.slice a n cap] w fun r w'=>∃ g c vs,r=.returned (.slice (some ⟨g,0,none⟩) L.length c)∧Cpd w w' (.slice (some ⟨g,0,none⟩) L.length c) L vs :=
 (copy_walk L a n cap w hv hm).mono fun r w' h=>by
  unfold CpPost at h
  obtain ⟨v',vs,e1,I⟩:=h
  have hd:=I.deep
  have hn:=I.nil
  rw [List.take_length] at hd
  simp only [List.take_length] at hn
  rcases owns_slice hd.row with ⟨q,e⟩ | ⟨g,c,q⟩
  · exact absurd (List.length_eq_zero_iff.1 e) h0
  · subst q
    exact ⟨g,c,vs,e1,hd,hn,I.bel⟩
theorem soft_of {w:World} {base:Nat} {v:Value} {L:List Seg} {vs:List Value} (h:Deep w base v L vs) (hn:∀ j (hj:j < L.length) (hj':j < vs.length),L[j].2=[]→vs[j]=.slice none 0 0) (h0:v≠.slice none 0 0):Soft w base v L vs:=⟨h.len,ownG_of h.row,h.ins,hn,h0⟩
theorem ne41:∀ args w,(callFunc 41 args).run Tryd.prog w=.ok (.enter 41 args) w:=fun args w=>by kernel_rfl
theorem ne27:∀ args w,(callFunc 27 args).run Tryd.prog w=.ok (.enter 27 args) w:=fun args w=>by kernel_rfl
theorem modA {w:World} (hC:CallsOk w):Aside (∀ (x n q:Int) (W:World),x % n=q→0 < n→n≤9223372036854775807→Below w.heap.size w W→Calls Tryd.prog 27 #[.int .i64 x,.int .i64 n] W fun e W'=>e=.returned (.int .i64 q)∧Below W.heap.size W W'):=fun x n q W hq h1 h2 hb=>by subst hq; exact hC.mod x n W hb h1 h2
theorem lenA {L:List Seg} (hm:Mid L) {k:Nat} (hkl:k < L.length):0 < (L.length:Int)∧(L.length:Int)≤9223372036854775807∧¬ ((L.length:Int)=0):=by have:=hm.1; omega
theorem neA {L:List Seg} {k:Nat} (hkl:k < L.length):L≠[]:=by rintro rfl; exact absurd hkl (Nat.not_lt_zero _)
end Go.Proofs.YtajoneenakjifaaDoor

/- Walked by hand: a path nearly valid. -/
namespace Go.Proofs.YtajoneenakjifaaDoor
open Go.RowKit Go.Lib Go.VM
theorem below_drew {n:Nat} {w w2:World} (h:Below n w w2):Below n w w2.drew:=⟨h.os,h.tape,h.output,h.size,h.block⟩
set_option maxHeartbeats 4000000 in
set_option maxRecDepth 100000 in
theorem near_flip (L : List Seg) (which by' : Int) (k : Nat) (a : Option Addr) (m cap : Nat) (w : World) (hC : CallsOk w) (hm : Mid L) (hv : HV w (fun b => b < w.heap.size) (.sl tyS) L (.slice a m cap)) (hk : by' % (L.length : Int) = (k : Int)) (hkl : k < L.length) (hw : which % 6 = 2) :
  Calls Tryd.prog 19 #[.slice a m cap,.int .i64 which,.int .i64 by'] w (NrPost w (L.set k (!L[k].1,L[k].2))):=by
 have e41:=ne41
 have e27:=ne27
 have h41:=cpd a m cap hv hm (neA hkl)
 have H27:=modA hC
 obtain ⟨hlp,hlm,hne⟩:=lenA hm hkl
 obtain ⟨b,eb⟩:∃ b,L[k].1=b:=⟨_,rfl⟩
 have hcell:Aside (∀ w1 g c vs w2,Cpd w w1 (.slice (some ⟨g,0,none⟩) L.length c) L vs→Below w1.heap.size w1 w2→w2.cell? ⟨g,k * 2,none⟩=some (.bool b)∧w2.frozen? ⟨g,k * 2,none⟩=false):=fun w1 g c vs w2 h hb=>by
  obtain ⟨q1,q2,_⟩:=(h.deep.below hb).setB hkl b
  exact ⟨by rw [q1,eb],q2⟩
 have hfin:Aside (∀ w1 g c vs w2,Cpd w w1 (.slice (some ⟨g,0,none⟩) L.length c) L vs→Below w1.heap.size w1 w2→NrPost w (L.set k (!b,L[k].2)) (.returned (.slice (some ⟨g,0,none⟩) L.length c)) (w2.setCell ⟨g,k * 2,none⟩ (.bool !b))):=fun w1 g c vs w2 h hb=>by
  obtain ⟨_,_,q3,q4⟩:=(h.deep.below hb).setB hkl (!b)
  refine ⟨_,vs,rfl,soft_of q3 (fun j hj hj' h0=>?_) (fun q=>by cases q),(h.bel.trans (hb.mono h.bel.size)).grown q4 (h.bel.trans (hb.mono h.bel.size)).size fun j hj=>?_⟩
  · refine h.nil j (by simpa using hj) hj' ?_
    by_cases e:k=j
    · subst e; simpa using h0
    · simpa [List.getElem_set_ne e] using h0
  · cases hj
    exact (World.ownsRow.lt h.deep.row g rfl).1
 rw [eb]
 clear hv hC hm
 go_enter Tryd.func19,Tryd.ntmps19
 go_wp2_with (first
  | (go_at_fn 41; refine h41.mono ?_; rintro r w1 ⟨g,c,vs,rfl,hb⟩; have H1:=Lib.hid hb; have HB1:Below w.heap.size w w1:=hb.bel; have HC1:Below w1.heap.size w1 w1:=Below.refl _ _; clear hb)
  | (go_at_fn 27; refine (H27.out _ _ _ _ (by first | exact hk | exact hw) (by first | exact hlp | decide) (by first | exact hlm | decide) HB1).mono ?_; rintro r w2 ⟨rfl,hb⟩; replace HB1:=HB1.trans (hb.mono HB1.size); replace HC1:=HC1.trans (hb.mono HC1.size); obtain ⟨L0,F0⟩:=hcell.out _ _ _ _ _ H1.out HC1; clear hb))
 go_ret
 exact hfin.out _ _ _ _ _ H1.out HC1
set_option maxHeartbeats 4000000 in
set_option maxRecDepth 100000 in
theorem near_nil (L : List Seg) (which by' : Int) (k : Nat) (a : Option Addr) (m cap : Nat) (w : World) (hC : CallsOk w) (hm : Mid L) (hv : HV w (fun b => b < w.heap.size) (.sl tyS) L (.slice a m cap)) (hk : by' % (L.length : Int) = (k : Int)) (hkl : k < L.length) (hw : which % 6 = 3) :
  Calls Tryd.prog 19 #[.slice a m cap,.int .i64 which,.int .i64 by'] w (NrPost w (L.set k (L[k].1,[]))):=by
 have e41:=ne41
 have e27:=ne27
 have h41:=cpd a m cap hv hm (neA hkl)
 have H27:=modA hC
 obtain ⟨hlp,hlm,hne⟩:=lenA hm hkl
 have hcell:Aside (∀ w1 g c vs w2,Cpd w w1 (.slice (some ⟨g,0,none⟩) L.length c) L vs→Below w1.heap.size w1 w2→∃ u,w2.cell? ⟨g,k * 2+1,none⟩=some u∧w2.frozen? ⟨g,k * 2+1,none⟩=false):=fun w1 g c vs w2 h hb=>by
  have hd:=h.deep.below hb
  obtain ⟨q1,q2,_⟩:=hd.getR hkl (by rw [hd.len]; exact hkl)
  exact ⟨_,q1,q2⟩
 have hfin:Aside (∀ w1 g c vs w2,Cpd w w1 (.slice (some ⟨g,0,none⟩) L.length c) L vs→Below w1.heap.size w1 w2→NrPost w (L.set k (L[k].1,[])) (.returned (.slice (some ⟨g,0,none⟩) L.length c)) (w2.setCell ⟨g,k * 2+1,none⟩ (.slice none 0 0))):=fun w1 g c vs w2 h hb=>by
  have hd:=h.deep.below hb
  obtain ⟨q3,q4⟩:=hd.setIn (i:=k) (u:=.slice none 0 0) (l:=[]) hkl (grown_none (Below.refl _ _) _) (ownG_of (e:=3) (World.ownsRow_nil _ _ _ _)) (fun j hj=>by cases hj)
  refine ⟨_,_,rfl,soft_of q3 (nil_set h.nil fun _=>rfl) (fun q=>by cases q),(h.bel.trans (hb.mono h.bel.size)).grown q4 (h.bel.trans (hb.mono h.bel.size)).size fun j hj=>?_⟩
  cases hj
  exact (World.ownsRow.lt h.deep.row g rfl).1
 clear hv hC hm
 go_enter Tryd.func19,Tryd.ntmps19
 go_wp2_with (first
  | (go_at_fn 41; refine h41.mono ?_; rintro r w1 ⟨g,c,vs,rfl,hb⟩; have H1:=Lib.hid hb; have HB1:Below w.heap.size w w1:=hb.bel; have HC1:Below w1.heap.size w1 w1:=Below.refl _ _; clear hb)
  | (go_at_fn 27; refine (H27.out _ _ _ _ (by first | exact hk | exact hw) (by first | exact hlp | decide) (by first | exact hlm | decide) HB1).mono ?_; rintro r w2 ⟨rfl,hb⟩; replace HB1:=HB1.trans (hb.mono HB1.size); replace HC1:=HC1.trans (hb.mono HC1.size); obtain ⟨u0,L0,F0⟩:=hcell.out _ _ _ _ _ H1.out HC1; clear hb))
 go_ret
 exact hfin.out _ _ _ _ _ H1.out HC1
set_option maxHeartbeats 4000000 in
set_option maxRecDepth 100000 in
theorem near_dbl (L : List Seg) (which by' : Int) (k : Nat) (a : Option Addr) (m cap : Nat) (w : World) (hC : CallsOk w) (hm : Mid L) (hv : HV w (fun b => b < w.heap.size) (.sl tyS) L (.slice a m cap)) (hk : by' % (L.length : Int) = (k : Int)) (hkl : k < L.length) (hw : which % 6 = 4) :
  Calls Tryd.prog 19 #[.slice a m cap,.int .i64 which,.int .i64 by'] w (NrPost w (L++L)):=by
 have e41:=ne41
 have e27:=ne27
 have h41:=cpd a m cap hv hm (neA hkl)
 have H27:=modA hC
 obtain ⟨hlp,hlm,hne⟩:=lenA hm hkl
 have hap:Aside (∀ w1 g c vs w2,Cpd w w1 (.slice (some ⟨g,0,none⟩) L.length c) L vs→Below w1.heap.size w1 w2→∀ ty,∃ v8 w8,(Builtin.append_ #[23,23] ty #[.slice (some ⟨g,0,none⟩) L.length c,.slice (some ⟨g,0,none⟩) L.length c]).run Tryd.prog w2=.ok v8 w8∧NrPost w (L++L) (.returned v8) w8):=fun w1 g c vs w2 h hb ty=>by
  have hD:=h.deep.below hb
  have hbl:=h.bel.trans (hb.mono h.bel.size)
  obtain ⟨i0,hi0,hz0,hzs,hzb⟩:=info_parts info_e
  have hlL:L.length≤1000:=hm.1
  obtain ⟨v8,w8,q1,q2,q3,q4,q5⟩:=run_append_own_at (P:=Tryd.prog) w2 w.heap.size 23 ty 36 i0 (.agg #[.bool false,.slice none 0 0]) 2 32 Tryd.underlying23 hi0 hz0 hzs hzb rfl (by decide) _ L.length (segC L vs) hD.row ⟨g,0,none⟩ L.length c (segC L vs) (segC_len hD.len)
   (fun j x hj=>(owns_row hD.row).1 j x hj) (segC_one hD.one) (by unfold maxLen; omega) (by omega) hbl.size
  have hins:∀ i (hi:i < L.length) (hi':i < vs.length),ownG w8 w.heap.size 1 vs[i] L[i].2.length (intC L[i].2):=fun i hi hi'=>(hD.ins i hi hi').kept q3 (by
   by_cases h0:vs[i].ownBlock=none
   · exact .inl h0
   · obtain ⟨b,hb⟩:=Option.ne_none_iff_exists'.1 h0
     exact .inr fun e=>hD.out i hi' b hb (by rw [← e]; exact hb))
  have hl:=hD.len
  refine ⟨v8,w8,q1,v8,vs++vs,rfl,⟨by simp [hl],?_,fun i hi hi'=>?_,fun i hi hi' h0=>?_,fun e=>by have:=(q4.1 e).2; omega⟩,hbl.grown q3 hbl.size fun j hj=>(World.ownsRow.lt hD.row j hj).1⟩
  · have:=ownG_of q2
    rw [segC_app hl,List.length_append]
    exact this
  · by_cases hlt:i < L.length
    · have hlt':i < vs.length:=by omega
      simp only [List.getElem_append_left hlt,List.getElem_append_left hlt']
      exact hins i hlt hlt'
    · have hge:L.length≤i:=by omega
      have hge':vs.length≤i:=by omega
      simp only [List.getElem_append_right hge,List.getElem_append_right hge',hl]
      exact hins _ _ _
  · by_cases hlt:i < L.length
    · have hlt':i < vs.length:=by omega
      simp only [List.getElem_append_left hlt,List.getElem_append_left hlt'] at h0 ⊢
      exact h.nil i hlt hlt' h0
    · have hge:L.length≤i:=by omega
      have hge':vs.length≤i:=by omega
      simp only [List.getElem_append_right hge,List.getElem_append_right hge',hl] at h0 ⊢
      exact h.nil _ _ _ h0
 clear hv hC hm
 go_enter Tryd.func19,Tryd.ntmps19
 go_wp2_with (first
  | (go_at_fn 41; refine h41.mono ?_; rintro r w1 ⟨g,c,vs,rfl,hb⟩; have H1:=Lib.hid hb; have HB1:Below w.heap.size w w1:=hb.bel; have HC1:Below w1.heap.size w1 w1:=Below.refl _ _; clear hb)
  | (go_at_fn 27; refine (H27.out _ _ _ _ (by first | exact hk | exact hw) (by first | exact hlp | decide) (by first | exact hlm | decide) HB1).mono ?_; rintro r w2 ⟨rfl,hb⟩; replace HB1:=HB1.trans (hb.mono HB1.size); replace HC1:=HC1.trans (hb.mono HC1.size); clear hb)
  | (at_builtin; refine wpList_append_ex (by rfl) _ _ 23 23 (by rfl) _ _ (by rfl) (by rfl) (hap.out _ _ _ _ _ H1.out HC1 _) ?_; rintro v8 w8 hp8; have K8:=Lib.hid hp8; clear hp8))
 go_ret
 exact K8.out
set_option maxHeartbeats 4000000 in
set_option maxRecDepth 100000 in
theorem near_app (L : List Seg) (which by' : Int) (k : Nat) (a : Option Addr) (m cap : Nat) (w : World) (hC : CallsOk w) (hm : Mid L) (hv : HV w (fun b => b < w.heap.size) (.sl tyS) L (.slice a m cap)) (hk : by' % (L.length : Int) = (k : Int)) (hkl : k < L.length) (hw : which % 6 = 1) (hn0 : L[k].2 ≠ []) :
  Calls Tryd.prog 19 #[.slice a m cap,.int .i64 which,.int .i64 by'] w (NrPost w (L.set k (L[k].1,L[k].2++L[k].2))):=by
 have e41:=ne41
 have e27:=ne27
 have h41:=cpd a m cap hv hm (neA hkl)
 have H27:=modA hC
 obtain ⟨hlp,hlm,hne⟩:=lenA hm hkl
 have hap:Aside (∀ w1 g c vs w2,Cpd w w1 (.slice (some ⟨g,0,none⟩) L.length c) L vs→Below w1.heap.size w1 w2→∃ o n c1,w2.cell? ⟨g,k * 2+1,none⟩=some (.slice o n c1)∧w2.frozen? ⟨g,k * 2+1,none⟩=false∧∀ ty,∃ v8 w8,(Builtin.append_ #[22,22] ty #[.slice o n c1,.slice o n c1]).run Tryd.prog w2=.ok v8 w8∧(∃ o8 n8 c8,v8=.slice o8 n8 c8)∧w8.cell? ⟨g,k * 2+1,none⟩=some (.slice o n c1)∧w8.frozen? ⟨g,k * 2+1,none⟩=false∧NrPost w (L.set k (L[k].1,L[k].2++L[k].2)) (.returned (.slice (some ⟨g,0,none⟩) L.length c)) (w8.setCell ⟨g,k * 2+1,none⟩ v8)):=fun w1 g c vs w2 h hb=>by
  have hD:=h.deep.below hb
  have hbl:=h.bel.trans (hb.mono h.bel.size)
  have hkv:k < vs.length:=by rw [hD.len]; exact hkl
  have hu:=hD.ins k hkl hkv
  obtain ⟨o,n,c1,e⟩:=hu.shape3
  obtain ⟨p1,p2,p3⟩:=hD.getR hkl hkv
  have hlk:L[k].2.length≤100000:=hm.2 _ (List.getElem_mem hkl)
  refine ⟨o,n,c1,by rw [p1,e],p2,fun ty=>?_⟩
  have hc:=owns_hc hu
  obtain ⟨v8,w8,q1,q2,q3,q4⟩:=app_G w2 w.heap.size vs[k] L[k].2 hu vs[k] L[k].2 hc hbl.size (by omega) ty
  rw [e] at q1
  have hgk:vs[k].ownBlock≠some g:=fun q=>hD.out k hkv g q rfl
  obtain ⟨r1,r2⟩:=hD.setIn (u:=v8) (l:=L[k].2++L[k].2) hkl q3 q2 (fun j hj=>by
   rcases q4 with q | q
   · exact .inl (by rw [← q]; exact hj)
   · rw [q] at hj; cases hj; exact .inr (Nat.le_refl _))
  have hb8:=hbl.grown q3 hbl.size fun j hj=>(hu.lt j hj).1
  have hgw:=q3.block g p3 (fun q=>hgk q.symm)
  refine ⟨v8,w8,q1,q2.shape3,by rw [World.cell?_of_block (w:=w2) (a:=⟨g,k * 2+1,none⟩) hgw,p1,e],by rw [World.frozen?_of_block (w:=w2) (a:=⟨g,k * 2+1,none⟩) hgw]; exact p2,_,_,rfl,soft_of r1 (nil_set h.nil fun h0=>?_) (fun q=>by cases q),hb8.grown r2 hb8.size fun j hj=>?_⟩
  · exact absurd (List.append_eq_nil_iff.1 h0).1 hn0
  · cases hj
    exact (World.ownsRow.lt hD.row g rfl).1
 have mixed:Tryd.prog.follows Departure.mixedOrders=true:=by kernel_rfl
 clear hv hC hm
 go_enter Tryd.func19,Tryd.ntmps19
 go_wp2_with (first
  | (go_at_fn 41; refine h41.mono ?_; rintro r w1 ⟨g,c,vs,rfl,hb⟩; have H1:=Lib.hid hb; have HB1:Below w.heap.size w w1:=hb.bel; have HC1:Below w1.heap.size w1 w1:=Below.refl _ _; clear hb)
  | (go_at_fn 27; refine (H27.out _ _ _ _ (by first | exact hk | exact hw) (by first | exact hlp | decide) (by first | exact hlm | decide) HB1).mono ?_; rintro r w2 ⟨rfl,hb⟩; replace HB1:=HB1.trans (hb.mono HB1.size); replace HC1:=HC1.trans (hb.mono HC1.size); obtain ⟨o,n1,c1,L1,F1,hA⟩:=hap.out _ _ _ _ w2.drew H1.out (below_drew HC1); have L0:w2.cell? ⟨g,k * 2+1,none⟩=some (.slice o n1 c1):=L1; have F0:w2.frozen? ⟨g,k * 2+1,none⟩=false:=F1; have HA:Aside _:=hA; clear hA; clear hb))
 go_region_law_o (first
  | (refine step_append_ex (by rfl) _ _ 22 22 (by rfl) _ _ (by rfl) (by rfl) (HA.out _) ?_; rintro v8 w8 ⟨⟨o8,n8,c8,rfl⟩,M0,G0,hp8⟩; have K8:=Lib.hid hp8; clear hp8))
 all_goals
  go_wp2
  go_ret
  exact K8.out
end Go.Proofs.YtajoneenakjifaaDoor

/- Walked by hand: a path nearly valid (more of it). -/
namespace Go.Proofs.YtajoneenakjifaaDoor
open Go.RowKit Go.Lib Go.VM
theorem below_of_drew {w w2:World} (h:Below w.drew.heap.size w.drew w2):Below w.heap.size w w2:=⟨h.os,h.tape,h.output,h.size,h.block⟩
set_option maxHeartbeats 4000000 in
set_option maxRecDepth 100000 in
theorem near_store (L : List Seg) (which by' : Int) (k : Nat) (a : Option Addr) (m cap : Nat) (w : World) (hC : CallsOk w) (hm : Mid L) (hv : HV w (fun b => b < w.heap.size) (.sl tyS) L (.slice a m cap)) (hk : by' % (L.length : Int) = (k : Int)) (hkl : k < L.length) (hw : which % 6 = 0) (d : Nat) (hd : by' % 4 = (d : Int)) (hn0 : L[k].2 ≠ []) :
  Calls Tryd.prog 19 #[.slice a m cap,.int .i64 which,.int .i64 by'] w (NrPost w (L.set k (L[k].1,L[k].2.set 0 (([0,-1,4294967295,4294967296]:List Int).getD d 0)))):=by
 have e41:=ne41
 have e27:=ne27
 have h41:=cpd a m cap hv hm (neA hkl)
 have H27:=modA hC
 obtain ⟨hlp,hlm,hne⟩:=lenA hm hkl
 have hd4:(d:Int) < 4:=by omega
 have hX:Aside (∀ W:World,(W.alloc (.cells #[.int .i64 0,.int .i64 (-1),.int .i64 4294967295,.int .i64 4294967296] 3)).cell? ⟨W.heap.size,d,none⟩=some (.int .i64 (([0,-1,4294967295,4294967296]:List Int).getD d 0))):=fun W=>by
  simp only [World.cell?]
  rw [heap_alloc_new W _]
  have:d < 4:=by omega
  match d,this with
  | 0,_=>rfl
  | 1,_=>rfl
  | 2,_=>rfl
  | 3,_=>rfl
 obtain ⟨X,eX⟩:∃ X,([0,-1,4294967295,4294967296]:List Int).getD d 0=X:=⟨_,rfl⟩
 rw [eX] at hX ⊢
 clear eX
 have hst : Aside (∀ w1 g c vs w2, Cpd w w1 (.slice (some ⟨g, 0, none⟩) L.length c) L vs → Below w1.heap.size w1 w2 → ∃ r n c1, w2.cell? ⟨g, k * 2 + 1, none⟩ = some (.slice (some ⟨r, 0, none⟩) n c1) ∧ 0 < n ∧
     ∀ w3,Below w2.heap.size w2 w3→∃ y,w3.cell? ⟨g,k * 2+1,none⟩=some (.slice (some ⟨r,0,none⟩) n c1)∧w3.cell? ⟨r,0,none⟩=some (.int .i64 y)∧w3.frozen? ⟨r,0,none⟩=false∧NrPost w (L.set k (L[k].1,L[k].2.set 0 X)) (.returned (.slice (some ⟨g,0,none⟩) L.length c)) (w3.setCell ⟨r,0,none⟩ (.int .i64 X))):=fun w1 g c vs w2 h hb=>by
  have hD:=h.deep.below hb
  have hbl:=h.bel.trans (hb.mono h.bel.size)
  have hkv:k < vs.length:=by rw [hD.len]; exact hkl
  have hu:=hD.ins k hkl hkv
  have hpos:0 < L[k].2.length:=List.length_pos_iff.2 hn0
  obtain ⟨r,n,c1,e⟩:∃ r n c1,vs[k]=.slice (some ⟨r,0,none⟩) n c1:=by
   rcases hu.shape with ⟨_,q⟩ | ⟨r,c1,q⟩
   · omega
   · exact ⟨r,_,c1,q⟩
  obtain ⟨p1,_,p3⟩:=hD.getR hkl hkv
  refine ⟨r,n,c1,by rw [p1,e],?_,fun w3 h23=>?_⟩
  · have:=(hD.rowStore hkl hkv e 0 hpos 0).1; omega
  · have hD3:=hD.below h23
    have hb3:=hbl.trans (h23.mono hbl.size)
    obtain ⟨_,q1,q2,q3,q4⟩:=hD3.rowStore hkl hkv e 0 hpos X
    refine ⟨_,by rw [(hD3.getR hkl hkv).1,e],q1,q2,_,_,rfl,soft_of q3 (fun j hj hj' h0=>?_) (fun q=>by cases q),hb3.grown q4 hb3.size fun j hj=>?_⟩
    · by_cases e2:k=j
      · subst e2
        simp only [List.getElem_set_self] at h0
        have:=congrArg List.length h0
        simp at this
        exact absurd this hn0
      · simp only [List.getElem_set_ne e2] at h0
        exact h.nil j (by simpa using hj) hj' h0
    · cases hj
      exact (hu.lt r (by rw [e]; rfl)).1
 have mixed:Tryd.prog.follows Departure.mixedOrders=true:=by kernel_rfl
 clear hv hC hm
 go_enter Tryd.func19,Tryd.ntmps19
 go_wp2_with (first
  | (go_at_fn 41; refine h41.mono ?_; rintro r w1 ⟨g,c,vs,rfl,hb⟩; have H1:=Lib.hid hb; have HB1:Below w.heap.size w w1:=hb.bel; have HC1:Below w1.heap.size w1 w1:=Below.refl _ _; clear hb)
  | (go_at_fn 27; refine (H27.out _ _ _ _ (by first | exact hk | exact hw) (by first | exact hlp | decide) (by first | exact hlm | decide) HB1).mono ?_; rintro r w2 ⟨rfl,hb⟩; replace HB1:=HB1.trans (hb.mono HB1.size); replace HC1:=HC1.trans (hb.mono HC1.size); obtain ⟨r0,n0,c0,L0,N0,hR⟩:=hst.out _ _ _ _ _ H1.out HC1; have HR:Aside _:=hR; clear hR; obtain ⟨_,LA,_,_,_⟩:=HR.out (w2.alloc (.cells #[.int .i64 0,.int .i64 (-1),.int .i64 4294967295,.int .i64 4294967296] 3)) ((Below.refl _ w2).alloc (Nat.le_refl _) _); clear hb))
 go_region_law_o (first
  | (go_simp; go_at_fn 27; refine (H27.out _ _ _ (w2.alloc (.cells #[.int .i64 0,.int .i64 (-1),.int .i64 4294967295,.int .i64 4294967296] 3)).drew hd (by decide) (by decide) (below_drew (HB1.alloc HB1.size _))).mono ?_; rintro r w3 ⟨rfl,hb⟩; replace hb:=below_of_drew hb; have M0:w3.cell? ⟨w2.heap.size,d,none⟩=some (.int .i64 X):=(by rw [hb.cell (p:=⟨w2.heap.size,d,none⟩) (by rw [show (w2.alloc (.cells #[.int .i64 0,.int .i64 (-1),.int .i64 4294967295,.int .i64 4294967296] 3)).heap.size=w2.heap.size+1 from Array.size_push _]; exact Nat.lt_succ_self _)]; exact hX.out w2); have hal:Below w2.heap.size w2 (w2.alloc (.cells #[.int .i64 0,.int .i64 (-1),.int .i64 4294967295,.int .i64 4294967296] 3)):=(Below.refl _ w2).alloc (Nat.le_refl _) _; obtain ⟨y3,L3,M1,G0,hp⟩:=HR.out w3 (hal.trans (hb.mono hal.size)); have K3:=Lib.hid hp; clear hp hb hal)
  | (go_simp; go_at_fn 27; refine (H27.out _ _ _ w2.drew hd (by decide) (by decide) (below_drew HB1)).mono ?_; rintro r w3 ⟨rfl,hb⟩; replace hb:=below_of_drew hb; have M0:=hX.out w3; obtain ⟨_,L3,_⟩:=HR.out w3 hb; obtain ⟨y3,L4,M1,G0,hp⟩:=HR.out (w3.alloc (.cells #[.int .i64 0,.int .i64 (-1),.int .i64 4294967295,.int .i64 4294967296] 3)) (hb.alloc hb.size _); have K3:=Lib.hid hp; clear hp hb))
 all_goals
  go_wp2
  go_ret
  exact K3.out
set_option maxHeartbeats 4000000 in
set_option maxRecDepth 100000 in
theorem near_empty (which by' : Int) (a : Option Addr) (m cap : Nat) (w : World) (hv : HV w (fun b => b < w.heap.size) (.sl tyS) [] (.slice a m cap)) :
  Calls Tryd.prog 19 #[.slice a m cap,.int .i64 which,.int .i64 by'] w (NrPost w [(decide (bits .and .i64 by' 1=0),[])]):=by
 have e41:=ne41
 have h41:=copy_walk [] a m cap w hv ⟨by simp,by simp⟩
 have hfin:Aside (∀ w1 b,Below w.heap.size w w1→NrPost w [(b,[])] (.returned (.slice (some ⟨w1.heap.size,0,none⟩) 1 1)) (w1.alloc (.cells #[.bool b,.slice none 0 0] 36))):=fun w1 b hb=>by
  have hr:=World.ownsRow_lit (base:=w.heap.size) (e:=36) (size:=2) w1 #[.bool b,.slice none 0 0] 1 hb.size (by decide) rfl
  have hs:Soft (w1.alloc (.cells #[.bool b,.slice none 0 0] 36)) w.heap.size (.slice (some ⟨w1.heap.size,0,none⟩) 1 1) [(b,[])] [.slice none 0 0]:=by
   refine ⟨rfl,ownG_of hr,fun i hi hi'=>?_,fun i hi hi' _=>?_,fun q=>by cases q⟩
   · cases i with
     | zero=>exact ownG_of (e:=3) (World.ownsRow_nil _ _ _ _)
     | succ i=>simp at hi
   · cases i with
     | zero=>rfl
     | succ i=>simp at hi
  exact ⟨_,_,rfl,hs,hb.alloc hb.size _⟩
 clear hv
 go_enter Tryd.func19,Tryd.ntmps19
 go_wp2_with (first
  | (go_at_fn 41; refine h41.mono ?_; rintro r w1 hp; unfold CpPost at hp; obtain ⟨v',vs,rfl,I⟩:=hp; obtain rfl:v'=.slice none 0 0:=I.out.2 rfl; have HB1:=Lib.hid I.bel; clear I))
 go_ret
 exact hfin.out _ _ HB1.out
end Go.Proofs.YtajoneenakjifaaDoor

/- Walked by hand: a path nearly valid (a row of nines). -/
namespace Go.Proofs.YtajoneenakjifaaDoor
open Go.RowKit Go.Lib Go.VM
/-- The row of nines as it is filled. -/
structure FInv (w wr:World) (L:List Seg) (k n g c r:Nat) (vs:List Value) (i:Nat):Prop where
 deep:Deep wr w.heap.size (.slice (some ⟨g,0,none⟩) L.length c) (L.set k (false,List.replicate i 9++List.replicate (n - i) 0)) (vs.set k (.slice (some ⟨r,0,none⟩) n n))
 nil:∀ j (hj:j < L.length) (hj':j < vs.length),L[j].2=[]→vs[j]=.slice none 0 0
 bel:Below w.heap.size w wr
 rge:w.heap.size≤r
theorem set_fill {i n:Nat} (h:i < n):(List.replicate i (9:Int)++List.replicate (n - i) 0).set i 9=List.replicate (i+1) 9++List.replicate (n - (i+1)) 0:=by
 obtain ⟨m,rfl⟩:∃ m,n=i+1+m:=⟨n - (i+1),by omega⟩
 rw [show i+1+m - i=m+1 by omega,show i+1+m - (i+1)=m by omega,List.set_append,if_neg (by simp)]
 simp only [List.length_replicate,Nat.sub_self,List.replicate_succ,List.set_cons_zero]
 rw [← List.replicate_succ,List.replicate_succ',List.append_assoc]
 rfl
theorem FInv.step {w wr : World} {L : List Seg} {k n g c r : Nat} {vs : List Value} {i : Nat} (h : FInv w wr L k n g c r vs i) (hk : k < L.length) (hi : i < n) :
  wr.cell? ⟨g,k * 2+1,none⟩=some (.slice (some ⟨r,0,none⟩) n n)∧(∃ y,wr.cell? ⟨r,i,none⟩=some y)∧wr.frozen? ⟨r,i,none⟩=false∧FInv w (wr.setCell ⟨r,i,none⟩ (.int .i64 9)) L k n g c r vs (i+1):=by
 have hl:vs.length=L.length:=by simpa using h.deep.len
 have hkM:k < (L.set k (false,List.replicate i (9:Int)++List.replicate (n - i) 0)).length:=by simpa using hk
 have hkv:k < (vs.set k (.slice (some ⟨r,0,none⟩) n n)).length:=by simp; omega
 have e:(vs.set k (.slice (some ⟨r,0,none⟩) n n))[k]=.slice (some ⟨r,0,none⟩) n n:=by simp
 have p1:=(h.deep.getR hkM hkv).1
 rw [e] at p1
 obtain ⟨_,q1,q2,q3,q4⟩:=h.deep.rowStore hkM hkv e i (by simp; omega) 9
 simp only [List.getElem_set_self,List.set_set,set_fill hi] at q3
 exact ⟨p1,⟨_,q1⟩,q2,q3,h.nil,h.bel.grown q4 h.bel.size fun j hj=>by cases hj; exact h.rge,h.rge⟩
theorem FInv.len {w wr : World} {L : List Seg} {k n g c r : Nat} {vs : List Value} {i : Nat} (h : FInv w wr L k n g c r vs i) (hk : k < L.length) :
  wr.cell? ⟨g,k * 2+1,none⟩=some (.slice (some ⟨r,0,none⟩) n n):=by
 have hl:vs.length=L.length:=by simpa using h.deep.len
 have hkM:k < (L.set k (false,List.replicate i (9:Int)++List.replicate (n - i) 0)).length:=by simpa using hk
 have hkv:k < (vs.set k (.slice (some ⟨r,0,none⟩) n n)).length:=by simp; omega
 have e:(vs.set k (.slice (some ⟨r,0,none⟩) n n))[k]=.slice (some ⟨r,0,none⟩) n n:=by simp
 have p1:=(h.deep.getR hkM hkv).1
 rw [e] at p1
 exact p1
theorem FInv.fin {w wr : World} {L : List Seg} {k n g c r : Nat} {vs : List Value} (h : FInv w wr L k n g c r vs n) (hn : 0 < n) :
  NrPost w (L.set k (false,List.replicate n 9)) (.returned (.slice (some ⟨g,0,none⟩) L.length c)) wr:=by
 have hd:=h.deep
 rw [Nat.sub_self,List.replicate_zero,List.append_nil] at hd
 exact ⟨_,_,rfl,soft_of hd (nil_set h.nil fun h0=>by have:=congrArg List.length h0; simp at this; omega) (fun q=>by cases q),h.bel⟩
theorem alloc_set (w:World) (o:Obj) (a:Addr) (v:Value) (h:a.block < w.heap.size):(w.alloc o).setCell a v=(w.setCell a v).alloc o:=by
 unfold World.setCell World.alloc
 simp only [World.mk.injEq,and_true,true_and]
 apply Array.ext_getElem?
 intro j
 simp only [Array.getElem?_modify,Array.getElem?_push,Array.size_modify]
 by_cases e:a.block=j
 · subst e
   have:¬ a.block=w.heap.size:=by omega
   simp [this]
 · simp [e]
theorem fill_start {w w3 : World} {L : List Seg} {k n g c : Nat} {vs : List Value} (h : Deep w3 w.heap.size (.slice (some ⟨g, 0, none⟩) L.length c) L vs) (hnil : ∀ j (hj : j < L.length) (hj' : j < vs.length), L[j].2 = [] → vs[j] = .slice none 0 0) (hb : Below w.heap.size w w3) (hk : k < L.length) (hn : n ≤ 100000) :
  FInv w (((w3.setCell ⟨g,k * 2,none⟩ (.bool false)).setCell ⟨g,k * 2+1,none⟩ (.slice (some ⟨w3.heap.size,0,none⟩) n n)).alloc (.cells (repRow 9 n 0) 3)) L k n g c w3.heap.size vs 0 ∧
   (∃ b,w3.cell? ⟨g,k * 2,none⟩=some (.bool b))∧w3.frozen? ⟨g,k * 2,none⟩=false∧(∃ u,w3.cell? ⟨g,k * 2+1,none⟩=some u)∧w3.frozen? ⟨g,k * 2+1,none⟩=false∧(∃ b,(w3.alloc (.cells (repRow 9 n 0) 3)).cell? ⟨g,k * 2,none⟩=some (.bool b))∧(w3.alloc (.cells (repRow 9 n 0) 3)).frozen? ⟨g,k * 2,none⟩=false∧(∃ u,(w3.alloc (.cells (repRow 9 n 0) 3)).cell? ⟨g,k * 2+1,none⟩=some u)∧(w3.alloc (.cells (repRow 9 n 0) 3)).frozen? ⟨g,k * 2+1,none⟩=false ∧ 
   FInv w (((w3.alloc (.cells (repRow 9 n 0) 3)).setCell ⟨g,k * 2,none⟩ (.bool false)).setCell ⟨g,k * 2+1,none⟩ (.slice (some ⟨w3.heap.size,0,none⟩) n n)) L k n g c w3.heap.size vs 0∧(∃ u,((w3.setCell ⟨g,k * 2,none⟩ (.bool false)).alloc (.cells (repRow 9 n 0) 3)).cell? ⟨g,k * 2+1,none⟩=some u)∧((w3.setCell ⟨g,k * 2,none⟩ (.bool false)).alloc (.cells (repRow 9 n 0) 3)).frozen? ⟨g,k * 2+1,none⟩=false ∧
   FInv w (((w3.setCell ⟨g,k * 2,none⟩ (.bool false)).alloc (.cells (repRow 9 n 0) 3)).setCell ⟨g,k * 2+1,none⟩ (.slice (some ⟨w3.heap.size,0,none⟩) n n)) L k n g c w3.heap.size vs 0:=by
 obtain ⟨p1,p2,hD,hg1⟩:=h.setB hk false
 have hgw:=(World.ownsRow.lt h.row g rfl).2
 have hsz:(w3.setCell ⟨g,k * 2,none⟩ (.bool false)).heap.size=w3.heap.size:=by simp [World.setCell]
 have p4:=h.getR hk (by rw [h.len]; exact hk)
 have ha:=Go.heap_alloc_old w3 (.cells (repRow 9 n 0) 3) hgw
 rw [alloc_set w3 _ _ _ hgw,World.cell?_of_block (a:=⟨g,k * 2,none⟩) ha,World.cell?_of_block (a:=⟨g,k * 2+1,none⟩) ha,World.frozen?_of_block (a:=⟨g,k * 2,none⟩) ha,World.frozen?_of_block (a:=⟨g,k * 2+1,none⟩) ha,alloc_set _ _ _ _ (show g < (w3.setCell ⟨g,k * 2,none⟩ (.bool false)).heap.size by rw [hsz]; exact hgw)]
 rw [← alloc_set _ _ _ _ (by rw [hsz]; exact hgw)]
 have hc:=Go.heap_alloc_old (w3.setCell ⟨g,k * 2,none⟩ (.bool false)) (.cells (repRow 9 n 0) 3) (show g < _ by rw [hsz]; exact hgw)
 rw [World.cell?_of_block (a:=⟨g,k * 2+1,none⟩) hc,World.frozen?_of_block (a:=⟨g,k * 2+1,none⟩) hc]
 have p5:=hD.getR (i:=k) (by simpa using hk) (by rw [h.len]; exact hk)
 suffices hF:FInv w (((w3.setCell ⟨g,k * 2,none⟩ (.bool false)).alloc (.cells (repRow 9 n 0) 3)).setCell ⟨g,k * 2+1,none⟩ (.slice (some ⟨w3.heap.size,0,none⟩) n n)) L k n g c w3.heap.size vs 0 from
  ⟨hF,⟨_,p1⟩,p2,⟨_,p4.1⟩,p4.2.1,⟨_,p1⟩,p2,⟨_,p4.1⟩,p4.2.1,hF,⟨_,p5.1⟩,p5.2.1,hF⟩
 generalize hW:w3.setCell ⟨g,k * 2,none⟩ (.bool false)=W at hD hg1 hsz ⊢
 have hga:W.grownBy (W.alloc (.cells (repRow 9 n 0) 3)) none:=World.grownBy_alloc W _ none
 have hkM:k < (L.set k (false,L[k].2)).length:=by simpa using hk
 have hbW:Below w.heap.size w W:=hb.grown hg1 hb.size fun j hj=>by cases hj; exact (World.ownsRow.lt h.row g rfl).1
 have hkv:k < vs.length:=by rw [h.len]; exact hk
 have hu:ownG (W.alloc (.cells (repRow 9 n 0) 3)) w.heap.size 1 (.slice (some ⟨w3.heap.size,0,none⟩) n n) (List.replicate n (0:Int)).length (intC (List.replicate n 0)):=by
  have:=World.ownsRow_lit (base:=w.heap.size) (e:=3) (size:=1) W (repRow 9 n 0) n hbW.size (by unfold maxLen; omega) (by rw [repRow_size (Nat.zero_le _)]; omega)
  rw [hsz] at this
  rw [List.length_replicate]
  have e:intC (List.replicate n 0)=(repRow 9 n 0).toList:=by simp [intC,repRow]
  rw [e]
  exact ownG_of this
 obtain ⟨r1,r2⟩:=hD.setIn (i:=k) (w':=W.alloc (.cells (repRow 9 n 0) 3)) (l:=List.replicate n 0) hkM (grown_none ((Below.refl _ W).alloc (Nat.le_refl _) _) _) hu (fun j hj=>by cases hj; exact .inr (by rw [hsz]; exact Nat.le_refl _))
 have hba:Below w.heap.size w (W.alloc (.cells (repRow 9 n 0) 3)):=hbW.alloc hbW.size _
 refine ⟨?_,hnil,hba.grown r2 hba.size fun j hj=>by cases hj; exact (World.ownsRow.lt h.row g rfl).1,hb.size⟩
 simp only [List.getElem_set_self,List.set_set] at r1
 simpa using r1
set_option maxHeartbeats 4000000 in
set_option maxRecDepth 100000 in
theorem near_fill (L : List Seg) (which by' : Int) (k : Nat) (a : Option Addr) (m cap : Nat) (w : World) (hC : CallsOk w) (hm : Mid L) (hv : HV w (fun b => b < w.heap.size) (.sl tyS) L (.slice a m cap)) (hk : by' % (L.length : Int) = (k : Int)) (hkl : k < L.length) (hw : which % 6 = 5) (d : Nat) (hd : by' % 3 = (d : Int)) :
  Calls Tryd.prog 19 #[.slice a m cap,.int .i64 which,.int .i64 by'] w (NrPost w (L.set k (false,List.replicate (63+d) 9))):=by
 have e41:=ne41
 have e27:=ne27
 have h41:=cpd a m cap hv hm (neA hkl)
 have H27:=modA hC
 obtain ⟨hlp,hlm,hne⟩:=lenA hm hkl
 obtain ⟨n,en⟩:∃ n,63+d=n:=⟨_,rfl⟩
 have hwn:IntKind.i64.wrap (63+(d:Int))=(n:Int):=by rw [IntKind.wrap_i64]; omega
 have hn:0 < n∧n≤100000:=by omega
 rw [en]
 obtain ⟨i0,hi0,hz0,hzs,hzb⟩:=info_parts info_i
 have hmk:∀ W:World,(Instr.makeSlice 22 (.int .i64 n) (.int .i64 n)).run Tryd.prog W=.ok (.slice (some ⟨W.heap.size,0,none⟩) n n) (W.alloc (.cells (repRow 9 n 0) 3)):=fun W=>by
  have hr:=run_make (P:=Tryd.prog) W 22 3 i0 (.int .i64 0) Tryd.underlying22 hi0 hz0 .i64 .i64 n n (by omega) (Int.le_refl _) (by rw [hzb]; omega) (by omega)
  simp only [Int.toNat_natCast,hzs] at hr
  rw [hr]
  rw [repRow_made 9 n]
 have hst:=fun w1 g c vs w3 (h:Cpd w w1 (.slice (some ⟨g,0,none⟩) L.length c) L vs) (hb:Below w1.heap.size w1 w3)=>fill_start (h.deep.below hb) h.nil (h.bel.trans (hb.mono h.bel.size)) hkl hn.2
 have hst:Aside _:=hst
 have HN:Aside (0 < n∧n≤100000):=hn
 have hkl':Aside (k < L.length):=hkl
 have mixed:Tryd.prog.follows Departure.mixedOrders=true:=by kernel_rfl
 clear hv hC hm hn en hkl hi0 hz0 hzs hzb
 go_enter Tryd.func19,Tryd.ntmps19
 go_wp2_with (first
  | (go_at_fn 41; refine h41.mono ?_; rintro r w1 ⟨g,c,vs,rfl,hb⟩; have H1:=Lib.hid hb; have HB1:Below w.heap.size w w1:=hb.bel; have HC1:Below w1.heap.size w1 w1:=Below.refl _ _; clear hb)
  | (go_at_fn 27; refine (H27.out _ _ _ _ (by first | exact hk | exact hw) (by first | exact hlp | decide) (by first | exact hlm | decide) HB1).mono ?_; rintro r w2 ⟨rfl,hb⟩; replace HB1:=HB1.trans (hb.mono HB1.size); replace HC1:=HC1.trans (hb.mono HC1.size); clear hb))
 go_region_law_o (first
  | (go_simp; go_at_fn 27; refine (H27.out _ _ _ w2.drew hd (by decide) (by decide) (below_drew HB1)).mono ?_; rintro r w3 ⟨rfl,hb⟩; replace hb:=HC1.trans ((below_of_drew hb).mono HC1.size); obtain ⟨hF,⟨b3,M0⟩,G0,⟨u3,M1⟩,G1,⟨b4,M2⟩,G2,⟨u4,M3⟩,G3,hF2,⟨u5,M5⟩,G5,hF3⟩:=hst.out _ _ _ _ _ H1.out hb; have K3:=Lib.hid (And.intro hF (And.intro hF2 hF3)); clear hF hF2 hF3 hb))
 all_goals
  have Z1:=K3.out.1.len hkl'.out
  have Z2:=K3.out.2.1.len hkl'.out
  have Z3:=K3.out.2.2.len hkl'.out
  go_wp2
  clear Z1 Z2 Z3
  go_loopg [8,42] n (fun gg _ s42 wr=>∃ i:Nat,s42=.int .i64 i∧i≤n∧n - i≤gg∧Aside (FInv w wr L k n g c w3.heap.size vs i))
  case atStart=>exact ⟨0,rfl,Nat.zero_le _,by omega,(by first | exact K3.out.1 | exact K3.out.2.1 | exact K3.out.2.2)⟩
  case round =>
   obtain ⟨i,rfl,hin,hgg,I⟩:=hrel
   by_cases hlt:i < n
   · have hltz:(i:Int) < (n:Int):=by omega
     obtain ⟨l0,⟨y,l1⟩,l2,hN⟩:=I.out.step hkl'.out hlt
     have N:Aside _:=hN
     clear hN
     go_wp2
     go_roundg (n - (i+1))
     case measure=>omega
     case rel=>exact ⟨i+1,(by have hn2:=HN.out.2; congr 1; unfold wrap64; omega),by omega,Nat.le_refl _,N⟩
   · obtain rfl:i=n:=by omega
     have hltz:¬ (i:Int) < (i:Int):=by omega
     go_wp2
     go_ret
     exact I.out.fin HN.out.1
end Go.Proofs.YtajoneenakjifaaDoor

/- A path nearly valid, as an entry of the table. -/
namespace Go.Proofs.YtajoneenakjifaaDoor
open Go.RowKit Go.Lib Go.VM
theorem near_walk (L : List Seg) (which by' : Int) (a : Option Addr) (m cap : Nat) (w : World) (hC : CallsOk w) (hm : Mid L) (hv : HV w (fun b => b < w.heap.size) (.sl tyS) L (.slice a m cap)) (hp : pvd L = true) :
  Calls Tryd.prog 19 #[.slice a m cap,.int .i64 which,.int .i64 by'] w (NrPost w (nearD L which by')):=by
 unfold nearD
 by_cases h0:L=[]
 · subst h0
   rw [if_pos (show ([]:List Seg).isEmpty=true from rfl)]
   exact near_empty which by' a m cap w hv
 · have hlp:0 < L.length:=List.length_pos_iff.2 h0
   rw [if_neg (by simpa using h0)]
   obtain ⟨k,hk⟩:∃ k:Nat,by' % (L.length:Int)=(k:Int):=⟨(by' % (L.length:Int)).toNat,(Int.toNat_of_nonneg (Int.emod_nonneg _ (by omega))).symm⟩
   have hkl:k < L.length:=by
    have:=Int.emod_lt_of_pos by' (show (0:Int) < (L.length:Int) by omega)
    omega
   obtain ⟨d4,hd4⟩:∃ d:Nat,by' % 4=(d:Int):=⟨(by' % 4).toNat,by omega⟩
   obtain ⟨d3,hd3⟩:∃ d:Nat,by' % 3=(d:Int):=⟨(by' % 3).toNat,by omega⟩
   have hg:L.getD k zS=L[k]:=by rw [List.getD_eq_getElem?_getD,List.getElem?_eq_getElem hkl]; rfl
   simp only [hk,hd4,hd3,Int.toNat_natCast,hg]
   have hn0:L[k].2≠[]:=fun q=>by
    have:=pvd_ne hp _ (List.getElem_mem hkl)
    rw [q] at this
    simp at this
   by_cases c0:which % 6=0
   · rw [if_pos c0]
     exact near_store L which by' k a m cap w hC hm hv hk hkl c0 d4 hd4 hn0
   rw [if_neg c0]
   by_cases c1:which % 6=1
   · rw [if_pos c1]
     exact near_app L which by' k a m cap w hC hm hv hk hkl c1 hn0
   rw [if_neg c1]
   by_cases c2:which % 6=2
   · rw [if_pos c2]
     exact near_flip L which by' k a m cap w hC hm hv hk hkl c2
   rw [if_neg c2]
   by_cases c3:which % 6=3
   · rw [if_pos c3]
     exact near_nil L which by' k a m cap w hC hm hv hk hkl c3
   rw [if_neg c3]
   by_cases c4:which % 6=4
   · rw [if_pos c4]
     exact near_dbl L which by' k a m cap w hC hm hv hk hkl c4
   rw [if_neg c4]
   exact near_fill L which by' k a m cap w hC hm hv hk hkl (by omega) d3 hd3
theorem primNear:PrimOk OmA Tryd.prog 19 [] (pH [.sl tyS,.int .i64,.int .i64] gNear enNear):=by
 obtain ⟨c,hb⟩:∃ c,Tryd.f19.body=some c:=⟨_,rfl⟩
 refine pH_ok Tryd.func19 hb (by kernel_rfl) (fun vs x r _ _ u hu=>?_) fun x r hx vs ht w A B cs hΩ hr=>?_
 · simp only [enNear,List.mem_cons,List.not_mem_nil,or_false] at hu
   subst hu
   exact ⟨rfl,rfl,fun _ h=>by cases h⟩
 obtain ⟨L,which,by'⟩:=x
 unfold gNear at hx
 split at hx
 · rename_i hl
   cases hx
   rw [Bool.and_eq_true,decide_eq_true_eq] at hl
   have hm:Mid L:=⟨by have:=hl.2; simp only at this; omega,fun s hs=>by have:=pvd_len hl.1 s hs; omega⟩
   obtain ⟨s,_,rfl,h1,ca,_,rfl,h2,cf,_,rfl,h3,rfl⟩:=trel_hvs ht hr
   have h2:[ca]=[.int .i64 which]:=hv_one h2 rfl
   have h3:[cf]=[.int .i64 by']:=hv_one h3 rfl
   cases h2; cases h3
   obtain ⟨a,m,cap,rfl⟩:=hv_slice h1
   refine (near_walk L which by' a m cap w (callsOk w hΩ) hm h1 hl.1).mono fun e w' h=>?_
   unfold NrPost at h
   obtain ⟨v',vs',e1,S,hb⟩:=h
   exact ⟨[v'],e1,hb,.cons _ _ _ _ (owns_rel (by decide) (Nat.le_refl _) S.row S.out (segsV_rel S.len fun i hi hi'=>rowV_rel (Nat.le_refl _) (S.ins i hi hi') (S.nil i hi hi')) (segsV_names _)) .nil⟩
 · cases hx
theorem hNear:∀ x r,gNear x=some r→∀ vs,iQ [.sl tyS,.int .i64,.int .i64] x vs→iQ [.sl tyS] r (enNear vs r)∧∀ c∈(enNear vs r).flatMap V.cells,c.bare0:=fun x r _ vs _ =>
 ⟨⟨_,_,rfl,⟨pathV_crel r,rfl⟩,rfl⟩,fun c hc=>by simp [enNear,V.cells,pathV] at hc; subst hc; trivial⟩
end Go.Proofs.YtajoneenakjifaaDoor
