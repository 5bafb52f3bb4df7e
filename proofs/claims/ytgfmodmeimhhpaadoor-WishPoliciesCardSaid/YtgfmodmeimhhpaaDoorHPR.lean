/- Prepend as an entry of the table. -/
import Derived.Test.YtgfmodmeimhhpaaDoorZO
import Derived.Test.YtgfmodmeimhhpaaDoorHZ0
import Derived.Test.YtgfmodmeimhhpaaDoorHPP
namespace Go.Proofs.YtgfmodmeimhhpaaDoor
open Go.RowKit Go.Lib Go.VM
def midB (p:List Seg):Bool:=decide (p.length≤1000)&&p.all fun s=>decide (s.2.length≤100000)
theorem midB_iff {p:List Seg}:midB p=true↔Mid p:=by simp [midB,Mid]
def gPrep (x:List Seg×Int×Int):Option (List Seg×Int):=if midB x.1=true then some (prepD x.1 x.2.1 x.2.2) else none
def isNil:V→Bool
 | .nils=>true
 | _=>false
def enPrep (vs:List V) (r:List Seg×Int):List V:=[if (r.1.isEmpty&&(decide (r.2≠0)||isNil (vs.headD .undef)))=true then .nils else pathV r.1,.int .i64 r.2]
theorem plain_en {v:V} {n:Int} (hv:v=.nils∨∃ L,v=pathV L):∀ u∈[v,V.int .i64 n],aN u=false∧u.flat=true∧∀ xs,u≠.tup xs:=fun u hu=>by
 simp only [List.mem_cons,List.not_mem_nil,or_false] at hu
 rcases hu with rfl | rfl
 · rcases hv with rfl | ⟨L,rfl⟩ <;> exact ⟨rfl,rfl,fun _ h=>by cases h⟩
 · exact ⟨rfl,rfl,fun _ h=>by cases h⟩
theorem nilOr {b:Bool} {L:List Seg}:(if b=true then V.nils else pathV L)=.nils∨∃ M,(if b=true then V.nils else pathV L)=pathV M:=by
 cases b
 · exact .inr ⟨L,rfl⟩
 · exact .inl rfl
theorem path_trel {b:Bool} {L:List Seg} {n:Int} (h:b=true→L=[]):iQ [.sl tyS,.int .i64] (L,n) [if b=true then V.nils else pathV L,.int .i64 n]∧∀ c∈([if b=true then V.nils else pathV L,.int .i64 n]:List V).flatMap V.cells,c.bare0:=by
 cases b with
 | true =>
  have h0:=h rfl
  exact ⟨⟨_,_,rfl,⟨.inl ⟨rfl,h0⟩,rfl⟩,_,_,rfl,⟨rfl,rfl⟩,rfl⟩,fun c hc=>by simp [V.cells] at hc; rcases hc with rfl | rfl <;> trivial⟩
 | false=>exact ⟨⟨_,_,rfl,⟨pathV_crel L,rfl⟩,_,_,rfl,⟨rfl,rfl⟩,rfl⟩,fun c hc=>by simp [V.cells,pathV] at hc; rcases hc with rfl | rfl <;> trivial⟩
theorem slTy {t:Ty}:∀ p∈[PK.d (.sl t)],∃ u,p=.d u∧(u.agg=true∨u.size=1):=fun p hp=>by
 simp only [List.mem_cons,List.not_mem_nil,or_false] at hp
 exact ⟨_,hp,.inr rfl⟩
theorem hvI {W:World} {Q:Nat→Prop} (a:Int):HV W Q (.int .i64) a (.int .i64 a):=⟨rfl,rfl⟩
theorem callsOk (w:World):CallsOk w where
 valid L v W hb hm hv:=by
  have hty:wZ ⟨[.d (.sl tyS)],[(.bool,[])],none⟩ [] (call Z.FT 200004 38) (nfN Z.TN 200004 38):=by
   have h:=Z.typed 200004 38
   unfold aF7 at h
   rw [Z.sigOk 38] at h
   exact h
  have hx:Z.n38 200004 L=some (pvd L):=by exact Z.valid_p 200002 (by decide) hm.1 hm.2
  refine (calls_typed (Z.tableOk) (f:=38) (ps:=[.d (.sl tyS)]) (rs:=[(.bool,[])]) (vf:=Z.vf38) rfl hty slTy (by decide) (fun _ _=>trivial) hx ⟨_,_,rfl,hv,rfl⟩).mono fun e W' ⟨rcs,e1,e2,e3⟩=>⟨?_,e2⟩
  obtain ⟨c1,cs1,rfl,h1,rfl⟩:=e3
  have h1:[c1]=[.bool (pvd L)]:=hv_one h1 rfl
  cases h1
  rw [e1]; rfl
 numb a W hb:=by
  have hty:wZ ⟨[.d (.int .i64)],[(.bool,[])],none⟩ [] (call Z.FT 200004 39) (nfN Z.TN 200004 39):=by
   have h:=Z.typed 200004 39
   unfold aF7 at h
   rw [Z.sigOk 39] at h
   exact h
  have hx:Z.n39 200004 a=some (num a):=by exact Z.num_n _ a
  refine (calls_typed (Z.tableOk) (f:=39) (ps:=[.d (.int .i64)]) (rs:=[(.bool,[])]) (vf:=Z.vf39) rfl hty (fun p hp=>by
   simp only [List.mem_cons,List.not_mem_nil,or_false] at hp
   exact ⟨_,hp,.inr rfl⟩) (by decide) (fun _ _=>trivial) (Q:=fun _=>True) hx ⟨_,_,rfl,hvI a,rfl⟩).mono fun e W' ⟨rcs,e1,e2,e3⟩=>⟨?_,e2⟩
  obtain ⟨c1,cs1,rfl,h1,rfl⟩:=e3
  have h1:[c1]=[.bool (num a)]:=hv_one h1 rfl
  cases h1
  rw [e1]; rfl
 flat L v W hb hm hv:=by
  have hty:wZ ⟨[.d (.sl tyS)],[(.sl (.int .i64),[(0,true)])],none⟩ [] (call Z.FT 200004 48) (nfN Z.TN 200004 48):=by
   have h:=Z.typed 200004 48
   unfold aF7 at h
   rw [Z.sigOk 48] at h
   exact h
  have hx:Z.n48 200004 L=some (Z.flat L):=by exact Z.flat_n 200003 (by have:=hm.1; omega) hm.1 hm.2
  refine (calls_typed (Z.tableOk) (f:=48) (ps:=[.d (.sl tyS)]) (rs:=[(.sl (.int .i64),[(0,true)])]) (vf:=Z.vf48) rfl hty slTy (by decide) (fun _ _=>trivial) hx ⟨_,_,rfl,hv,rfl⟩).mono fun e W' ⟨rcs,e1,e2,e3⟩=>⟨?_,e2⟩
  obtain ⟨c1,cs1,rfl,h1,rfl⟩:=e3
  rw [e1]
  rcases hc_slice (hv_one h1 rfl) with ⟨h0,rfl⟩ | ⟨a,cap,rows,rfl,_⟩
  · have h0:Z.flat L=[]:=h0
    have:=Z.flat_len L
    rw [h0] at this
    rw [← this]
    exact ⟨none,0,rfl⟩
  · have:=Z.flat_len L
    refine ⟨some a,cap,?_⟩
    rw [← this]; rfl
theorem pvd_ne {p:List Seg} (h:pvd p=true):∀ s∈p,0 < s.2.length:=by
 unfold pvd at h
 rw [Bool.and_eq_true,List.all_eq_true] at h
 intro s hs
 obtain ⟨i,hi,e⟩:=List.getElem_of_mem hs
 have h1:=h.1 i (by simp [List.mem_range']; omega)
 unfold segOk at h1
 rw [Bool.and_eq_true,Bool.and_eq_true,Z.getD_lt zS hi,e] at h1
 have h2:=h1.1.1
 cases hq:s.2 with
 | nil=>rw [hq] at h2; cases h2
 | cons a l=>simp
theorem preP_ne {p:List Seg} (hp:∀ s∈p,0 < s.2.length) (a:Int) {k:Nat} (hk:0 < k):preP p a k≠[]∧∀ s∈preP p a k,0 < s.2.length:=by
 unfold preP
 split
 · exact ⟨by simp,fun s hs=>by rw [List.mem_singleton.1 hs]; simpa using hk⟩
 · rename_i s r
   split
   · refine ⟨by simp,fun q hq=>?_⟩
     rcases List.mem_cons.1 hq with rfl | hq
     · simpa using hk
     · exact hp q hq
   · refine ⟨by simp,fun q hq=>?_⟩
     rcases List.mem_cons.1 hq with rfl | hq
     · simp; omega
     · exact hp q (List.mem_cons_of_mem _ hq)
/-- Prepend,walked. -/
theorem prep_walk (L : List Seg) (asn n : Int) (a : Option Addr) (m cap : Nat) (w : World) (hC : CallsOk w) (hm : Mid L) (hv : HV w (fun b => b < w.heap.size) (.sl tyS) L (.slice a m cap)) :
  Calls Tryd.prog 24 #[.slice a m cap,.int .i64 asn,.int .i64 n] w fun r w'=>∃ v' vs,r=.returned (.tuple #[v',.int .i64 (prepD L asn n).2])∧Deep w' w.heap.size v' (prepD L asn n).1 vs∧(v'=.slice none 0 0↔(prepD L asn n).2≠0∨(a=none∧n=0))∧((prepD L asn n).2≠0→(prepD L asn n).1=[])∧(∀ s∈(prepD L asn n).1,0 < s.2.length)∧Below w.heap.size w w':=by
 unfold prepD
 by_cases h1:(!pvd L||!num asn||decide (n < 0))=true
 · rw [if_pos h1]
   exact (prep_err1 L asn n a m cap w hC hm hv h1).mono fun r w' ⟨e1,e2⟩=>⟨_,[],e1,Deep.nil _ _,⟨fun _=>.inl (by decide),fun _=>rfl⟩,fun _=>rfl,(fun s hs=>by cases hs),e2⟩
 rw [if_neg h1]
 have hc:(!pvd L||!num asn||decide (n < 0))=false:=by simpa using h1
 rw [Bool.or_eq_false_iff,Bool.or_eq_false_iff] at hc
 have pv:pvd L=true:=by simpa using hc.1.1
 have pn:num asn=true:=by simpa using hc.1.2
 have n0:¬ n < 0:=of_decide_eq_false hc.2
 have ne:=pvd_ne pv
 have t64:tot L≤64:=by
  have:=pv
  unfold pvd at this
  rw [Bool.and_eq_true] at this
  exact of_decide_eq_true this.2
 by_cases h2:n > 64 - ((tot L:Nat):Int)
 · rw [if_pos h2]
   exact (prep_err3 L asn n a m cap w hC hm hv pv pn n0 t64 h2).mono fun r w' ⟨e1,e2⟩=>⟨_,[],e1,Deep.nil _ _,⟨fun _=>.inl (by decide),fun _=>rfl⟩,fun _=>rfl,(fun s hs=>by cases hs),e2⟩
 rw [if_neg h2]
 by_cases h3:n=0
 · subst h3
   rw [if_pos rfl]
   exact (prep_zero L asn a m cap w hC hm hv pv pn t64).mono fun r w' ⟨v',vs,e1,e2,e3,e4⟩=>⟨v',vs,e1,e2,⟨fun h=>.inr (e3.1 h),fun h=>e3.2 (h.resolve_left fun q=>q rfl)⟩,fun q=>absurd rfl q,ne,e4⟩
 rw [if_neg h3]
 obtain ⟨k,rfl⟩:=Int.eq_ofNat_of_zero_le (show 0≤n by omega)
 have hk:0 < k:=by omega
 have hfin:∀ {r:Ending} {w':World},PrPost w a (preP L asn k) k r w'→∃ v' vs,r=.returned (.tuple #[v',.int .i64 0])∧Deep w' w.heap.size v' (preP L asn k) vs∧(v'=.slice none 0 0↔(0:Int)≠0∨(a=none∧((k:Nat):Int)=0))∧((0:Int)≠0→preP L asn k=[])∧(∀ s∈preP L asn k,0 < s.2.length)∧Below w.heap.size w w':=fun {r w'} ⟨v',vs,e1,e2,e3,e4⟩ =>
  ⟨v',vs,e1,e2,⟨fun h=>.inr (e3.1 h),fun h=>e3.2 (h.resolve_left fun q=>q rfl)⟩,fun q=>absurd rfl q,(preP_ne ne asn hk).2,e4⟩
 cases L with
 | nil=>exact (prep_nil asn k a m cap w hC hm hv pv pn hk (by omega)).mono fun r w' h=>hfin (by rw [List.append_nil] at h; exact h)
 | cons s L =>
  by_cases hs:s.1=true
  · refine (prep_set s L asn k a m cap w hC hm hv pv pn hk (by omega) hs).mono fun r w' h=>hfin ?_
    rw [List.append_nil] at h
    have hpre:preP (s::L) asn k=(false,List.replicate k asn)::s::L:=if_pos hs
    rw [hpre]; exact h
  · have hs:s.1=false:=by simpa using hs
    refine (prep_seq s L asn k a m cap w hC hm hv pv pn hk (by omega) hs).mono fun r w' h=>hfin ?_
    have hpre:preP (s::L) asn k=(false,List.replicate k asn++s.2)::L:=if_neg (by rw [hs]; simp)
    rw [hpre]; exact h
theorem hv_slice {w:World} {Q:Nat→Prop} {t:Ty} {l:List t.den} {c:Value} (h:HV w Q (.sl t) l c):∃ a n cap,c=.slice a n cap:=by
 rcases hc_slice (hv_one h rfl) with ⟨_,h2⟩ | ⟨ad,cap',rows,h2,_⟩ <;> exact ⟨_,_,_,h2⟩
theorem primPrep {Ω:World→Prop}:PrimOk Ω Tryd.prog 24 [] (pH [.sl tyS,.int .i64,.int .i64] gPrep enPrep):=by
 obtain ⟨c,hb⟩:∃ c,Tryd.f24.body=some c:=⟨_,rfl⟩
 refine pH_ok Tryd.func24 hb (by kernel_rfl) (fun vs x r _ _=>plain_en nilOr) fun x r hx vs ht w A B cs hΩ hr=>?_
 obtain ⟨L,asn,n⟩:=x
 unfold gPrep at hx
 split at hx
 · rename_i hl
   cases hx
   have hm:=midB_iff.1 hl
   obtain ⟨s,_,rfl,h1,ca,_,rfl,h2,cf,_,rfl,h3,rfl⟩:=trel_hvs ht hr
   have h2:[ca]=[.int .i64 asn]:=hv_one h2 rfl
   have h3:[cf]=[.int .i64 n]:=hv_one h3 rfl
   cases h2; cases h3
   obtain ⟨a,m,cap,rfl⟩:=hv_slice h1
   obtain ⟨v0,vs0,e0,k1,_⟩:=ht
   subst e0
   have hnil:(isNil v0=true↔a=none):=by
    cases hr with
    | cons _ _ _ _ r1 r2 =>
    rcases eX k1 with ⟨rfl,q⟩ | ⟨lb,rs,rfl,_⟩
    · have e:=r1.nils_inv
      cases e
      exact ⟨fun _=>rfl,fun _=>rfl⟩
    · obtain ⟨ad,cap',xs,e,_⟩:=r1.sl_inv
      cases e
      exact ⟨(fun h=>by cases h),(fun h=>by cases h)⟩
   refine (prep_walk L asn n a m cap w (callsOk w) hm h1).mono fun e w' ⟨v',vs',e1,e2,e3,e4,e5,e6⟩=>⟨[v',.int .i64 (prepD L asn n).2],e1,e6,?_⟩
   unfold enPrep
   have hiff:(((prepD L asn n).1.isEmpty&&(decide ((prepD L asn n).2≠0)||isNil ((v0::vs0).headD .undef)))=true)↔v'=.slice none 0 0:=by
    rw [e3,Bool.and_eq_true,Bool.or_eq_true,decide_eq_true_eq]
    show _∧(_∨isNil v0=true)↔_
    rw [hnil]
    constructor
    · rintro ⟨q1,q2 | q2⟩
      · exact .inl q2
      · by_cases h0:(prepD L asn n).2=0
        · refine .inr ⟨q2,?_⟩
          have hv0:v'=.slice none 0 0:=by
           have:L=[]:=by
            rcases hc_slice (hv_one h1 rfl) with ⟨q,_⟩ | ⟨_,_,_,q,_⟩
            · exact q
            · cases q; cases q2
           subst this
           have hq:(prepD [] asn n).1=[]:=by simpa using q1
           unfold prepD at hq h0
           split at h0
           · cases h0
           · split at h0
             · cases h0
             · rename_i g1 g2
               rw [if_neg g1,if_neg g2] at hq
               split at hq
               · rename_i g3
                 exact e3.2 (.inr ⟨q2,g3⟩)
               · cases hq
          rcases e3.1 hv0 with q | q
          · exact absurd h0 q
          · exact q.2
        · exact .inl h0
    · rintro (q | ⟨q1,q2⟩)
      · exact ⟨by rw [e4 q]; rfl,.inl q⟩
      · refine ⟨?_,.inr q1⟩
        have hv0:=e3.2 (.inr ⟨q1,q2⟩)
        rw [hv0] at e2
        rcases e2.row.2 with ⟨_,q⟩ | ⟨_,_,_,q,_⟩
        · rw [List.length_eq_zero_iff.1 q]; rfl
        · cases q
   by_cases h0:v'=.slice none 0 0
   · rw [if_pos (hiff.2 h0),h0]
     exact .cons _ _ _ _ .nils (.cons _ _ _ _ (.int _ _) .nil)
   · rw [if_neg (fun q=>h0 (hiff.1 q))]
     refine .cons _ _ _ _ (e2.rel (Nat.le_refl _) (fun i hi hi' h=>?_) h0) (.cons _ _ _ _ (.int _ _) .nil)
     have:=e5 _ (List.getElem_mem hi)
     rw [h] at this; simp at this
 · cases hx
theorem hPrep:∀ x r,gPrep x=some r→∀ vs,iQ [.sl tyS,.int .i64,.int .i64] x vs→iQ [.sl tyS,.int .i64] r (enPrep vs r)∧∀ c∈(enPrep vs r).flatMap V.cells,c.bare0:=fun x r _ vs _ =>
 path_trel fun h=>by
  rw [Bool.and_eq_true] at h
  simpa using h.1
end Go.Proofs.YtgfmodmeimhhpaaDoor
