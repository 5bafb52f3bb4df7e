/- Walked by hand: the four as entries of the table. -/
import Derived.Test.YtghpknbkecolnaaDoorHAD
namespace Go.Proofs.YtghpknbkecolnaaDoor
open Go.RowKit Go.Lib Go.VM
variable {Ω:World→Prop}
theorem owns_rel {w w':World} {e:TypeId} {z n:Nat} {v:Value} {xs:List Value} {vs:List V} (hz:0 < z) (h:w'.ownsRow w.heap.size e z v n xs) (hn:v≠.slice none 0 0) (hr:RelL w' (aGu w w') [] vs xs) (hnm:aC vs=[]):Rel w' (aGu w w') [] (.sl .none z n vs) v:=by
 obtain ⟨h1,⟨h2,_⟩ | ⟨g,cap,cur,rfl,hg,hh,hc,hm,hs,ht⟩⟩:=h
 · exact absurd h2 hn
 · have hle:n * z≤cap * z:=Nat.mul_le_mul_right z hc
   refine .sl .none z n vs _ cap xs (.inr ⟨hg,cur,e,(0,0),hh,?_⟩) hz h1 hc hm (fun j u hj=>?_) hr hnm
   · rw [h1]; show 0+n * z≤cur.size; omega
   · rw [show (Addr.add ⟨g,0,none⟩ j)=⟨g,j,none⟩ from by rw [Addr.add_lit,Nat.zero_add]]
     simp only [World.cell?,hh]
     rw [← ht,List.getElem?_take] at hj
     split at hj
     · simpa using hj
     · cases hj
theorem vsC_rel {w:World} {A:Pl} {B:List Nat}:∀ l:List Z.Cm,RelL w A B (vsOf vcC l) (cellsC l).flatten∧aC (vsOf vcC l)=[]
 | []=>⟨.nil,rfl⟩
 | c::l=>⟨.cons _ _ _ _ (.int _ _) (.cons _ _ _ _ (.int _ _) (vsC_rel l).1),(vsC_rel (w:=w) (A:=A) (B:=B) l).2⟩
theorem slC_crel (l:List Z.Cm):bP (.sl tyC) l [slV 2 vcC l]:=by
 refine .inr ⟨.none,vsOf vcC l,rfl,?_,?_⟩
 · induction l with
   | nil=>rfl
   | cons c l ih=>exact ⟨vcC c,_,rfl,⟨_,_,rfl,rfl,rfl⟩,ih⟩
 · intro v hv
   obtain ⟨q,hq,hv⟩:=List.mem_flatten.1 hv
   obtain ⟨c,_,rfl⟩:=List.mem_map.1 hq
   simp [vcC] at hv
   rcases hv with rfl | rfl <;> trivial
theorem hv_slice {w:World} {Q:Nat→Prop} {t:Ty} {l:List t.den} {c:Value} (h:HV w Q (.sl t) l c):∃ a n cap,c=.slice a n cap:=by
 have h:=hv_one h rfl
 rcases h with ⟨_,h2⟩ | ⟨ad,cap',rows,h2,_⟩ <;> cases h2 <;> exact ⟨_,_,_,rfl⟩
theorem hv_C {w:World} {Q:Nat→Prop} {c:Z.Cm} {v:Value} (h:HV w Q tyC c v):v=.agg #[.int .i64 c.1,.int .i64 c.2]:=by
 obtain ⟨xs,rfl,p,q,e,h1,h2⟩:=hv_agg h rfl
 have h1:p=[.int .i64 c.1]:=h1
 have h2:q=[.int .i64 c.2]:=h2
 subst h1; subst h2
 congr 1
 exact Array.ext' e
theorem hv_fn {w:World} {Q:Nat→Prop} {f:Nat} {u:Unit} {v:Value} (h:HV w Q (.fn f) u v):v=.func (.func f) #[] #[]:=by
 have h:[v]=[.func (.func f) #[] #[]]:=hv_one h rfl
 cases h; rfl
theorem plainEn {z:Nat} {T:Type} {vc:T→List V} {l:List T} {n:Int}:∀ v∈([.nils,slV z vc l,.int .i64 n]:List V),aN v=false∧v.flat=true∧∀ xs,v≠.tup xs:=fun v hv=>by
 simp only [List.mem_cons,List.not_mem_nil,or_false] at hv
 rcases hv with rfl | rfl | rfl <;> exact ⟨rfl,rfl,fun _ h=>by cases h⟩
theorem enAdd_plain {T:Type} {z:Nat} {vc:T→List V} {vs:List V} {r:List T×Int}:∀ v∈enAdd z vc vs r,aN v=false∧v.flat=true∧∀ xs,v≠.tup xs:=fun v hv=>plainEn (z:=z) (vc:=vc) (l:=r.1) (n:=r.2) v (by
 unfold enAdd at hv
 split at hv <;> simp only [List.mem_cons,List.not_mem_nil,or_false] at hv⊢<;> rcases hv with rfl | rfl <;> simp)
theorem primAddC:PrimOk Ω Tryd.prog 12 [] (pH [.sl tyC,tyC,.fn 13] (gAdd Z.lesC) (enAdd 2 vcC)):=by
 obtain ⟨c,hb⟩:∃ c,Tryd.f12.body=some c:=⟨_,rfl⟩
 refine pH_ok Tryd.func12 hb (by kernel_rfl) (fun vs x r _ _=>enAdd_plain) fun x r hx vs ht w A B cs _ hr=>?_
 obtain ⟨l,c,u⟩:=x
 obtain ⟨⟨hl,hs⟩,i,hi,rfl⟩:=gAdd_inv hx
 obtain ⟨s,_,rfl,h1,ca,_,rfl,h2,cf,_,rfl,h3,rfl⟩:=trel_hvs ht hr
 obtain ⟨a,n,cap,rfl⟩:=hv_slice h1
 have:=hv_C h2; subst this
 have:=hv_fn h3; subst this
 refine (add_ok l c i a n cap w hs hl hi h1).mono fun e w' ⟨v',e1,e2,e3,e4⟩=>⟨[v',.int .i64 (addR i l c).2],e1,e4,?_⟩
 unfold enAdd
 by_cases h0:(addR i l c).1=[]
 · rw [h0,e3 h0]
   exact .cons _ _ _ _ .nils (.cons _ _ _ _ (.int _ _) .nil)
 · rw [if_neg (by simpa using h0)]
   refine .cons _ _ _ _ (owns_rel (by decide) e2 (fun hv=>?_) (vsC_rel _).1 (vsC_rel (w:=w') (A:=aGu w w') (B:=[]) _).2) (.cons _ _ _ _ (.int _ _) .nil)
   rcases e2.2 with ⟨_,q⟩ | ⟨g,cap,cur,q,_⟩
   · exact h0 (List.length_eq_zero_iff.1 q)
   · rw [q] at hv; cases hv
/- as they are read -/
theorem hAddC:∀ x r,gAdd Z.lesC x=some r→∀ vs,iQ [.sl tyC,tyC,.fn 13] x vs→iQ [.sl tyC,.int .i64] r (enAdd 2 vcC vs r)∧∀ c∈(enAdd 2 vcC vs r).flatMap V.cells,c.bare0:=by
 intro x r _ vs _
 unfold enAdd
 by_cases h0:r.1=[]
 · rw [if_pos (by simp [h0])]
   exact ⟨⟨_,_,rfl,⟨.inl ⟨rfl,h0⟩,rfl⟩,_,_,rfl,⟨rfl,rfl⟩,rfl⟩,fun c hc=>by simp [V.cells] at hc; rcases hc with rfl | rfl <;> trivial⟩
 · rw [if_neg (by simpa using h0)]
   exact ⟨⟨_,_,rfl,⟨slC_crel r.1,rfl⟩,_,_,rfl,⟨rfl,rfl⟩,rfl⟩,fun c hc=>by simp [V.cells,slV] at hc; rcases hc with rfl | rfl <;> trivial⟩
end Go.Proofs.YtghpknbkecolnaaDoor
