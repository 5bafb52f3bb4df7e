/- Walked by hand: the four as entries of the table. -/
import Derived.Test.YtghpknbkecolnaaGreatDoorHAD
import Derived.Test.YtghpknbkecolnaaGreatDoorHADL
namespace Go.Proofs.YtghpknbkecolnaaGreatDoor
open Go.RowKit Go.Lib Go.VM
variable {Ω:World→Prop}
theorem owns_rel {w w':World} {e:TypeId} {z n:Nat} {v:Value} {xs:List Value} {vs:List V} (hz:0 < z) (h:w'.ownsRow w.heap.size e z v n xs) (hn:v≠.slice none 0 0) (hr:RelL w' (aGu w w') [] vs xs) (hnm:aC vs=[]):Rel w' (aGu w w') [] (.sl .none z n vs) v:=by
 obtain ⟨h1,⟨h2,_⟩ | ⟨g,cap,cur,rfl,hg,hh,hc,hm,hs,ht⟩⟩:=h
 · exact absurd h2 hn
 · have hle:n * z≤cap * z:=Nat.mul_le_mul_right z hc
   refine .sl .none z n vs _ cap xs (.inr ⟨hg,cur,e,(0,0),hh,?_⟩) hz h1 hc hm (fun j u hj=>?_) hr hnm
   · rw [h1]; show 0+n * z≤cur.size; omega
   · rw [show (Addr.add ⟨g,0,none⟩ j)=⟨g,j,none⟩ from by rw [Addr.add_lit,Nat.zero_add]]
     simp only [World.cell?,hh]
     rw [← ht,List.getElem?_take] at hj
     split at hj
     · simpa using hj
     · cases hj
theorem vsC_rel {w:World} {A:Pl} {B:List Nat}:∀ l:List Z.Cm,RelL w A B (vsOf vcC l) (cellsC l).flatten∧aC (vsOf vcC l)=[]
 | []=>⟨.nil,rfl⟩
 | c::l=>⟨.cons _ _ _ _ (.int _ _) (.cons _ _ _ _ (.int _ _) (vsC_rel l).1),(vsC_rel (w:=w) (A:=A) (B:=B) l).2⟩
theorem vsL_rel {w:World} {A:Pl} {B:List Nat}:∀ l:List Z.Lg,RelL w A B (vsOf vcL l) (HL.cellsC l).flatten∧aC (vsOf vcL l)=[]
 | []=>⟨.nil,rfl⟩
 | c::l=>⟨.cons _ _ _ _ (.int _ _) (.cons _ _ _ _ (.int _ _) (.cons _ _ _ _ (.int _ _) (vsL_rel l).1)),(vsL_rel (w:=w) (A:=A) (B:=B) l).2⟩
theorem slC_crel (l:List Z.Cm):bP (.sl tyC) l [slV 2 vcC l]:=by
 refine .inr ⟨.none,vsOf vcC l,rfl,?_,?_⟩
 · induction l with
   | nil=>rfl
   | cons c l ih=>exact ⟨vcC c,_,rfl,⟨_,_,rfl,rfl,rfl⟩,ih⟩
 · intro v hv
   obtain ⟨q,hq,hv⟩:=List.mem_flatten.1 hv
   obtain ⟨c,_,rfl⟩:=List.mem_map.1 hq
   simp [vcC] at hv
   rcases hv with rfl | rfl <;> trivial
theorem slL_crel (l:List Z.Lg):bP (.sl tyL) l [slV 3 vcL l]:=by
 refine .inr ⟨.none,vsOf vcL l,rfl,?_,?_⟩
 · induction l with
   | nil=>rfl
   | cons c l ih=>exact ⟨vcL c,_,rfl,⟨_,_,rfl,rfl,⟨_,_,rfl,rfl,rfl⟩⟩,ih⟩
 · intro v hv
   obtain ⟨q,hq,hv⟩:=List.mem_flatten.1 hv
   obtain ⟨c,_,rfl⟩:=List.mem_map.1 hq
   simp [vcL] at hv
   rcases hv with rfl | rfl | rfl <;> trivial
theorem hv_slice {w:World} {Q:Nat→Prop} {t:Ty} {l:List t.den} {c:Value} (h:HV w Q (.sl t) l c):∃ a n cap,c=.slice a n cap:=by
 have h:=hv_one h rfl
 rcases h with ⟨_,h2⟩ | ⟨ad,cap',rows,h2,_⟩ <;> cases h2 <;> exact ⟨_,_,_,rfl⟩
theorem hv_C {w:World} {Q:Nat→Prop} {c:Z.Cm} {v:Value} (h:HV w Q tyC c v):v=.agg #[.int .i64 c.1,.int .i64 c.2]:=by
 obtain ⟨xs,rfl,p,q,e,h1,h2⟩:=hv_agg h rfl
 have h1:p=[.int .i64 c.1]:=h1
 have h2:q=[.int .i64 c.2]:=h2
 subst h1; subst h2
 congr 1
 exact Array.ext' e
theorem hv_L {w:World} {Q:Nat→Prop} {c:Z.Lg} {v:Value} (h:HV w Q tyL c v):v=.agg #[.int .i64 c.1,.int .i64 c.2.1,.int .i64 c.2.2]:=by
 obtain ⟨xs,rfl,p,q,e,h1,q1,q2,e2,h2,h3⟩:=hv_agg h rfl
 have h1:p=[.int .i64 c.1]:=h1
 have h2:q1=[.int .i64 c.2.1]:=h2
 have h3:q2=[.int .i64 c.2.2]:=h3
 subst h1; subst h2; subst h3; subst e2
 congr 1
 exact Array.ext' e
theorem hv_fn {w:World} {Q:Nat→Prop} {f:Nat} {u:Unit} {v:Value} (h:HV w Q (.fn f) u v):v=.func (.func f) #[] #[]:=by
 have h:[v]=[.func (.func f) #[] #[]]:=hv_one h rfl
 cases h; rfl
theorem plainEn {z:Nat} {T:Type} {vc:T→List V} {l:List T} {n:Int}:∀ v∈([.nils,slV z vc l,.int .i64 n]:List V),aN v=false∧v.flat=true∧∀ xs,v≠.tup xs:=fun v hv=>by
 simp only [List.mem_cons,List.not_mem_nil,or_false] at hv
 rcases hv with rfl | rfl | rfl <;> exact ⟨rfl,rfl,fun _ h=>by cases h⟩
theorem enAdd_plain {T:Type} {z:Nat} {vc:T→List V} {vs:List V} {r:List T×Int}:∀ v∈enAdd z vc vs r,aN v=false∧v.flat=true∧∀ xs,v≠.tup xs:=fun v hv=>plainEn (z:=z) (vc:=vc) (l:=r.1) (n:=r.2) v (by
 unfold enAdd at hv
 split at hv <;> simp only [List.mem_cons,List.not_mem_nil,or_false] at hv⊢<;> rcases hv with rfl | rfl <;> simp)
theorem enWithout_plain {T:Type} {z:Nat} {vc:T→List V} {vs:List V} {r:List T}:∀ v∈enWithout z vc vs r,aN v=false∧v.flat=true∧∀ xs,v≠.tup xs:=fun v hv=>plainEn (z:=z) (vc:=vc) (l:=r) (n:=0) v (by
 unfold enWithout at hv
 split at hv <;> simp only [List.mem_cons,List.not_mem_nil,or_false] at hv⊢<;> subst hv <;> simp)
theorem primAddC:PrimOk Ω Tryz.prog 47 [] (pH [.sl tyC,tyC,.fn 44] (gAdd Z.lesC) (enAdd 2 vcC)):=by
 obtain ⟨c,hb⟩:∃ c,Tryz.f47.body=some c:=⟨_,rfl⟩
 refine pH_ok Tryz.func47 hb (by kernel_rfl) (fun vs x r _ _=>enAdd_plain) fun x r hx vs ht w A B cs _ hr=>?_
 obtain ⟨l,c,u⟩:=x
 obtain ⟨⟨hl,hs⟩,i,hi,rfl⟩:=gAdd_inv hx
 obtain ⟨s,_,rfl,h1,ca,_,rfl,h2,cf,_,rfl,h3,rfl⟩:=trel_hvs ht hr
 obtain ⟨a,n,cap,rfl⟩:=hv_slice h1
 have:=hv_C h2; subst this
 have:=hv_fn h3; subst this
 refine (add_ok l c i a n cap w hs hl hi h1).mono fun e w' ⟨v',e1,e2,e3,e4⟩=>⟨[v',.int .i64 (addR i l c).2],e1,e4,?_⟩
 unfold enAdd
 by_cases h0:(addR i l c).1=[]
 · rw [h0,e3 h0]
   exact .cons _ _ _ _ .nils (.cons _ _ _ _ (.int _ _) .nil)
 · rw [if_neg (by simpa using h0)]
   refine .cons _ _ _ _ (owns_rel (by decide) e2 (fun hv=>?_) (vsC_rel _).1 (vsC_rel (w:=w') (A:=aGu w w') (B:=[]) _).2) (.cons _ _ _ _ (.int _ _) .nil)
   rcases e2.2 with ⟨_,q⟩ | ⟨g,cap,cur,q,_⟩
   · exact h0 (List.length_eq_zero_iff.1 q)
   · rw [q] at hv; cases hv
theorem primAddL:PrimOk Ω Tryz.prog 55 [] (pH [.sl tyL,tyL,.fn 52] (gAdd Z.lesL) (enAdd 3 vcL)):=by
 obtain ⟨c,hb⟩:∃ c,Tryz.f55.body=some c:=⟨_,rfl⟩
 refine pH_ok Tryz.func55 hb (by kernel_rfl) (fun vs x r _ _=>enAdd_plain) fun x r hx vs ht w A B cs _ hr=>?_
 obtain ⟨l,c,u⟩:=x
 obtain ⟨⟨hl,hs⟩,i,hi,rfl⟩:=gAdd_inv hx
 obtain ⟨s,_,rfl,h1,ca,_,rfl,h2,cf,_,rfl,h3,rfl⟩:=trel_hvs ht hr
 obtain ⟨a,n,cap,rfl⟩:=hv_slice h1
 have:=hv_L h2; subst this
 have:=hv_fn h3; subst this
 refine (HL.add_ok l c i a n cap w hs hl hi h1).mono fun e w' ⟨v',e1,e2,e3,e4⟩=>⟨[v',.int .i64 (addR i l c).2],e1,e4,?_⟩
 unfold enAdd
 by_cases h0:(addR i l c).1=[]
 · rw [h0,e3 h0]
   exact .cons _ _ _ _ .nils (.cons _ _ _ _ (.int _ _) .nil)
 · rw [if_neg (by simpa using h0)]
   refine .cons _ _ _ _ (owns_rel (by decide) e2 (fun hv=>?_) (vsL_rel _).1 (vsL_rel (w:=w') (A:=aGu w w') (B:=[]) _).2) (.cons _ _ _ _ (.int _ _) .nil)
   rcases e2.2 with ⟨_,q⟩ | ⟨g,cap,cur,q,_⟩
   · exact h0 (List.length_eq_zero_iff.1 q)
   · rw [q] at hv; cases hv
theorem filtC (l:List Z.Cm) (c:Z.Cm):(l.filter fun p=>!(decide (p=c)))=l.filter fun p=>!(p.1==c.1&&p.2==c.2):=List.filter_congr fun p _=>by
 obtain ⟨a,b⟩:=p
 obtain ⟨x,y⟩:=c
 simp only [Prod.mk.injEq]
 by_cases h1:a=x <;> by_cases h2:b=y <;> simp [h1,h2]
theorem primWoC:PrimOk Ω Tryz.prog 48 [] (pH [.sl tyC,tyC] gWithout (enWithout 2 vcC)):=by
 obtain ⟨c,hb⟩:∃ c,Tryz.f48.body=some c:=⟨_,rfl⟩
 refine pH_ok Tryz.func48 hb (by kernel_rfl) (fun vs x r _ _=>enWithout_plain) fun x r hx vs ht w A B cs _ hr=>?_
 obtain ⟨l,c⟩:=x
 obtain ⟨hl,hr0⟩:=gWithout_inv hx
 have hrf:r=l.filter fun p=>!(p.1==c.1&&p.2==c.2):=hr0.trans (filtC l c)
 obtain ⟨s,_,rfl,h1,ca,_,rfl,h2,rfl⟩:=trel_hvs ht hr
 have:=hv_C h2; subst this
 obtain ⟨v,vs',e0,k1,_⟩:=ht
 subst e0
 cases hr with
 | cons _ _ _ _ r1 r2 =>
 rcases eX k1 with ⟨rfl,q⟩ | ⟨lb,rs,rfl,_⟩
 · have e:=r1.nils_inv
   subst e
   have q:l=[]:=q
   subst q
   refine (without_nil c.1 c.2 w).mono fun e w' ⟨e1,e2⟩=>⟨[.slice none 0 0],e1,e2,.cons _ _ _ _ .nils .nil⟩
 · obtain ⟨ad,cap,xs,e,_⟩:=r1.sl_inv
   subst e
   rcases hv_one h1 rfl with ⟨_,q⟩ | ⟨ad',cap',rows,q,q2,q3,q4,q5,q6,_⟩
   · cases q
   · cases q
     have hrow:=hrows_cells q6
     subst hrow
     subst hrf
     refine (without_ok ad l.length cap l c.1 c.2 w rfl (by omega) q5).mono fun e w' ⟨v',e1,e2,e3,e4⟩=>⟨[v'],e1,e4,?_⟩
     exact .cons _ _ _ _ (owns_rel (by decide) e2 e3 (vsC_rel _).1 (vsC_rel (w:=w') (A:=aGu w w') (B:=[]) _).2) .nil
/- as they are read -/
theorem hAddC:∀ x r,gAdd Z.lesC x=some r→∀ vs,iQ [.sl tyC,tyC,.fn 44] x vs→iQ [.sl tyC,.int .i64] r (enAdd 2 vcC vs r)∧∀ c∈(enAdd 2 vcC vs r).flatMap V.cells,c.bare0:=by
 intro x r _ vs _
 unfold enAdd
 by_cases h0:r.1=[]
 · rw [if_pos (by simp [h0])]
   exact ⟨⟨_,_,rfl,⟨.inl ⟨rfl,h0⟩,rfl⟩,_,_,rfl,⟨rfl,rfl⟩,rfl⟩,fun c hc=>by simp [V.cells] at hc; rcases hc with rfl | rfl <;> trivial⟩
 · rw [if_neg (by simpa using h0)]
   exact ⟨⟨_,_,rfl,⟨slC_crel r.1,rfl⟩,_,_,rfl,⟨rfl,rfl⟩,rfl⟩,fun c hc=>by simp [V.cells,slV] at hc; rcases hc with rfl | rfl <;> trivial⟩
theorem hAddL:∀ x r,gAdd Z.lesL x=some r→∀ vs,iQ [.sl tyL,tyL,.fn 52] x vs→iQ [.sl tyL,.int .i64] r (enAdd 3 vcL vs r)∧∀ c∈(enAdd 3 vcL vs r).flatMap V.cells,c.bare0:=by
 intro x r _ vs _
 unfold enAdd
 by_cases h0:r.1=[]
 · rw [if_pos (by simp [h0])]
   exact ⟨⟨_,_,rfl,⟨.inl ⟨rfl,h0⟩,rfl⟩,_,_,rfl,⟨rfl,rfl⟩,rfl⟩,fun c hc=>by simp [V.cells] at hc; rcases hc with rfl | rfl <;> trivial⟩
 · rw [if_neg (by simpa using h0)]
   exact ⟨⟨_,_,rfl,⟨slL_crel r.1,rfl⟩,_,_,rfl,⟨rfl,rfl⟩,rfl⟩,fun c hc=>by simp [V.cells,slV] at hc; rcases hc with rfl | rfl <;> trivial⟩
theorem hWoC:∀ x r,gWithout x=some r→∀ vs,iQ [.sl tyC,tyC] x vs→iQ [.sl tyC] r (enWithout 2 vcC vs r)∧∀ c∈(enWithout 2 vcC vs r).flatMap V.cells,c.bare0:=by
 intro x r hx vs ht
 obtain ⟨l,c⟩:=x
 obtain ⟨_,hr⟩:=gWithout_inv hx
 obtain ⟨v,vs',rfl,k1,_⟩:=ht
 unfold enWithout
 rcases eX k1 with ⟨rfl,q⟩ | ⟨lb,rs,rfl,_⟩
 · have q:l=[]:=q
   subst q
   subst hr
   exact ⟨⟨_,_,rfl,⟨.inl ⟨rfl,rfl⟩,rfl⟩,rfl⟩,fun c hc=>by simp [V.cells,isNil] at hc; subst hc; trivial⟩
 · exact ⟨⟨_,_,rfl,⟨slC_crel r,rfl⟩,rfl⟩,fun c hc=>by simp [V.cells,isNil,slV] at hc; subst hc; trivial⟩
end Go.Proofs.YtghpknbkecolnaaGreatDoor
