/- Parse as an entry of the table. -/
import Derived.Test.YtajoneenakjifaaGreatDoorHPX
import Derived.Test.YtajoneenakjifaaGreatDoorEE
namespace Go.Proofs.YtajoneenakjifaaGreatDoor
open Go.RowKit Go.Lib Go.VM
theorem plain_en {v:V} {n:Int} (hv:v=.nils∨∃ L,v=pathV L):∀ u∈[v,V.int .i64 n],aN u=false∧u.flat=true∧∀ xs,u≠.tup xs:=fun u hu=>by
 simp only [List.mem_cons,List.not_mem_nil,or_false] at hu
 rcases hu with rfl | rfl
 · rcases hv with rfl | ⟨L,rfl⟩ <;> exact ⟨rfl,rfl,fun _ h=>by cases h⟩
 · exact ⟨rfl,rfl,fun _ h=>by cases h⟩
theorem nilOr {b:Bool} {L:List Seg}:(if b=true then V.nils else pathV L)=.nils∨∃ M,(if b=true then V.nils else pathV L)=pathV M:=by
 cases b
 · exact .inr ⟨L,rfl⟩
 · exact .inl rfl
theorem parse_valid {s:List UInt8} (h:(parseD s).1≠[]):pvd (parseD s).1=true:=by
 unfold parseD at h ⊢
 cases hp:foldW (Lib.fieldsD s) [] with
 | none=>rw [hp] at h; exact absurd rfl h
 | some p =>
  rw [hp] at h
  unfold parseW at h ⊢
  by_cases hc:(pvd p&&(prt p==s))=true
  · simp only [hc,if_true]
    rw [Bool.and_eq_true] at hc
    exact hc.1
  · simp only [hc] at h
    exact absurd rfl h
theorem primParse:PrimOk OmA Tryz.prog 11 [] (pH [.str] gParse enParse):=by
 obtain ⟨c,hb⟩:∃ c,Tryz.f11.body=some c:=⟨_,rfl⟩
 refine pH_ok Tryz.func11 hb (by kernel_rfl) (fun vs x r _ _=>plain_en nilOr) fun x r hx vs ht w A B cs hΩ hr=>?_
 unfold gParse at hx
 split at hx
 · rename_i hl
   cases hx
   obtain ⟨s,_,rfl,h1,rfl⟩:=trel_hvs ht hr
   obtain ⟨t,h2,h3⟩:∃ t:ByteArray,[s]=[.string t]∧t.data.toList=x:=hv_one h1 rfl
   cases h2
   subst h3
   refine (parse_walk t w hΩ hl).mono fun e w' ⟨v',vs',e1,e2,e3,e4⟩=>⟨[v',.int .i64 (parseD t.data.toList).2],e1,e4,?_⟩
   unfold enParse
   by_cases h0:(parseD t.data.toList).1=[]
   · rw [if_pos (by rw [h0]; rfl),e3 h0]
     exact .cons _ _ _ _ .nils (.cons _ _ _ _ (.int _ _) .nil)
   · rw [if_neg (by simpa using h0)]
     have hpv:=parse_valid h0
     refine .cons _ _ _ _ (e2.rel (Nat.le_refl _) (fun i hi hi' h=>?_) (fun hv=>?_)) (.cons _ _ _ _ (.int _ _) .nil)
     · have:=pvd_ne hpv _ (List.getElem_mem hi)
       rw [h] at this; simp at this
     · rcases owns_slice e2.row with ⟨_,q⟩ | ⟨g,c,q⟩
       · exact h0 (List.length_eq_zero_iff.1 q)
       · rw [q] at hv; cases hv
 · cases hx
theorem path_trel {b:Bool} {L:List Seg} {n:Int} (h:b=true→L=[]):iQ [.sl tyS,.int .i64] (L,n) [if b=true then V.nils else pathV L,.int .i64 n]∧∀ c∈([if b=true then V.nils else pathV L,.int .i64 n]:List V).flatMap V.cells,c.bare0:=by
 cases b with
 | true =>
  have h0:=h rfl
  exact ⟨⟨_,_,rfl,⟨.inl ⟨rfl,h0⟩,rfl⟩,_,_,rfl,⟨rfl,rfl⟩,rfl⟩,fun c hc=>by simp [V.cells] at hc; rcases hc with rfl | rfl <;> trivial⟩
 | false=>exact ⟨⟨_,_,rfl,⟨pathV_crel L,rfl⟩,_,_,rfl,⟨rfl,rfl⟩,rfl⟩,fun c hc=>by simp [V.cells,pathV] at hc; rcases hc with rfl | rfl <;> trivial⟩
theorem hParse:∀ x r,gParse x=some r→∀ vs,iQ [.str] x vs→iQ [.sl tyS,.int .i64] r (enParse vs r)∧∀ c∈(enParse vs r).flatMap V.cells,c.bare0:=fun x r _ vs _ =>
 path_trel fun h=>by simpa using h
end Go.Proofs.YtajoneenakjifaaGreatDoor
