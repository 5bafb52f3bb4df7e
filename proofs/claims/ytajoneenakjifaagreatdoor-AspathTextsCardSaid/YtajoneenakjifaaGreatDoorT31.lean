/- Texts cut at a byte: parts, joints, doubled bytes. No program. -/
import Derived.Lib.SplitLaws
import Derived.Lib.IndexMore
import Derived.Lib.IndexLaws
import Derived.Lib.CountLaws
import Derived.Lib.Join
namespace Go.Txt
open Go
/-- The parts of a text between the bytes c. -/
def parts (c:UInt8):List UInt8→List (List UInt8)
 | []=>[[]]
 | b::l=>if b=c then []::parts c l else match parts c l with
  | h::t=>(b::h)::t
  | []=>[[b]]
theorem parts_ne (c:UInt8):∀ l,parts c l≠[]
 | []=>by simp [parts]
 | b::l=>by
  unfold parts
  split
  · simp
  · split <;> simp
theorem parts_hd (c b:UInt8) (l:List UInt8) (h:b≠c):∃ x t,parts c l=x::t∧parts c (b::l)=(b::x)::t:=by
 cases hp:parts c l with
 | nil=>exact absurd hp (parts_ne c l)
 | cons x t=>exact ⟨x,t,rfl,by rw [parts,if_neg h,hp]⟩
theorem parts_app (c:UInt8):∀ (x y:List UInt8),parts c (x++c::y)=parts c x++parts c y
 | [],y=>by simp [parts]
 | b::x,y=>by
  have ih:=parts_app c x y
  by_cases h:b=c
  · subst h
    simp only [List.cons_append,parts,if_true,ih]
  · obtain ⟨h1,t1,e1,e2⟩:=parts_hd c b x h
    obtain ⟨h2,t2,e3,e4⟩:=parts_hd c b (x++c::y) h
    rw [List.cons_append,e4,e2]
    rw [ih,e1] at e3
    simp only [List.cons_append,List.cons.injEq] at e3
    obtain ⟨rfl,rfl⟩:=e3
    rfl
theorem parts_none (c:UInt8):∀ {w:List UInt8},c∉w→parts c w=[w]
 | [],_=>rfl
 | b::w,h=>by
  have h1:b≠c:=fun e=>h (by rw [e]; exact List.mem_cons_self ..)
  have h2:c∉w:=fun e=>h (List.mem_cons_of_mem _ e)
  rw [parts,if_neg h1,parts_none c h2]
theorem join_cons2 (x y:List UInt8) (r:List (List UInt8)) (c:UInt8):Lib.join (x::y::r) [c]=x++c::Lib.join (y::r) [c]:=by
 rw [Lib.join_cons,Lib.join_cons]
 simp [Lib.joinTail]
/-- Words joined are cut into the words. -/
theorem parts_join (c:UInt8):∀ {ws:List (List UInt8)},ws≠[]→(∀ w∈ws,c∉w)→parts c (Lib.join ws [c])=ws
 | [],h,_=>absurd rfl h
 | [w],_,h=>by rw [Lib.join_one]; exact parts_none c (h w (List.mem_singleton.2 rfl))
 | x::y::r,_,h=>by
  rw [join_cons2,parts_app,parts_none c (h x (List.mem_cons_self ..)),parts_join c (ws:=y::r) (by simp) fun w hw=>h w (List.mem_cons_of_mem _ hw)]
  rfl
theorem join_parts (c:UInt8):∀ s:List UInt8,Lib.join (parts c s) [c]=s
 | []=>by rw [parts,Lib.join_one]
 | b::l=>by
  have ih:=join_parts c l
  by_cases hb:b=c
  · rw [parts,if_pos hb]
    cases hp:parts c l with
    | nil=>exact absurd hp (parts_ne c l)
    | cons x t=>rw [join_cons2,← hp,ih,hb]; rfl
  · obtain ⟨x,t,e1,e2⟩:=parts_hd c b l hb
    rw [e2,Lib.join_cons]
    rw [e1,Lib.join_cons] at ih
    rw [List.cons_append,ih]
theorem parts_length (c:UInt8):∀ s:List UInt8,(parts c s).length=s.count c+1
 | []=>rfl
 | b::l=>by
  have ih:=parts_length c l
  by_cases hb:b=c
  · subst hb; rw [parts,if_pos rfl,List.length_cons,ih]; simp
  · obtain ⟨x,t,e1,e2⟩:=parts_hd c b l hb
    rw [e2,List.length_cons,List.count_cons_of_ne (by simpa using hb),← ih,e1,List.length_cons]
theorem first_at {c:UInt8}:∀ {s:List UInt8},c∈s→∃ x y,s=x++c::y∧c∉x
 | [],h=>(List.not_mem_nil h).elim
 | b::l,h=>by
  by_cases hb:b=c
  · exact ⟨[],l,by rw [hb]; rfl,List.not_mem_nil⟩
  · have hl : c ∈ l := by
      rcases List.mem_cons.1 h with h | h
      · exact absurd h.symm hb
      · exact h
    obtain ⟨x,y,e,hx⟩:=first_at hl
    exact ⟨b::x,y,by rw [e]; rfl,fun h=>by
     rcases List.mem_cons.1 h with h | h
     · exact hb h.symm
     · exact hx h⟩
/-- strings.Split at one byte. -/
theorem split_parts (c:UInt8) (s:List UInt8):Lib.split s [c]=parts c s:=by
 have key:∀ (n:Nat) (s:List UInt8),s.length≤n→Lib.splitK [c] 0 (s.count c) s=parts c s:=by
  intro n
  induction n with
  | zero =>
   intro s hs
   have:s=[]:=List.length_eq_zero_iff.1 (by omega)
   subst this; rfl
  | succ n ih =>
   intro s hs
   by_cases hc:c∈s
   · obtain ⟨x,y,rfl,hx⟩:=first_at hc
     have hcount:(x++c::y).count c=y.count c+1:=by
      rw [List.count_append,List.count_eq_zero_of_not_mem hx,List.count_cons_self]; omega
     have hidx:Lib.index (x++c::y) [c]=(x.length:Nat):=by
      refine Lib.index_first (by simp) ?_ ?_
      · unfold Lib.occAt
        rw [List.drop_left]; simp
      · intro j hj
        unfold Lib.occAt
        cases hd:(x++c::y).drop j with
        | nil=>rfl
        | cons b r =>
         have:b=x[j]:=by
          have h1:=congrArg (·[0]?) hd
          simp only [List.getElem?_drop,Nat.add_zero,List.getElem?_cons_zero] at h1
          rw [List.getElem?_append_left hj,List.getElem?_eq_getElem hj] at h1
          exact (Option.some.inj h1).symm
         have hne:c≠b:=fun e=>hx (by rw [e,this]; exact List.getElem_mem hj)
         simp [List.isPrefixOf,hne]
     rw [hcount,Lib.splitK,if_neg (fun e=>by have:=beq_iff_eq.1 e; omega),hidx]
     have e1:(x++c::y).take (((x.length:Nat):Int).toNat+0)=x:=by simp
     have e2:(x++c::y).drop (((x.length:Nat):Int).toNat+[c].length)=y:=by
      simp only [Int.toNat_natCast,List.length_singleton]
      rw [show x++c::y=(x++[c])++y by simp,show x.length+1=(x++[c]).length by simp,List.drop_left]
     rw [e1,e2,ih y (by simp only [List.length_append,List.length_cons] at hs; omega),parts_app,parts_none c hx]
     rfl
   · rw [List.count_eq_zero_of_not_mem hc,parts_none c hc]; rfl
 unfold Lib.split
 rw [Lib.count_one]
 exact key _ s (Nat.le_refl _)
end Go.Txt
