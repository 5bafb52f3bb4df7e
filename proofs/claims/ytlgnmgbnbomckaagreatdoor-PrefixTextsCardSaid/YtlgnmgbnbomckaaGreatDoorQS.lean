/- Chapter 01, plainly: the short form. -/
import Derived.Test.YtlgnmgbnbomckaaGreatDoorQT
namespace Go.Proofs.YtlgnmgbnbomckaaGreatDoor
open Go.VM Go.Txt
set_option maxRecDepth 10000
/-- The run that ends here,and the longest so far. -/
def rbM (z:List Bool):Nat→Nat×Nat
 | 0=>(0,0)
 | k+1=>if z[k]?=some true then ((rbM z k).1+1,max (rbM z k).2 ((rbM z k).1+1)) else (0,(rbM z k).2)
theorem lg_rb:∀ b0 b1 b2 b3 b4 b5 b6 b7:Bool,(lgM [b0,b1,b2,b3,b4,b5,b6,b7] 8).2=if (rbM [b0,b1,b2,b3,b4,b5,b6,b7] 8).2 < 2 then 0 else (rbM [b0,b1,b2,b3,b4,b5,b6,b7] 8).2:=by decide +kernel
def ne (ps:List (List UInt8)):Nat:=ps.countP fun w=>!(w==[])
theorem words_ne {l:List Int}:∀ w∈l.map hexW,w≠[]:=by
 intro w hw
 obtain ⟨g,_,rfl⟩:=List.mem_map.1 hw
 intro h
 have:=hexW_length g
 rw [h] at this
 simp at this
theorem ne_words (l:List Int):ne (l.map hexW)=l.length:=by
 unfold ne
 rw [List.countP_eq_length.2,List.length_map]
 intro w hw
 have:=words_ne w hw
 simpa using this
theorem no_empty {ws:List (List UInt8)} (h:∀ w∈ws,w≠[]):ws.count []=0:=List.count_eq_zero.2 fun hm=>h _ hm rfl
theorem parts_J {l:List Int} (hr:∀ g∈l,0≤g∧g < 65536):parts 58 (J l)=if l=[] then [[]] else l.map hexW:=by
 by_cases h:l=[]
 · subst h; rfl
 · rw [if_neg h]
   refine parts_join 58 (by simpa using h) fun w hw=>?_
   obtain ⟨g,hg,rfl⟩:=List.mem_map.1 hw
   exact hexW_no (hr g hg).1 (hr g hg).2 (.inr rfl)
theorem ne_J {l:List Int} (hr:∀ g∈l,0≤g∧g < 65536):ne (parts 58 (J l))=l.length:=by
 rw [parts_J hr]
 split
 · rename_i h; subst h; rfl
 · exact ne_words l
theorem drop_J {l:List Int} (hr:∀ g∈l,0≤g∧g < 65536):((parts 58 (J l)).drop 1).count []=0∧(parts 58 (J l)).dropLast.count []=0:=by
 rw [parts_J hr]
 split
 · exact ⟨rfl,rfl⟩
 · exact ⟨no_empty fun w hw=>words_ne w (List.mem_of_mem_drop hw),no_empty fun w hw=>words_ne w ((List.dropLast_sublist _).subset hw)⟩
theorem inner_txt (v:Int):inner (parts 58 (txt6 v))=(if (lgM (zs (gsL v)) 8).2=0 then 0 else 1)∧ne (parts 58 (txt6 v))=8 - (lgM (zs (gsL v)) 8).2∧Lib.contains (txt6 v) [58,58]=!((lgM (zs (gsL v)) 8).2==0):=by
 have hle:=lgM_le (zs (gsL v)) rfl 8 (Nat.le_refl _)
 by_cases h:(lgM (zs (gsL v)) 8).2=0
 · have hi : inner (parts 58 (txt6 v)) = 0 := by
     rw [txt6,if_pos h,inner]
     have hc:=(drop_J (gsL_rng v)).1
     rw [List.count_eq_zero] at hc ⊢
     exact fun hm=>hc ((List.dropLast_sublist _).subset hm)
   refine ⟨by rw [if_pos h]; exact hi,?_,?_⟩
   · rw [txt6,if_pos h,ne_J (gsL_rng v),h]; rfl
   · rw [no_two hi,h]; rfl
 · have hA:∀ g∈(gsL v).take (lgM (zs (gsL v)) 8).1,0≤g∧g < 65536:=fun g hg=>gsL_rng v g (List.mem_of_mem_take hg)
   have hB:∀ g∈(gsL v).drop ((lgM (zs (gsL v)) 8).1+(lgM (zs (gsL v)) 8).2),0≤g∧g < 65536:=fun g hg=>gsL_rng v g (List.mem_of_mem_drop hg)
   rw [txt6,if_neg h]
   refine ⟨?_,?_,?_⟩
   · rw [parts_two,inner_app (parts_ne _ _) (parts_ne _ _),(drop_J hA).1,(drop_J hB).2,if_neg h]
   · rw [parts_two,ne,List.countP_append,List.countP_cons]
     have e1:=ne_J hA
     have e2:=ne_J hB
     unfold ne at e1 e2
     rw [e1,e2,List.length_take,List.length_drop,show (gsL v).length=8 from rfl]
     simp only [beq_self_eq_true,Bool.not_true,Bool.false_eq_true,if_false]
     omega
   · rw [contains_app]; simp [h]
end Go.Proofs.YtlgnmgbnbomckaaGreatDoor
