/- Chapter 01, plainly: back from text and bytes. -/
import Derived.Test.YtlgnmgbnbomckaaGreatDoorQY
namespace Go.Proofs.YtlgnmgbnbomckaaGreatDoor
open Go.VM Go.Txt
set_option maxRecDepth 10000
theorem join_len' {c:UInt8} {m:Nat}:∀ {ws:List (List UInt8)},ws≠[]→(∀ w∈ws,w.length≤m)→(Lib.join ws [c]).length+1≤ws.length * (m+1)
 | [],h,_=>absurd rfl h
 | [w],_,h=>by
  rw [Lib.join_one]
  have:=h w (List.mem_singleton.2 rfl)
  simp only [List.length_singleton]; omega
 | x::y::r,_,h=>by
  have ih:=join_len' (c:=c) (ws:=y::r) (by simp) fun w hw=>h w (List.mem_cons_of_mem _ hw)
  have hx:=h x (List.mem_cons_self ..)
  rw [join_cons2,List.length_append,List.length_cons,List.length_cons (a:=x),Nat.add_mul,Nat.one_mul]
  omega
theorem txt_len (a:Ad):(txt a).length≤39:=by
 unfold txt
 split
 · have hgs:(gsL (val a)).length=8:=rfl
   unfold txt6
   split
   · have := join_len' (c := 58) (m := 4) (ws := (gsL (val a)).map hexW) (by simp [gsL]) fun w hw => by
       obtain ⟨g,_,rfl⟩:=List.mem_map.1 hw
       exact (hexW_length g).2
     rw [List.length_map,hgs] at this
     show (Lib.join ((gsL (val a)).map hexW) [58]).length≤39
     omega
   · rename_i h
     have hle:=lgM_le (zs (gsL (val a))) rfl 8 (Nat.le_refl _)
     have h2:2≤(lgM (zs (gsL (val a))) 8).2:=by
      have rel:(lgM (zs (gsL (val a))) 8).2=if (rbM (zs (gsL (val a))) 8).2 < 2 then 0 else (rbM (zs (gsL (val a))) 8).2:=lg_rb _ _ _ _ _ _ _ _
      split at rel <;> omega
     have l1:=J_len ((gsL (val a)).take (lgM (zs (gsL (val a))) 8).1)
     have l2:=J_len ((gsL (val a)).drop ((lgM (zs (gsL (val a))) 8).1+(lgM (zs (gsL (val a))) 8).2))
     rw [List.length_take,hgs] at l1
     rw [List.length_drop,hgs] at l2
     simp only [List.length_append,List.length_cons,List.length_nil]
     omega
 · rename_i hf
   have hl:(bytesA a).length≤4:=by
    unfold bytesA
    split
    · rw [beI_length]; unfold wid; rw [if_neg hf]; exact Nat.le_refl _
    · exact Nat.zero_le _
   have:=join_len (c:=46) (m:=3) (ws:=(bytesA a).map Lib.itoa) fun w hw=>by
    obtain ⟨b,hb,rfl⟩:=List.mem_map.1 hw
    exact (itoa_fact (bytesA_Bs a b hb)).2.1
   rw [List.length_map] at this
   show (Lib.join ((bytesA a).map Lib.itoa) [46]).length≤39
   omega
end Go.Proofs.YtlgnmgbnbomckaaGreatDoor
