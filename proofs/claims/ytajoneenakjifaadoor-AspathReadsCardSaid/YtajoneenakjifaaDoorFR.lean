/- Chapter 15, plainly: what the laws of the reading functions and of Prepend come to. -/
import Derived.Test.YtajoneenakjifaaDoorFA
import Derived.Test.YtajoneenakjifaaDoorEF
namespace Go.Proofs.YtajoneenakjifaaDoor
open Go.VM
theorem near_mid {p:List Seg} (hp:pvd p=true) (hl:p.length≤3) (a b:Int):Mid (nearD p a b):=by
 have h64:∀ s∈p,s.2.length≤64:=pvd_len hp
 have hset:∀ (k:Nat) (s:Seg),s.2.length≤128→Mid (p.set k s):=fun k s hs=>⟨by rw [List.length_set]; omega,fun q hq=>by
  rcases List.mem_or_eq_of_mem_set hq with h | h
  · have:=h64 q h; omega
  · subst h; omega⟩
 have hg:(p.getD (b % (p.length:Int)).toNat zS).2.length≤64:=by
  rw [List.getD_eq_getElem?_getD]
  cases h:p[(b % (p.length:Int)).toNat]? with
  | none=>exact Nat.zero_le _
  | some s=>exact h64 s (List.mem_of_getElem? h)
 unfold nearD
 split
 · exact ⟨by simp,by simp⟩
 split
 · exact hset _ _ (by simp only [List.length_set]; omega)
 split
 · exact hset _ _ (by simp only [List.length_append]; omega)
 split
 · exact hset _ _ (by simp only; omega)
 split
 · exact hset _ _ (by simp)
 split
 · exact ⟨by simp only [List.length_append]; omega, fun s hs => by
     have:=h64 s (by simpa using hs); omega⟩
 · exact hset _ _ (by simp only [List.length_replicate]; omega)
theorem near_ok (N:Nat) {q:List Seg} (hp:pvd q=true) (hl:q.length≤3) (a b:Int):Ok (n19 (N+20) (q,a,b)) Mid :=
 ⟨nearD q a b,by rw [e19]; unfold gNear; rw [if_pos (by rw [hp]; simpa using hl)],near_mid hp hl a b⟩
theorem readsT (a0:List Seg) (a1:List Int) (a2 a3 a4:Int) (h0:a0.length≤9223372036854775807) (h:a1.length≤9223372036854775807):n5 (a0.length+300000001+21) (a0,a1,a2,a3,a4)=some true :=
 readsE (a0.length+300000001) (by omega) a2 a3 a4 (by omega) h0 h (awakeT _ (by omega)) fun q hp hl=>near_ok _ hp hl a3 a4
end Go.Proofs.YtajoneenakjifaaDoor
