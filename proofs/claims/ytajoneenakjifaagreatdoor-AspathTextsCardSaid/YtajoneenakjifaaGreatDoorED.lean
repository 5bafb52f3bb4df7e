/- Chapter 15, plainly: all numbers of a path, its length; what AspathCounts asks. -/
import Derived.Test.YtajoneenakjifaaGreatDoorEC
import Derived.Test.YtajoneenakjifaaGreatDoorNE1
namespace Go.Proofs.YtajoneenakjifaaGreatDoor
open Go.VM
set_option maxRecDepth 10000
def flat (p:List Seg):List Int:=p.flatMap fun s=>s.2
theorem flat_take {p:List Seg} {i:Nat} (h:i < p.length):flat (p.take (i+1))=flat (p.take i)++p[i].2:=by
 unfold flat
 rw [List.take_succ_eq_append_getElem h,List.flatMap_append]
 simp
def lenP (p:List Seg):Nat:=(p.map fun s=>if s.1=true then 1 else s.2.length).sum
theorem lenP_take {p:List Seg} {i:Nat} (h:i < p.length):lenP (p.take (i+1))=lenP (p.take i)+(if p[i].1=true then 1 else p[i].2.length):=by
 unfold lenP
 rw [List.take_succ_eq_append_getElem h,List.map_append,List.sum_append]
 simp
theorem lenP_le {p:List Seg} (hs:∀ s∈p,s.2.length≤100000):lenP p≤p.length * 100000:=by
 unfold lenP
 induction p with
 | nil=>simp
 | cons s p ih =>
  have h1:=hs s (by simp)
  have h2:=ih fun s h=>hs s (List.mem_cons_of_mem _ h)
  simp only [List.map_cons,List.sum_cons,List.length_cons]
  split <;> omega
theorem len_n (N:Nat) {p:List Seg} (hN:p.length < N) (hp:p.length≤1000) (hs:∀ s∈p,s.2.length≤100000):n16 (N+1) p=some (lenP p:Int):=by
 rw [e16]
 refine jB (loopN_seq' (fun i=>(((lenP (p.take i):Nat):Int),p,aJO p,(i:Int))) p.length rfl (fun i hi=>?_) ?_ hN)
 · have l1 : lenP (p.take i) ≤ 100000000 := by
     have:=lenP_le (p:=p.take i) fun s h=>hs s (List.mem_of_mem_take h)
     rw [List.length_take] at this
     omega
   have l2:=hs p[i] (List.getElem_mem hi)
   have nx:IntKind.i64.wrap ((i:Int)+1)=((i+1:Nat):Int):=wv _ (by omega) (by omega) (by omega)
   rw [lenP_take hi]
   refine letB (v:=true) (decide_eq_true (show (i:Int) < aJO p by unfold aJO; omega)) (bifT rfl (jB (bindB (aJo hi) (jB ?_))))
   cases hb:p[i].1 with
   | true=>exact bifT rfl (letB (v:=((lenP (p.take i)+1:Nat):Int)) (wv _ (show ((lenP (p.take i):Nat):Int)+1=_ by omega) (by omega) (by omega)) (letB nx rfl))
   | false=>exact bifF rfl (letB (v:=((lenP (p.take i)+p[i].2.length:Nat):Int)) (wv _ (show ((lenP (p.take i):Nat):Int)+aJO p[i].2=_ by unfold aJO; omega) (by omega) (by omega)) (letB nx rfl))
 · rw [List.take_length]
   exact letB (v:=false) (decide_eq_false (show ¬ (p.length:Int) < aJO p by unfold aJO; omega)) (bifF rfl (leaveB rfl))
theorem pvd_num {p:List Seg} (h:pvd p=true):∀ s∈p,∀ a∈s.2,num a=true:=by
 unfold pvd at h
 rw [Bool.and_eq_true,List.all_eq_true] at h
 intro s hs a ha
 obtain ⟨i,hi,e⟩:=List.getElem_of_mem hs
 have h1:=h.1 i (by simp [List.mem_range']; omega)
 unfold segOk at h1
 rw [Bool.and_eq_true,getD_lt zS hi,e] at h1
 have h2:=h1.2
 unfold numsOk at h2
 rw [List.all_eq_true] at h2
 obtain ⟨k,hk,e2⟩:=List.getElem_of_mem ha
 have h3:=h2 k (by simp [List.mem_range']; omega)
 unfold numOk at h3
 rw [Bool.and_eq_true,getD_lt 0 hk,e2] at h3
 exact h3.1
end Go.Proofs.YtajoneenakjifaaGreatDoor
