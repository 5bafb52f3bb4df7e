/- Chapter 15, plainly: a number put in front of a path. -/
import Derived.Test.YtajoneenakjifaaGreatDoorEG
namespace Go.Proofs.YtajoneenakjifaaGreatDoor
open Go.VM
set_option maxRecDepth 10000
theorem pvd_iff {p:List Seg}:pvd p=true↔(∀ i,i < p.length→segOk p i=true)∧tot p≤64:=by
 unfold pvd
 rw [Bool.and_eq_true,List.all_eq_true,decide_eq_true_eq]
 constructor
 · rintro ⟨h1,h2⟩
   exact ⟨fun i hi=>h1 i (by simp [List.mem_range']; omega),h2⟩
 · rintro ⟨h1,h2⟩
   exact ⟨fun i hi=>h1 i (by simp [List.mem_range'] at hi; omega),h2⟩
end Go.Proofs.YtajoneenakjifaaGreatDoor
