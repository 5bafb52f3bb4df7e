/- Chapter 01, plainly: steps and orders. -/
import Derived.Test.YtlgnmgbnbomckaaGreatDoorQC
namespace Go.Proofs.YtlgnmgbnbomckaaGreatDoor
open Go.VM
set_option maxRecDepth 100000
theorem awake80:n15 80 ()=some true:=by kernel_rfl
theorem awake' {N:Nat} (h:80≤N):n15 N ()=some true:=aGj (T:=TN) h 15 () true awake80
set_option maxRecDepth 10000
theorem new_eq (N:Nat) (l:List Int):n11 (N+1) l=some (l,0):=e11 N l
theorem DK0 {l:List Int} (h:l.length≤9223372036854775807):DK (l,0):=⟨Int.le_refl _,by show (0:Int)≤(l.length:Int); omega,h⟩
end Go.Proofs.YtlgnmgbnbomckaaGreatDoor
