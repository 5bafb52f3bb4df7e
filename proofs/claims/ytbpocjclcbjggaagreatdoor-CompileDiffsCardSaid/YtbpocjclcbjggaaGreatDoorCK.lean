/- Chapter 09, plainly: a rule is the same as itself; the law CompileFinds. -/
import Derived.Test.YtbpocjclcbjggaaGreatDoorCJ
namespace Go.Proofs.YtbpocjclcbjggaaGreatDoor
open Go.VM
set_option maxRecDepth 100000
theorem awakeK:n17 2000 ()=some true:=by kernel_rfl
theorem awake'{N:Nat}(h:2000<=N):n17 N ()=some true:=aGj (T:=TN) h 17 () true awakeK
end Go.Proofs.YtbpocjclcbjggaaGreatDoor
