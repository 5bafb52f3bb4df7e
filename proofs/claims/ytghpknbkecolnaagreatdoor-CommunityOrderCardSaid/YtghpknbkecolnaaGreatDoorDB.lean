/- Chapter 17, plainly: what CommunityLists and CommunityLarge ask. -/
import Derived.Test.YtghpknbkecolnaaGreatDoorDA
import Derived.Test.YtghpknbkecolnaaGreatDoorNE1
namespace Go.Proofs.YtghpknbkecolnaaGreatDoor
open Go.VM Go.Txt
set_option maxRecDepth 10000
theorem awakeK:n7 400 ()=some true:=by kernel_rfl
theorem awake' {N:Nat} (h:400≤N):n7 N ()=some true:=aGj (T:=TN) h 7 () true awakeK
theorem jP {A B:Type} {f:A→Option B} {k:(A→Option B)→Option B} (P:A→Prop) {r:B} (hf:∀ x,P x→f x=some r) (hk:∀ g:A→Option B,(∀ x,P x→g x=some r)→k g=some r):aBJ f k=some r:=by
 rw [aJY]; exact hk f hf
end Go.Proofs.YtghpknbkecolnaaGreatDoor
