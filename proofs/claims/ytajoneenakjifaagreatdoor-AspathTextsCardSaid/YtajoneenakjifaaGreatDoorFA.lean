/- Chapter 15, plainly: the sanity check. -/
import Derived.Test.YtajoneenakjifaaGreatDoorEE
import Derived.KernelRfl
namespace Go.Proofs.YtajoneenakjifaaGreatDoor
open Go.VM
set_option maxRecDepth 100000
def awP:List Seg:=[(false,[65001,65002]),(true,[7,9])]
theorem awParse:gParse [54,53,48,48,49,32,54,53,48,48,50,32,123,55,44,57,125]=some (awP,0):=by kernel_rfl
theorem awakeT (N:Nat) (hN:200000 < N):n5 (N+20) ()=some true:=by
 rw [e5]
 have h10:n11 (N+19) [54,53,48,48,49,32,54,53,48,48,50,32,123,55,44,57,125]=some (awP,0):=by rw [e11]; exact awParse
 have hp:awP.length≤1000:=by decide
 have hs:∀ s∈awP,s.2.length≤100000:=fun s hs=>by
  simp [awP] at hs
  rcases hs with rfl | rfl <;> simp
 exact bindB h10 (bindB (first_n (N+16) (by omega) hp hs) (bindB (origin_n (N+16) (by omega) hp hs) (bindB (bifT rfl (len_n (N+18) (by show awP.length < _; omega) hp hs)) (by kernel_rfl))))
end Go.Proofs.YtajoneenakjifaaGreatDoor
