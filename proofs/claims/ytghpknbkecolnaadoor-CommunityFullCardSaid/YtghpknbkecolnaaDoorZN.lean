/- Names for the functions as they are read. -/
import Derived.Test.YtghpknbkecolnaaDoorZT
namespace Go.Proofs.YtghpknbkecolnaaDoor.Z
open Go.VM
set_option maxRecDepth 100000
noncomputable def n13 (N:Nat) (x:((Int×Int)×(Int×Int))):Option (Int):=nfN TN N 13 x
noncomputable def n22 (N:Nat) (x:((List ((Int×Int)))×(Int×Int)×Unit)):Option ((Int×Bool)):=nfN TN N 22 x
noncomputable def n25 (N:Nat) (x:List (Int)):Option (Int):=nfN TN N 25 x
noncomputable def n26 (N:Nat) (x:(Int×Int)):Option (Int):=nfN TN N 26 x
noncomputable def n42 (N:Nat) (x:Int):Option (Bool):=nfN TN N 42 x
end Go.Proofs.YtghpknbkecolnaaDoor.Z
