/- The contracts of Go's library that are used, at this program. -/
import Derived.Shelf.Bits.Mul64
import Derived.Ground.Names2Prog
import Derived.Shelf.Slices.Clone
import Derived.Shelf.Slices.SearchI
import Derived.Ground.SlgnProg
import Derived.Shelf.SlicesE.Clone
import Derived.Test.YtgfmodmeimhhpaaDoorProg
namespace Go.Proofs
open Go.Shelf
def Tryd.lays212_ren:Go.Shelf.Ren:=⟨fun|212=>77|263=>91|264=>92|n=>n,fun|46=>110|51=>136|146=>137|53=>38|148=>111|n=>n,fun|n=>n⟩
theorem Tryd.lays212:Go.Proofs.Lays.n212 Tryd.prog Tryd.lays212_ren:={
 mixed:=by kernel_rfl
 f212:=Tryd.func77.trans (congrArg some (by kernel_rfl))
 f263:=Tryd.func91.trans (congrArg some (by kernel_rfl))
 f264:=Tryd.func92.trans (congrArg some (by kernel_rfl))
 t46:=Tryd.underlying110
 a46:=Tryd.isAgg110
 z46:=Tryd.sizeOf110
 v46:=Tryd.zeroValue110
 t51:=Tryd.underlying136
 a51:=Tryd.isAgg136
 z51:=Tryd.sizeOf136
 v51:=Tryd.zeroValue136
 t53:=Tryd.underlying38
 a53:=Tryd.isAgg38
 z53:=Tryd.sizeOf38
 v53:=Tryd.zeroValue38
 t146:=Tryd.underlying137
 a146:=Tryd.isAgg137
 z146:=Tryd.sizeOf137
 v146:=Tryd.zeroValue137
 t148:=Tryd.underlying111
 a148:=Tryd.isAgg111
 z148:=Tryd.sizeOf111
 v148:=Tryd.zeroValue111}
open Go.RowKit Go.Lib in
theorem Tryd.bits_Mul(x y:Nat)(hx:x<18446744073709551616)(hy:y<18446744073709551616)(w:World) :
  Calls Tryd.prog 77 #[.int .u64 x,.int .u64 y] w fun e w'=>e=.returned (.tuple #[.int .u64 ((x*y / 18446744073709551616:Nat):Int),.int .u64 ((x*y%18446744073709551616:Nat):Int)])/\w'=w:=Any.bits_Mul Tryd.lays212 x y hx hy w
end Go.Proofs
