/- Walked by hand: a copy in place and a clear, as the machine does them. -/
import Derived.Laws.CopyRow
import Derived.Laws.IdiomCopy
import Derived.Laws.AppendOwn
import Derived.Lib.AppendZerosOnto
import Derived.Lib.Overlaps
import Derived.Laws.NewBlocks
import Derived.Test.YtgfmodmeimhhpaaGreatDoorChecked
import Derived.Shelf.RegionOpenPlain
import Derived.WalkKit
import Derived.Lib.Walk
import Derived.Lib.SliceRun
import Derived.Lib.JoinLaws
import Derived.Lib.AppendZeros
import Derived.Lib.OwnBridge
import Derived.Laws.Externs
import Derived.Lib.Hide
import Derived.Maps.AppendAt
namespace Go.VM
end Go.VM

/- Walked by hand: slices.Insert of one element. -/
namespace Go.Proofs.YtgfmodmeimhhpaaGreatDoor
open Go.RowKit Go.Lib Go.VM
theorem info_e:(Tryz.prog.info? 80).map (fun i=>(i.zero,i.size,i.bytes))=some (some (.agg #[.bool false,.slice none 0 0]),2,32):=by kernel_rfl
end Go.Proofs.YtgfmodmeimhhpaaGreatDoor

/- Walked by hand: slices.Insert in a row of its own. -/
namespace Go.Proofs.YtgfmodmeimhhpaaGreatDoor
open Go.RowKit Go.Lib Go.VM
end Go.Proofs.YtgfmodmeimhhpaaGreatDoor
