/- Walked by hand: slices.Repeat of one number. -/
import Derived.Test.YtgfmodmeimhhpaaGreatDoorHOW
namespace Go.Proofs.YtgfmodmeimhhpaaGreatDoor
open Go.RowKit Go.Lib Go.VM
/-- The row that a repetition fills: the first m cells are written. -/
def repRow(k:Int)(n m:Nat):Array Value:=(List.replicate m (Value.int .i64 k)++List.replicate (n-m) (Value.int .i64 0)).toArray
structure RepInv(k:Int)(n:Nat)(w:World)(g:Nat)(wr:World)(m:Nat):Prop where
 row:wr.heap[g]?=some (.cells (repRow k n m) 3 (0,0))
 hm:0<m/\m<=n
 lo:w.heap.size<=g
 bel:Below w.heap.size w wr
end Go.Proofs.YtgfmodmeimhhpaaGreatDoor
