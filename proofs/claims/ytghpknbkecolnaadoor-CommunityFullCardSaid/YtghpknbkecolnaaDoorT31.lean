/- Texts cut at a byte: parts, joints, doubled bytes. No program. -/
import Derived.Lib.SplitLaws
import Derived.Lib.IndexMore
import Derived.Lib.IndexLaws
import Derived.Lib.CountLaws
import Derived.Lib.Join
namespace Go.Txt
open Go
/-- The parts of a text between the bytes c. -/
def parts (c:UInt8):List UInt8→List (List UInt8)
 | []=>[[]]
 | b::l=>if b=c then []::parts c l else match parts c l with
  | h::t=>(b::h)::t
  | []=>[[b]]
end Go.Txt
