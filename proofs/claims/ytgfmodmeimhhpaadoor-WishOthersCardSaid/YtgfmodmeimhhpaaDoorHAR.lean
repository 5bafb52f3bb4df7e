/- Blocks of eleven cells: attributes in the heap. -/
import Derived.Test.YtgfmodmeimhhpaaDoorHAS
import Derived.Test.YtgfmodmeimhhpaaDoorChecked
import Derived.Shelf.RegionOpenPlain
import Derived.Lib.Walk
import Derived.Handy
import Derived.Test.YtgfmodmeimhhpaaDoorJC
namespace Go.Proofs.YtgfmodmeimhhpaaDoor
open Go.RowKit Go.Lib Go.VM
theorem res28(W:World)(b:Nat)(tmps:Array Value)(x0 x1 x2 x3 x4 x5 x6 x7 x8 x9 x10:Value)(ht:tmps[6]?.getD Go.undef=.pointer (some ⟨b,0,none⟩))(h:blk11 W b x0 x1 x2 x3 x4 x5 x6 x7 x8 x9 x10):(results Tryd.f20 tmps).run Tryd.prog W=.ok (.agg #[x0,x1,x2,x3,x4,x5,x6,x7,x8,x9,x10]) W:=by obtain⟨q0,q1,q2,q3,q4,q5,q6,q7,q8,q9,q10⟩:=(c11_of h).1;simp[results,Tryd.results28,ht,go_sem,q0,q1,q2,q3,q4,q5,q6,q7,q8,q9,q10]
theorem res63(W:World)(b:Nat)(tmps:Array Value)(x0 x1 x2 x3 x4 x5 x6 x7 x8 x9 x10:Value)(ht:tmps[0]?.getD Go.undef=.pointer (some ⟨b,0,none⟩))(h:blk11 W b x0 x1 x2 x3 x4 x5 x6 x7 x8 x9 x10):(results Tryd.f30 tmps).run Tryd.prog W=.ok (.agg #[x0,x1,x2,x3,x4,x5,x6,x7,x8,x9,x10]) W:=by obtain⟨q0,q1,q2,q3,q4,q5,q6,q7,q8,q9,q10⟩:=(c11_of h).1;simp[results,Tryd.results63,ht,go_sem,q0,q1,q2,q3,q4,q5,q6,q7,q8,q9,q10]
abbrev eAttr:Array Value:=#[.int .i64 (-1),.slice none 0 0,.bool false,.int .u64 0,.int .u64 0,.int .i64 (-1),.int .i64 (-1),.int .i64 (-1),.slice none 0 0,.slice none 0 0,.slice none 0 0]
abbrev zAttr:Array Value:=#[.int .i64 0,.slice none 0 0,.bool false,.int .u64 0,.int .u64 0,.int .i64 0,.int .i64 0,.int .i64 0,.slice none 0 0,.slice none 0 0,.slice none 0 0]
set_option maxHeartbeats 4000000 in
set_option maxRecDepth 100000 in
theorem empty_call(w:World):Calls Tryd.prog 30 #[] w fun e w'=>e=.returned (.agg eAttr)/\Below w.heap.size w w':=by
 go_enter Tryd.func30,Tryd.ntmps30
 go_wp2
 refine bodyPost_ret (v:=.agg eAttr) ?_ rfl ?_
 .exact res63 _ w.heap.size _ _ _ _ _ _ _ _ _ _ _ _ rfl (heap_alloc_new _ _)
 .exact⟨rfl,(Below.refl _ w).alloc (Nat.le_refl _) _⟩
end Go.Proofs.YtgfmodmeimhhpaaDoor
