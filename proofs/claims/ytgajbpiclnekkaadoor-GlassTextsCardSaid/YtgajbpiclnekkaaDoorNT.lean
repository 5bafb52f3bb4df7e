/- The functions that the laws reach: how they are compiled and read. Definitions alone. -/
import Derived.Test.YtgajbpiclnekkaaDoorTC
import Derived.Test.YtgajbpiclnekkaaDoorProg
import Derived.KernelRfl
namespace Go.Proofs.YtgajbpiclnekkaaDoor
open Go.VM
set_option maxRecDepth 100000
abbrev t0 : Ty := .pair (.int .i64) (.int .i64)
abbrev t1 : Ty := .pair (.int .i64) t0
abbrev t2 : Ty := .pair (.int .i64) t1
def q : Nat → List SY → List (Nat × SY)
  | _, [] => []
  | n, s :: r => (n, s) :: q (n + 1) r
abbrev y0 : SY := .d (.int .i64)
abbrev y1 : SY := .d .bool
abbrev y2 : SY := .d .str
abbrev y3 : SY := .d (.st t2)
abbrev y4 : SY := .reg (.st t2)
abbrev y5 : SY := .d (.sl .str)
abbrev y6 : SY := .d (.sl (.int .i64))
abbrev y7 : SY := .tup [.st t2, .int .i64]
abbrev y8 : SY := .d (.int .u8)
abbrev y9 : SY := .d (.sl (.int .u8))
abbrev y10 : SY := .ep (.int .i64) 0 (some (4, none))
noncomputable def hh3 : Hints := ⟨[],[(4,.r 4),(47,.e []),(62,.e []),(13,.r 13),(15,.r 15)],[],[20,22,24,27,29,31,34,36,43,45,66,71,83],[],[]⟩
noncomputable def vf3 : VF := vfOf Tryd.prog hh3 [0,1,2,3,4,8,9,10,12,13,14,15,16,19,25,58,59,60,61,81] [] Tryd.f3
noncomputable def fi3 : FI := ⟨q 0 [y3,y2,y0,y0,y4]++q 8 [y1]++q 17 [y2,y0,y1,y1,y3,y2,y3,y2,y1,y0,y0,y0,y0,y0,y0,y0,y0,y0,y3,y2]++q 9 [y2]++q 37 [y2,y9]++q 10 [y9]++q 39 [y9,y0,y9,y0,y0,y0,y0,y8,.ep (.int .u8) 0 (some (10,none)),y2,y2,y9,y2,y2,y2,y2,y2,y2,y2,y5,y0,y0,y1,.ep .str 0 (some (58,none)),y2]++q 12 [y2]++q 65 [y2,y7]++q 64 [y7]++q 67 [y3,y0]++q 13 [y4,y0]++q 70 [y2,y7]++q 69 [y7]++q 72 [y3,y0]++q 15 [y4,y0]++q 74 [y3,y3,y1,y1,y0,y0,y1,y1,y0,y1],[.n,.n,.j [],.l [58,59,60] none,.n,.n,.n]⟩
noncomputable def hh4 : Hints := ⟨[],[(1,.r 1),(2,.r 2),(4,.r 4)],[],[8,12,16],[],[]⟩
noncomputable def vf4 : VF := vfOf Tryd.prog hh4 [0,1,2,3,5] [] Tryd.f4
noncomputable def fi4 : FI := ⟨q 0 [y1]++q 6 [y3]++q 1 [y4]++q 8 [y7]++q 7 [y7]++q 9 [y3,y0]++q 2 [y4,y0]++q 12 [y7]++q 11 [y7]++q 13 [y3,y0]++q 4 [y4,y0]++q 15 [y3,y2,y1,y1,y0,y1,y1,y1,y3,y3,y1,y1,y1,y0,y1,y1],[]⟩
noncomputable def hh5 : Hints := ⟨[],[(6,.r 1),(8,.r 1),(10,.r 1),(12,.r 1),(18,.e [])],[],[22,27],[],[]⟩
noncomputable def vf5 : VF := vfOf Tryd.prog hh5 [0,1,2,3,5,14,15,16,17] [] Tryd.f5
noncomputable def fi5 : FI := ⟨q 0 [y3,y4,y2,y5]++q 6 [.rp 1 0,y0,.rp 1 1,y0,.rp 1 2,y0,.rp 1 3,y0,y6,y0,y0,y1,.ep (.int .i64) 0 (some (14,none)),y0]++q 5 [y0]++q 20 [y5,y0,y2,y5,y5,y0,y5,y2],[.j [3],.l [3,14,15,16] (some [(16,⟨[],none⟩),(15,⟨[],none⟩),(14,⟨[(0,⟨[960],true,true,true,true,none⟩)],none⟩),(3,⟨[(0,⟨[1600],true,true,true,true,none⟩)],none⟩)]),.n,.n]⟩
noncomputable def hh6 : Hints := ⟨[],[(3,.r 1),(7,.r 1),(12,.r 1),(17,.r 1)],[],[5,9,14,19],[],[]⟩
noncomputable def vf6 : VF := vfOf Tryd.prog hh6 [0,1,2] [] Tryd.f6
noncomputable def fi6 : FI := ⟨q 0 [y3,y4,y2,.rp 1 0,y0,y2,y2,.rp 1 1,y0,y2,y2,y2,.rp 1 2,y0,y2,y2,y2,.rp 1 3,y0,y2,y2],[]⟩
noncomputable def hh7 : Hints := ⟨[],[],[],[],[],[]⟩
noncomputable def vf7 : VF := vfOf Tryd.prog hh7 [0,1,4,5,10] [] Tryd.f7
noncomputable def fi7 : FI := ⟨q 0 [y0,y0]++q 4 [y0]++q 6 [y0,y0,y0]++q 5 [y0]++q 9 [y0,y1,y0,y0,y0,y0],[.j [5]]⟩
noncomputable def hh8 : Hints := ⟨[],[(2,.r 2),(21,.e []),(47,.r 5),(49,.r 5),(51,.r 5),(53,.r 5),(55,.r 5)],[],[11,25,32],[],[]⟩
noncomputable def vf8 : VF := vfOf Tryd.prog hh8 [0,2,3,4,5,6,7,8,9,14,16,17,18,19,43] [] Tryd.f8
noncomputable def fi8 : FI := ⟨q 0 [y2]++q 2 [y4,y0]++q 10 [y2,y5]++q 4 [y5]++q 12 [y5,y0,y1,y3]++q 5 [y4]++q 16 [y5,y0,y0,y1,y0,.ep .str 0 (some (4,none)),y2]++q 6 [y0,y2]++q 24 [y2,.tup [.int .i64,.err]]++q 23 [.tup [.int .i64,.err]]++q 26 [y0,.d .err]++q 8 [y0,.d .err]++q 28 [.d .err,y1,y1,y0,y2,y2,y1,y1,y1,y0,y1,y1,y1,y0,y1,y1,y3,y0,y0,.rx 5 0 4 (.int .i64),y0,.rp 5 0,y0,.rp 5 1,y0,.rp 5 2,y0,.rp 5 3,y0,y3],[.n,.j [2,5],.l [2,5,16,17,18] none,.n,.n,.n]⟩
noncomputable def hh9 : Hints := ⟨[],[(2,.r 2),(98,.e []),(101,.e []),(104,.e []),(107,.e []),(10,.r 10)],[],[111],[(99,[10]),(102,[10]),(105,[10]),(108,[10])],[]⟩
noncomputable def vf9 : VF := vfOf Tryd.prog hh9 [0,2,3,4,5,6,7,8,9,10,13,18,29,54,83,95,113] [] Tryd.f9
noncomputable def fi9 : FI := ⟨q 0 [y2]++q 2 [y4,y0]++q 11 [y2,y0,y1,y3]++q 4 [y6,y0]++q 15 [y0,y2,y0,y1,y0]++q 6 [y0,y0]++q 20 [y0,y2,y0,y1,y1,y2,y0,y8,y1,y1,y0,y0,y0]++q 8 [y0,y0]++q 33 [y0,y2,y0,y1,y1,y2,y0,y8,y1,y1,y1,y2,y0,y8,y1,y1,y1,y0,y0,y0,y1,y1,y0,y0,y2,y0,y8,y8,y0,y0,y0,y0,y0,y0,y1,y1,y0,y1,y1,y1,y0,y2,y0,y1,y1,y2,y0,y8,y1,y1,y1,y3,y6,y0,y0,y0,y6,y6,y0,y0,y6,y0,y1,y3,y6,y10,y0,y6,y10,y0,y6,y10,y0,y6,y10,y0,y3]++q 10 [y4]++q 110 [y3,y2,y2,y1,y3,y3],[.n,.j [0,2,4],.l [0,2,4,5] (some [(5,⟨[],none⟩),(4,⟨[(0,⟨[5824],true,true,true,true,none⟩)],none⟩),(2,⟨[],none⟩),(0,⟨[],none⟩)]),.n,.j [0,2,4,5],.j [0,2,4,6,7],.j [0,2,4,6,7,8,9],.l [0,2,4,6,7,8,9] (some [(9,⟨[],none⟩),(8,⟨[],none⟩),(7,⟨[],none⟩),(6,⟨[],none⟩),(4,⟨[(0,⟨[5824],true,true,true,true,none⟩)],none⟩),(2,⟨[],none⟩),(0,⟨[],none⟩)]),.n,.n,.n,.n,.n]⟩
noncomputable def FT : Nat → Option Entry
  | 3 => some (.code vf3)
  | 4 => some (.code vf4)
  | 5 => some (.code vf5)
  | 6 => some (.code vf6)
  | 7 => some (.code vf7)
  | 8 => some (.code vf8)
  | 9 => some (.code vf9)
  | 10 => some (.prim [] (pF gItoa))
  | 11 => some (.prim [] pJoin)
  | 12 => some (.prim [] (pF gSplit))
  | 13 => some (.prim [] (pF (gParseInt 60)))
  | 14 => some (.prim [] (pF gFormatInt))
  | _ => none
noncomputable def sgN : Nat → Sg
  | 10 => ⟨[.d (.int .i64)], [(.str, [])], none⟩
  | 11 => ⟨[.d (.sl .str), .d .str], [(.str, [])], none⟩
  | 12 => ⟨[.d .str, .d .str], [(.sl .str, [])], none⟩
  | 13 => ⟨[.d .str, .d (.int .i64), .d (.int .i64)], [(.int .i64, []), (.err, [])], none⟩
  | 14 => ⟨[.d (.int .i64), .d (.int .i64)], [(.str, [])], none⟩
  | 3 => ⟨[.d (.st t2), .d .str, .d (.int .i64), .d (.int .i64)], [(.bool, [])], none⟩
  | 4 => ⟨[], [(.bool, [])], none⟩
  | 5 => ⟨[.d (.st t2)], [(.str, [])], none⟩
  | 6 => ⟨[.d (.st t2)], [(.str, [])], none⟩
  | 7 => ⟨[.d (.int .i64), .d (.int .i64)], [(.int .i64, [])], none⟩
  | 8 => ⟨[.d .str], [(.st t2, []), (.int .i64, [])], none⟩
  | 9 => ⟨[.d .str], [(.st t2, []), (.int .i64, [])], none⟩
  | _ => ⟨[], [], none⟩
noncomputable def vsN : Nat → Sig
  | 3 => ⟨[], true⟩
  | 4 => ⟨[], true⟩
  | 5 => ⟨[], true⟩
  | 6 => ⟨[], true⟩
  | 7 => ⟨[], true⟩
  | 8 => ⟨[], true⟩
  | 9 => ⟨[], true⟩
  | 10 => ⟨[], true⟩
  | 11 => ⟨[], true⟩
  | 12 => ⟨[], true⟩
  | 13 => ⟨[], true⟩
  | 14 => ⟨[], true⟩
  | _ => ⟨[], false⟩
noncomputable def TN : (f : Nat) → NE (sgN f)
  | 3 => .code fi3 vf3
  | 4 => .code fi4 vf4
  | 5 => .code fi5 vf5
  | 6 => .code fi6 vf6
  | 7 => .code fi7 vf7
  | 8 => .code fi8 vf8
  | 9 => .code fi9 vf9
  | 10 => .prim (qF gItoa _)
  | 11 => .prim qJoin
  | 12 => .prim (qF gSplit _)
  | 13 => .prim (qF (gParseInt 60) _)
  | 14 => .prim (qF gFormatInt _)
  | _ => .no
end Go.Proofs.YtgajbpiclnekkaaDoor
