/- bits.TrailingZeros at 16. -/
import Derived.Test.YtlgnmgbnbomckaaGreatDoorProg
import Derived.WalkKit
import Derived.Lib.LaidTab
namespace Go.Proofs.YtlgnmgbnbomckaaGreatDoor
open Go.RowKit
def dbTab : List Int := [0, 1, 56, 2, 57, 49, 28, 3, 61, 58, 42, 50, 38, 29, 17, 4, 62, 47, 59, 36, 45, 43, 51, 22, 53, 39, 33, 30, 24, 18, 12, 5, 63, 55, 48, 27, 60, 41, 37, 16, 46, 35, 44, 21, 52, 32, 23, 11, 54, 26, 40, 15, 34, 20, 31, 10, 25, 14, 19, 9, 13, 8, 7, 6]
theorem tz16 (w : World) (h : Lib.TabIs Tryz.prog w "math/bits.deBruijn64tab" .u8 dbTab) : Calls Tryz.prog 130 #[.int .u64 16] w fun e w' => e = .returned (.int .i64 4) ∧ w' = w := by
 have hg : Tryz.prog.globalNamed "math/bits.deBruijn64tab" = some 7 := by kernel_rfl
 have hc : w.cell? ⟨7, 15, none⟩ = some (.int .u8 4) := h.cell hg 15 (by decide)
 have e : IntKind.u64.wrap (bits BinOp.and IntKind.u64 16 (IntKind.u64.wrap (-16)) * 285870213051353865) / 288230376151711744 = 15 := by kernel_rfl
 clear h hg
 go_enter Tryz.func130, Tryz.ntmps130
 go_wp2
 go_ret
 exact ⟨rfl, rfl⟩
end Go.Proofs.YtlgnmgbnbomckaaGreatDoor
