/- The functions that the laws reach, as the plain machine has them: each held against the given program by the kernel. -/
import Derived.Test.YtndaipcfahfkkaaVM35
import Derived.Test.YtndaipcfahfkkaaProg
import Derived.KernelRfl
import Derived.Test.YtndaipcfahfkkaaLib
namespace Go.Proofs.Ytndaipcfahfkkaa
open Go.VM
set_option maxRecDepth 100000
variable {cf : CallF} {sg : Nat → Sig} {m clk : Nat} {tips : Nat → Nat} {lk : Nat → Bool} {bx : BX} {k : Ex → St → Res}

/- exchangepoint/exchangepointlaw04.EtherAddresses -/
@[simp] def r3_1 : List VOper := [⟨some 5, .boxR 6 (.tmp 0), none⟩, ⟨some 7, .boxR 3 (.tmp 2), none⟩, ⟨some 10, .mv (.const (.bool false)), none⟩]
def c3_1 : VC := .region r3_1
@[simp] theorem e3_1 {v0 v1 v2 v3 v4 v5 v7 v10 v11 v13 v15 v16 v17 v18 v19 v22 v40 v41 v42 v43 v73 v84 v85 v86 v87 v107 : V} : execK cf sg m c3_1 ⟨clk, [(0, v0), (1, v1), (2, v2), (3, v3), (4, v4), (5, v5), (7, v7), (10, v10), (11, v11), (13, v13), (15, v15), (16, v16), (17, v17), (18, v18), (19, v19), (22, v22), (40, v40), (41, v41), (42, v42), (43, v43), (73, v73), (84, v84), (85, v85), (86, v86), (87, v87), (107, v107)], tips, lk, bx⟩ k = runK cf sg tips r3_1 ⟨clk + 1, [(0, v0), (1, v1), (2, v2), (3, v3), (4, v4), (5, v5), (7, v7), (10, v10), (11, v11), (13, v13), (15, v15), (16, v16), (17, v17), (18, v18), (19, v19), (22, v22), (40, v40), (41, v41), (42, v42), (43, v43), (73, v73), (84, v84), (85, v85), (86, v86), (87, v87), (107, v107)], tips, lk, bx⟩ (endK 26 k) := execK_region
@[simp] def r3_4 : List VOper := [⟨some 20, .mv (.tmp 1), none⟩, ⟨some 21, .len true (.tmp 20), none⟩, ⟨some 22, .bin .gtr (.tmp 21) (.const (.int .i64 600)), none⟩]
def c3_4 : VC := .region r3_4
@[simp] theorem e3_4 {v0 v1 v2 v3 v4 v5 v7 v10 v11 v13 v15 v16 v17 v18 v19 v22 v40 v41 v42 v43 v73 v84 v85 v86 v87 v107 : V} : execK cf sg m c3_4 ⟨clk, [(0, v0), (1, v1), (2, v2), (3, v3), (4, v4), (5, v5), (7, v7), (10, v10), (11, v11), (13, v13), (15, v15), (16, v16), (17, v17), (18, v18), (19, v19), (22, v22), (40, v40), (41, v41), (42, v42), (43, v43), (73, v73), (84, v84), (85, v85), (86, v86), (87, v87), (107, v107)], tips, lk, bx⟩ k = runK cf sg tips r3_4 ⟨clk + 1, [(0, v0), (1, v1), (2, v2), (3, v3), (4, v4), (5, v5), (7, v7), (10, v10), (11, v11), (13, v13), (15, v15), (16, v16), (17, v17), (18, v18), (19, v19), (22, v22), (40, v40), (41, v41), (42, v42), (43, v43), (73, v73), (84, v84), (85, v85), (86, v86), (87, v87), (107, v107)], tips, lk, bx⟩ (endK 26 k) := execK_region
@[simp] def r3_7 : List VOper := [⟨some 23, .call 8 [] true [], none⟩, ⟨some 10, .mv (.tmp 23), none⟩]
def c3_7 : VC := .region r3_7
@[simp] theorem e3_7 {v0 v1 v2 v3 v4 v5 v7 v10 v11 v13 v15 v16 v17 v18 v19 v22 v40 v41 v42 v43 v73 v84 v85 v86 v87 v107 : V} : execK cf sg m c3_7 ⟨clk, [(0, v0), (1, v1), (2, v2), (3, v3), (4, v4), (5, v5), (7, v7), (10, v10), (11, v11), (13, v13), (15, v15), (16, v16), (17, v17), (18, v18), (19, v19), (22, v22), (40, v40), (41, v41), (42, v42), (43, v43), (73, v73), (84, v84), (85, v85), (86, v86), (87, v87), (107, v107)], tips, lk, bx⟩ k = runK cf sg tips r3_7 ⟨clk + 1, [(0, v0), (1, v1), (2, v2), (3, v3), (4, v4), (5, v5), (7, v7), (10, v10), (11, v11), (13, v13), (15, v15), (16, v16), (17, v17), (18, v18), (19, v19), (22, v22), (40, v40), (41, v41), (42, v42), (43, v43), (73, v73), (84, v84), (85, v85), (86, v86), (87, v87), (107, v107)], tips, lk, bx⟩ (endK 26 k) := execK_region
def c3_8 : VC := .ret
@[simp] theorem e3_8 {e : Env} : execK cf sg m c3_8 ⟨clk, e, tips, lk, bx⟩ k = execK cf sg m (.ret) ⟨clk, e, tips, lk, bx⟩ k := rfl
def c3_6 : VC := .seq c3_7 c3_8
@[simp] theorem e3_6 {e : Env} : execK cf sg m c3_6 ⟨clk, e, tips, lk, bx⟩ k = execK cf sg m (.seq c3_7 c3_8) ⟨clk, e, tips, lk, bx⟩ k := rfl
def c3_9 : VC := .skip
@[simp] theorem e3_9 {e : Env} : execK cf sg m c3_9 ⟨clk, e, tips, lk, bx⟩ k = execK cf sg m (.skip) ⟨clk, e, tips, lk, bx⟩ k := rfl
def c3_5 : VC := .cond (.tmp 22) c3_6 c3_9
@[simp] theorem e3_5 {e : Env} : execK cf sg m c3_5 ⟨clk, e, tips, lk, bx⟩ k = execK cf sg m (.cond (.tmp 22) c3_6 c3_9) ⟨clk, e, tips, lk, bx⟩ k := rfl
def c3_3 : VC := .seq c3_4 c3_5
@[simp] theorem e3_3 {e : Env} : execK cf sg m c3_3 ⟨clk, e, tips, lk, bx⟩ k = execK cf sg m (.seq c3_4 c3_5) ⟨clk, e, tips, lk, bx⟩ k := rfl
@[simp] def r3_11 : List VOper := [⟨some 24, .mv (.tmp 4), none⟩, ⟨some 25, .call 9 [.tmp 24, .const (.int .i64 2)] true [], none⟩, ⟨some 26, .convI .u8 (.tmp 25), none⟩, ⟨some 27, .mv (.tmp 3), none⟩, ⟨some 28, .call 9 [.tmp 27, .const (.int .i64 32)] true [], none⟩, ⟨some 29, .convI .u8 (.tmp 28), none⟩, ⟨some 30, .build [.int .u8 0, .int .u8 0, .int .u8 0, .int .u8 0, .int .u8 0, .int .u8 0] [(0, 1, .const (.int .u8 1)), (1, 1, .const (.int .u8 128)), (2, 1, .const (.int .u8 194)), (3, 1, .const (.int .u8 0)), (4, 1, .tmp 26), (5, 1, .tmp 29)], none⟩, ⟨some 11, .allocR [.int .u8 0, .int .u8 0, .int .u8 0, .int .u8 0, .int .u8 0, .int .u8 0], none⟩, ⟨none, .store (.r 11) 6 (.tmp 11) (.tmp 30), none⟩]
def c3_11 : VC := .region r3_11
@[simp] theorem e3_11 {v0 v1 v2 v3 v4 v5 v7 v10 v11 v13 v15 v16 v17 v18 v19 v22 v40 v41 v42 v43 v73 v84 v85 v86 v87 v107 : V} : execK cf sg m c3_11 ⟨clk, [(0, v0), (1, v1), (2, v2), (3, v3), (4, v4), (5, v5), (7, v7), (10, v10), (11, v11), (13, v13), (15, v15), (16, v16), (17, v17), (18, v18), (19, v19), (22, v22), (40, v40), (41, v41), (42, v42), (43, v43), (73, v73), (84, v84), (85, v85), (86, v86), (87, v87), (107, v107)], tips, lk, bx⟩ k = runK cf sg tips r3_11 ⟨clk + 1, [(0, v0), (1, v1), (2, v2), (3, v3), (4, v4), (5, v5), (7, v7), (10, v10), (11, v11), (13, v13), (15, v15), (16, v16), (17, v17), (18, v18), (19, v19), (22, v22), (40, v40), (41, v41), (42, v42), (43, v43), (73, v73), (84, v84), (85, v85), (86, v86), (87, v87), (107, v107)], tips, lk, bx⟩ (endK 26 k) := execK_region
@[simp] def r3_14 : List VOper := [⟨some 31, .load (.r 5) true 6 (.tmp 5), none⟩, ⟨some 32, .load (.r 11) true 6 (.tmp 11), none⟩, ⟨some 33, .mv (.tmp 3), none⟩, ⟨some 34, .call 9 [.tmp 33, .const (.int .i64 32)] true [], none⟩, ⟨some 35, .convI .u8 (.tmp 34), none⟩, ⟨some 36, .build [.int .u8 0, .int .u8 0, .int .u8 0, .int .u8 0, .int .u8 0, .int .u8 0] [(0, 1, .const (.int .u8 1)), (1, 1, .const (.int .u8 128)), (2, 1, .const (.int .u8 194)), (3, 1, .const (.int .u8 0)), (4, 1, .const (.int .u8 0)), (5, 1, .tmp 35)], none⟩, ⟨some 37, .mv (.tmp 4), none⟩, ⟨some 38, .convI .u8 (.tmp 37), none⟩, ⟨some 39, .build [.int .u8 0, .int .u8 0, .int .u8 0, .int .u8 0, .int .u8 0, .int .u8 0] [(0, 1, .const (.int .u8 255)), (1, 1, .const (.int .u8 255)), (2, 1, .const (.int .u8 255)), (3, 1, .const (.int .u8 255)), (4, 1, .const (.int .u8 255)), (5, 1, .tmp 38)], none⟩, ⟨some 40, .bslice false 6 4 [.int .u8 0, .int .u8 0, .int .u8 0, .int .u8 0, .int .u8 0, .int .u8 0] [(0, 6, .tmp 31), (6, 6, .tmp 32), (12, 6, .tmp 36), (18, 6, .tmp 39)], none⟩, ⟨some 41, .len false (.tmp 40), none⟩, ⟨some 42, .mv (.const (.int .i64 0)), none⟩]
def c3_14 : VC := .region r3_14
@[simp] theorem e3_14 {v0 v1 v2 v3 v4 v5 v7 v10 v11 v13 v15 v16 v17 v18 v19 v22 v40 v41 v42 v43 v73 v84 v85 v86 v87 v107 : V} : execK cf sg m c3_14 ⟨clk, [(0, v0), (1, v1), (2, v2), (3, v3), (4, v4), (5, v5), (7, v7), (10, v10), (11, v11), (13, v13), (15, v15), (16, v16), (17, v17), (18, v18), (19, v19), (22, v22), (40, v40), (41, v41), (42, v42), (43, v43), (73, v73), (84, v84), (85, v85), (86, v86), (87, v87), (107, v107)], tips, lk, bx⟩ k = runK cf sg (bump tips [(nmOf 40 0)]) r3_14 ⟨clk + 1, [(0, v0), (1, v1), (2, v2), (3, v3), (4, v4), (5, v5), (7, v7), (10, v10), (11, v11), (13, v13), (15, v15), (16, v16), (17, v17), (18, v18), (19, v19), (22, v22), (40, v40), (41, v41), (42, v42), (43, v43), (73, v73), (84, v84), (85, v85), (86, v86), (87, v87), (107, v107)], bump tips [(nmOf 40 0)], updL lk false [(nmOf 40 0)], bx⟩ (endK 26 k) := execK_region
@[simp] def r3_18 : List VOper := [⟨some 43, .bin .lss (.tmp 42) (.tmp 41), none⟩]
def c3_18 : VC := .region r3_18
@[simp] theorem e3_18 {v0 v1 v2 v3 v4 v5 v7 v10 v11 v13 v15 v16 v17 v18 v19 v22 v40 v41 v42 v43 v73 v84 v85 v86 v87 v107 : V} : execK cf sg m c3_18 ⟨clk, [(0, v0), (1, v1), (2, v2), (3, v3), (4, v4), (5, v5), (7, v7), (10, v10), (11, v11), (13, v13), (15, v15), (16, v16), (17, v17), (18, v18), (19, v19), (22, v22), (40, v40), (41, v41), (42, v42), (43, v43), (73, v73), (84, v84), (85, v85), (86, v86), (87, v87), (107, v107)], tips, lk, bx⟩ k = runK cf sg tips r3_18 ⟨clk + 1, [(0, v0), (1, v1), (2, v2), (3, v3), (4, v4), (5, v5), (7, v7), (10, v10), (11, v11), (13, v13), (15, v15), (16, v16), (17, v17), (18, v18), (19, v19), (22, v22), (40, v40), (41, v41), (42, v42), (43, v43), (73, v73), (84, v84), (85, v85), (86, v86), (87, v87), (107, v107)], tips, lk, bx⟩ (endK 26 k) := execK_region
def c3_21 : VC := .skip
@[simp] theorem e3_21 {e : Env} : execK cf sg m c3_21 ⟨clk, e, tips, lk, bx⟩ k = execK cf sg m (.skip) ⟨clk, e, tips, lk, bx⟩ k := rfl
def c3_22 : VC := .exit 0
@[simp] theorem e3_22 {e : Env} : execK cf sg m c3_22 ⟨clk, e, tips, lk, bx⟩ k = execK cf sg m (.exit 0) ⟨clk, e, tips, lk, bx⟩ k := rfl
def c3_20 : VC := .cond (.tmp 43) c3_21 c3_22
@[simp] theorem e3_20 {e : Env} : execK cf sg m c3_20 ⟨clk, e, tips, lk, bx⟩ k = execK cf sg m (.cond (.tmp 43) c3_21 c3_22) ⟨clk, e, tips, lk, bx⟩ k := rfl
@[simp] def r3_26 : List VOper := [⟨some 44, .idxS 6 (.tmp 40) (.tmp 42), none⟩, ⟨some 45, .load (.e []) true 6 (.tmp 44), none⟩, ⟨some 13, .allocR [.int .u8 0, .int .u8 0, .int .u8 0, .int .u8 0, .int .u8 0, .int .u8 0], none⟩, ⟨none, .store (.r 13) 6 (.tmp 13) (.tmp 45), none⟩]
def c3_26 : VC := .region r3_26
@[simp] theorem e3_26 {v0 v1 v2 v3 v4 v5 v7 v10 v11 v13 v15 v16 v17 v18 v19 v22 v40 v41 v42 v43 v73 v84 v85 v86 v87 v107 : V} : execK cf sg m c3_26 ⟨clk, [(0, v0), (1, v1), (2, v2), (3, v3), (4, v4), (5, v5), (7, v7), (10, v10), (11, v11), (13, v13), (15, v15), (16, v16), (17, v17), (18, v18), (19, v19), (22, v22), (40, v40), (41, v41), (42, v42), (43, v43), (73, v73), (84, v84), (85, v85), (86, v86), (87, v87), (107, v107)], tips, lk, bx⟩ k = runK cf sg tips r3_26 ⟨clk + 1, [(0, v0), (1, v1), (2, v2), (3, v3), (4, v4), (5, v5), (7, v7), (10, v10), (11, v11), (13, v13), (15, v15), (16, v16), (17, v17), (18, v18), (19, v19), (22, v22), (40, v40), (41, v41), (42, v42), (43, v43), (73, v73), (84, v84), (85, v85), (86, v86), (87, v87), (107, v107)], tips, lk, bx⟩ (endK 26 k) := execK_region
@[simp] def r3_29 : List VOper := [⟨some 46, .load (.r 13) true 6 (.tmp 13), none⟩, ⟨some 47, .call 10 [.tmp 46] true [], none⟩, ⟨some 48, .load (.r 13) true 6 (.tmp 13), none⟩, ⟨some 49, .call 11 [.tmp 48] true [], none⟩, ⟨some 50, .bin .neq (.tmp 47) (.tmp 49), none⟩, ⟨some 51, .mv (.tmp 50), none⟩, ⟨some 52, .load (.r 13) true 6 (.tmp 13), some (51, false)⟩, ⟨some 53, .call 12 [.tmp 52] true [], some (51, false)⟩, ⟨some 54, .load (.r 13) true 6 (.tmp 13), some (51, false)⟩, ⟨some 55, .call 13 [.tmp 54] true [], some (51, false)⟩, ⟨some 56, .eq true .bool (.tmp 53) (.tmp 55), some (51, false)⟩, ⟨some 57, .pick (.tmp 51) (.const (.bool true)) (.tmp 56), none⟩, ⟨some 58, .mv (.tmp 57), none⟩, ⟨some 59, .load (.r 13) true 6 (.tmp 13), some (58, false)⟩, ⟨some 60, .call 14 [.tmp 59] true [], some (58, false)⟩, ⟨some 61, .load (.r 13) true 6 (.tmp 13), some (58, false)⟩, ⟨some 62, .call 15 [.tmp 61] true [], some (58, false)⟩, ⟨some 63, .eq true .bool (.tmp 60) (.tmp 62), some (58, false)⟩, ⟨some 64, .pick (.tmp 58) (.const (.bool true)) (.tmp 63), none⟩, ⟨some 65, .mv (.tmp 64), none⟩, ⟨some 66, .call 16 [] true [], some (65, false)⟩, ⟨some 67, .load (.r 13) true 6 (.tmp 13), some (65, false)⟩, ⟨some 68, .eq false (.flat [.i, .i, .i, .i, .i, .i]) (.tmp 66) (.tmp 67), some (65, false)⟩, ⟨some 69, .call 17 [] true [], some (65, false)⟩, ⟨some 70, .load (.r 13) true 6 (.tmp 13), some (65, false)⟩, ⟨some 71, .eq false (.flat [.i, .i, .i, .i, .i, .i]) (.tmp 69) (.tmp 70), some (65, false)⟩, ⟨some 72, .eq true .bool (.tmp 68) (.tmp 71), some (65, false)⟩, ⟨some 73, .pick (.tmp 65) (.const (.bool true)) (.tmp 72), none⟩]
def c3_29 : VC := .region r3_29
@[simp] theorem e3_29 {v0 v1 v2 v3 v4 v5 v7 v10 v11 v13 v15 v16 v17 v18 v19 v22 v40 v41 v42 v43 v73 v84 v85 v86 v87 v107 : V} : execK cf sg m c3_29 ⟨clk, [(0, v0), (1, v1), (2, v2), (3, v3), (4, v4), (5, v5), (7, v7), (10, v10), (11, v11), (13, v13), (15, v15), (16, v16), (17, v17), (18, v18), (19, v19), (22, v22), (40, v40), (41, v41), (42, v42), (43, v43), (73, v73), (84, v84), (85, v85), (86, v86), (87, v87), (107, v107)], tips, lk, bx⟩ k = runK cf sg tips r3_29 ⟨clk + 1, [(0, v0), (1, v1), (2, v2), (3, v3), (4, v4), (5, v5), (7, v7), (10, v10), (11, v11), (13, v13), (15, v15), (16, v16), (17, v17), (18, v18), (19, v19), (22, v22), (40, v40), (41, v41), (42, v42), (43, v43), (73, v73), (84, v84), (85, v85), (86, v86), (87, v87), (107, v107)], tips, lk, bx⟩ (endK 26 k) := execK_region
@[simp] def r3_32 : List VOper := [⟨some 10, .mv (.const (.bool false)), none⟩]
def c3_32 : VC := .region r3_32
@[simp] theorem e3_32 {v0 v1 v2 v3 v4 v5 v7 v10 v11 v13 v15 v16 v17 v18 v19 v22 v40 v41 v42 v43 v73 v84 v85 v86 v87 v107 : V} : execK cf sg m c3_32 ⟨clk, [(0, v0), (1, v1), (2, v2), (3, v3), (4, v4), (5, v5), (7, v7), (10, v10), (11, v11), (13, v13), (15, v15), (16, v16), (17, v17), (18, v18), (19, v19), (22, v22), (40, v40), (41, v41), (42, v42), (43, v43), (73, v73), (84, v84), (85, v85), (86, v86), (87, v87), (107, v107)], tips, lk, bx⟩ k = runK cf sg tips r3_32 ⟨clk + 1, [(0, v0), (1, v1), (2, v2), (3, v3), (4, v4), (5, v5), (7, v7), (10, v10), (11, v11), (13, v13), (15, v15), (16, v16), (17, v17), (18, v18), (19, v19), (22, v22), (40, v40), (41, v41), (42, v42), (43, v43), (73, v73), (84, v84), (85, v85), (86, v86), (87, v87), (107, v107)], tips, lk, bx⟩ (endK 26 k) := execK_region
def c3_33 : VC := .ret
@[simp] theorem e3_33 {e : Env} : execK cf sg m c3_33 ⟨clk, e, tips, lk, bx⟩ k = execK cf sg m (.ret) ⟨clk, e, tips, lk, bx⟩ k := rfl
def c3_31 : VC := .seq c3_32 c3_33
@[simp] theorem e3_31 {e : Env} : execK cf sg m c3_31 ⟨clk, e, tips, lk, bx⟩ k = execK cf sg m (.seq c3_32 c3_33) ⟨clk, e, tips, lk, bx⟩ k := rfl
def c3_34 : VC := .skip
@[simp] theorem e3_34 {e : Env} : execK cf sg m c3_34 ⟨clk, e, tips, lk, bx⟩ k = execK cf sg m (.skip) ⟨clk, e, tips, lk, bx⟩ k := rfl
def c3_30 : VC := .cond (.tmp 73) c3_31 c3_34
@[simp] theorem e3_30 {e : Env} : execK cf sg m c3_30 ⟨clk, e, tips, lk, bx⟩ k = execK cf sg m (.cond (.tmp 73) c3_31 c3_34) ⟨clk, e, tips, lk, bx⟩ k := rfl
def c3_28 : VC := .seq c3_29 c3_30
@[simp] theorem e3_28 {e : Env} : execK cf sg m c3_28 ⟨clk, e, tips, lk, bx⟩ k = execK cf sg m (.seq c3_29 c3_30) ⟨clk, e, tips, lk, bx⟩ k := rfl
@[simp] def r3_36 : List VOper := [⟨some 74, .mv (.tmp 1), none⟩, ⟨some 75, .load (.r 13) true 6 (.tmp 13), none⟩, ⟨some 76, .call 11 [.tmp 75] true [], none⟩, ⟨some 77, .load (.r 13) true 6 (.tmp 13), none⟩, ⟨some 78, .call 11 [.tmp 77] true [], none⟩, ⟨some 79, .toBytes (.tmp 78), none⟩, ⟨some 80, .mv (.tmp 3), none⟩, ⟨some 81, .mv (.tmp 4), none⟩, ⟨some 82, .call 18 [.tmp 79, .tmp 80, .tmp 81] true [], none⟩, ⟨some 83, .toStr (.tmp 82) [], none⟩, ⟨some 84, .bslice false 1 3 [.str []] [(0, 1, .tmp 74), (1, 1, .tmp 76), (2, 1, .tmp 83)], none⟩, ⟨some 85, .len false (.tmp 84), none⟩, ⟨some 86, .mv (.const (.int .i64 0)), none⟩]
def c3_36 : VC := .region r3_36
@[simp] theorem e3_36 {v0 v1 v2 v3 v4 v5 v7 v10 v11 v13 v15 v16 v17 v18 v19 v22 v40 v41 v42 v43 v73 v84 v85 v86 v87 v107 : V} : execK cf sg m c3_36 ⟨clk, [(0, v0), (1, v1), (2, v2), (3, v3), (4, v4), (5, v5), (7, v7), (10, v10), (11, v11), (13, v13), (15, v15), (16, v16), (17, v17), (18, v18), (19, v19), (22, v22), (40, v40), (41, v41), (42, v42), (43, v43), (73, v73), (84, v84), (85, v85), (86, v86), (87, v87), (107, v107)], tips, lk, bx⟩ k = runK cf sg (bump tips [(nmOf 84 0)]) r3_36 ⟨clk + 1, [(0, v0), (1, v1), (2, v2), (3, v3), (4, v4), (5, v5), (7, v7), (10, v10), (11, v11), (13, v13), (15, v15), (16, v16), (17, v17), (18, v18), (19, v19), (22, v22), (40, v40), (41, v41), (42, v42), (43, v43), (73, v73), (84, v84), (85, v85), (86, v86), (87, v87), (107, v107)], bump tips [(nmOf 84 0)], updL lk false [(nmOf 84 0)], bx⟩ (endK 26 k) := execK_region
@[simp] def r3_40 : List VOper := [⟨some 87, .bin .lss (.tmp 86) (.tmp 85), none⟩]
def c3_40 : VC := .region r3_40
@[simp] theorem e3_40 {v0 v1 v2 v3 v4 v5 v7 v10 v11 v13 v15 v16 v17 v18 v19 v22 v40 v41 v42 v43 v73 v84 v85 v86 v87 v107 : V} : execK cf sg m c3_40 ⟨clk, [(0, v0), (1, v1), (2, v2), (3, v3), (4, v4), (5, v5), (7, v7), (10, v10), (11, v11), (13, v13), (15, v15), (16, v16), (17, v17), (18, v18), (19, v19), (22, v22), (40, v40), (41, v41), (42, v42), (43, v43), (73, v73), (84, v84), (85, v85), (86, v86), (87, v87), (107, v107)], tips, lk, bx⟩ k = runK cf sg tips r3_40 ⟨clk + 1, [(0, v0), (1, v1), (2, v2), (3, v3), (4, v4), (5, v5), (7, v7), (10, v10), (11, v11), (13, v13), (15, v15), (16, v16), (17, v17), (18, v18), (19, v19), (22, v22), (40, v40), (41, v41), (42, v42), (43, v43), (73, v73), (84, v84), (85, v85), (86, v86), (87, v87), (107, v107)], tips, lk, bx⟩ (endK 26 k) := execK_region
def c3_43 : VC := .skip
@[simp] theorem e3_43 {e : Env} : execK cf sg m c3_43 ⟨clk, e, tips, lk, bx⟩ k = execK cf sg m (.skip) ⟨clk, e, tips, lk, bx⟩ k := rfl
def c3_44 : VC := .exit 2
@[simp] theorem e3_44 {e : Env} : execK cf sg m c3_44 ⟨clk, e, tips, lk, bx⟩ k = execK cf sg m (.exit 2) ⟨clk, e, tips, lk, bx⟩ k := rfl
def c3_42 : VC := .cond (.tmp 87) c3_43 c3_44
@[simp] theorem e3_42 {e : Env} : execK cf sg m c3_42 ⟨clk, e, tips, lk, bx⟩ k = execK cf sg m (.cond (.tmp 87) c3_43 c3_44) ⟨clk, e, tips, lk, bx⟩ k := rfl
@[simp] def r3_48 : List VOper := [⟨some 88, .idxS 1 (.tmp 84) (.tmp 86), none⟩, ⟨some 89, .load (.e []) false 1 (.tmp 88), none⟩, ⟨some 15, .mv (.tmp 89), none⟩]
def c3_48 : VC := .region r3_48
@[simp] theorem e3_48 {v0 v1 v2 v3 v4 v5 v7 v10 v11 v13 v15 v16 v17 v18 v19 v22 v40 v41 v42 v43 v73 v84 v85 v86 v87 v107 : V} : execK cf sg m c3_48 ⟨clk, [(0, v0), (1, v1), (2, v2), (3, v3), (4, v4), (5, v5), (7, v7), (10, v10), (11, v11), (13, v13), (15, v15), (16, v16), (17, v17), (18, v18), (19, v19), (22, v22), (40, v40), (41, v41), (42, v42), (43, v43), (73, v73), (84, v84), (85, v85), (86, v86), (87, v87), (107, v107)], tips, lk, bx⟩ k = runK cf sg tips r3_48 ⟨clk + 1, [(0, v0), (1, v1), (2, v2), (3, v3), (4, v4), (5, v5), (7, v7), (10, v10), (11, v11), (13, v13), (15, v15), (16, v16), (17, v17), (18, v18), (19, v19), (22, v22), (40, v40), (41, v41), (42, v42), (43, v43), (73, v73), (84, v84), (85, v85), (86, v86), (87, v87), (107, v107)], tips, lk, bx⟩ (endK 26 k) := execK_region
@[simp] def r3_50 : List VOper := [⟨some 91, .mv (.tmp 15), none⟩, ⟨some 92, .call 19 [.tmp 91] true [], none⟩, ⟨some 90, .mv (.tmp 92), none⟩, ⟨some 93, .extract 0 (.tmp 90), none⟩, ⟨some 94, .extract 1 (.tmp 90), none⟩, ⟨some 16, .allocR [.int .u8 0, .int .u8 0, .int .u8 0, .int .u8 0, .int .u8 0, .int .u8 0], none⟩, ⟨none, .store (.r 16) 6 (.tmp 16) (.tmp 93), none⟩, ⟨some 17, .mv (.tmp 94), none⟩]
def c3_50 : VC := .region r3_50
@[simp] theorem e3_50 {v0 v1 v2 v3 v4 v5 v7 v10 v11 v13 v15 v16 v17 v18 v19 v22 v40 v41 v42 v43 v73 v84 v85 v86 v87 v107 : V} : execK cf sg m c3_50 ⟨clk, [(0, v0), (1, v1), (2, v2), (3, v3), (4, v4), (5, v5), (7, v7), (10, v10), (11, v11), (13, v13), (15, v15), (16, v16), (17, v17), (18, v18), (19, v19), (22, v22), (40, v40), (41, v41), (42, v42), (43, v43), (73, v73), (84, v84), (85, v85), (86, v86), (87, v87), (107, v107)], tips, lk, bx⟩ k = runK cf sg tips r3_50 ⟨clk + 1, [(0, v0), (1, v1), (2, v2), (3, v3), (4, v4), (5, v5), (7, v7), (10, v10), (11, v11), (13, v13), (15, v15), (16, v16), (17, v17), (18, v18), (19, v19), (22, v22), (40, v40), (41, v41), (42, v42), (43, v43), (73, v73), (84, v84), (85, v85), (86, v86), (87, v87), (107, v107)], tips, lk, bx⟩ (endK 26 k) := execK_region
@[simp] def r3_52 : List VOper := [⟨some 96, .mv (.tmp 15), none⟩, ⟨some 97, .call 20 [.tmp 96] true [], none⟩, ⟨some 95, .mv (.tmp 97), none⟩, ⟨some 98, .extract 0 (.tmp 95), none⟩, ⟨some 99, .extract 1 (.tmp 95), none⟩, ⟨some 18, .allocR [.int .u8 0, .int .u8 0, .int .u8 0, .int .u8 0, .int .u8 0, .int .u8 0], none⟩, ⟨none, .store (.r 18) 6 (.tmp 18) (.tmp 98), none⟩, ⟨some 19, .mv (.tmp 99), none⟩]
def c3_52 : VC := .region r3_52
@[simp] theorem e3_52 {v0 v1 v2 v3 v4 v5 v7 v10 v11 v13 v15 v16 v17 v18 v19 v22 v40 v41 v42 v43 v73 v84 v85 v86 v87 v107 : V} : execK cf sg m c3_52 ⟨clk, [(0, v0), (1, v1), (2, v2), (3, v3), (4, v4), (5, v5), (7, v7), (10, v10), (11, v11), (13, v13), (15, v15), (16, v16), (17, v17), (18, v18), (19, v19), (22, v22), (40, v40), (41, v41), (42, v42), (43, v43), (73, v73), (84, v84), (85, v85), (86, v86), (87, v87), (107, v107)], tips, lk, bx⟩ k = runK cf sg tips r3_52 ⟨clk + 1, [(0, v0), (1, v1), (2, v2), (3, v3), (4, v4), (5, v5), (7, v7), (10, v10), (11, v11), (13, v13), (15, v15), (16, v16), (17, v17), (18, v18), (19, v19), (22, v22), (40, v40), (41, v41), (42, v42), (43, v43), (73, v73), (84, v84), (85, v85), (86, v86), (87, v87), (107, v107)], tips, lk, bx⟩ (endK 26 k) := execK_region
@[simp] def r3_54 : List VOper := [⟨some 100, .load (.r 16) true 6 (.tmp 16), none⟩, ⟨some 101, .load (.r 18) true 6 (.tmp 18), none⟩, ⟨some 102, .eq true (.flat [.i, .i, .i, .i, .i, .i]) (.tmp 100) (.tmp 101), none⟩, ⟨some 103, .mv (.tmp 102), none⟩, ⟨some 104, .mv (.tmp 17), some (103, false)⟩, ⟨some 105, .mv (.tmp 19), some (103, false)⟩, ⟨some 106, .bin .neq (.tmp 104) (.tmp 105), some (103, false)⟩, ⟨some 107, .pick (.tmp 103) (.const (.bool true)) (.tmp 106), none⟩]
def c3_54 : VC := .region r3_54
@[simp] theorem e3_54 {v0 v1 v2 v3 v4 v5 v7 v10 v11 v13 v15 v16 v17 v18 v19 v22 v40 v41 v42 v43 v73 v84 v85 v86 v87 v107 : V} : execK cf sg m c3_54 ⟨clk, [(0, v0), (1, v1), (2, v2), (3, v3), (4, v4), (5, v5), (7, v7), (10, v10), (11, v11), (13, v13), (15, v15), (16, v16), (17, v17), (18, v18), (19, v19), (22, v22), (40, v40), (41, v41), (42, v42), (43, v43), (73, v73), (84, v84), (85, v85), (86, v86), (87, v87), (107, v107)], tips, lk, bx⟩ k = runK cf sg tips r3_54 ⟨clk + 1, [(0, v0), (1, v1), (2, v2), (3, v3), (4, v4), (5, v5), (7, v7), (10, v10), (11, v11), (13, v13), (15, v15), (16, v16), (17, v17), (18, v18), (19, v19), (22, v22), (40, v40), (41, v41), (42, v42), (43, v43), (73, v73), (84, v84), (85, v85), (86, v86), (87, v87), (107, v107)], tips, lk, bx⟩ (endK 26 k) := execK_region
@[simp] def r3_57 : List VOper := [⟨some 10, .mv (.const (.bool false)), none⟩]
def c3_57 : VC := .region r3_57
@[simp] theorem e3_57 {v0 v1 v2 v3 v4 v5 v7 v10 v11 v13 v15 v16 v17 v18 v19 v22 v40 v41 v42 v43 v73 v84 v85 v86 v87 v107 : V} : execK cf sg m c3_57 ⟨clk, [(0, v0), (1, v1), (2, v2), (3, v3), (4, v4), (5, v5), (7, v7), (10, v10), (11, v11), (13, v13), (15, v15), (16, v16), (17, v17), (18, v18), (19, v19), (22, v22), (40, v40), (41, v41), (42, v42), (43, v43), (73, v73), (84, v84), (85, v85), (86, v86), (87, v87), (107, v107)], tips, lk, bx⟩ k = runK cf sg tips r3_57 ⟨clk + 1, [(0, v0), (1, v1), (2, v2), (3, v3), (4, v4), (5, v5), (7, v7), (10, v10), (11, v11), (13, v13), (15, v15), (16, v16), (17, v17), (18, v18), (19, v19), (22, v22), (40, v40), (41, v41), (42, v42), (43, v43), (73, v73), (84, v84), (85, v85), (86, v86), (87, v87), (107, v107)], tips, lk, bx⟩ (endK 26 k) := execK_region
def c3_58 : VC := .ret
@[simp] theorem e3_58 {e : Env} : execK cf sg m c3_58 ⟨clk, e, tips, lk, bx⟩ k = execK cf sg m (.ret) ⟨clk, e, tips, lk, bx⟩ k := rfl
def c3_56 : VC := .seq c3_57 c3_58
@[simp] theorem e3_56 {e : Env} : execK cf sg m c3_56 ⟨clk, e, tips, lk, bx⟩ k = execK cf sg m (.seq c3_57 c3_58) ⟨clk, e, tips, lk, bx⟩ k := rfl
def c3_59 : VC := .skip
@[simp] theorem e3_59 {e : Env} : execK cf sg m c3_59 ⟨clk, e, tips, lk, bx⟩ k = execK cf sg m (.skip) ⟨clk, e, tips, lk, bx⟩ k := rfl
def c3_55 : VC := .cond (.tmp 107) c3_56 c3_59
@[simp] theorem e3_55 {e : Env} : execK cf sg m c3_55 ⟨clk, e, tips, lk, bx⟩ k = execK cf sg m (.cond (.tmp 107) c3_56 c3_59) ⟨clk, e, tips, lk, bx⟩ k := rfl
def c3_53 : VC := .seq c3_54 c3_55
@[simp] theorem e3_53 {e : Env} : execK cf sg m c3_53 ⟨clk, e, tips, lk, bx⟩ k = execK cf sg m (.seq c3_54 c3_55) ⟨clk, e, tips, lk, bx⟩ k := rfl
def c3_51 : VC := .seq c3_52 c3_53
@[simp] theorem e3_51 {e : Env} : execK cf sg m c3_51 ⟨clk, e, tips, lk, bx⟩ k = execK cf sg m (.seq c3_52 c3_53) ⟨clk, e, tips, lk, bx⟩ k := rfl
def c3_49 : VC := .seq c3_50 c3_51
@[simp] theorem e3_49 {e : Env} : execK cf sg m c3_49 ⟨clk, e, tips, lk, bx⟩ k = execK cf sg m (.seq c3_50 c3_51) ⟨clk, e, tips, lk, bx⟩ k := rfl
def c3_47 : VC := .seq c3_48 c3_49
@[simp] theorem e3_47 {e : Env} : execK cf sg m c3_47 ⟨clk, e, tips, lk, bx⟩ k = execK cf sg m (.seq c3_48 c3_49) ⟨clk, e, tips, lk, bx⟩ k := rfl
def c3_46 : VC := .block 3 c3_47
@[simp] theorem e3_46 {e : Env} : execK cf sg m c3_46 ⟨clk, e, tips, lk, bx⟩ k = execK cf sg m (.block 3 c3_47) ⟨clk, e, tips, lk, bx⟩ k := rfl
@[simp] def r3_60 : List VOper := [⟨some 108, .bin .add (.tmp 86) (.const (.int .i64 1)), none⟩, ⟨some 86, .mv (.tmp 108), none⟩]
def c3_60 : VC := .region r3_60
@[simp] theorem e3_60 {v0 v1 v2 v3 v4 v5 v7 v10 v11 v13 v15 v16 v17 v18 v19 v22 v40 v41 v42 v43 v73 v84 v85 v86 v87 v107 : V} : execK cf sg m c3_60 ⟨clk, [(0, v0), (1, v1), (2, v2), (3, v3), (4, v4), (5, v5), (7, v7), (10, v10), (11, v11), (13, v13), (15, v15), (16, v16), (17, v17), (18, v18), (19, v19), (22, v22), (40, v40), (41, v41), (42, v42), (43, v43), (73, v73), (84, v84), (85, v85), (86, v86), (87, v87), (107, v107)], tips, lk, bx⟩ k = runK cf sg tips r3_60 ⟨clk + 1, [(0, v0), (1, v1), (2, v2), (3, v3), (4, v4), (5, v5), (7, v7), (10, v10), (11, v11), (13, v13), (15, v15), (16, v16), (17, v17), (18, v18), (19, v19), (22, v22), (40, v40), (41, v41), (42, v42), (43, v43), (73, v73), (84, v84), (85, v85), (86, v86), (87, v87), (107, v107)], tips, lk, bx⟩ (endK 26 k) := execK_region
def c3_45 : VC := .seq c3_46 c3_60
@[simp] theorem e3_45 {e : Env} : execK cf sg m c3_45 ⟨clk, e, tips, lk, bx⟩ k = execK cf sg m (.seq c3_46 c3_60) ⟨clk, e, tips, lk, bx⟩ k := rfl
def c3_41 : VC := .seq c3_42 c3_45
@[simp] theorem e3_41 {e : Env} : execK cf sg m c3_41 ⟨clk, e, tips, lk, bx⟩ k = execK cf sg m (.seq c3_42 c3_45) ⟨clk, e, tips, lk, bx⟩ k := rfl
def c3_39 : VC := .seq c3_40 c3_41
@[simp] theorem e3_39 {e : Env} : execK cf sg m c3_39 ⟨clk, e, tips, lk, bx⟩ k = execK cf sg m (.seq c3_40 c3_41) ⟨clk, e, tips, lk, bx⟩ k := rfl
def c3_38 : VC := .loop c3_39
@[simp] theorem e3_38 {e : Env} : execK cf sg m c3_38 ⟨clk, e, tips, lk, bx⟩ k = execK cf sg m (.loop c3_39) ⟨clk, e, tips, lk, bx⟩ k := rfl
def c3_37 : VC := .block 2 c3_38
@[simp] theorem e3_37 {e : Env} : execK cf sg m c3_37 ⟨clk, e, tips, lk, bx⟩ k = execK cf sg m (.block 2 c3_38) ⟨clk, e, tips, lk, bx⟩ k := rfl
def c3_35 : VC := .seq c3_36 c3_37
@[simp] theorem e3_35 {e : Env} : execK cf sg m c3_35 ⟨clk, e, tips, lk, bx⟩ k = execK cf sg m (.seq c3_36 c3_37) ⟨clk, e, tips, lk, bx⟩ k := rfl
def c3_27 : VC := .seq c3_28 c3_35
@[simp] theorem e3_27 {e : Env} : execK cf sg m c3_27 ⟨clk, e, tips, lk, bx⟩ k = execK cf sg m (.seq c3_28 c3_35) ⟨clk, e, tips, lk, bx⟩ k := rfl
def c3_25 : VC := .seq c3_26 c3_27
@[simp] theorem e3_25 {e : Env} : execK cf sg m c3_25 ⟨clk, e, tips, lk, bx⟩ k = execK cf sg m (.seq c3_26 c3_27) ⟨clk, e, tips, lk, bx⟩ k := rfl
def c3_24 : VC := .block 1 c3_25
@[simp] theorem e3_24 {e : Env} : execK cf sg m c3_24 ⟨clk, e, tips, lk, bx⟩ k = execK cf sg m (.block 1 c3_25) ⟨clk, e, tips, lk, bx⟩ k := rfl
@[simp] def r3_61 : List VOper := [⟨some 109, .bin .add (.tmp 42) (.const (.int .i64 1)), none⟩, ⟨some 42, .mv (.tmp 109), none⟩]
def c3_61 : VC := .region r3_61
@[simp] theorem e3_61 {v0 v1 v2 v3 v4 v5 v7 v10 v11 v13 v15 v16 v17 v18 v19 v22 v40 v41 v42 v43 v73 v84 v85 v86 v87 v107 : V} : execK cf sg m c3_61 ⟨clk, [(0, v0), (1, v1), (2, v2), (3, v3), (4, v4), (5, v5), (7, v7), (10, v10), (11, v11), (13, v13), (15, v15), (16, v16), (17, v17), (18, v18), (19, v19), (22, v22), (40, v40), (41, v41), (42, v42), (43, v43), (73, v73), (84, v84), (85, v85), (86, v86), (87, v87), (107, v107)], tips, lk, bx⟩ k = runK cf sg tips r3_61 ⟨clk + 1, [(0, v0), (1, v1), (2, v2), (3, v3), (4, v4), (5, v5), (7, v7), (10, v10), (11, v11), (13, v13), (15, v15), (16, v16), (17, v17), (18, v18), (19, v19), (22, v22), (40, v40), (41, v41), (42, v42), (43, v43), (73, v73), (84, v84), (85, v85), (86, v86), (87, v87), (107, v107)], tips, lk, bx⟩ (endK 26 k) := execK_region
def c3_23 : VC := .seq c3_24 c3_61
@[simp] theorem e3_23 {e : Env} : execK cf sg m c3_23 ⟨clk, e, tips, lk, bx⟩ k = execK cf sg m (.seq c3_24 c3_61) ⟨clk, e, tips, lk, bx⟩ k := rfl
def c3_19 : VC := .seq c3_20 c3_23
@[simp] theorem e3_19 {e : Env} : execK cf sg m c3_19 ⟨clk, e, tips, lk, bx⟩ k = execK cf sg m (.seq c3_20 c3_23) ⟨clk, e, tips, lk, bx⟩ k := rfl
def c3_17 : VC := .seq c3_18 c3_19
@[simp] theorem e3_17 {e : Env} : execK cf sg m c3_17 ⟨clk, e, tips, lk, bx⟩ k = execK cf sg m (.seq c3_18 c3_19) ⟨clk, e, tips, lk, bx⟩ k := rfl
def c3_16 : VC := .loop c3_17
@[simp] theorem e3_16 {e : Env} : execK cf sg m c3_16 ⟨clk, e, tips, lk, bx⟩ k = execK cf sg m (.loop c3_17) ⟨clk, e, tips, lk, bx⟩ k := rfl
def c3_15 : VC := .block 0 c3_16
@[simp] theorem e3_15 {e : Env} : execK cf sg m c3_15 ⟨clk, e, tips, lk, bx⟩ k = execK cf sg m (.block 0 c3_16) ⟨clk, e, tips, lk, bx⟩ k := rfl
def c3_13 : VC := .seq c3_14 c3_15
@[simp] theorem e3_13 {e : Env} : execK cf sg m c3_13 ⟨clk, e, tips, lk, bx⟩ k = execK cf sg m (.seq c3_14 c3_15) ⟨clk, e, tips, lk, bx⟩ k := rfl
@[simp] def r3_63 : List VOper := [⟨some 110, .load (.r 7) true 3 (.tmp 7), none⟩, ⟨some 111, .call 21 [.tmp 110] true [], none⟩, ⟨some 112, .load (.r 7) true 3 (.tmp 7), none⟩, ⟨some 113, .call 22 [.tmp 112] true [], none⟩, ⟨some 114, .eq false (.flat [.i, .i, .i, .i, .i, .i]) (.tmp 111) (.tmp 113), none⟩, ⟨some 115, .mv (.tmp 114), none⟩, ⟨some 116, .call 8 [] true [], some (115, true)⟩, ⟨some 117, .pick (.tmp 115) (.tmp 116) (.const (.bool false)), none⟩, ⟨some 10, .mv (.tmp 117), none⟩]
def c3_63 : VC := .region r3_63
@[simp] theorem e3_63 {v0 v1 v2 v3 v4 v5 v7 v10 v11 v13 v15 v16 v17 v18 v19 v22 v40 v41 v42 v43 v73 v84 v85 v86 v87 v107 : V} : execK cf sg m c3_63 ⟨clk, [(0, v0), (1, v1), (2, v2), (3, v3), (4, v4), (5, v5), (7, v7), (10, v10), (11, v11), (13, v13), (15, v15), (16, v16), (17, v17), (18, v18), (19, v19), (22, v22), (40, v40), (41, v41), (42, v42), (43, v43), (73, v73), (84, v84), (85, v85), (86, v86), (87, v87), (107, v107)], tips, lk, bx⟩ k = runK cf sg tips r3_63 ⟨clk + 1, [(0, v0), (1, v1), (2, v2), (3, v3), (4, v4), (5, v5), (7, v7), (10, v10), (11, v11), (13, v13), (15, v15), (16, v16), (17, v17), (18, v18), (19, v19), (22, v22), (40, v40), (41, v41), (42, v42), (43, v43), (73, v73), (84, v84), (85, v85), (86, v86), (87, v87), (107, v107)], tips, lk, bx⟩ (endK 26 k) := execK_region
def c3_64 : VC := .ret
@[simp] theorem e3_64 {e : Env} : execK cf sg m c3_64 ⟨clk, e, tips, lk, bx⟩ k = execK cf sg m (.ret) ⟨clk, e, tips, lk, bx⟩ k := rfl
def c3_62 : VC := .seq c3_63 c3_64
@[simp] theorem e3_62 {e : Env} : execK cf sg m c3_62 ⟨clk, e, tips, lk, bx⟩ k = execK cf sg m (.seq c3_63 c3_64) ⟨clk, e, tips, lk, bx⟩ k := rfl
def c3_12 : VC := .seq c3_13 c3_62
@[simp] theorem e3_12 {e : Env} : execK cf sg m c3_12 ⟨clk, e, tips, lk, bx⟩ k = execK cf sg m (.seq c3_13 c3_62) ⟨clk, e, tips, lk, bx⟩ k := rfl
def c3_10 : VC := .seq c3_11 c3_12
@[simp] theorem e3_10 {e : Env} : execK cf sg m c3_10 ⟨clk, e, tips, lk, bx⟩ k = execK cf sg m (.seq c3_11 c3_12) ⟨clk, e, tips, lk, bx⟩ k := rfl
def c3_2 : VC := .seq c3_3 c3_10
@[simp] theorem e3_2 {e : Env} : execK cf sg m c3_2 ⟨clk, e, tips, lk, bx⟩ k = execK cf sg m (.seq c3_3 c3_10) ⟨clk, e, tips, lk, bx⟩ k := rfl
def c3_0 : VC := .seq c3_1 c3_2
@[simp] theorem e3_0 {e : Env} : execK cf sg m c3_0 ⟨clk, e, tips, lk, bx⟩ k = execK cf sg m (.seq c3_1 c3_2) ⟨clk, e, tips, lk, bx⟩ k := rfl
def hh3 : Hints := { esc := [], rt := [(5, .r 5), (7, .r 7), (11, .r 11), (44, .e []), (13, .r 13), (88, .e []), (16, .r 16), (18, .r 18)], cut := [], quiet := [23, 25, 28, 34, 47, 49, 53, 55, 60, 62, 66, 69, 76, 78, 82, 92, 97, 111, 113, 116], avoid := [] }
def vf3 : VF := ⟨[0, 1, 2, 3, 4, 5, 7, 10, 11, 13, 15, 16, 17, 18, 19, 22, 40, 41, 42, 43, 73, 84, 85, 86, 87, 107], [], true, c3_0, [.tmp 10]⟩
@[simp] theorem res3 : vf3.res = [.tmp 10] := rfl
theorem tab3 : compileFn Try.prog hh3 vf3.kept vf3.cons Try.f3 = some vf3 := by kernel_rfl

/- exchangepoint/exchangepointlaw04.EtherGroups -/
@[simp] def r4_1 : List VOper := [⟨some 4, .boxR 3 (.tmp 0), none⟩, ⟨some 5, .boxR 3 (.tmp 1), none⟩, ⟨some 8, .mv (.const (.bool false)), none⟩]
def c4_1 : VC := .region r4_1
@[simp] theorem e4_1 {v0 v1 v2 v3 v4 v5 v8 v9 v10 : V} : execK cf sg m c4_1 ⟨clk, [(0, v0), (1, v1), (2, v2), (3, v3), (4, v4), (5, v5), (8, v8), (9, v9), (10, v10)], tips, lk, bx⟩ k = runK cf sg tips r4_1 ⟨clk + 1, [(0, v0), (1, v1), (2, v2), (3, v3), (4, v4), (5, v5), (8, v8), (9, v9), (10, v10)], tips, lk, bx⟩ (endK 9 k) := execK_region
@[simp] def r4_3 : List VOper := [⟨some 11, .fieldA 0 (.tmp 4), none⟩, ⟨none, .store (.r 4) 1 (.tmp 11) (.const (.bool true)), none⟩, ⟨some 12, .fieldA 0 (.tmp 5), none⟩, ⟨none, .store (.r 5) 1 (.tmp 12) (.const (.bool true)), none⟩]
def c4_3 : VC := .region r4_3
@[simp] theorem e4_3 {v0 v1 v2 v3 v4 v5 v8 v9 v10 : V} : execK cf sg m c4_3 ⟨clk, [(0, v0), (1, v1), (2, v2), (3, v3), (4, v4), (5, v5), (8, v8), (9, v9), (10, v10)], tips, lk, bx⟩ k = runK cf sg tips r4_3 ⟨clk + 1, [(0, v0), (1, v1), (2, v2), (3, v3), (4, v4), (5, v5), (8, v8), (9, v9), (10, v10)], tips, lk, bx⟩ (endK 9 k) := execK_region
@[simp] def r4_5 : List VOper := [⟨some 13, .load (.r 4) true 3 (.tmp 4), none⟩, ⟨some 14, .call 21 [.tmp 13] true [9, 10], none⟩, ⟨some 15, .load (.r 5) true 3 (.tmp 5), none⟩, ⟨some 16, .call 21 [.tmp 15] true [9, 10], none⟩, ⟨some 9, .allocR [.int .u8 0, .int .u8 0, .int .u8 0, .int .u8 0, .int .u8 0, .int .u8 0], none⟩, ⟨some 10, .allocR [.int .u8 0, .int .u8 0, .int .u8 0, .int .u8 0, .int .u8 0, .int .u8 0], none⟩, ⟨none, .store (.r 9) 6 (.tmp 9) (.tmp 14), none⟩, ⟨none, .store (.r 10) 6 (.tmp 10) (.tmp 16), none⟩]
def c4_5 : VC := .region r4_5
@[simp] theorem e4_5 {v0 v1 v2 v3 v4 v5 v8 v9 v10 : V} : execK cf sg m c4_5 ⟨clk, [(0, v0), (1, v1), (2, v2), (3, v3), (4, v4), (5, v5), (8, v8), (9, v9), (10, v10)], tips, lk, bx⟩ k = runK cf sg tips r4_5 ⟨clk + 1, [(0, v0), (1, v1), (2, v2), (3, v3), (4, v4), (5, v5), (8, v8), (9, v9), (10, v10)], tips, lk, bx⟩ (endK 9 k) := execK_region
@[simp] def r4_7 : List VOper := [⟨some 17, .load (.r 9) true 6 (.tmp 9), none⟩, ⟨some 18, .call 12 [.tmp 17] true [], none⟩, ⟨some 19, .mv (.tmp 18), none⟩, ⟨some 20, .call 16 [] true [], some (19, true)⟩, ⟨some 21, .call 12 [.tmp 20] true [], some (19, true)⟩, ⟨some 22, .pick (.tmp 19) (.tmp 21) (.const (.bool false)), none⟩, ⟨some 23, .mv (.tmp 22), none⟩, ⟨some 24, .load (.r 9) true 6 (.tmp 9), some (23, true)⟩, ⟨some 25, .call 14 [.tmp 24] true [], some (23, true)⟩, ⟨some 26, .unop .not (.tmp 25), some (23, true)⟩, ⟨some 27, .pick (.tmp 23) (.tmp 26) (.const (.bool false)), none⟩, ⟨some 28, .mv (.tmp 27), none⟩, ⟨some 29, .call 16 [] true [], some (28, true)⟩, ⟨some 30, .call 14 [.tmp 29] true [], some (28, true)⟩, ⟨some 31, .unop .not (.tmp 30), some (28, true)⟩, ⟨some 32, .pick (.tmp 28) (.tmp 31) (.const (.bool false)), none⟩, ⟨some 33, .mv (.tmp 32), none⟩, ⟨some 34, .mv (.tmp 2), some (33, true)⟩, ⟨some 35, .call 23 [.tmp 34] true [], some (33, true)⟩, ⟨some 36, .call 12 [.tmp 35] true [], some (33, true)⟩, ⟨some 37, .unop .not (.tmp 36), some (33, true)⟩, ⟨some 38, .pick (.tmp 33) (.tmp 37) (.const (.bool false)), none⟩, ⟨some 39, .mv (.tmp 38), none⟩, ⟨some 40, .load (.r 9) true 6 (.tmp 9), some (39, true)⟩, ⟨some 41, .load (.r 10) true 6 (.tmp 10), some (39, true)⟩, ⟨some 42, .eq false (.flat [.i, .i, .i, .i, .i, .i]) (.tmp 40) (.tmp 41), some (39, true)⟩, ⟨some 43, .fieldA 2 (.tmp 4), some (39, true)⟩, ⟨some 44, .load (.r 4) false 1 (.tmp 43), some (39, true)⟩, ⟨some 45, .bin .and (.tmp 44) (.const (.int .u64 16777215)), some (39, true)⟩, ⟨some 46, .fieldA 2 (.tmp 5), some (39, true)⟩, ⟨some 47, .load (.r 5) false 1 (.tmp 46), some (39, true)⟩, ⟨some 48, .bin .and (.tmp 47) (.const (.int .u64 16777215)), some (39, true)⟩, ⟨some 49, .bin .eql (.tmp 45) (.tmp 48), some (39, true)⟩, ⟨some 50, .eq false .bool (.tmp 42) (.tmp 49), some (39, true)⟩, ⟨some 51, .pick (.tmp 39) (.tmp 50) (.const (.bool false)), none⟩, ⟨some 52, .mv (.tmp 51), none⟩, ⟨some 53, .mv (.tmp 3), some (52, true)⟩, ⟨some 54, .bin .and (.tmp 53) (.const (.int .u8 15)), some (52, true)⟩, ⟨some 55, .build [.int .u8 0, .int .u8 0, .int .u8 0, .int .u8 0, .int .u8 0, .int .u8 0] [(0, 1, .const (.int .u8 1)), (1, 1, .const (.int .u8 128)), (2, 1, .const (.int .u8 194)), (3, 1, .const (.int .u8 0)), (4, 1, .const (.int .u8 0)), (5, 1, .tmp 54)], some (52, true)⟩, ⟨some 56, .call 14 [.tmp 55] true [], some (52, true)⟩, ⟨some 57, .pick (.tmp 52) (.tmp 56) (.const (.bool false)), none⟩, ⟨some 58, .mv (.tmp 57), none⟩, ⟨some 59, .build [.bool false, .int .u64 0, .int .u64 0] [(2, 1, .const (.int .u64 5))], some (58, true)⟩, ⟨some 60, .call 21 [.tmp 59] true [], some (58, true)⟩, ⟨some 61, .build [.int .u8 0, .int .u8 0, .int .u8 0, .int .u8 0, .int .u8 0, .int .u8 0] [], some (58, true)⟩, ⟨some 62, .eq false (.flat [.i, .i, .i, .i, .i, .i]) (.tmp 60) (.tmp 61), some (58, true)⟩, ⟨some 63, .pick (.tmp 58) (.tmp 62) (.const (.bool false)), none⟩, ⟨some 64, .mv (.tmp 63), none⟩, ⟨some 65, .call 8 [] true [], some (64, true)⟩, ⟨some 66, .pick (.tmp 64) (.tmp 65) (.const (.bool false)), none⟩, ⟨some 8, .mv (.tmp 66), none⟩]
def c4_7 : VC := .region r4_7
@[simp] theorem e4_7 {v0 v1 v2 v3 v4 v5 v8 v9 v10 : V} : execK cf sg m c4_7 ⟨clk, [(0, v0), (1, v1), (2, v2), (3, v3), (4, v4), (5, v5), (8, v8), (9, v9), (10, v10)], tips, lk, bx⟩ k = runK cf sg tips r4_7 ⟨clk + 1, [(0, v0), (1, v1), (2, v2), (3, v3), (4, v4), (5, v5), (8, v8), (9, v9), (10, v10)], tips, lk, bx⟩ (endK 9 k) := execK_region
def c4_8 : VC := .ret
@[simp] theorem e4_8 {e : Env} : execK cf sg m c4_8 ⟨clk, e, tips, lk, bx⟩ k = execK cf sg m (.ret) ⟨clk, e, tips, lk, bx⟩ k := rfl
def c4_6 : VC := .seq c4_7 c4_8
@[simp] theorem e4_6 {e : Env} : execK cf sg m c4_6 ⟨clk, e, tips, lk, bx⟩ k = execK cf sg m (.seq c4_7 c4_8) ⟨clk, e, tips, lk, bx⟩ k := rfl
def c4_4 : VC := .seq c4_5 c4_6
@[simp] theorem e4_4 {e : Env} : execK cf sg m c4_4 ⟨clk, e, tips, lk, bx⟩ k = execK cf sg m (.seq c4_5 c4_6) ⟨clk, e, tips, lk, bx⟩ k := rfl
def c4_2 : VC := .seq c4_3 c4_4
@[simp] theorem e4_2 {e : Env} : execK cf sg m c4_2 ⟨clk, e, tips, lk, bx⟩ k = execK cf sg m (.seq c4_3 c4_4) ⟨clk, e, tips, lk, bx⟩ k := rfl
def c4_0 : VC := .seq c4_1 c4_2
@[simp] theorem e4_0 {e : Env} : execK cf sg m c4_0 ⟨clk, e, tips, lk, bx⟩ k = execK cf sg m (.seq c4_1 c4_2) ⟨clk, e, tips, lk, bx⟩ k := rfl
def hh4 : Hints := { esc := [], rt := [(4, .r 4), (5, .r 5), (11, .r 4), (12, .r 5), (9, .r 9), (10, .r 10), (43, .r 4), (46, .r 5)], cut := [], quiet := [14, 16, 18, 20, 21, 25, 29, 30, 35, 36, 56, 60, 65], avoid := [(13, [9, 10]), (14, [9, 10]), (15, [9, 10]), (16, [9, 10])] }
def vf4 : VF := ⟨[0, 1, 2, 3, 4, 5, 8, 9, 10], [], true, c4_0, [.tmp 8]⟩
@[simp] theorem res4 : vf4.res = [.tmp 8] := rfl
theorem tab4 : compileFn Try.prog hh4 vf4.kept vf4.cons Try.f4 = some vf4 := by kernel_rfl

/- exchangepoint/exchangepointlaw04.EtherFrames -/
@[simp] def r5_1 : List VOper := [⟨some 5, .boxR 15 (.tmp 0), none⟩, ⟨some 10, .mv (.const (.bool false)), none⟩]
def c5_1 : VC := .region r5_1
@[simp] theorem e5_1 {v0 v1 v2 v3 v4 v5 v10 v11 v13 v14 v15 v16 v17 v18 v20 v22 v23 v24 v25 v26 v35 v42 v43 v44 v45 v74 v110 v111 v112 v113 v134 : V} : execK cf sg m c5_1 ⟨clk, [(0, v0), (1, v1), (2, v2), (3, v3), (4, v4), (5, v5), (10, v10), (11, v11), (13, v13), (14, v14), (15, v15), (16, v16), (17, v17), (18, v18), (20, v20), (22, v22), (23, v23), (24, v24), (25, v25), (26, v26), (35, v35), (42, v42), (43, v43), (44, v44), (45, v45), (74, v74), (110, v110), (111, v111), (112, v112), (113, v113), (134, v134)], tips, lk, bx⟩ k = runK cf sg tips r5_1 ⟨clk + 1, [(0, v0), (1, v1), (2, v2), (3, v3), (4, v4), (5, v5), (10, v10), (11, v11), (13, v13), (14, v14), (15, v15), (16, v16), (17, v17), (18, v18), (20, v20), (22, v22), (23, v23), (24, v24), (25, v25), (26, v26), (35, v35), (42, v42), (43, v43), (44, v44), (45, v45), (74, v74), (110, v110), (111, v111), (112, v112), (113, v113), (134, v134)], tips, lk, bx⟩ (endK 31 k) := execK_region
@[simp] def r5_4 : List VOper := [⟨some 27, .mv (.tmp 1), none⟩, ⟨some 28, .call 24 [.tmp 27] true [], none⟩, ⟨some 29, .unop .not (.tmp 28), none⟩, ⟨some 30, .mv (.tmp 29), none⟩, ⟨some 31, .fieldA 14 (.tmp 5), some (30, false)⟩, ⟨some 32, .load (.r 5) false 1 (.tmp 31), some (30, false)⟩, ⟨some 33, .call 24 [.tmp 32] true [], some (30, false)⟩, ⟨some 34, .unop .not (.tmp 33), some (30, false)⟩, ⟨some 35, .pick (.tmp 30) (.const (.bool true)) (.tmp 34), none⟩]
def c5_4 : VC := .region r5_4
@[simp] theorem e5_4 {v0 v1 v2 v3 v4 v5 v10 v11 v13 v14 v15 v16 v17 v18 v20 v22 v23 v24 v25 v26 v35 v42 v43 v44 v45 v74 v110 v111 v112 v113 v134 : V} : execK cf sg m c5_4 ⟨clk, [(0, v0), (1, v1), (2, v2), (3, v3), (4, v4), (5, v5), (10, v10), (11, v11), (13, v13), (14, v14), (15, v15), (16, v16), (17, v17), (18, v18), (20, v20), (22, v22), (23, v23), (24, v24), (25, v25), (26, v26), (35, v35), (42, v42), (43, v43), (44, v44), (45, v45), (74, v74), (110, v110), (111, v111), (112, v112), (113, v113), (134, v134)], tips, lk, bx⟩ k = runK cf sg tips r5_4 ⟨clk + 1, [(0, v0), (1, v1), (2, v2), (3, v3), (4, v4), (5, v5), (10, v10), (11, v11), (13, v13), (14, v14), (15, v15), (16, v16), (17, v17), (18, v18), (20, v20), (22, v22), (23, v23), (24, v24), (25, v25), (26, v26), (35, v35), (42, v42), (43, v43), (44, v44), (45, v45), (74, v74), (110, v110), (111, v111), (112, v112), (113, v113), (134, v134)], tips, lk, bx⟩ (endK 31 k) := execK_region
@[simp] def r5_7 : List VOper := [⟨some 36, .call 8 [] true [], none⟩, ⟨some 10, .mv (.tmp 36), none⟩]
def c5_7 : VC := .region r5_7
@[simp] theorem e5_7 {v0 v1 v2 v3 v4 v5 v10 v11 v13 v14 v15 v16 v17 v18 v20 v22 v23 v24 v25 v26 v35 v42 v43 v44 v45 v74 v110 v111 v112 v113 v134 : V} : execK cf sg m c5_7 ⟨clk, [(0, v0), (1, v1), (2, v2), (3, v3), (4, v4), (5, v5), (10, v10), (11, v11), (13, v13), (14, v14), (15, v15), (16, v16), (17, v17), (18, v18), (20, v20), (22, v22), (23, v23), (24, v24), (25, v25), (26, v26), (35, v35), (42, v42), (43, v43), (44, v44), (45, v45), (74, v74), (110, v110), (111, v111), (112, v112), (113, v113), (134, v134)], tips, lk, bx⟩ k = runK cf sg tips r5_7 ⟨clk + 1, [(0, v0), (1, v1), (2, v2), (3, v3), (4, v4), (5, v5), (10, v10), (11, v11), (13, v13), (14, v14), (15, v15), (16, v16), (17, v17), (18, v18), (20, v20), (22, v22), (23, v23), (24, v24), (25, v25), (26, v26), (35, v35), (42, v42), (43, v43), (44, v44), (45, v45), (74, v74), (110, v110), (111, v111), (112, v112), (113, v113), (134, v134)], tips, lk, bx⟩ (endK 31 k) := execK_region
def c5_8 : VC := .ret
@[simp] theorem e5_8 {e : Env} : execK cf sg m c5_8 ⟨clk, e, tips, lk, bx⟩ k = execK cf sg m (.ret) ⟨clk, e, tips, lk, bx⟩ k := rfl
def c5_6 : VC := .seq c5_7 c5_8
@[simp] theorem e5_6 {e : Env} : execK cf sg m c5_6 ⟨clk, e, tips, lk, bx⟩ k = execK cf sg m (.seq c5_7 c5_8) ⟨clk, e, tips, lk, bx⟩ k := rfl
def c5_9 : VC := .skip
@[simp] theorem e5_9 {e : Env} : execK cf sg m c5_9 ⟨clk, e, tips, lk, bx⟩ k = execK cf sg m (.skip) ⟨clk, e, tips, lk, bx⟩ k := rfl
def c5_5 : VC := .cond (.tmp 35) c5_6 c5_9
@[simp] theorem e5_5 {e : Env} : execK cf sg m c5_5 ⟨clk, e, tips, lk, bx⟩ k = execK cf sg m (.cond (.tmp 35) c5_6 c5_9) ⟨clk, e, tips, lk, bx⟩ k := rfl
def c5_3 : VC := .seq c5_4 c5_5
@[simp] theorem e5_3 {e : Env} : execK cf sg m c5_3 ⟨clk, e, tips, lk, bx⟩ k = execK cf sg m (.seq c5_4 c5_5) ⟨clk, e, tips, lk, bx⟩ k := rfl
@[simp] def r5_11 : List VOper := [⟨some 37, .mv (.tmp 2), none⟩, ⟨some 38, .call 26 [.tmp 37] true [], none⟩, ⟨some 39, .call 25 [.tmp 38] false [], none⟩, ⟨some 11, .allocR [.int .u8 0, .int .u8 0, .int .u8 0, .int .u8 0, .int .u8 0, .int .u8 0, .int .u8 0, .int .u8 0, .int .u8 0, .int .u8 0, .int .u8 0, .int .u8 0, .int .i64 0, .int .i64 0, .nils], none⟩, ⟨none, .store (.r 11) 15 (.tmp 11) (.tmp 39), none⟩]
def c5_11 : VC := .region r5_11
@[simp] theorem e5_11 {v0 v1 v2 v3 v4 v5 v10 v11 v13 v14 v15 v16 v17 v18 v20 v22 v23 v24 v25 v26 v35 v42 v43 v44 v45 v74 v110 v111 v112 v113 v134 : V} : execK cf sg m c5_11 ⟨clk, [(0, v0), (1, v1), (2, v2), (3, v3), (4, v4), (5, v5), (10, v10), (11, v11), (13, v13), (14, v14), (15, v15), (16, v16), (17, v17), (18, v18), (20, v20), (22, v22), (23, v23), (24, v24), (25, v25), (26, v26), (35, v35), (42, v42), (43, v43), (44, v44), (45, v45), (74, v74), (110, v110), (111, v111), (112, v112), (113, v113), (134, v134)], tips, lk, bx⟩ k = runK cf sg tips r5_11 ⟨clk + 1, [(0, v0), (1, v1), (2, v2), (3, v3), (4, v4), (5, v5), (10, v10), (11, v11), (13, v13), (14, v14), (15, v15), (16, v16), (17, v17), (18, v18), (20, v20), (22, v22), (23, v23), (24, v24), (25, v25), (26, v26), (35, v35), (42, v42), (43, v43), (44, v44), (45, v45), (74, v74), (110, v110), (111, v111), (112, v112), (113, v113), (134, v134)], tips, lk, bx⟩ (endK 31 k) := execK_region
@[simp] def r5_14 : List VOper := [⟨some 40, .load (.r 5) true 15 (.tmp 5), none⟩, ⟨some 41, .load (.r 11) true 15 (.tmp 11), none⟩, ⟨some 42, .bslice true 15 2 [.int .u8 0, .int .u8 0, .int .u8 0, .int .u8 0, .int .u8 0, .int .u8 0, .int .u8 0, .int .u8 0, .int .u8 0, .int .u8 0, .int .u8 0, .int .u8 0, .int .i64 0, .int .i64 0, .nils] [(0, 15, .tmp 40), (15, 15, .tmp 41)], none⟩, ⟨some 43, .len false (.tmp 42), none⟩, ⟨some 44, .mv (.const (.int .i64 0)), none⟩]
def c5_14 : VC := .region r5_14
@[simp] theorem e5_14 {v0 v1 v2 v3 v4 v5 v10 v11 v13 v14 v15 v16 v17 v18 v20 v22 v23 v24 v25 v26 v35 v42 v43 v44 v45 v74 v110 v111 v112 v113 v134 : V} : execK cf sg m c5_14 ⟨clk, [(0, v0), (1, v1), (2, v2), (3, v3), (4, v4), (5, v5), (10, v10), (11, v11), (13, v13), (14, v14), (15, v15), (16, v16), (17, v17), (18, v18), (20, v20), (22, v22), (23, v23), (24, v24), (25, v25), (26, v26), (35, v35), (42, v42), (43, v43), (44, v44), (45, v45), (74, v74), (110, v110), (111, v111), (112, v112), (113, v113), (134, v134)], tips, lk, bx⟩ k = runK cf sg (bump tips [(nmOf 42 0)]) r5_14 ⟨clk + 1, [(0, v0), (1, v1), (2, v2), (3, v3), (4, v4), (5, v5), (10, v10), (11, v11), (13, v13), (14, v14), (15, v15), (16, v16), (17, v17), (18, v18), (20, v20), (22, v22), (23, v23), (24, v24), (25, v25), (26, v26), (35, v35), (42, v42), (43, v43), (44, v44), (45, v45), (74, v74), (110, v110), (111, v111), (112, v112), (113, v113), (134, v134)], bump tips [(nmOf 42 0)], updL lk false [(nmOf 42 0)], bx⟩ (endK 31 k) := execK_region
@[simp] def r5_18 : List VOper := [⟨some 45, .bin .lss (.tmp 44) (.tmp 43), none⟩]
def c5_18 : VC := .region r5_18
@[simp] theorem e5_18 {v0 v1 v2 v3 v4 v5 v10 v11 v13 v14 v15 v16 v17 v18 v20 v22 v23 v24 v25 v26 v35 v42 v43 v44 v45 v74 v110 v111 v112 v113 v134 : V} : execK cf sg m c5_18 ⟨clk, [(0, v0), (1, v1), (2, v2), (3, v3), (4, v4), (5, v5), (10, v10), (11, v11), (13, v13), (14, v14), (15, v15), (16, v16), (17, v17), (18, v18), (20, v20), (22, v22), (23, v23), (24, v24), (25, v25), (26, v26), (35, v35), (42, v42), (43, v43), (44, v44), (45, v45), (74, v74), (110, v110), (111, v111), (112, v112), (113, v113), (134, v134)], tips, lk, bx⟩ k = runK cf sg tips r5_18 ⟨clk + 1, [(0, v0), (1, v1), (2, v2), (3, v3), (4, v4), (5, v5), (10, v10), (11, v11), (13, v13), (14, v14), (15, v15), (16, v16), (17, v17), (18, v18), (20, v20), (22, v22), (23, v23), (24, v24), (25, v25), (26, v26), (35, v35), (42, v42), (43, v43), (44, v44), (45, v45), (74, v74), (110, v110), (111, v111), (112, v112), (113, v113), (134, v134)], tips, lk, bx⟩ (endK 31 k) := execK_region
def c5_21 : VC := .skip
@[simp] theorem e5_21 {e : Env} : execK cf sg m c5_21 ⟨clk, e, tips, lk, bx⟩ k = execK cf sg m (.skip) ⟨clk, e, tips, lk, bx⟩ k := rfl
def c5_22 : VC := .exit 0
@[simp] theorem e5_22 {e : Env} : execK cf sg m c5_22 ⟨clk, e, tips, lk, bx⟩ k = execK cf sg m (.exit 0) ⟨clk, e, tips, lk, bx⟩ k := rfl
def c5_20 : VC := .cond (.tmp 45) c5_21 c5_22
@[simp] theorem e5_20 {e : Env} : execK cf sg m c5_20 ⟨clk, e, tips, lk, bx⟩ k = execK cf sg m (.cond (.tmp 45) c5_21 c5_22) ⟨clk, e, tips, lk, bx⟩ k := rfl
@[simp] def r5_26 : List VOper := [⟨some 46, .idxS 15 (.tmp 42) (.tmp 44), none⟩, ⟨some 47, .load (.e []) true 15 (.tmp 46), none⟩, ⟨some 13, .allocR [.int .u8 0, .int .u8 0, .int .u8 0, .int .u8 0, .int .u8 0, .int .u8 0, .int .u8 0, .int .u8 0, .int .u8 0, .int .u8 0, .int .u8 0, .int .u8 0, .int .i64 0, .int .i64 0, .nils], none⟩, ⟨none, .store (.r 13) 15 (.tmp 13) (.tmp 47), none⟩]
def c5_26 : VC := .region r5_26
@[simp] theorem e5_26 {v0 v1 v2 v3 v4 v5 v10 v11 v13 v14 v15 v16 v17 v18 v20 v22 v23 v24 v25 v26 v35 v42 v43 v44 v45 v74 v110 v111 v112 v113 v134 : V} : execK cf sg m c5_26 ⟨clk, [(0, v0), (1, v1), (2, v2), (3, v3), (4, v4), (5, v5), (10, v10), (11, v11), (13, v13), (14, v14), (15, v15), (16, v16), (17, v17), (18, v18), (20, v20), (22, v22), (23, v23), (24, v24), (25, v25), (26, v26), (35, v35), (42, v42), (43, v43), (44, v44), (45, v45), (74, v74), (110, v110), (111, v111), (112, v112), (113, v113), (134, v134)], tips, lk, bx⟩ k = runK cf sg tips r5_26 ⟨clk + 1, [(0, v0), (1, v1), (2, v2), (3, v3), (4, v4), (5, v5), (10, v10), (11, v11), (13, v13), (14, v14), (15, v15), (16, v16), (17, v17), (18, v18), (20, v20), (22, v22), (23, v23), (24, v24), (25, v25), (26, v26), (35, v35), (42, v42), (43, v43), (44, v44), (45, v45), (74, v74), (110, v110), (111, v111), (112, v112), (113, v113), (134, v134)], tips, lk, bx⟩ (endK 31 k) := execK_region
@[simp] def r5_28 : List VOper := [⟨some 49, .load (.r 13) true 15 (.tmp 13), none⟩, ⟨some 50, .call 27 [.tmp 49] true [], none⟩, ⟨some 48, .mv (.tmp 50), none⟩, ⟨some 51, .extract 0 (.tmp 48), none⟩, ⟨some 52, .extract 1 (.tmp 48), none⟩, ⟨some 14, .mv (.tmp 51), none⟩, ⟨some 15, .mv (.tmp 52), none⟩]
def c5_28 : VC := .region r5_28
@[simp] theorem e5_28 {v0 v1 v2 v3 v4 v5 v10 v11 v13 v14 v15 v16 v17 v18 v20 v22 v23 v24 v25 v26 v35 v42 v43 v44 v45 v74 v110 v111 v112 v113 v134 : V} : execK cf sg m c5_28 ⟨clk, [(0, v0), (1, v1), (2, v2), (3, v3), (4, v4), (5, v5), (10, v10), (11, v11), (13, v13), (14, v14), (15, v15), (16, v16), (17, v17), (18, v18), (20, v20), (22, v22), (23, v23), (24, v24), (25, v25), (26, v26), (35, v35), (42, v42), (43, v43), (44, v44), (45, v45), (74, v74), (110, v110), (111, v111), (112, v112), (113, v113), (134, v134)], tips, lk, bx⟩ k = runK cf sg tips r5_28 ⟨clk + 1, [(0, v0), (1, v1), (2, v2), (3, v3), (4, v4), (5, v5), (10, v10), (11, v11), (13, v13), (14, v14), (15, v15), (16, v16), (17, v17), (18, v18), (20, v20), (22, v22), (23, v23), (24, v24), (25, v25), (26, v26), (35, v35), (42, v42), (43, v43), (44, v44), (45, v45), (74, v74), (110, v110), (111, v111), (112, v112), (113, v113), (134, v134)], tips, lk, bx⟩ (endK 31 k) := execK_region
@[simp] def r5_30 : List VOper := [⟨some 54, .load (.r 13) true 15 (.tmp 13), none⟩, ⟨some 55, .call 28 [.tmp 54] true [], none⟩, ⟨some 53, .mv (.tmp 55), none⟩, ⟨some 56, .extract 0 (.tmp 53), none⟩, ⟨some 57, .extract 1 (.tmp 53), none⟩, ⟨some 16, .mv (.tmp 56), none⟩, ⟨some 17, .mv (.tmp 57), none⟩]
def c5_30 : VC := .region r5_30
@[simp] theorem e5_30 {v0 v1 v2 v3 v4 v5 v10 v11 v13 v14 v15 v16 v17 v18 v20 v22 v23 v24 v25 v26 v35 v42 v43 v44 v45 v74 v110 v111 v112 v113 v134 : V} : execK cf sg m c5_30 ⟨clk, [(0, v0), (1, v1), (2, v2), (3, v3), (4, v4), (5, v5), (10, v10), (11, v11), (13, v13), (14, v14), (15, v15), (16, v16), (17, v17), (18, v18), (20, v20), (22, v22), (23, v23), (24, v24), (25, v25), (26, v26), (35, v35), (42, v42), (43, v43), (44, v44), (45, v45), (74, v74), (110, v110), (111, v111), (112, v112), (113, v113), (134, v134)], tips, lk, bx⟩ k = runK cf sg tips r5_30 ⟨clk + 1, [(0, v0), (1, v1), (2, v2), (3, v3), (4, v4), (5, v5), (10, v10), (11, v11), (13, v13), (14, v14), (15, v15), (16, v16), (17, v17), (18, v18), (20, v20), (22, v22), (23, v23), (24, v24), (25, v25), (26, v26), (35, v35), (42, v42), (43, v43), (44, v44), (45, v45), (74, v74), (110, v110), (111, v111), (112, v112), (113, v113), (134, v134)], tips, lk, bx⟩ (endK 31 k) := execK_region
@[simp] def r5_32 : List VOper := [⟨some 58, .load (.r 13) true 15 (.tmp 13), none⟩, ⟨some 59, .call 29 [.tmp 58] true [], none⟩, ⟨some 60, .load (.r 13) true 15 (.tmp 13), none⟩, ⟨some 61, .call 30 [.tmp 60] true [], none⟩, ⟨some 62, .eq true .bool (.tmp 59) (.tmp 61), none⟩, ⟨some 63, .mv (.tmp 62), none⟩, ⟨some 64, .mv (.tmp 14), some (63, false)⟩, ⟨some 65, .toStr (.tmp 64) [], some (63, false)⟩, ⟨some 66, .mv (.tmp 16), some (63, false)⟩, ⟨some 67, .toStr (.tmp 66) [], some (63, false)⟩, ⟨some 68, .bin .neq (.tmp 65) (.tmp 67), some (63, false)⟩, ⟨some 69, .pick (.tmp 63) (.const (.bool true)) (.tmp 68), none⟩, ⟨some 70, .mv (.tmp 69), none⟩, ⟨some 71, .mv (.tmp 15), some (70, false)⟩, ⟨some 72, .mv (.tmp 17), some (70, false)⟩, ⟨some 73, .bin .neq (.tmp 71) (.tmp 72), some (70, false)⟩, ⟨some 74, .pick (.tmp 70) (.const (.bool true)) (.tmp 73), none⟩]
def c5_32 : VC := .region r5_32
@[simp] theorem e5_32 {v0 v1 v2 v3 v4 v5 v10 v11 v13 v14 v15 v16 v17 v18 v20 v22 v23 v24 v25 v26 v35 v42 v43 v44 v45 v74 v110 v111 v112 v113 v134 : V} : execK cf sg m c5_32 ⟨clk, [(0, v0), (1, v1), (2, v2), (3, v3), (4, v4), (5, v5), (10, v10), (11, v11), (13, v13), (14, v14), (15, v15), (16, v16), (17, v17), (18, v18), (20, v20), (22, v22), (23, v23), (24, v24), (25, v25), (26, v26), (35, v35), (42, v42), (43, v43), (44, v44), (45, v45), (74, v74), (110, v110), (111, v111), (112, v112), (113, v113), (134, v134)], tips, lk, bx⟩ k = runK cf sg tips r5_32 ⟨clk + 1, [(0, v0), (1, v1), (2, v2), (3, v3), (4, v4), (5, v5), (10, v10), (11, v11), (13, v13), (14, v14), (15, v15), (16, v16), (17, v17), (18, v18), (20, v20), (22, v22), (23, v23), (24, v24), (25, v25), (26, v26), (35, v35), (42, v42), (43, v43), (44, v44), (45, v45), (74, v74), (110, v110), (111, v111), (112, v112), (113, v113), (134, v134)], tips, lk, bx⟩ (endK 31 k) := execK_region
@[simp] def r5_35 : List VOper := [⟨some 10, .mv (.const (.bool false)), none⟩]
def c5_35 : VC := .region r5_35
@[simp] theorem e5_35 {v0 v1 v2 v3 v4 v5 v10 v11 v13 v14 v15 v16 v17 v18 v20 v22 v23 v24 v25 v26 v35 v42 v43 v44 v45 v74 v110 v111 v112 v113 v134 : V} : execK cf sg m c5_35 ⟨clk, [(0, v0), (1, v1), (2, v2), (3, v3), (4, v4), (5, v5), (10, v10), (11, v11), (13, v13), (14, v14), (15, v15), (16, v16), (17, v17), (18, v18), (20, v20), (22, v22), (23, v23), (24, v24), (25, v25), (26, v26), (35, v35), (42, v42), (43, v43), (44, v44), (45, v45), (74, v74), (110, v110), (111, v111), (112, v112), (113, v113), (134, v134)], tips, lk, bx⟩ k = runK cf sg tips r5_35 ⟨clk + 1, [(0, v0), (1, v1), (2, v2), (3, v3), (4, v4), (5, v5), (10, v10), (11, v11), (13, v13), (14, v14), (15, v15), (16, v16), (17, v17), (18, v18), (20, v20), (22, v22), (23, v23), (24, v24), (25, v25), (26, v26), (35, v35), (42, v42), (43, v43), (44, v44), (45, v45), (74, v74), (110, v110), (111, v111), (112, v112), (113, v113), (134, v134)], tips, lk, bx⟩ (endK 31 k) := execK_region
def c5_36 : VC := .ret
@[simp] theorem e5_36 {e : Env} : execK cf sg m c5_36 ⟨clk, e, tips, lk, bx⟩ k = execK cf sg m (.ret) ⟨clk, e, tips, lk, bx⟩ k := rfl
def c5_34 : VC := .seq c5_35 c5_36
@[simp] theorem e5_34 {e : Env} : execK cf sg m c5_34 ⟨clk, e, tips, lk, bx⟩ k = execK cf sg m (.seq c5_35 c5_36) ⟨clk, e, tips, lk, bx⟩ k := rfl
def c5_37 : VC := .skip
@[simp] theorem e5_37 {e : Env} : execK cf sg m c5_37 ⟨clk, e, tips, lk, bx⟩ k = execK cf sg m (.skip) ⟨clk, e, tips, lk, bx⟩ k := rfl
def c5_33 : VC := .cond (.tmp 74) c5_34 c5_37
@[simp] theorem e5_33 {e : Env} : execK cf sg m c5_33 ⟨clk, e, tips, lk, bx⟩ k = execK cf sg m (.cond (.tmp 74) c5_34 c5_37) ⟨clk, e, tips, lk, bx⟩ k := rfl
def c5_31 : VC := .seq c5_32 c5_33
@[simp] theorem e5_31 {e : Env} : execK cf sg m c5_31 ⟨clk, e, tips, lk, bx⟩ k = execK cf sg m (.seq c5_32 c5_33) ⟨clk, e, tips, lk, bx⟩ k := rfl
def c5_29 : VC := .seq c5_30 c5_31
@[simp] theorem e5_29 {e : Env} : execK cf sg m c5_29 ⟨clk, e, tips, lk, bx⟩ k = execK cf sg m (.seq c5_30 c5_31) ⟨clk, e, tips, lk, bx⟩ k := rfl
def c5_27 : VC := .seq c5_28 c5_29
@[simp] theorem e5_27 {e : Env} : execK cf sg m c5_27 ⟨clk, e, tips, lk, bx⟩ k = execK cf sg m (.seq c5_28 c5_29) ⟨clk, e, tips, lk, bx⟩ k := rfl
def c5_25 : VC := .seq c5_26 c5_27
@[simp] theorem e5_25 {e : Env} : execK cf sg m c5_25 ⟨clk, e, tips, lk, bx⟩ k = execK cf sg m (.seq c5_26 c5_27) ⟨clk, e, tips, lk, bx⟩ k := rfl
def c5_24 : VC := .block 1 c5_25
@[simp] theorem e5_24 {e : Env} : execK cf sg m c5_24 ⟨clk, e, tips, lk, bx⟩ k = execK cf sg m (.block 1 c5_25) ⟨clk, e, tips, lk, bx⟩ k := rfl
@[simp] def r5_38 : List VOper := [⟨some 75, .bin .add (.tmp 44) (.const (.int .i64 1)), none⟩, ⟨some 44, .mv (.tmp 75), none⟩]
def c5_38 : VC := .region r5_38
@[simp] theorem e5_38 {v0 v1 v2 v3 v4 v5 v10 v11 v13 v14 v15 v16 v17 v18 v20 v22 v23 v24 v25 v26 v35 v42 v43 v44 v45 v74 v110 v111 v112 v113 v134 : V} : execK cf sg m c5_38 ⟨clk, [(0, v0), (1, v1), (2, v2), (3, v3), (4, v4), (5, v5), (10, v10), (11, v11), (13, v13), (14, v14), (15, v15), (16, v16), (17, v17), (18, v18), (20, v20), (22, v22), (23, v23), (24, v24), (25, v25), (26, v26), (35, v35), (42, v42), (43, v43), (44, v44), (45, v45), (74, v74), (110, v110), (111, v111), (112, v112), (113, v113), (134, v134)], tips, lk, bx⟩ k = runK cf sg tips r5_38 ⟨clk + 1, [(0, v0), (1, v1), (2, v2), (3, v3), (4, v4), (5, v5), (10, v10), (11, v11), (13, v13), (14, v14), (15, v15), (16, v16), (17, v17), (18, v18), (20, v20), (22, v22), (23, v23), (24, v24), (25, v25), (26, v26), (35, v35), (42, v42), (43, v43), (44, v44), (45, v45), (74, v74), (110, v110), (111, v111), (112, v112), (113, v113), (134, v134)], tips, lk, bx⟩ (endK 31 k) := execK_region
def c5_23 : VC := .seq c5_24 c5_38
@[simp] theorem e5_23 {e : Env} : execK cf sg m c5_23 ⟨clk, e, tips, lk, bx⟩ k = execK cf sg m (.seq c5_24 c5_38) ⟨clk, e, tips, lk, bx⟩ k := rfl
def c5_19 : VC := .seq c5_20 c5_23
@[simp] theorem e5_19 {e : Env} : execK cf sg m c5_19 ⟨clk, e, tips, lk, bx⟩ k = execK cf sg m (.seq c5_20 c5_23) ⟨clk, e, tips, lk, bx⟩ k := rfl
def c5_17 : VC := .seq c5_18 c5_19
@[simp] theorem e5_17 {e : Env} : execK cf sg m c5_17 ⟨clk, e, tips, lk, bx⟩ k = execK cf sg m (.seq c5_18 c5_19) ⟨clk, e, tips, lk, bx⟩ k := rfl
def c5_16 : VC := .loop c5_17
@[simp] theorem e5_16 {e : Env} : execK cf sg m c5_16 ⟨clk, e, tips, lk, bx⟩ k = execK cf sg m (.loop c5_17) ⟨clk, e, tips, lk, bx⟩ k := rfl
def c5_15 : VC := .block 0 c5_16
@[simp] theorem e5_15 {e : Env} : execK cf sg m c5_15 ⟨clk, e, tips, lk, bx⟩ k = execK cf sg m (.block 0 c5_16) ⟨clk, e, tips, lk, bx⟩ k := rfl
def c5_13 : VC := .seq c5_14 c5_15
@[simp] theorem e5_13 {e : Env} : execK cf sg m c5_13 ⟨clk, e, tips, lk, bx⟩ k = execK cf sg m (.seq c5_14 c5_15) ⟨clk, e, tips, lk, bx⟩ k := rfl
@[simp] def r5_40 : List VOper := [⟨some 77, .load (.r 11) true 15 (.tmp 11), none⟩, ⟨some 78, .call 28 [.tmp 77] true [], none⟩, ⟨some 76, .mv (.tmp 78), none⟩, ⟨some 79, .extract 0 (.tmp 76), none⟩, ⟨some 80, .extract 1 (.tmp 76), none⟩, ⟨some 18, .mv (.tmp 79), none⟩, ⟨some 19, .mv (.tmp 80), none⟩]
def c5_40 : VC := .region r5_40
@[simp] theorem e5_40 {v0 v1 v2 v3 v4 v5 v10 v11 v13 v14 v15 v16 v17 v18 v20 v22 v23 v24 v25 v26 v35 v42 v43 v44 v45 v74 v110 v111 v112 v113 v134 : V} : execK cf sg m c5_40 ⟨clk, [(0, v0), (1, v1), (2, v2), (3, v3), (4, v4), (5, v5), (10, v10), (11, v11), (13, v13), (14, v14), (15, v15), (16, v16), (17, v17), (18, v18), (20, v20), (22, v22), (23, v23), (24, v24), (25, v25), (26, v26), (35, v35), (42, v42), (43, v43), (44, v44), (45, v45), (74, v74), (110, v110), (111, v111), (112, v112), (113, v113), (134, v134)], tips, lk, bx⟩ k = runK cf sg tips r5_40 ⟨clk + 1, [(0, v0), (1, v1), (2, v2), (3, v3), (4, v4), (5, v5), (10, v10), (11, v11), (13, v13), (14, v14), (15, v15), (16, v16), (17, v17), (18, v18), (20, v20), (22, v22), (23, v23), (24, v24), (25, v25), (26, v26), (35, v35), (42, v42), (43, v43), (44, v44), (45, v45), (74, v74), (110, v110), (111, v111), (112, v112), (113, v113), (134, v134)], tips, lk, bx⟩ (endK 31 k) := execK_region
@[simp] def r5_42 : List VOper := [⟨some 81, .mkslice 1 1 [.int .u8 0] (.const (.int .i64 12)) (.const (.int .i64 12)), none⟩, ⟨some 82, .mv (.tmp 4), none⟩, ⟨some 83, .convI .u8 (.tmp 82), none⟩, ⟨some 84, .mv (.tmp 3), none⟩, ⟨some 85, .convI .u8 (.tmp 84), none⟩, ⟨some 86, .mv (.tmp 4), none⟩, ⟨some 87, .bin .shr (.tmp 86) (.const (.int .u64 8)), none⟩, ⟨some 88, .convI .u8 (.tmp 87), none⟩, ⟨some 89, .bslice false 1 6 [.int .u8 0] [(0, 1, .const (.int .u8 129)), (1, 1, .const (.int .u8 0)), (2, 1, .tmp 83), (3, 1, .tmp 85), (4, 1, .tmp 88), (5, 1, .const (.int .u8 0))], none⟩, ⟨some 90, .append 1 1 false (.tmp 81) (.tmp 89) [], none⟩, ⟨some 91, .mv (.tmp 1), none⟩, ⟨some 92, .append 1 1 false (.tmp 90) (.tmp 91) [], none⟩, ⟨some 20, .mv (.tmp 92), none⟩]
def c5_42 : VC := .region r5_42
@[simp] theorem e5_42 {v0 v1 v2 v3 v4 v5 v10 v11 v13 v14 v15 v16 v17 v18 v20 v22 v23 v24 v25 v26 v35 v42 v43 v44 v45 v74 v110 v111 v112 v113 v134 : V} : execK cf sg m c5_42 ⟨clk, [(0, v0), (1, v1), (2, v2), (3, v3), (4, v4), (5, v5), (10, v10), (11, v11), (13, v13), (14, v14), (15, v15), (16, v16), (17, v17), (18, v18), (20, v20), (22, v22), (23, v23), (24, v24), (25, v25), (26, v26), (35, v35), (42, v42), (43, v43), (44, v44), (45, v45), (74, v74), (110, v110), (111, v111), (112, v112), (113, v113), (134, v134)], tips, lk, bx⟩ k = runK cf sg (bump tips [(nmOf 81 0), (nmOf 89 0)]) r5_42 ⟨clk + 1, [(0, v0), (1, v1), (2, v2), (3, v3), (4, v4), (5, v5), (10, v10), (11, v11), (13, v13), (14, v14), (15, v15), (16, v16), (17, v17), (18, v18), (20, v20), (22, v22), (23, v23), (24, v24), (25, v25), (26, v26), (35, v35), (42, v42), (43, v43), (44, v44), (45, v45), (74, v74), (110, v110), (111, v111), (112, v112), (113, v113), (134, v134)], bump tips [(nmOf 81 0), (nmOf 89 0)], updL lk false [(nmOf 81 0), (nmOf 89 0)], bx⟩ (endK 31 k) := execK_region
@[simp] def r5_45 : List VOper := [⟨some 93, .mv (.tmp 1), none⟩, ⟨some 94, .mv (.tmp 18), none⟩, ⟨some 95, .mv (.tmp 18), none⟩, ⟨some 96, .mv (.tmp 3), none⟩, ⟨some 97, .mv (.tmp 4), none⟩, ⟨some 98, .call 18 [.tmp 95, .tmp 96, .tmp 97] true [], none⟩, ⟨some 99, .mv (.tmp 20), none⟩, ⟨some 100, .mv (.tmp 18), none⟩, ⟨some 101, .mv (.tmp 3), none⟩, ⟨some 102, .mv (.tmp 18), none⟩, ⟨some 103, .len false (.tmp 102), none⟩, ⟨some 104, .bin .add (.tmp 103) (.const (.int .i64 1)), none⟩, ⟨some 105, .call 9 [.tmp 101, .tmp 104] true [], none⟩, ⟨some 106, .cut 1 (.tmp 100) none (some (.tmp 105)), none⟩, ⟨some 107, .mkslice 1 1 [.int .u8 0] (.const (.int .i64 12)) (.const (.int .i64 12)), none⟩, ⟨some 108, .bslice false 1 2 [.int .u8 0] [(0, 1, .const (.int .u8 8)), (1, 1, .const (.int .u8 0))], none⟩, ⟨some 109, .append 1 1 false (.tmp 107) (.tmp 108) [], none⟩, ⟨some 110, .bslice true 1 6 [.nils] [(0, 1, .tmp 93), (1, 1, .tmp 94), (2, 1, .tmp 98), (3, 1, .tmp 99), (4, 1, .tmp 106), (5, 1, .tmp 109)], none⟩, ⟨some 111, .len false (.tmp 110), none⟩, ⟨some 112, .mv (.const (.int .i64 0)), none⟩]
def c5_45 : VC := .region r5_45
@[simp] theorem e5_45 {v0 v1 v2 v3 v4 v5 v10 v11 v13 v14 v15 v16 v17 v18 v20 v22 v23 v24 v25 v26 v35 v42 v43 v44 v45 v74 v110 v111 v112 v113 v134 : V} : execK cf sg m c5_45 ⟨clk, [(0, v0), (1, v1), (2, v2), (3, v3), (4, v4), (5, v5), (10, v10), (11, v11), (13, v13), (14, v14), (15, v15), (16, v16), (17, v17), (18, v18), (20, v20), (22, v22), (23, v23), (24, v24), (25, v25), (26, v26), (35, v35), (42, v42), (43, v43), (44, v44), (45, v45), (74, v74), (110, v110), (111, v111), (112, v112), (113, v113), (134, v134)], tips, lk, bx⟩ k = runK cf sg (bump tips [(nmOf 107 0), (nmOf 108 0), (nmOf 110 0)]) r5_45 ⟨clk + 1, [(0, v0), (1, v1), (2, v2), (3, v3), (4, v4), (5, v5), (10, v10), (11, v11), (13, v13), (14, v14), (15, v15), (16, v16), (17, v17), (18, v18), (20, v20), (22, v22), (23, v23), (24, v24), (25, v25), (26, v26), (35, v35), (42, v42), (43, v43), (44, v44), (45, v45), (74, v74), (110, v110), (111, v111), (112, v112), (113, v113), (134, v134)], bump tips [(nmOf 107 0), (nmOf 108 0), (nmOf 110 0)], updL lk false [(nmOf 107 0), (nmOf 108 0), (nmOf 110 0)], bx⟩ (endK 31 k) := execK_region
@[simp] def r5_49 : List VOper := [⟨some 113, .bin .lss (.tmp 112) (.tmp 111), none⟩]
def c5_49 : VC := .region r5_49
@[simp] theorem e5_49 {v0 v1 v2 v3 v4 v5 v10 v11 v13 v14 v15 v16 v17 v18 v20 v22 v23 v24 v25 v26 v35 v42 v43 v44 v45 v74 v110 v111 v112 v113 v134 : V} : execK cf sg m c5_49 ⟨clk, [(0, v0), (1, v1), (2, v2), (3, v3), (4, v4), (5, v5), (10, v10), (11, v11), (13, v13), (14, v14), (15, v15), (16, v16), (17, v17), (18, v18), (20, v20), (22, v22), (23, v23), (24, v24), (25, v25), (26, v26), (35, v35), (42, v42), (43, v43), (44, v44), (45, v45), (74, v74), (110, v110), (111, v111), (112, v112), (113, v113), (134, v134)], tips, lk, bx⟩ k = runK cf sg tips r5_49 ⟨clk + 1, [(0, v0), (1, v1), (2, v2), (3, v3), (4, v4), (5, v5), (10, v10), (11, v11), (13, v13), (14, v14), (15, v15), (16, v16), (17, v17), (18, v18), (20, v20), (22, v22), (23, v23), (24, v24), (25, v25), (26, v26), (35, v35), (42, v42), (43, v43), (44, v44), (45, v45), (74, v74), (110, v110), (111, v111), (112, v112), (113, v113), (134, v134)], tips, lk, bx⟩ (endK 31 k) := execK_region
def c5_52 : VC := .skip
@[simp] theorem e5_52 {e : Env} : execK cf sg m c5_52 ⟨clk, e, tips, lk, bx⟩ k = execK cf sg m (.skip) ⟨clk, e, tips, lk, bx⟩ k := rfl
def c5_53 : VC := .exit 2
@[simp] theorem e5_53 {e : Env} : execK cf sg m c5_53 ⟨clk, e, tips, lk, bx⟩ k = execK cf sg m (.exit 2) ⟨clk, e, tips, lk, bx⟩ k := rfl
def c5_51 : VC := .cond (.tmp 113) c5_52 c5_53
@[simp] theorem e5_51 {e : Env} : execK cf sg m c5_51 ⟨clk, e, tips, lk, bx⟩ k = execK cf sg m (.cond (.tmp 113) c5_52 c5_53) ⟨clk, e, tips, lk, bx⟩ k := rfl
@[simp] def r5_57 : List VOper := [⟨some 114, .idxS 1 (.tmp 110) (.tmp 112), none⟩, ⟨some 115, .load (.e []) false 1 (.tmp 114), none⟩, ⟨some 22, .mv (.tmp 115), none⟩]
def c5_57 : VC := .region r5_57
@[simp] theorem e5_57 {v0 v1 v2 v3 v4 v5 v10 v11 v13 v14 v15 v16 v17 v18 v20 v22 v23 v24 v25 v26 v35 v42 v43 v44 v45 v74 v110 v111 v112 v113 v134 : V} : execK cf sg m c5_57 ⟨clk, [(0, v0), (1, v1), (2, v2), (3, v3), (4, v4), (5, v5), (10, v10), (11, v11), (13, v13), (14, v14), (15, v15), (16, v16), (17, v17), (18, v18), (20, v20), (22, v22), (23, v23), (24, v24), (25, v25), (26, v26), (35, v35), (42, v42), (43, v43), (44, v44), (45, v45), (74, v74), (110, v110), (111, v111), (112, v112), (113, v113), (134, v134)], tips, lk, bx⟩ k = runK cf sg tips r5_57 ⟨clk + 1, [(0, v0), (1, v1), (2, v2), (3, v3), (4, v4), (5, v5), (10, v10), (11, v11), (13, v13), (14, v14), (15, v15), (16, v16), (17, v17), (18, v18), (20, v20), (22, v22), (23, v23), (24, v24), (25, v25), (26, v26), (35, v35), (42, v42), (43, v43), (44, v44), (45, v45), (74, v74), (110, v110), (111, v111), (112, v112), (113, v113), (134, v134)], tips, lk, bx⟩ (endK 31 k) := execK_region
@[simp] def r5_59 : List VOper := [⟨some 117, .mv (.tmp 22), none⟩, ⟨some 118, .call 31 [.tmp 117] true [], none⟩, ⟨some 116, .mv (.tmp 118), none⟩, ⟨some 119, .extract 0 (.tmp 116), none⟩, ⟨some 120, .extract 1 (.tmp 116), none⟩, ⟨some 23, .allocR [.int .u8 0, .int .u8 0, .int .u8 0, .int .u8 0, .int .u8 0, .int .u8 0, .int .u8 0, .int .u8 0, .int .u8 0, .int .u8 0, .int .u8 0, .int .u8 0, .int .i64 0, .int .i64 0, .nils], none⟩, ⟨none, .store (.r 23) 15 (.tmp 23) (.tmp 119), none⟩, ⟨some 24, .mv (.tmp 120), none⟩]
def c5_59 : VC := .region r5_59
@[simp] theorem e5_59 {v0 v1 v2 v3 v4 v5 v10 v11 v13 v14 v15 v16 v17 v18 v20 v22 v23 v24 v25 v26 v35 v42 v43 v44 v45 v74 v110 v111 v112 v113 v134 : V} : execK cf sg m c5_59 ⟨clk, [(0, v0), (1, v1), (2, v2), (3, v3), (4, v4), (5, v5), (10, v10), (11, v11), (13, v13), (14, v14), (15, v15), (16, v16), (17, v17), (18, v18), (20, v20), (22, v22), (23, v23), (24, v24), (25, v25), (26, v26), (35, v35), (42, v42), (43, v43), (44, v44), (45, v45), (74, v74), (110, v110), (111, v111), (112, v112), (113, v113), (134, v134)], tips, lk, bx⟩ k = runK cf sg tips r5_59 ⟨clk + 1, [(0, v0), (1, v1), (2, v2), (3, v3), (4, v4), (5, v5), (10, v10), (11, v11), (13, v13), (14, v14), (15, v15), (16, v16), (17, v17), (18, v18), (20, v20), (22, v22), (23, v23), (24, v24), (25, v25), (26, v26), (35, v35), (42, v42), (43, v43), (44, v44), (45, v45), (74, v74), (110, v110), (111, v111), (112, v112), (113, v113), (134, v134)], tips, lk, bx⟩ (endK 31 k) := execK_region
@[simp] def r5_61 : List VOper := [⟨some 122, .mv (.tmp 22), none⟩, ⟨some 123, .call 32 [.tmp 122] true [], none⟩, ⟨some 121, .mv (.tmp 123), none⟩, ⟨some 124, .extract 0 (.tmp 121), none⟩, ⟨some 125, .extract 1 (.tmp 121), none⟩, ⟨some 25, .allocR [.int .u8 0, .int .u8 0, .int .u8 0, .int .u8 0, .int .u8 0, .int .u8 0, .int .u8 0, .int .u8 0, .int .u8 0, .int .u8 0, .int .u8 0, .int .u8 0, .int .i64 0, .int .i64 0, .nils], none⟩, ⟨none, .store (.r 25) 15 (.tmp 25) (.tmp 124), none⟩, ⟨some 26, .mv (.tmp 125), none⟩]
def c5_61 : VC := .region r5_61
@[simp] theorem e5_61 {v0 v1 v2 v3 v4 v5 v10 v11 v13 v14 v15 v16 v17 v18 v20 v22 v23 v24 v25 v26 v35 v42 v43 v44 v45 v74 v110 v111 v112 v113 v134 : V} : execK cf sg m c5_61 ⟨clk, [(0, v0), (1, v1), (2, v2), (3, v3), (4, v4), (5, v5), (10, v10), (11, v11), (13, v13), (14, v14), (15, v15), (16, v16), (17, v17), (18, v18), (20, v20), (22, v22), (23, v23), (24, v24), (25, v25), (26, v26), (35, v35), (42, v42), (43, v43), (44, v44), (45, v45), (74, v74), (110, v110), (111, v111), (112, v112), (113, v113), (134, v134)], tips, lk, bx⟩ k = runK cf sg tips r5_61 ⟨clk + 1, [(0, v0), (1, v1), (2, v2), (3, v3), (4, v4), (5, v5), (10, v10), (11, v11), (13, v13), (14, v14), (15, v15), (16, v16), (17, v17), (18, v18), (20, v20), (22, v22), (23, v23), (24, v24), (25, v25), (26, v26), (35, v35), (42, v42), (43, v43), (44, v44), (45, v45), (74, v74), (110, v110), (111, v111), (112, v112), (113, v113), (134, v134)], tips, lk, bx⟩ (endK 31 k) := execK_region
@[simp] def r5_63 : List VOper := [⟨some 126, .load (.r 23) true 15 (.tmp 23), none⟩, ⟨some 127, .load (.r 25) true 15 (.tmp 25), none⟩, ⟨some 128, .call 33 [.tmp 126, .tmp 127] true [], none⟩, ⟨some 129, .unop .not (.tmp 128), none⟩, ⟨some 130, .mv (.tmp 129), none⟩, ⟨some 131, .mv (.tmp 24), some (130, false)⟩, ⟨some 132, .mv (.tmp 26), some (130, false)⟩, ⟨some 133, .bin .neq (.tmp 131) (.tmp 132), some (130, false)⟩, ⟨some 134, .pick (.tmp 130) (.const (.bool true)) (.tmp 133), none⟩]
def c5_63 : VC := .region r5_63
@[simp] theorem e5_63 {v0 v1 v2 v3 v4 v5 v10 v11 v13 v14 v15 v16 v17 v18 v20 v22 v23 v24 v25 v26 v35 v42 v43 v44 v45 v74 v110 v111 v112 v113 v134 : V} : execK cf sg m c5_63 ⟨clk, [(0, v0), (1, v1), (2, v2), (3, v3), (4, v4), (5, v5), (10, v10), (11, v11), (13, v13), (14, v14), (15, v15), (16, v16), (17, v17), (18, v18), (20, v20), (22, v22), (23, v23), (24, v24), (25, v25), (26, v26), (35, v35), (42, v42), (43, v43), (44, v44), (45, v45), (74, v74), (110, v110), (111, v111), (112, v112), (113, v113), (134, v134)], tips, lk, bx⟩ k = runK cf sg tips r5_63 ⟨clk + 1, [(0, v0), (1, v1), (2, v2), (3, v3), (4, v4), (5, v5), (10, v10), (11, v11), (13, v13), (14, v14), (15, v15), (16, v16), (17, v17), (18, v18), (20, v20), (22, v22), (23, v23), (24, v24), (25, v25), (26, v26), (35, v35), (42, v42), (43, v43), (44, v44), (45, v45), (74, v74), (110, v110), (111, v111), (112, v112), (113, v113), (134, v134)], tips, lk, bx⟩ (endK 31 k) := execK_region
@[simp] def r5_66 : List VOper := [⟨some 10, .mv (.const (.bool false)), none⟩]
def c5_66 : VC := .region r5_66
@[simp] theorem e5_66 {v0 v1 v2 v3 v4 v5 v10 v11 v13 v14 v15 v16 v17 v18 v20 v22 v23 v24 v25 v26 v35 v42 v43 v44 v45 v74 v110 v111 v112 v113 v134 : V} : execK cf sg m c5_66 ⟨clk, [(0, v0), (1, v1), (2, v2), (3, v3), (4, v4), (5, v5), (10, v10), (11, v11), (13, v13), (14, v14), (15, v15), (16, v16), (17, v17), (18, v18), (20, v20), (22, v22), (23, v23), (24, v24), (25, v25), (26, v26), (35, v35), (42, v42), (43, v43), (44, v44), (45, v45), (74, v74), (110, v110), (111, v111), (112, v112), (113, v113), (134, v134)], tips, lk, bx⟩ k = runK cf sg tips r5_66 ⟨clk + 1, [(0, v0), (1, v1), (2, v2), (3, v3), (4, v4), (5, v5), (10, v10), (11, v11), (13, v13), (14, v14), (15, v15), (16, v16), (17, v17), (18, v18), (20, v20), (22, v22), (23, v23), (24, v24), (25, v25), (26, v26), (35, v35), (42, v42), (43, v43), (44, v44), (45, v45), (74, v74), (110, v110), (111, v111), (112, v112), (113, v113), (134, v134)], tips, lk, bx⟩ (endK 31 k) := execK_region
def c5_67 : VC := .ret
@[simp] theorem e5_67 {e : Env} : execK cf sg m c5_67 ⟨clk, e, tips, lk, bx⟩ k = execK cf sg m (.ret) ⟨clk, e, tips, lk, bx⟩ k := rfl
def c5_65 : VC := .seq c5_66 c5_67
@[simp] theorem e5_65 {e : Env} : execK cf sg m c5_65 ⟨clk, e, tips, lk, bx⟩ k = execK cf sg m (.seq c5_66 c5_67) ⟨clk, e, tips, lk, bx⟩ k := rfl
def c5_68 : VC := .skip
@[simp] theorem e5_68 {e : Env} : execK cf sg m c5_68 ⟨clk, e, tips, lk, bx⟩ k = execK cf sg m (.skip) ⟨clk, e, tips, lk, bx⟩ k := rfl
def c5_64 : VC := .cond (.tmp 134) c5_65 c5_68
@[simp] theorem e5_64 {e : Env} : execK cf sg m c5_64 ⟨clk, e, tips, lk, bx⟩ k = execK cf sg m (.cond (.tmp 134) c5_65 c5_68) ⟨clk, e, tips, lk, bx⟩ k := rfl
def c5_62 : VC := .seq c5_63 c5_64
@[simp] theorem e5_62 {e : Env} : execK cf sg m c5_62 ⟨clk, e, tips, lk, bx⟩ k = execK cf sg m (.seq c5_63 c5_64) ⟨clk, e, tips, lk, bx⟩ k := rfl
def c5_60 : VC := .seq c5_61 c5_62
@[simp] theorem e5_60 {e : Env} : execK cf sg m c5_60 ⟨clk, e, tips, lk, bx⟩ k = execK cf sg m (.seq c5_61 c5_62) ⟨clk, e, tips, lk, bx⟩ k := rfl
def c5_58 : VC := .seq c5_59 c5_60
@[simp] theorem e5_58 {e : Env} : execK cf sg m c5_58 ⟨clk, e, tips, lk, bx⟩ k = execK cf sg m (.seq c5_59 c5_60) ⟨clk, e, tips, lk, bx⟩ k := rfl
def c5_56 : VC := .seq c5_57 c5_58
@[simp] theorem e5_56 {e : Env} : execK cf sg m c5_56 ⟨clk, e, tips, lk, bx⟩ k = execK cf sg m (.seq c5_57 c5_58) ⟨clk, e, tips, lk, bx⟩ k := rfl
def c5_55 : VC := .block 3 c5_56
@[simp] theorem e5_55 {e : Env} : execK cf sg m c5_55 ⟨clk, e, tips, lk, bx⟩ k = execK cf sg m (.block 3 c5_56) ⟨clk, e, tips, lk, bx⟩ k := rfl
@[simp] def r5_69 : List VOper := [⟨some 135, .bin .add (.tmp 112) (.const (.int .i64 1)), none⟩, ⟨some 112, .mv (.tmp 135), none⟩]
def c5_69 : VC := .region r5_69
@[simp] theorem e5_69 {v0 v1 v2 v3 v4 v5 v10 v11 v13 v14 v15 v16 v17 v18 v20 v22 v23 v24 v25 v26 v35 v42 v43 v44 v45 v74 v110 v111 v112 v113 v134 : V} : execK cf sg m c5_69 ⟨clk, [(0, v0), (1, v1), (2, v2), (3, v3), (4, v4), (5, v5), (10, v10), (11, v11), (13, v13), (14, v14), (15, v15), (16, v16), (17, v17), (18, v18), (20, v20), (22, v22), (23, v23), (24, v24), (25, v25), (26, v26), (35, v35), (42, v42), (43, v43), (44, v44), (45, v45), (74, v74), (110, v110), (111, v111), (112, v112), (113, v113), (134, v134)], tips, lk, bx⟩ k = runK cf sg tips r5_69 ⟨clk + 1, [(0, v0), (1, v1), (2, v2), (3, v3), (4, v4), (5, v5), (10, v10), (11, v11), (13, v13), (14, v14), (15, v15), (16, v16), (17, v17), (18, v18), (20, v20), (22, v22), (23, v23), (24, v24), (25, v25), (26, v26), (35, v35), (42, v42), (43, v43), (44, v44), (45, v45), (74, v74), (110, v110), (111, v111), (112, v112), (113, v113), (134, v134)], tips, lk, bx⟩ (endK 31 k) := execK_region
def c5_54 : VC := .seq c5_55 c5_69
@[simp] theorem e5_54 {e : Env} : execK cf sg m c5_54 ⟨clk, e, tips, lk, bx⟩ k = execK cf sg m (.seq c5_55 c5_69) ⟨clk, e, tips, lk, bx⟩ k := rfl
def c5_50 : VC := .seq c5_51 c5_54
@[simp] theorem e5_50 {e : Env} : execK cf sg m c5_50 ⟨clk, e, tips, lk, bx⟩ k = execK cf sg m (.seq c5_51 c5_54) ⟨clk, e, tips, lk, bx⟩ k := rfl
def c5_48 : VC := .seq c5_49 c5_50
@[simp] theorem e5_48 {e : Env} : execK cf sg m c5_48 ⟨clk, e, tips, lk, bx⟩ k = execK cf sg m (.seq c5_49 c5_50) ⟨clk, e, tips, lk, bx⟩ k := rfl
def c5_47 : VC := .loop c5_48
@[simp] theorem e5_47 {e : Env} : execK cf sg m c5_47 ⟨clk, e, tips, lk, bx⟩ k = execK cf sg m (.loop c5_48) ⟨clk, e, tips, lk, bx⟩ k := rfl
def c5_46 : VC := .block 2 c5_47
@[simp] theorem e5_46 {e : Env} : execK cf sg m c5_46 ⟨clk, e, tips, lk, bx⟩ k = execK cf sg m (.block 2 c5_47) ⟨clk, e, tips, lk, bx⟩ k := rfl
def c5_44 : VC := .seq c5_45 c5_46
@[simp] theorem e5_44 {e : Env} : execK cf sg m c5_44 ⟨clk, e, tips, lk, bx⟩ k = execK cf sg m (.seq c5_45 c5_46) ⟨clk, e, tips, lk, bx⟩ k := rfl
@[simp] def r5_71 : List VOper := [⟨some 136, .call 8 [] true [], none⟩, ⟨some 10, .mv (.tmp 136), none⟩]
def c5_71 : VC := .region r5_71
@[simp] theorem e5_71 {v0 v1 v2 v3 v4 v5 v10 v11 v13 v14 v15 v16 v17 v18 v20 v22 v23 v24 v25 v26 v35 v42 v43 v44 v45 v74 v110 v111 v112 v113 v134 : V} : execK cf sg m c5_71 ⟨clk, [(0, v0), (1, v1), (2, v2), (3, v3), (4, v4), (5, v5), (10, v10), (11, v11), (13, v13), (14, v14), (15, v15), (16, v16), (17, v17), (18, v18), (20, v20), (22, v22), (23, v23), (24, v24), (25, v25), (26, v26), (35, v35), (42, v42), (43, v43), (44, v44), (45, v45), (74, v74), (110, v110), (111, v111), (112, v112), (113, v113), (134, v134)], tips, lk, bx⟩ k = runK cf sg tips r5_71 ⟨clk + 1, [(0, v0), (1, v1), (2, v2), (3, v3), (4, v4), (5, v5), (10, v10), (11, v11), (13, v13), (14, v14), (15, v15), (16, v16), (17, v17), (18, v18), (20, v20), (22, v22), (23, v23), (24, v24), (25, v25), (26, v26), (35, v35), (42, v42), (43, v43), (44, v44), (45, v45), (74, v74), (110, v110), (111, v111), (112, v112), (113, v113), (134, v134)], tips, lk, bx⟩ (endK 31 k) := execK_region
def c5_72 : VC := .ret
@[simp] theorem e5_72 {e : Env} : execK cf sg m c5_72 ⟨clk, e, tips, lk, bx⟩ k = execK cf sg m (.ret) ⟨clk, e, tips, lk, bx⟩ k := rfl
def c5_70 : VC := .seq c5_71 c5_72
@[simp] theorem e5_70 {e : Env} : execK cf sg m c5_70 ⟨clk, e, tips, lk, bx⟩ k = execK cf sg m (.seq c5_71 c5_72) ⟨clk, e, tips, lk, bx⟩ k := rfl
def c5_43 : VC := .seq c5_44 c5_70
@[simp] theorem e5_43 {e : Env} : execK cf sg m c5_43 ⟨clk, e, tips, lk, bx⟩ k = execK cf sg m (.seq c5_44 c5_70) ⟨clk, e, tips, lk, bx⟩ k := rfl
def c5_41 : VC := .seq c5_42 c5_43
@[simp] theorem e5_41 {e : Env} : execK cf sg m c5_41 ⟨clk, e, tips, lk, bx⟩ k = execK cf sg m (.seq c5_42 c5_43) ⟨clk, e, tips, lk, bx⟩ k := rfl
def c5_39 : VC := .seq c5_40 c5_41
@[simp] theorem e5_39 {e : Env} : execK cf sg m c5_39 ⟨clk, e, tips, lk, bx⟩ k = execK cf sg m (.seq c5_40 c5_41) ⟨clk, e, tips, lk, bx⟩ k := rfl
def c5_12 : VC := .seq c5_13 c5_39
@[simp] theorem e5_12 {e : Env} : execK cf sg m c5_12 ⟨clk, e, tips, lk, bx⟩ k = execK cf sg m (.seq c5_13 c5_39) ⟨clk, e, tips, lk, bx⟩ k := rfl
def c5_10 : VC := .seq c5_11 c5_12
@[simp] theorem e5_10 {e : Env} : execK cf sg m c5_10 ⟨clk, e, tips, lk, bx⟩ k = execK cf sg m (.seq c5_11 c5_12) ⟨clk, e, tips, lk, bx⟩ k := rfl
def c5_2 : VC := .seq c5_3 c5_10
@[simp] theorem e5_2 {e : Env} : execK cf sg m c5_2 ⟨clk, e, tips, lk, bx⟩ k = execK cf sg m (.seq c5_3 c5_10) ⟨clk, e, tips, lk, bx⟩ k := rfl
def c5_0 : VC := .seq c5_1 c5_2
@[simp] theorem e5_0 {e : Env} : execK cf sg m c5_0 ⟨clk, e, tips, lk, bx⟩ k = execK cf sg m (.seq c5_1 c5_2) ⟨clk, e, tips, lk, bx⟩ k := rfl
def hh5 : Hints := { esc := [], rt := [(5, .r 5), (31, .r 5), (11, .r 11), (46, .e []), (13, .r 13), (114, .e []), (23, .r 23), (25, .r 25)], cut := [], quiet := [28, 33, 36, 38, 50, 55, 59, 61, 78, 98, 105, 118, 123, 128, 136], avoid := [] }
def vf5 : VF := ⟨[0, 1, 2, 3, 4, 5, 10, 11, 13, 14, 15, 16, 17, 18, 20, 22, 23, 24, 25, 26, 35, 42, 43, 44, 45, 74, 110, 111, 112, 113, 134], [], false, c5_0, [.tmp 10]⟩
@[simp] theorem res5 : vf5.res = [.tmp 10] := rfl
theorem tab5 : compileFn Try.prog hh5 vf5.kept vf5.cons Try.f5 = some vf5 := by kernel_rfl

/- exchangepoint/exchangepointlaw04.EtherBack -/
@[simp] def r6_1 : List VOper := [⟨some 5, .boxR 6 (.tmp 0), none⟩, ⟨some 10, .mv (.const (.bool false)), none⟩]
def c6_1 : VC := .region r6_1
@[simp] theorem e6_1 {v0 v1 v2 v3 v4 v5 v10 v11 v12 v13 v14 v15 v16 v17 v18 v19 v20 v21 v22 v25 v39 v44 v66 v77 v92 v94 v95 v96 v127 : V} : execK cf sg m c6_1 ⟨clk, [(0, v0), (1, v1), (2, v2), (3, v3), (4, v4), (5, v5), (10, v10), (11, v11), (12, v12), (13, v13), (14, v14), (15, v15), (16, v16), (17, v17), (18, v18), (19, v19), (20, v20), (21, v21), (22, v22), (25, v25), (39, v39), (44, v44), (66, v66), (77, v77), (92, v92), (94, v94), (95, v95), (96, v96), (127, v127)], tips, lk, bx⟩ k = runK cf sg tips r6_1 ⟨clk + 1, [(0, v0), (1, v1), (2, v2), (3, v3), (4, v4), (5, v5), (10, v10), (11, v11), (12, v12), (13, v13), (14, v14), (15, v15), (16, v16), (17, v17), (18, v18), (19, v19), (20, v20), (21, v21), (22, v22), (25, v25), (39, v39), (44, v44), (66, v66), (77, v77), (92, v92), (94, v94), (95, v95), (96, v96), (127, v127)], tips, lk, bx⟩ (endK 29 k) := execK_region
@[simp] def r6_4 : List VOper := [⟨some 23, .mv (.tmp 1), none⟩, ⟨some 24, .call 24 [.tmp 23] true [], none⟩, ⟨some 25, .unop .not (.tmp 24), none⟩]
def c6_4 : VC := .region r6_4
@[simp] theorem e6_4 {v0 v1 v2 v3 v4 v5 v10 v11 v12 v13 v14 v15 v16 v17 v18 v19 v20 v21 v22 v25 v39 v44 v66 v77 v92 v94 v95 v96 v127 : V} : execK cf sg m c6_4 ⟨clk, [(0, v0), (1, v1), (2, v2), (3, v3), (4, v4), (5, v5), (10, v10), (11, v11), (12, v12), (13, v13), (14, v14), (15, v15), (16, v16), (17, v17), (18, v18), (19, v19), (20, v20), (21, v21), (22, v22), (25, v25), (39, v39), (44, v44), (66, v66), (77, v77), (92, v92), (94, v94), (95, v95), (96, v96), (127, v127)], tips, lk, bx⟩ k = runK cf sg tips r6_4 ⟨clk + 1, [(0, v0), (1, v1), (2, v2), (3, v3), (4, v4), (5, v5), (10, v10), (11, v11), (12, v12), (13, v13), (14, v14), (15, v15), (16, v16), (17, v17), (18, v18), (19, v19), (20, v20), (21, v21), (22, v22), (25, v25), (39, v39), (44, v44), (66, v66), (77, v77), (92, v92), (94, v94), (95, v95), (96, v96), (127, v127)], tips, lk, bx⟩ (endK 29 k) := execK_region
@[simp] def r6_7 : List VOper := [⟨some 26, .call 8 [] true [], none⟩, ⟨some 10, .mv (.tmp 26), none⟩]
def c6_7 : VC := .region r6_7
@[simp] theorem e6_7 {v0 v1 v2 v3 v4 v5 v10 v11 v12 v13 v14 v15 v16 v17 v18 v19 v20 v21 v22 v25 v39 v44 v66 v77 v92 v94 v95 v96 v127 : V} : execK cf sg m c6_7 ⟨clk, [(0, v0), (1, v1), (2, v2), (3, v3), (4, v4), (5, v5), (10, v10), (11, v11), (12, v12), (13, v13), (14, v14), (15, v15), (16, v16), (17, v17), (18, v18), (19, v19), (20, v20), (21, v21), (22, v22), (25, v25), (39, v39), (44, v44), (66, v66), (77, v77), (92, v92), (94, v94), (95, v95), (96, v96), (127, v127)], tips, lk, bx⟩ k = runK cf sg tips r6_7 ⟨clk + 1, [(0, v0), (1, v1), (2, v2), (3, v3), (4, v4), (5, v5), (10, v10), (11, v11), (12, v12), (13, v13), (14, v14), (15, v15), (16, v16), (17, v17), (18, v18), (19, v19), (20, v20), (21, v21), (22, v22), (25, v25), (39, v39), (44, v44), (66, v66), (77, v77), (92, v92), (94, v94), (95, v95), (96, v96), (127, v127)], tips, lk, bx⟩ (endK 29 k) := execK_region
def c6_8 : VC := .ret
@[simp] theorem e6_8 {e : Env} : execK cf sg m c6_8 ⟨clk, e, tips, lk, bx⟩ k = execK cf sg m (.ret) ⟨clk, e, tips, lk, bx⟩ k := rfl
def c6_6 : VC := .seq c6_7 c6_8
@[simp] theorem e6_6 {e : Env} : execK cf sg m c6_6 ⟨clk, e, tips, lk, bx⟩ k = execK cf sg m (.seq c6_7 c6_8) ⟨clk, e, tips, lk, bx⟩ k := rfl
def c6_9 : VC := .skip
@[simp] theorem e6_9 {e : Env} : execK cf sg m c6_9 ⟨clk, e, tips, lk, bx⟩ k = execK cf sg m (.skip) ⟨clk, e, tips, lk, bx⟩ k := rfl
def c6_5 : VC := .cond (.tmp 25) c6_6 c6_9
@[simp] theorem e6_5 {e : Env} : execK cf sg m c6_5 ⟨clk, e, tips, lk, bx⟩ k = execK cf sg m (.cond (.tmp 25) c6_6 c6_9) ⟨clk, e, tips, lk, bx⟩ k := rfl
def c6_3 : VC := .seq c6_4 c6_5
@[simp] theorem e6_3 {e : Env} : execK cf sg m c6_3 ⟨clk, e, tips, lk, bx⟩ k = execK cf sg m (.seq c6_4 c6_5) ⟨clk, e, tips, lk, bx⟩ k := rfl
@[simp] def r6_11 : List VOper := [⟨some 28, .load (.r 5) true 6 (.tmp 5), none⟩, ⟨some 29, .call 10 [.tmp 28] true [], none⟩, ⟨some 30, .call 19 [.tmp 29] true [], none⟩, ⟨some 27, .mv (.tmp 30), none⟩, ⟨some 31, .extract 0 (.tmp 27), none⟩, ⟨some 32, .extract 1 (.tmp 27), none⟩, ⟨some 11, .allocR [.int .u8 0, .int .u8 0, .int .u8 0, .int .u8 0, .int .u8 0, .int .u8 0], none⟩, ⟨none, .store (.r 11) 6 (.tmp 11) (.tmp 31), none⟩, ⟨some 12, .mv (.tmp 32), none⟩]
def c6_11 : VC := .region r6_11
@[simp] theorem e6_11 {v0 v1 v2 v3 v4 v5 v10 v11 v12 v13 v14 v15 v16 v17 v18 v19 v20 v21 v22 v25 v39 v44 v66 v77 v92 v94 v95 v96 v127 : V} : execK cf sg m c6_11 ⟨clk, [(0, v0), (1, v1), (2, v2), (3, v3), (4, v4), (5, v5), (10, v10), (11, v11), (12, v12), (13, v13), (14, v14), (15, v15), (16, v16), (17, v17), (18, v18), (19, v19), (20, v20), (21, v21), (22, v22), (25, v25), (39, v39), (44, v44), (66, v66), (77, v77), (92, v92), (94, v94), (95, v95), (96, v96), (127, v127)], tips, lk, bx⟩ k = runK cf sg tips r6_11 ⟨clk + 1, [(0, v0), (1, v1), (2, v2), (3, v3), (4, v4), (5, v5), (10, v10), (11, v11), (12, v12), (13, v13), (14, v14), (15, v15), (16, v16), (17, v17), (18, v18), (19, v19), (20, v20), (21, v21), (22, v22), (25, v25), (39, v39), (44, v44), (66, v66), (77, v77), (92, v92), (94, v94), (95, v95), (96, v96), (127, v127)], tips, lk, bx⟩ (endK 29 k) := execK_region
@[simp] def r6_14 : List VOper := [⟨some 33, .mv (.tmp 12), none⟩, ⟨some 34, .bin .neq (.tmp 33) (.const (.int .i64 0)), none⟩, ⟨some 35, .mv (.tmp 34), none⟩, ⟨some 36, .load (.r 11) true 6 (.tmp 11), some (35, false)⟩, ⟨some 37, .load (.r 5) true 6 (.tmp 5), some (35, false)⟩, ⟨some 38, .eq true (.flat [.i, .i, .i, .i, .i, .i]) (.tmp 36) (.tmp 37), some (35, false)⟩, ⟨some 39, .pick (.tmp 35) (.const (.bool true)) (.tmp 38), none⟩]
def c6_14 : VC := .region r6_14
@[simp] theorem e6_14 {v0 v1 v2 v3 v4 v5 v10 v11 v12 v13 v14 v15 v16 v17 v18 v19 v20 v21 v22 v25 v39 v44 v66 v77 v92 v94 v95 v96 v127 : V} : execK cf sg m c6_14 ⟨clk, [(0, v0), (1, v1), (2, v2), (3, v3), (4, v4), (5, v5), (10, v10), (11, v11), (12, v12), (13, v13), (14, v14), (15, v15), (16, v16), (17, v17), (18, v18), (19, v19), (20, v20), (21, v21), (22, v22), (25, v25), (39, v39), (44, v44), (66, v66), (77, v77), (92, v92), (94, v94), (95, v95), (96, v96), (127, v127)], tips, lk, bx⟩ k = runK cf sg tips r6_14 ⟨clk + 1, [(0, v0), (1, v1), (2, v2), (3, v3), (4, v4), (5, v5), (10, v10), (11, v11), (12, v12), (13, v13), (14, v14), (15, v15), (16, v16), (17, v17), (18, v18), (19, v19), (20, v20), (21, v21), (22, v22), (25, v25), (39, v39), (44, v44), (66, v66), (77, v77), (92, v92), (94, v94), (95, v95), (96, v96), (127, v127)], tips, lk, bx⟩ (endK 29 k) := execK_region
@[simp] def r6_17 : List VOper := [⟨some 10, .mv (.const (.bool false)), none⟩]
def c6_17 : VC := .region r6_17
@[simp] theorem e6_17 {v0 v1 v2 v3 v4 v5 v10 v11 v12 v13 v14 v15 v16 v17 v18 v19 v20 v21 v22 v25 v39 v44 v66 v77 v92 v94 v95 v96 v127 : V} : execK cf sg m c6_17 ⟨clk, [(0, v0), (1, v1), (2, v2), (3, v3), (4, v4), (5, v5), (10, v10), (11, v11), (12, v12), (13, v13), (14, v14), (15, v15), (16, v16), (17, v17), (18, v18), (19, v19), (20, v20), (21, v21), (22, v22), (25, v25), (39, v39), (44, v44), (66, v66), (77, v77), (92, v92), (94, v94), (95, v95), (96, v96), (127, v127)], tips, lk, bx⟩ k = runK cf sg tips r6_17 ⟨clk + 1, [(0, v0), (1, v1), (2, v2), (3, v3), (4, v4), (5, v5), (10, v10), (11, v11), (12, v12), (13, v13), (14, v14), (15, v15), (16, v16), (17, v17), (18, v18), (19, v19), (20, v20), (21, v21), (22, v22), (25, v25), (39, v39), (44, v44), (66, v66), (77, v77), (92, v92), (94, v94), (95, v95), (96, v96), (127, v127)], tips, lk, bx⟩ (endK 29 k) := execK_region
def c6_18 : VC := .ret
@[simp] theorem e6_18 {e : Env} : execK cf sg m c6_18 ⟨clk, e, tips, lk, bx⟩ k = execK cf sg m (.ret) ⟨clk, e, tips, lk, bx⟩ k := rfl
def c6_16 : VC := .seq c6_17 c6_18
@[simp] theorem e6_16 {e : Env} : execK cf sg m c6_16 ⟨clk, e, tips, lk, bx⟩ k = execK cf sg m (.seq c6_17 c6_18) ⟨clk, e, tips, lk, bx⟩ k := rfl
def c6_19 : VC := .skip
@[simp] theorem e6_19 {e : Env} : execK cf sg m c6_19 ⟨clk, e, tips, lk, bx⟩ k = execK cf sg m (.skip) ⟨clk, e, tips, lk, bx⟩ k := rfl
def c6_15 : VC := .cond (.tmp 39) c6_16 c6_19
@[simp] theorem e6_15 {e : Env} : execK cf sg m c6_15 ⟨clk, e, tips, lk, bx⟩ k = execK cf sg m (.cond (.tmp 39) c6_16 c6_19) ⟨clk, e, tips, lk, bx⟩ k := rfl
def c6_13 : VC := .seq c6_14 c6_15
@[simp] theorem e6_13 {e : Env} : execK cf sg m c6_13 ⟨clk, e, tips, lk, bx⟩ k = execK cf sg m (.seq c6_14 c6_15) ⟨clk, e, tips, lk, bx⟩ k := rfl
@[simp] def r6_21 : List VOper := [⟨some 40, .mv (.tmp 2), none⟩, ⟨some 41, .call 26 [.tmp 40] true [], none⟩, ⟨some 42, .call 25 [.tmp 41] false [], none⟩, ⟨some 13, .allocR [.int .u8 0, .int .u8 0, .int .u8 0, .int .u8 0, .int .u8 0, .int .u8 0, .int .u8 0, .int .u8 0, .int .u8 0, .int .u8 0, .int .u8 0, .int .u8 0, .int .i64 0, .int .i64 0, .nils], none⟩, ⟨none, .store (.r 13) 15 (.tmp 13) (.tmp 42), none⟩]
def c6_21 : VC := .region r6_21
@[simp] theorem e6_21 {v0 v1 v2 v3 v4 v5 v10 v11 v12 v13 v14 v15 v16 v17 v18 v19 v20 v21 v22 v25 v39 v44 v66 v77 v92 v94 v95 v96 v127 : V} : execK cf sg m c6_21 ⟨clk, [(0, v0), (1, v1), (2, v2), (3, v3), (4, v4), (5, v5), (10, v10), (11, v11), (12, v12), (13, v13), (14, v14), (15, v15), (16, v16), (17, v17), (18, v18), (19, v19), (20, v20), (21, v21), (22, v22), (25, v25), (39, v39), (44, v44), (66, v66), (77, v77), (92, v92), (94, v94), (95, v95), (96, v96), (127, v127)], tips, lk, bx⟩ k = runK cf sg tips r6_21 ⟨clk + 1, [(0, v0), (1, v1), (2, v2), (3, v3), (4, v4), (5, v5), (10, v10), (11, v11), (12, v12), (13, v13), (14, v14), (15, v15), (16, v16), (17, v17), (18, v18), (19, v19), (20, v20), (21, v21), (22, v22), (25, v25), (39, v39), (44, v44), (66, v66), (77, v77), (92, v92), (94, v94), (95, v95), (96, v96), (127, v127)], tips, lk, bx⟩ (endK 29 k) := execK_region
@[simp] def r6_24 : List VOper := [⟨some 43, .load (.r 13) true 15 (.tmp 13), none⟩, ⟨some 44, .call 29 [.tmp 43] true [], none⟩]
def c6_24 : VC := .region r6_24
@[simp] theorem e6_24 {v0 v1 v2 v3 v4 v5 v10 v11 v12 v13 v14 v15 v16 v17 v18 v19 v20 v21 v22 v25 v39 v44 v66 v77 v92 v94 v95 v96 v127 : V} : execK cf sg m c6_24 ⟨clk, [(0, v0), (1, v1), (2, v2), (3, v3), (4, v4), (5, v5), (10, v10), (11, v11), (12, v12), (13, v13), (14, v14), (15, v15), (16, v16), (17, v17), (18, v18), (19, v19), (20, v20), (21, v21), (22, v22), (25, v25), (39, v39), (44, v44), (66, v66), (77, v77), (92, v92), (94, v94), (95, v95), (96, v96), (127, v127)], tips, lk, bx⟩ k = runK cf sg tips r6_24 ⟨clk + 1, [(0, v0), (1, v1), (2, v2), (3, v3), (4, v4), (5, v5), (10, v10), (11, v11), (12, v12), (13, v13), (14, v14), (15, v15), (16, v16), (17, v17), (18, v18), (19, v19), (20, v20), (21, v21), (22, v22), (25, v25), (39, v39), (44, v44), (66, v66), (77, v77), (92, v92), (94, v94), (95, v95), (96, v96), (127, v127)], tips, lk, bx⟩ (endK 29 k) := execK_region
@[simp] def r6_27 : List VOper := [⟨some 46, .load (.r 13) true 15 (.tmp 13), none⟩, ⟨some 47, .call 27 [.tmp 46] true [], none⟩, ⟨some 45, .mv (.tmp 47), none⟩, ⟨some 48, .extract 0 (.tmp 45), none⟩, ⟨some 49, .extract 1 (.tmp 45), none⟩, ⟨some 14, .mv (.tmp 48), none⟩, ⟨some 15, .mv (.tmp 49), none⟩]
def c6_27 : VC := .region r6_27
@[simp] theorem e6_27 {v0 v1 v2 v3 v4 v5 v10 v11 v12 v13 v14 v15 v16 v17 v18 v19 v20 v21 v22 v25 v39 v44 v66 v77 v92 v94 v95 v96 v127 : V} : execK cf sg m c6_27 ⟨clk, [(0, v0), (1, v1), (2, v2), (3, v3), (4, v4), (5, v5), (10, v10), (11, v11), (12, v12), (13, v13), (14, v14), (15, v15), (16, v16), (17, v17), (18, v18), (19, v19), (20, v20), (21, v21), (22, v22), (25, v25), (39, v39), (44, v44), (66, v66), (77, v77), (92, v92), (94, v94), (95, v95), (96, v96), (127, v127)], tips, lk, bx⟩ k = runK cf sg tips r6_27 ⟨clk + 1, [(0, v0), (1, v1), (2, v2), (3, v3), (4, v4), (5, v5), (10, v10), (11, v11), (12, v12), (13, v13), (14, v14), (15, v15), (16, v16), (17, v17), (18, v18), (19, v19), (20, v20), (21, v21), (22, v22), (25, v25), (39, v39), (44, v44), (66, v66), (77, v77), (92, v92), (94, v94), (95, v95), (96, v96), (127, v127)], tips, lk, bx⟩ (endK 29 k) := execK_region
@[simp] def r6_29 : List VOper := [⟨some 51, .mv (.tmp 14), none⟩, ⟨some 52, .call 31 [.tmp 51] true [], none⟩, ⟨some 50, .mv (.tmp 52), none⟩, ⟨some 53, .extract 0 (.tmp 50), none⟩, ⟨some 54, .extract 1 (.tmp 50), none⟩, ⟨some 16, .allocR [.int .u8 0, .int .u8 0, .int .u8 0, .int .u8 0, .int .u8 0, .int .u8 0, .int .u8 0, .int .u8 0, .int .u8 0, .int .u8 0, .int .u8 0, .int .u8 0, .int .i64 0, .int .i64 0, .nils], none⟩, ⟨none, .store (.r 16) 15 (.tmp 16) (.tmp 53), none⟩, ⟨some 17, .mv (.tmp 54), none⟩]
def c6_29 : VC := .region r6_29
@[simp] theorem e6_29 {v0 v1 v2 v3 v4 v5 v10 v11 v12 v13 v14 v15 v16 v17 v18 v19 v20 v21 v22 v25 v39 v44 v66 v77 v92 v94 v95 v96 v127 : V} : execK cf sg m c6_29 ⟨clk, [(0, v0), (1, v1), (2, v2), (3, v3), (4, v4), (5, v5), (10, v10), (11, v11), (12, v12), (13, v13), (14, v14), (15, v15), (16, v16), (17, v17), (18, v18), (19, v19), (20, v20), (21, v21), (22, v22), (25, v25), (39, v39), (44, v44), (66, v66), (77, v77), (92, v92), (94, v94), (95, v95), (96, v96), (127, v127)], tips, lk, bx⟩ k = runK cf sg tips r6_29 ⟨clk + 1, [(0, v0), (1, v1), (2, v2), (3, v3), (4, v4), (5, v5), (10, v10), (11, v11), (12, v12), (13, v13), (14, v14), (15, v15), (16, v16), (17, v17), (18, v18), (19, v19), (20, v20), (21, v21), (22, v22), (25, v25), (39, v39), (44, v44), (66, v66), (77, v77), (92, v92), (94, v94), (95, v95), (96, v96), (127, v127)], tips, lk, bx⟩ (endK 29 k) := execK_region
@[simp] def r6_32 : List VOper := [⟨some 55, .mv (.tmp 15), none⟩, ⟨some 56, .bin .neq (.tmp 55) (.const (.int .i64 0)), none⟩, ⟨some 57, .mv (.tmp 56), none⟩, ⟨some 58, .mv (.tmp 17), some (57, false)⟩, ⟨some 59, .bin .neq (.tmp 58) (.const (.int .i64 0)), some (57, false)⟩, ⟨some 60, .pick (.tmp 57) (.const (.bool true)) (.tmp 59), none⟩, ⟨some 61, .mv (.tmp 60), none⟩, ⟨some 62, .load (.r 13) true 15 (.tmp 13), some (61, false)⟩, ⟨some 63, .load (.r 16) true 15 (.tmp 16), some (61, false)⟩, ⟨some 64, .call 33 [.tmp 62, .tmp 63] true [], some (61, false)⟩, ⟨some 65, .unop .not (.tmp 64), some (61, false)⟩, ⟨some 66, .pick (.tmp 61) (.const (.bool true)) (.tmp 65), none⟩]
def c6_32 : VC := .region r6_32
@[simp] theorem e6_32 {v0 v1 v2 v3 v4 v5 v10 v11 v12 v13 v14 v15 v16 v17 v18 v19 v20 v21 v22 v25 v39 v44 v66 v77 v92 v94 v95 v96 v127 : V} : execK cf sg m c6_32 ⟨clk, [(0, v0), (1, v1), (2, v2), (3, v3), (4, v4), (5, v5), (10, v10), (11, v11), (12, v12), (13, v13), (14, v14), (15, v15), (16, v16), (17, v17), (18, v18), (19, v19), (20, v20), (21, v21), (22, v22), (25, v25), (39, v39), (44, v44), (66, v66), (77, v77), (92, v92), (94, v94), (95, v95), (96, v96), (127, v127)], tips, lk, bx⟩ k = runK cf sg tips r6_32 ⟨clk + 1, [(0, v0), (1, v1), (2, v2), (3, v3), (4, v4), (5, v5), (10, v10), (11, v11), (12, v12), (13, v13), (14, v14), (15, v15), (16, v16), (17, v17), (18, v18), (19, v19), (20, v20), (21, v21), (22, v22), (25, v25), (39, v39), (44, v44), (66, v66), (77, v77), (92, v92), (94, v94), (95, v95), (96, v96), (127, v127)], tips, lk, bx⟩ (endK 29 k) := execK_region
@[simp] def r6_35 : List VOper := [⟨some 10, .mv (.const (.bool false)), none⟩]
def c6_35 : VC := .region r6_35
@[simp] theorem e6_35 {v0 v1 v2 v3 v4 v5 v10 v11 v12 v13 v14 v15 v16 v17 v18 v19 v20 v21 v22 v25 v39 v44 v66 v77 v92 v94 v95 v96 v127 : V} : execK cf sg m c6_35 ⟨clk, [(0, v0), (1, v1), (2, v2), (3, v3), (4, v4), (5, v5), (10, v10), (11, v11), (12, v12), (13, v13), (14, v14), (15, v15), (16, v16), (17, v17), (18, v18), (19, v19), (20, v20), (21, v21), (22, v22), (25, v25), (39, v39), (44, v44), (66, v66), (77, v77), (92, v92), (94, v94), (95, v95), (96, v96), (127, v127)], tips, lk, bx⟩ k = runK cf sg tips r6_35 ⟨clk + 1, [(0, v0), (1, v1), (2, v2), (3, v3), (4, v4), (5, v5), (10, v10), (11, v11), (12, v12), (13, v13), (14, v14), (15, v15), (16, v16), (17, v17), (18, v18), (19, v19), (20, v20), (21, v21), (22, v22), (25, v25), (39, v39), (44, v44), (66, v66), (77, v77), (92, v92), (94, v94), (95, v95), (96, v96), (127, v127)], tips, lk, bx⟩ (endK 29 k) := execK_region
def c6_36 : VC := .ret
@[simp] theorem e6_36 {e : Env} : execK cf sg m c6_36 ⟨clk, e, tips, lk, bx⟩ k = execK cf sg m (.ret) ⟨clk, e, tips, lk, bx⟩ k := rfl
def c6_34 : VC := .seq c6_35 c6_36
@[simp] theorem e6_34 {e : Env} : execK cf sg m c6_34 ⟨clk, e, tips, lk, bx⟩ k = execK cf sg m (.seq c6_35 c6_36) ⟨clk, e, tips, lk, bx⟩ k := rfl
def c6_37 : VC := .skip
@[simp] theorem e6_37 {e : Env} : execK cf sg m c6_37 ⟨clk, e, tips, lk, bx⟩ k = execK cf sg m (.skip) ⟨clk, e, tips, lk, bx⟩ k := rfl
def c6_33 : VC := .cond (.tmp 66) c6_34 c6_37
@[simp] theorem e6_33 {e : Env} : execK cf sg m c6_33 ⟨clk, e, tips, lk, bx⟩ k = execK cf sg m (.cond (.tmp 66) c6_34 c6_37) ⟨clk, e, tips, lk, bx⟩ k := rfl
def c6_31 : VC := .seq c6_32 c6_33
@[simp] theorem e6_31 {e : Env} : execK cf sg m c6_31 ⟨clk, e, tips, lk, bx⟩ k = execK cf sg m (.seq c6_32 c6_33) ⟨clk, e, tips, lk, bx⟩ k := rfl
@[simp] def r6_38 : List VOper := [⟨some 67, .mv (.tmp 14), none⟩, ⟨some 68, .mv (.tmp 3), none⟩, ⟨some 69, .mv (.tmp 4), none⟩, ⟨some 70, .call 18 [.tmp 67, .tmp 68, .tmp 69] true [], none⟩, ⟨some 1, .mv (.tmp 70), none⟩]
def c6_38 : VC := .region r6_38
@[simp] theorem e6_38 {v0 v1 v2 v3 v4 v5 v10 v11 v12 v13 v14 v15 v16 v17 v18 v19 v20 v21 v22 v25 v39 v44 v66 v77 v92 v94 v95 v96 v127 : V} : execK cf sg m c6_38 ⟨clk, [(0, v0), (1, v1), (2, v2), (3, v3), (4, v4), (5, v5), (10, v10), (11, v11), (12, v12), (13, v13), (14, v14), (15, v15), (16, v16), (17, v17), (18, v18), (19, v19), (20, v20), (21, v21), (22, v22), (25, v25), (39, v39), (44, v44), (66, v66), (77, v77), (92, v92), (94, v94), (95, v95), (96, v96), (127, v127)], tips, lk, bx⟩ k = runK cf sg tips r6_38 ⟨clk + 1, [(0, v0), (1, v1), (2, v2), (3, v3), (4, v4), (5, v5), (10, v10), (11, v11), (12, v12), (13, v13), (14, v14), (15, v15), (16, v16), (17, v17), (18, v18), (19, v19), (20, v20), (21, v21), (22, v22), (25, v25), (39, v39), (44, v44), (66, v66), (77, v77), (92, v92), (94, v94), (95, v95), (96, v96), (127, v127)], tips, lk, bx⟩ (endK 29 k) := execK_region
def c6_30 : VC := .seq c6_31 c6_38
@[simp] theorem e6_30 {e : Env} : execK cf sg m c6_30 ⟨clk, e, tips, lk, bx⟩ k = execK cf sg m (.seq c6_31 c6_38) ⟨clk, e, tips, lk, bx⟩ k := rfl
def c6_28 : VC := .seq c6_29 c6_30
@[simp] theorem e6_28 {e : Env} : execK cf sg m c6_28 ⟨clk, e, tips, lk, bx⟩ k = execK cf sg m (.seq c6_29 c6_30) ⟨clk, e, tips, lk, bx⟩ k := rfl
def c6_26 : VC := .seq c6_27 c6_28
@[simp] theorem e6_26 {e : Env} : execK cf sg m c6_26 ⟨clk, e, tips, lk, bx⟩ k = execK cf sg m (.seq c6_27 c6_28) ⟨clk, e, tips, lk, bx⟩ k := rfl
def c6_39 : VC := .skip
@[simp] theorem e6_39 {e : Env} : execK cf sg m c6_39 ⟨clk, e, tips, lk, bx⟩ k = execK cf sg m (.skip) ⟨clk, e, tips, lk, bx⟩ k := rfl
def c6_25 : VC := .cond (.tmp 44) c6_26 c6_39
@[simp] theorem e6_25 {e : Env} : execK cf sg m c6_25 ⟨clk, e, tips, lk, bx⟩ k = execK cf sg m (.cond (.tmp 44) c6_26 c6_39) ⟨clk, e, tips, lk, bx⟩ k := rfl
def c6_23 : VC := .seq c6_24 c6_25
@[simp] theorem e6_23 {e : Env} : execK cf sg m c6_23 ⟨clk, e, tips, lk, bx⟩ k = execK cf sg m (.seq c6_24 c6_25) ⟨clk, e, tips, lk, bx⟩ k := rfl
@[simp] def r6_41 : List VOper := [⟨some 72, .mv (.tmp 1), none⟩, ⟨some 73, .call 31 [.tmp 72] true [], none⟩, ⟨some 71, .mv (.tmp 73), none⟩, ⟨some 74, .extract 0 (.tmp 71), none⟩, ⟨some 75, .extract 1 (.tmp 71), none⟩, ⟨some 18, .allocR [.int .u8 0, .int .u8 0, .int .u8 0, .int .u8 0, .int .u8 0, .int .u8 0, .int .u8 0, .int .u8 0, .int .u8 0, .int .u8 0, .int .u8 0, .int .u8 0, .int .i64 0, .int .i64 0, .nils], none⟩, ⟨none, .store (.r 18) 15 (.tmp 18) (.tmp 74), none⟩, ⟨some 19, .mv (.tmp 75), none⟩]
def c6_41 : VC := .region r6_41
@[simp] theorem e6_41 {v0 v1 v2 v3 v4 v5 v10 v11 v12 v13 v14 v15 v16 v17 v18 v19 v20 v21 v22 v25 v39 v44 v66 v77 v92 v94 v95 v96 v127 : V} : execK cf sg m c6_41 ⟨clk, [(0, v0), (1, v1), (2, v2), (3, v3), (4, v4), (5, v5), (10, v10), (11, v11), (12, v12), (13, v13), (14, v14), (15, v15), (16, v16), (17, v17), (18, v18), (19, v19), (20, v20), (21, v21), (22, v22), (25, v25), (39, v39), (44, v44), (66, v66), (77, v77), (92, v92), (94, v94), (95, v95), (96, v96), (127, v127)], tips, lk, bx⟩ k = runK cf sg tips r6_41 ⟨clk + 1, [(0, v0), (1, v1), (2, v2), (3, v3), (4, v4), (5, v5), (10, v10), (11, v11), (12, v12), (13, v13), (14, v14), (15, v15), (16, v16), (17, v17), (18, v18), (19, v19), (20, v20), (21, v21), (22, v22), (25, v25), (39, v39), (44, v44), (66, v66), (77, v77), (92, v92), (94, v94), (95, v95), (96, v96), (127, v127)], tips, lk, bx⟩ (endK 29 k) := execK_region
@[simp] def r6_44 : List VOper := [⟨some 76, .mv (.tmp 19), none⟩, ⟨some 77, .bin .neq (.tmp 76) (.const (.int .i64 0)), none⟩]
def c6_44 : VC := .region r6_44
@[simp] theorem e6_44 {v0 v1 v2 v3 v4 v5 v10 v11 v12 v13 v14 v15 v16 v17 v18 v19 v20 v21 v22 v25 v39 v44 v66 v77 v92 v94 v95 v96 v127 : V} : execK cf sg m c6_44 ⟨clk, [(0, v0), (1, v1), (2, v2), (3, v3), (4, v4), (5, v5), (10, v10), (11, v11), (12, v12), (13, v13), (14, v14), (15, v15), (16, v16), (17, v17), (18, v18), (19, v19), (20, v20), (21, v21), (22, v22), (25, v25), (39, v39), (44, v44), (66, v66), (77, v77), (92, v92), (94, v94), (95, v95), (96, v96), (127, v127)], tips, lk, bx⟩ k = runK cf sg tips r6_44 ⟨clk + 1, [(0, v0), (1, v1), (2, v2), (3, v3), (4, v4), (5, v5), (10, v10), (11, v11), (12, v12), (13, v13), (14, v14), (15, v15), (16, v16), (17, v17), (18, v18), (19, v19), (20, v20), (21, v21), (22, v22), (25, v25), (39, v39), (44, v44), (66, v66), (77, v77), (92, v92), (94, v94), (95, v95), (96, v96), (127, v127)], tips, lk, bx⟩ (endK 29 k) := execK_region
@[simp] def r6_47 : List VOper := [⟨some 78, .call 8 [] true [], none⟩, ⟨some 10, .mv (.tmp 78), none⟩]
def c6_47 : VC := .region r6_47
@[simp] theorem e6_47 {v0 v1 v2 v3 v4 v5 v10 v11 v12 v13 v14 v15 v16 v17 v18 v19 v20 v21 v22 v25 v39 v44 v66 v77 v92 v94 v95 v96 v127 : V} : execK cf sg m c6_47 ⟨clk, [(0, v0), (1, v1), (2, v2), (3, v3), (4, v4), (5, v5), (10, v10), (11, v11), (12, v12), (13, v13), (14, v14), (15, v15), (16, v16), (17, v17), (18, v18), (19, v19), (20, v20), (21, v21), (22, v22), (25, v25), (39, v39), (44, v44), (66, v66), (77, v77), (92, v92), (94, v94), (95, v95), (96, v96), (127, v127)], tips, lk, bx⟩ k = runK cf sg tips r6_47 ⟨clk + 1, [(0, v0), (1, v1), (2, v2), (3, v3), (4, v4), (5, v5), (10, v10), (11, v11), (12, v12), (13, v13), (14, v14), (15, v15), (16, v16), (17, v17), (18, v18), (19, v19), (20, v20), (21, v21), (22, v22), (25, v25), (39, v39), (44, v44), (66, v66), (77, v77), (92, v92), (94, v94), (95, v95), (96, v96), (127, v127)], tips, lk, bx⟩ (endK 29 k) := execK_region
def c6_48 : VC := .ret
@[simp] theorem e6_48 {e : Env} : execK cf sg m c6_48 ⟨clk, e, tips, lk, bx⟩ k = execK cf sg m (.ret) ⟨clk, e, tips, lk, bx⟩ k := rfl
def c6_46 : VC := .seq c6_47 c6_48
@[simp] theorem e6_46 {e : Env} : execK cf sg m c6_46 ⟨clk, e, tips, lk, bx⟩ k = execK cf sg m (.seq c6_47 c6_48) ⟨clk, e, tips, lk, bx⟩ k := rfl
def c6_49 : VC := .skip
@[simp] theorem e6_49 {e : Env} : execK cf sg m c6_49 ⟨clk, e, tips, lk, bx⟩ k = execK cf sg m (.skip) ⟨clk, e, tips, lk, bx⟩ k := rfl
def c6_45 : VC := .cond (.tmp 77) c6_46 c6_49
@[simp] theorem e6_45 {e : Env} : execK cf sg m c6_45 ⟨clk, e, tips, lk, bx⟩ k = execK cf sg m (.cond (.tmp 77) c6_46 c6_49) ⟨clk, e, tips, lk, bx⟩ k := rfl
def c6_43 : VC := .seq c6_44 c6_45
@[simp] theorem e6_43 {e : Env} : execK cf sg m c6_43 ⟨clk, e, tips, lk, bx⟩ k = execK cf sg m (.seq c6_44 c6_45) ⟨clk, e, tips, lk, bx⟩ k := rfl
@[simp] def r6_51 : List VOper := [⟨some 80, .load (.r 18) true 15 (.tmp 18), none⟩, ⟨some 81, .call 27 [.tmp 80] true [], none⟩, ⟨some 79, .mv (.tmp 81), none⟩, ⟨some 82, .extract 0 (.tmp 79), none⟩, ⟨some 83, .extract 1 (.tmp 79), none⟩, ⟨some 20, .mv (.tmp 82), none⟩, ⟨some 21, .mv (.tmp 83), none⟩]
def c6_51 : VC := .region r6_51
@[simp] theorem e6_51 {v0 v1 v2 v3 v4 v5 v10 v11 v12 v13 v14 v15 v16 v17 v18 v19 v20 v21 v22 v25 v39 v44 v66 v77 v92 v94 v95 v96 v127 : V} : execK cf sg m c6_51 ⟨clk, [(0, v0), (1, v1), (2, v2), (3, v3), (4, v4), (5, v5), (10, v10), (11, v11), (12, v12), (13, v13), (14, v14), (15, v15), (16, v16), (17, v17), (18, v18), (19, v19), (20, v20), (21, v21), (22, v22), (25, v25), (39, v39), (44, v44), (66, v66), (77, v77), (92, v92), (94, v94), (95, v95), (96, v96), (127, v127)], tips, lk, bx⟩ k = runK cf sg tips r6_51 ⟨clk + 1, [(0, v0), (1, v1), (2, v2), (3, v3), (4, v4), (5, v5), (10, v10), (11, v11), (12, v12), (13, v13), (14, v14), (15, v15), (16, v16), (17, v17), (18, v18), (19, v19), (20, v20), (21, v21), (22, v22), (25, v25), (39, v39), (44, v44), (66, v66), (77, v77), (92, v92), (94, v94), (95, v95), (96, v96), (127, v127)], tips, lk, bx⟩ (endK 29 k) := execK_region
@[simp] def r6_54 : List VOper := [⟨some 84, .mv (.tmp 21), none⟩, ⟨some 85, .bin .neq (.tmp 84) (.const (.int .i64 0)), none⟩, ⟨some 86, .mv (.tmp 85), none⟩, ⟨some 87, .mv (.tmp 20), some (86, false)⟩, ⟨some 88, .len false (.tmp 87), some (86, false)⟩, ⟨some 89, .mv (.tmp 1), some (86, false)⟩, ⟨some 90, .len false (.tmp 89), some (86, false)⟩, ⟨some 91, .bin .neq (.tmp 88) (.tmp 90), some (86, false)⟩, ⟨some 92, .pick (.tmp 86) (.const (.bool true)) (.tmp 91), none⟩]
def c6_54 : VC := .region r6_54
@[simp] theorem e6_54 {v0 v1 v2 v3 v4 v5 v10 v11 v12 v13 v14 v15 v16 v17 v18 v19 v20 v21 v22 v25 v39 v44 v66 v77 v92 v94 v95 v96 v127 : V} : execK cf sg m c6_54 ⟨clk, [(0, v0), (1, v1), (2, v2), (3, v3), (4, v4), (5, v5), (10, v10), (11, v11), (12, v12), (13, v13), (14, v14), (15, v15), (16, v16), (17, v17), (18, v18), (19, v19), (20, v20), (21, v21), (22, v22), (25, v25), (39, v39), (44, v44), (66, v66), (77, v77), (92, v92), (94, v94), (95, v95), (96, v96), (127, v127)], tips, lk, bx⟩ k = runK cf sg tips r6_54 ⟨clk + 1, [(0, v0), (1, v1), (2, v2), (3, v3), (4, v4), (5, v5), (10, v10), (11, v11), (12, v12), (13, v13), (14, v14), (15, v15), (16, v16), (17, v17), (18, v18), (19, v19), (20, v20), (21, v21), (22, v22), (25, v25), (39, v39), (44, v44), (66, v66), (77, v77), (92, v92), (94, v94), (95, v95), (96, v96), (127, v127)], tips, lk, bx⟩ (endK 29 k) := execK_region
@[simp] def r6_57 : List VOper := [⟨some 10, .mv (.const (.bool false)), none⟩]
def c6_57 : VC := .region r6_57
@[simp] theorem e6_57 {v0 v1 v2 v3 v4 v5 v10 v11 v12 v13 v14 v15 v16 v17 v18 v19 v20 v21 v22 v25 v39 v44 v66 v77 v92 v94 v95 v96 v127 : V} : execK cf sg m c6_57 ⟨clk, [(0, v0), (1, v1), (2, v2), (3, v3), (4, v4), (5, v5), (10, v10), (11, v11), (12, v12), (13, v13), (14, v14), (15, v15), (16, v16), (17, v17), (18, v18), (19, v19), (20, v20), (21, v21), (22, v22), (25, v25), (39, v39), (44, v44), (66, v66), (77, v77), (92, v92), (94, v94), (95, v95), (96, v96), (127, v127)], tips, lk, bx⟩ k = runK cf sg tips r6_57 ⟨clk + 1, [(0, v0), (1, v1), (2, v2), (3, v3), (4, v4), (5, v5), (10, v10), (11, v11), (12, v12), (13, v13), (14, v14), (15, v15), (16, v16), (17, v17), (18, v18), (19, v19), (20, v20), (21, v21), (22, v22), (25, v25), (39, v39), (44, v44), (66, v66), (77, v77), (92, v92), (94, v94), (95, v95), (96, v96), (127, v127)], tips, lk, bx⟩ (endK 29 k) := execK_region
def c6_58 : VC := .ret
@[simp] theorem e6_58 {e : Env} : execK cf sg m c6_58 ⟨clk, e, tips, lk, bx⟩ k = execK cf sg m (.ret) ⟨clk, e, tips, lk, bx⟩ k := rfl
def c6_56 : VC := .seq c6_57 c6_58
@[simp] theorem e6_56 {e : Env} : execK cf sg m c6_56 ⟨clk, e, tips, lk, bx⟩ k = execK cf sg m (.seq c6_57 c6_58) ⟨clk, e, tips, lk, bx⟩ k := rfl
def c6_59 : VC := .skip
@[simp] theorem e6_59 {e : Env} : execK cf sg m c6_59 ⟨clk, e, tips, lk, bx⟩ k = execK cf sg m (.skip) ⟨clk, e, tips, lk, bx⟩ k := rfl
def c6_55 : VC := .cond (.tmp 92) c6_56 c6_59
@[simp] theorem e6_55 {e : Env} : execK cf sg m c6_55 ⟨clk, e, tips, lk, bx⟩ k = execK cf sg m (.cond (.tmp 92) c6_56 c6_59) ⟨clk, e, tips, lk, bx⟩ k := rfl
def c6_53 : VC := .seq c6_54 c6_55
@[simp] theorem e6_53 {e : Env} : execK cf sg m c6_53 ⟨clk, e, tips, lk, bx⟩ k = execK cf sg m (.seq c6_54 c6_55) ⟨clk, e, tips, lk, bx⟩ k := rfl
@[simp] def r6_62 : List VOper := [⟨some 93, .mv (.tmp 1), none⟩, ⟨some 94, .len false (.tmp 93), none⟩, ⟨some 95, .mv (.const (.int .i64 0)), none⟩]
def c6_62 : VC := .region r6_62
@[simp] theorem e6_62 {v0 v1 v2 v3 v4 v5 v10 v11 v12 v13 v14 v15 v16 v17 v18 v19 v20 v21 v22 v25 v39 v44 v66 v77 v92 v94 v95 v96 v127 : V} : execK cf sg m c6_62 ⟨clk, [(0, v0), (1, v1), (2, v2), (3, v3), (4, v4), (5, v5), (10, v10), (11, v11), (12, v12), (13, v13), (14, v14), (15, v15), (16, v16), (17, v17), (18, v18), (19, v19), (20, v20), (21, v21), (22, v22), (25, v25), (39, v39), (44, v44), (66, v66), (77, v77), (92, v92), (94, v94), (95, v95), (96, v96), (127, v127)], tips, lk, bx⟩ k = runK cf sg tips r6_62 ⟨clk + 1, [(0, v0), (1, v1), (2, v2), (3, v3), (4, v4), (5, v5), (10, v10), (11, v11), (12, v12), (13, v13), (14, v14), (15, v15), (16, v16), (17, v17), (18, v18), (19, v19), (20, v20), (21, v21), (22, v22), (25, v25), (39, v39), (44, v44), (66, v66), (77, v77), (92, v92), (94, v94), (95, v95), (96, v96), (127, v127)], tips, lk, bx⟩ (endK 29 k) := execK_region
@[simp] def r6_66 : List VOper := [⟨some 96, .bin .lss (.tmp 95) (.tmp 94), none⟩]
def c6_66 : VC := .region r6_66
@[simp] theorem e6_66 {v0 v1 v2 v3 v4 v5 v10 v11 v12 v13 v14 v15 v16 v17 v18 v19 v20 v21 v22 v25 v39 v44 v66 v77 v92 v94 v95 v96 v127 : V} : execK cf sg m c6_66 ⟨clk, [(0, v0), (1, v1), (2, v2), (3, v3), (4, v4), (5, v5), (10, v10), (11, v11), (12, v12), (13, v13), (14, v14), (15, v15), (16, v16), (17, v17), (18, v18), (19, v19), (20, v20), (21, v21), (22, v22), (25, v25), (39, v39), (44, v44), (66, v66), (77, v77), (92, v92), (94, v94), (95, v95), (96, v96), (127, v127)], tips, lk, bx⟩ k = runK cf sg tips r6_66 ⟨clk + 1, [(0, v0), (1, v1), (2, v2), (3, v3), (4, v4), (5, v5), (10, v10), (11, v11), (12, v12), (13, v13), (14, v14), (15, v15), (16, v16), (17, v17), (18, v18), (19, v19), (20, v20), (21, v21), (22, v22), (25, v25), (39, v39), (44, v44), (66, v66), (77, v77), (92, v92), (94, v94), (95, v95), (96, v96), (127, v127)], tips, lk, bx⟩ (endK 29 k) := execK_region
def c6_69 : VC := .skip
@[simp] theorem e6_69 {e : Env} : execK cf sg m c6_69 ⟨clk, e, tips, lk, bx⟩ k = execK cf sg m (.skip) ⟨clk, e, tips, lk, bx⟩ k := rfl
def c6_70 : VC := .exit 0
@[simp] theorem e6_70 {e : Env} : execK cf sg m c6_70 ⟨clk, e, tips, lk, bx⟩ k = execK cf sg m (.exit 0) ⟨clk, e, tips, lk, bx⟩ k := rfl
def c6_68 : VC := .cond (.tmp 96) c6_69 c6_70
@[simp] theorem e6_68 {e : Env} : execK cf sg m c6_68 ⟨clk, e, tips, lk, bx⟩ k = execK cf sg m (.cond (.tmp 96) c6_69 c6_70) ⟨clk, e, tips, lk, bx⟩ k := rfl
@[simp] def r6_74 : List VOper := [⟨some 97, .mv (.tmp 95), none⟩, ⟨some 22, .mv (.tmp 97), none⟩]
def c6_74 : VC := .region r6_74
@[simp] theorem e6_74 {v0 v1 v2 v3 v4 v5 v10 v11 v12 v13 v14 v15 v16 v17 v18 v19 v20 v21 v22 v25 v39 v44 v66 v77 v92 v94 v95 v96 v127 : V} : execK cf sg m c6_74 ⟨clk, [(0, v0), (1, v1), (2, v2), (3, v3), (4, v4), (5, v5), (10, v10), (11, v11), (12, v12), (13, v13), (14, v14), (15, v15), (16, v16), (17, v17), (18, v18), (19, v19), (20, v20), (21, v21), (22, v22), (25, v25), (39, v39), (44, v44), (66, v66), (77, v77), (92, v92), (94, v94), (95, v95), (96, v96), (127, v127)], tips, lk, bx⟩ k = runK cf sg tips r6_74 ⟨clk + 1, [(0, v0), (1, v1), (2, v2), (3, v3), (4, v4), (5, v5), (10, v10), (11, v11), (12, v12), (13, v13), (14, v14), (15, v15), (16, v16), (17, v17), (18, v18), (19, v19), (20, v20), (21, v21), (22, v22), (25, v25), (39, v39), (44, v44), (66, v66), (77, v77), (92, v92), (94, v94), (95, v95), (96, v96), (127, v127)], tips, lk, bx⟩ (endK 29 k) := execK_region
@[simp] def r6_76 : List VOper := [⟨some 98, .mv (.tmp 20), none⟩, ⟨some 99, .mv (.tmp 22), none⟩, ⟨some 100, .idxS 1 (.tmp 98) (.tmp 99), none⟩, ⟨some 101, .load (.e []) false 1 (.tmp 100), none⟩, ⟨some 102, .mv (.tmp 1), none⟩, ⟨some 103, .mv (.tmp 22), none⟩, ⟨some 104, .idxS 1 (.tmp 102) (.tmp 103), none⟩, ⟨some 105, .load (.e []) false 1 (.tmp 104), none⟩, ⟨some 106, .bin .neq (.tmp 101) (.tmp 105), none⟩, ⟨some 107, .mv (.tmp 106), none⟩, ⟨some 108, .mv (.tmp 22), some (107, true)⟩, ⟨some 109, .bin .neq (.tmp 108) (.const (.int .i64 14)), some (107, true)⟩, ⟨some 110, .mv (.tmp 109), some (107, true)⟩, ⟨some 111, .fieldA 12 (.tmp 18), some (110, false)⟩, ⟨some 112, .load (.r 18) false 1 (.tmp 111), some (110, false)⟩, ⟨some 113, .bin .eql (.tmp 112) (.const (.int .i64 0)), some (110, false)⟩, ⟨some 114, .pick (.tmp 110) (.const (.bool true)) (.tmp 113), some (107, true)⟩, ⟨some 115, .mv (.tmp 114), some (107, true)⟩, ⟨some 116, .mv (.tmp 20), some (115, false)⟩, ⟨some 117, .mv (.tmp 22), some (115, false)⟩, ⟨some 118, .idxS 1 (.tmp 116) (.tmp 117), some (115, false)⟩, ⟨some 119, .load (.e []) false 1 (.tmp 118), some (115, false)⟩, ⟨some 120, .mv (.tmp 1), some (115, false)⟩, ⟨some 121, .mv (.tmp 22), some (115, false)⟩, ⟨some 122, .idxS 1 (.tmp 120) (.tmp 121), some (115, false)⟩, ⟨some 123, .load (.e []) false 1 (.tmp 122), some (115, false)⟩, ⟨some 124, .bin .and (.tmp 123) (.const (.int .u8 15)), some (115, false)⟩, ⟨some 125, .bin .neq (.tmp 119) (.tmp 124), some (115, false)⟩, ⟨some 126, .pick (.tmp 115) (.const (.bool true)) (.tmp 125), some (107, true)⟩, ⟨some 127, .pick (.tmp 107) (.tmp 126) (.const (.bool false)), none⟩]
def c6_76 : VC := .region r6_76
@[simp] theorem e6_76 {v0 v1 v2 v3 v4 v5 v10 v11 v12 v13 v14 v15 v16 v17 v18 v19 v20 v21 v22 v25 v39 v44 v66 v77 v92 v94 v95 v96 v127 : V} : execK cf sg m c6_76 ⟨clk, [(0, v0), (1, v1), (2, v2), (3, v3), (4, v4), (5, v5), (10, v10), (11, v11), (12, v12), (13, v13), (14, v14), (15, v15), (16, v16), (17, v17), (18, v18), (19, v19), (20, v20), (21, v21), (22, v22), (25, v25), (39, v39), (44, v44), (66, v66), (77, v77), (92, v92), (94, v94), (95, v95), (96, v96), (127, v127)], tips, lk, bx⟩ k = runK cf sg tips r6_76 ⟨clk + 1, [(0, v0), (1, v1), (2, v2), (3, v3), (4, v4), (5, v5), (10, v10), (11, v11), (12, v12), (13, v13), (14, v14), (15, v15), (16, v16), (17, v17), (18, v18), (19, v19), (20, v20), (21, v21), (22, v22), (25, v25), (39, v39), (44, v44), (66, v66), (77, v77), (92, v92), (94, v94), (95, v95), (96, v96), (127, v127)], tips, lk, bx⟩ (endK 29 k) := execK_region
@[simp] def r6_79 : List VOper := [⟨some 10, .mv (.const (.bool false)), none⟩]
def c6_79 : VC := .region r6_79
@[simp] theorem e6_79 {v0 v1 v2 v3 v4 v5 v10 v11 v12 v13 v14 v15 v16 v17 v18 v19 v20 v21 v22 v25 v39 v44 v66 v77 v92 v94 v95 v96 v127 : V} : execK cf sg m c6_79 ⟨clk, [(0, v0), (1, v1), (2, v2), (3, v3), (4, v4), (5, v5), (10, v10), (11, v11), (12, v12), (13, v13), (14, v14), (15, v15), (16, v16), (17, v17), (18, v18), (19, v19), (20, v20), (21, v21), (22, v22), (25, v25), (39, v39), (44, v44), (66, v66), (77, v77), (92, v92), (94, v94), (95, v95), (96, v96), (127, v127)], tips, lk, bx⟩ k = runK cf sg tips r6_79 ⟨clk + 1, [(0, v0), (1, v1), (2, v2), (3, v3), (4, v4), (5, v5), (10, v10), (11, v11), (12, v12), (13, v13), (14, v14), (15, v15), (16, v16), (17, v17), (18, v18), (19, v19), (20, v20), (21, v21), (22, v22), (25, v25), (39, v39), (44, v44), (66, v66), (77, v77), (92, v92), (94, v94), (95, v95), (96, v96), (127, v127)], tips, lk, bx⟩ (endK 29 k) := execK_region
def c6_80 : VC := .ret
@[simp] theorem e6_80 {e : Env} : execK cf sg m c6_80 ⟨clk, e, tips, lk, bx⟩ k = execK cf sg m (.ret) ⟨clk, e, tips, lk, bx⟩ k := rfl
def c6_78 : VC := .seq c6_79 c6_80
@[simp] theorem e6_78 {e : Env} : execK cf sg m c6_78 ⟨clk, e, tips, lk, bx⟩ k = execK cf sg m (.seq c6_79 c6_80) ⟨clk, e, tips, lk, bx⟩ k := rfl
def c6_81 : VC := .skip
@[simp] theorem e6_81 {e : Env} : execK cf sg m c6_81 ⟨clk, e, tips, lk, bx⟩ k = execK cf sg m (.skip) ⟨clk, e, tips, lk, bx⟩ k := rfl
def c6_77 : VC := .cond (.tmp 127) c6_78 c6_81
@[simp] theorem e6_77 {e : Env} : execK cf sg m c6_77 ⟨clk, e, tips, lk, bx⟩ k = execK cf sg m (.cond (.tmp 127) c6_78 c6_81) ⟨clk, e, tips, lk, bx⟩ k := rfl
def c6_75 : VC := .seq c6_76 c6_77
@[simp] theorem e6_75 {e : Env} : execK cf sg m c6_75 ⟨clk, e, tips, lk, bx⟩ k = execK cf sg m (.seq c6_76 c6_77) ⟨clk, e, tips, lk, bx⟩ k := rfl
def c6_73 : VC := .seq c6_74 c6_75
@[simp] theorem e6_73 {e : Env} : execK cf sg m c6_73 ⟨clk, e, tips, lk, bx⟩ k = execK cf sg m (.seq c6_74 c6_75) ⟨clk, e, tips, lk, bx⟩ k := rfl
def c6_72 : VC := .block 1 c6_73
@[simp] theorem e6_72 {e : Env} : execK cf sg m c6_72 ⟨clk, e, tips, lk, bx⟩ k = execK cf sg m (.block 1 c6_73) ⟨clk, e, tips, lk, bx⟩ k := rfl
@[simp] def r6_82 : List VOper := [⟨some 128, .bin .add (.tmp 95) (.const (.int .i64 1)), none⟩, ⟨some 95, .mv (.tmp 128), none⟩]
def c6_82 : VC := .region r6_82
@[simp] theorem e6_82 {v0 v1 v2 v3 v4 v5 v10 v11 v12 v13 v14 v15 v16 v17 v18 v19 v20 v21 v22 v25 v39 v44 v66 v77 v92 v94 v95 v96 v127 : V} : execK cf sg m c6_82 ⟨clk, [(0, v0), (1, v1), (2, v2), (3, v3), (4, v4), (5, v5), (10, v10), (11, v11), (12, v12), (13, v13), (14, v14), (15, v15), (16, v16), (17, v17), (18, v18), (19, v19), (20, v20), (21, v21), (22, v22), (25, v25), (39, v39), (44, v44), (66, v66), (77, v77), (92, v92), (94, v94), (95, v95), (96, v96), (127, v127)], tips, lk, bx⟩ k = runK cf sg tips r6_82 ⟨clk + 1, [(0, v0), (1, v1), (2, v2), (3, v3), (4, v4), (5, v5), (10, v10), (11, v11), (12, v12), (13, v13), (14, v14), (15, v15), (16, v16), (17, v17), (18, v18), (19, v19), (20, v20), (21, v21), (22, v22), (25, v25), (39, v39), (44, v44), (66, v66), (77, v77), (92, v92), (94, v94), (95, v95), (96, v96), (127, v127)], tips, lk, bx⟩ (endK 29 k) := execK_region
def c6_71 : VC := .seq c6_72 c6_82
@[simp] theorem e6_71 {e : Env} : execK cf sg m c6_71 ⟨clk, e, tips, lk, bx⟩ k = execK cf sg m (.seq c6_72 c6_82) ⟨clk, e, tips, lk, bx⟩ k := rfl
def c6_67 : VC := .seq c6_68 c6_71
@[simp] theorem e6_67 {e : Env} : execK cf sg m c6_67 ⟨clk, e, tips, lk, bx⟩ k = execK cf sg m (.seq c6_68 c6_71) ⟨clk, e, tips, lk, bx⟩ k := rfl
def c6_65 : VC := .seq c6_66 c6_67
@[simp] theorem e6_65 {e : Env} : execK cf sg m c6_65 ⟨clk, e, tips, lk, bx⟩ k = execK cf sg m (.seq c6_66 c6_67) ⟨clk, e, tips, lk, bx⟩ k := rfl
def c6_64 : VC := .loop c6_65
@[simp] theorem e6_64 {e : Env} : execK cf sg m c6_64 ⟨clk, e, tips, lk, bx⟩ k = execK cf sg m (.loop c6_65) ⟨clk, e, tips, lk, bx⟩ k := rfl
def c6_63 : VC := .block 0 c6_64
@[simp] theorem e6_63 {e : Env} : execK cf sg m c6_63 ⟨clk, e, tips, lk, bx⟩ k = execK cf sg m (.block 0 c6_64) ⟨clk, e, tips, lk, bx⟩ k := rfl
def c6_61 : VC := .seq c6_62 c6_63
@[simp] theorem e6_61 {e : Env} : execK cf sg m c6_61 ⟨clk, e, tips, lk, bx⟩ k = execK cf sg m (.seq c6_62 c6_63) ⟨clk, e, tips, lk, bx⟩ k := rfl
@[simp] def r6_84 : List VOper := [⟨some 129, .call 8 [] true [], none⟩, ⟨some 10, .mv (.tmp 129), none⟩]
def c6_84 : VC := .region r6_84
@[simp] theorem e6_84 {v0 v1 v2 v3 v4 v5 v10 v11 v12 v13 v14 v15 v16 v17 v18 v19 v20 v21 v22 v25 v39 v44 v66 v77 v92 v94 v95 v96 v127 : V} : execK cf sg m c6_84 ⟨clk, [(0, v0), (1, v1), (2, v2), (3, v3), (4, v4), (5, v5), (10, v10), (11, v11), (12, v12), (13, v13), (14, v14), (15, v15), (16, v16), (17, v17), (18, v18), (19, v19), (20, v20), (21, v21), (22, v22), (25, v25), (39, v39), (44, v44), (66, v66), (77, v77), (92, v92), (94, v94), (95, v95), (96, v96), (127, v127)], tips, lk, bx⟩ k = runK cf sg tips r6_84 ⟨clk + 1, [(0, v0), (1, v1), (2, v2), (3, v3), (4, v4), (5, v5), (10, v10), (11, v11), (12, v12), (13, v13), (14, v14), (15, v15), (16, v16), (17, v17), (18, v18), (19, v19), (20, v20), (21, v21), (22, v22), (25, v25), (39, v39), (44, v44), (66, v66), (77, v77), (92, v92), (94, v94), (95, v95), (96, v96), (127, v127)], tips, lk, bx⟩ (endK 29 k) := execK_region
def c6_85 : VC := .ret
@[simp] theorem e6_85 {e : Env} : execK cf sg m c6_85 ⟨clk, e, tips, lk, bx⟩ k = execK cf sg m (.ret) ⟨clk, e, tips, lk, bx⟩ k := rfl
def c6_83 : VC := .seq c6_84 c6_85
@[simp] theorem e6_83 {e : Env} : execK cf sg m c6_83 ⟨clk, e, tips, lk, bx⟩ k = execK cf sg m (.seq c6_84 c6_85) ⟨clk, e, tips, lk, bx⟩ k := rfl
def c6_60 : VC := .seq c6_61 c6_83
@[simp] theorem e6_60 {e : Env} : execK cf sg m c6_60 ⟨clk, e, tips, lk, bx⟩ k = execK cf sg m (.seq c6_61 c6_83) ⟨clk, e, tips, lk, bx⟩ k := rfl
def c6_52 : VC := .seq c6_53 c6_60
@[simp] theorem e6_52 {e : Env} : execK cf sg m c6_52 ⟨clk, e, tips, lk, bx⟩ k = execK cf sg m (.seq c6_53 c6_60) ⟨clk, e, tips, lk, bx⟩ k := rfl
def c6_50 : VC := .seq c6_51 c6_52
@[simp] theorem e6_50 {e : Env} : execK cf sg m c6_50 ⟨clk, e, tips, lk, bx⟩ k = execK cf sg m (.seq c6_51 c6_52) ⟨clk, e, tips, lk, bx⟩ k := rfl
def c6_42 : VC := .seq c6_43 c6_50
@[simp] theorem e6_42 {e : Env} : execK cf sg m c6_42 ⟨clk, e, tips, lk, bx⟩ k = execK cf sg m (.seq c6_43 c6_50) ⟨clk, e, tips, lk, bx⟩ k := rfl
def c6_40 : VC := .seq c6_41 c6_42
@[simp] theorem e6_40 {e : Env} : execK cf sg m c6_40 ⟨clk, e, tips, lk, bx⟩ k = execK cf sg m (.seq c6_41 c6_42) ⟨clk, e, tips, lk, bx⟩ k := rfl
def c6_22 : VC := .seq c6_23 c6_40
@[simp] theorem e6_22 {e : Env} : execK cf sg m c6_22 ⟨clk, e, tips, lk, bx⟩ k = execK cf sg m (.seq c6_23 c6_40) ⟨clk, e, tips, lk, bx⟩ k := rfl
def c6_20 : VC := .seq c6_21 c6_22
@[simp] theorem e6_20 {e : Env} : execK cf sg m c6_20 ⟨clk, e, tips, lk, bx⟩ k = execK cf sg m (.seq c6_21 c6_22) ⟨clk, e, tips, lk, bx⟩ k := rfl
def c6_12 : VC := .seq c6_13 c6_20
@[simp] theorem e6_12 {e : Env} : execK cf sg m c6_12 ⟨clk, e, tips, lk, bx⟩ k = execK cf sg m (.seq c6_13 c6_20) ⟨clk, e, tips, lk, bx⟩ k := rfl
def c6_10 : VC := .seq c6_11 c6_12
@[simp] theorem e6_10 {e : Env} : execK cf sg m c6_10 ⟨clk, e, tips, lk, bx⟩ k = execK cf sg m (.seq c6_11 c6_12) ⟨clk, e, tips, lk, bx⟩ k := rfl
def c6_2 : VC := .seq c6_3 c6_10
@[simp] theorem e6_2 {e : Env} : execK cf sg m c6_2 ⟨clk, e, tips, lk, bx⟩ k = execK cf sg m (.seq c6_3 c6_10) ⟨clk, e, tips, lk, bx⟩ k := rfl
def c6_0 : VC := .seq c6_1 c6_2
@[simp] theorem e6_0 {e : Env} : execK cf sg m c6_0 ⟨clk, e, tips, lk, bx⟩ k = execK cf sg m (.seq c6_1 c6_2) ⟨clk, e, tips, lk, bx⟩ k := rfl
def hh6 : Hints := { esc := [], rt := [(5, .r 5), (11, .r 11), (13, .r 13), (16, .r 16), (18, .r 18), (100, .e []), (104, .e []), (111, .r 18), (118, .e []), (122, .e [])], cut := [], quiet := [24, 26, 29, 30, 41, 44, 47, 52, 64, 70, 73, 78, 81, 129], avoid := [] }
def vf6 : VF := ⟨[0, 1, 2, 3, 4, 5, 10, 11, 12, 13, 14, 15, 16, 17, 18, 19, 20, 21, 22, 25, 39, 44, 66, 77, 92, 94, 95, 96, 127], [], false, c6_0, [.tmp 10]⟩
@[simp] theorem res6 : vf6.res = [.tmp 10] := rfl
theorem tab6 : compileFn Try.prog hh6 vf6.kept vf6.cons Try.f6 = some vf6 := by kernel_rfl

/- exchangepoint/exchangepointlaw04.EtherTags -/
@[simp] def r7_1 : List VOper := [⟨some 4, .mv (.const (.bool false)), none⟩]
def c7_1 : VC := .region r7_1
@[simp] theorem e7_1 {v0 v1 v4 v5 v6 v7 v8 v9 v10 v11 v12 v19 v54 : V} : execK cf sg m c7_1 ⟨clk, [(0, v0), (1, v1), (4, v4), (5, v5), (6, v6), (7, v7), (8, v8), (9, v9), (10, v10), (11, v11), (12, v12), (19, v19), (54, v54)], tips, lk, bx⟩ k = runK cf sg tips r7_1 ⟨clk + 1, [(0, v0), (1, v1), (4, v4), (5, v5), (6, v6), (7, v7), (8, v8), (9, v9), (10, v10), (11, v11), (12, v12), (19, v19), (54, v54)], tips, lk, bx⟩ (endK 13 k) := execK_region
@[simp] def r7_3 : List VOper := [⟨some 13, .mv (.tmp 0), none⟩, ⟨some 14, .call 26 [.tmp 13] true [], none⟩, ⟨some 15, .call 25 [.tmp 14] false [], none⟩, ⟨some 5, .allocR [.int .u8 0, .int .u8 0, .int .u8 0, .int .u8 0, .int .u8 0, .int .u8 0, .int .u8 0, .int .u8 0, .int .u8 0, .int .u8 0, .int .u8 0, .int .u8 0, .int .i64 0, .int .i64 0, .nils], none⟩, ⟨none, .store (.r 5) 15 (.tmp 5) (.tmp 15), none⟩]
def c7_3 : VC := .region r7_3
@[simp] theorem e7_3 {v0 v1 v4 v5 v6 v7 v8 v9 v10 v11 v12 v19 v54 : V} : execK cf sg m c7_3 ⟨clk, [(0, v0), (1, v1), (4, v4), (5, v5), (6, v6), (7, v7), (8, v8), (9, v9), (10, v10), (11, v11), (12, v12), (19, v19), (54, v54)], tips, lk, bx⟩ k = runK cf sg tips r7_3 ⟨clk + 1, [(0, v0), (1, v1), (4, v4), (5, v5), (6, v6), (7, v7), (8, v8), (9, v9), (10, v10), (11, v11), (12, v12), (19, v19), (54, v54)], tips, lk, bx⟩ (endK 13 k) := execK_region
@[simp] def r7_5 : List VOper := [⟨some 16, .fieldA 12 (.tmp 5), none⟩, ⟨none, .store (.r 5) 1 (.tmp 16) (.const (.int .i64 0)), none⟩]
def c7_5 : VC := .region r7_5
@[simp] theorem e7_5 {v0 v1 v4 v5 v6 v7 v8 v9 v10 v11 v12 v19 v54 : V} : execK cf sg m c7_5 ⟨clk, [(0, v0), (1, v1), (4, v4), (5, v5), (6, v6), (7, v7), (8, v8), (9, v9), (10, v10), (11, v11), (12, v12), (19, v19), (54, v54)], tips, lk, bx⟩ k = runK cf sg tips r7_5 ⟨clk + 1, [(0, v0), (1, v1), (4, v4), (5, v5), (6, v6), (7, v7), (8, v8), (9, v9), (10, v10), (11, v11), (12, v12), (19, v19), (54, v54)], tips, lk, bx⟩ (endK 13 k) := execK_region
@[simp] def r7_8 : List VOper := [⟨some 17, .load (.r 5) true 15 (.tmp 5), none⟩, ⟨some 18, .call 29 [.tmp 17] true [], none⟩, ⟨some 19, .unop .not (.tmp 18), none⟩]
def c7_8 : VC := .region r7_8
@[simp] theorem e7_8 {v0 v1 v4 v5 v6 v7 v8 v9 v10 v11 v12 v19 v54 : V} : execK cf sg m c7_8 ⟨clk, [(0, v0), (1, v1), (4, v4), (5, v5), (6, v6), (7, v7), (8, v8), (9, v9), (10, v10), (11, v11), (12, v12), (19, v19), (54, v54)], tips, lk, bx⟩ k = runK cf sg tips r7_8 ⟨clk + 1, [(0, v0), (1, v1), (4, v4), (5, v5), (6, v6), (7, v7), (8, v8), (9, v9), (10, v10), (11, v11), (12, v12), (19, v19), (54, v54)], tips, lk, bx⟩ (endK 13 k) := execK_region
@[simp] def r7_11 : List VOper := [⟨some 20, .call 8 [] true [], none⟩, ⟨some 4, .mv (.tmp 20), none⟩]
def c7_11 : VC := .region r7_11
@[simp] theorem e7_11 {v0 v1 v4 v5 v6 v7 v8 v9 v10 v11 v12 v19 v54 : V} : execK cf sg m c7_11 ⟨clk, [(0, v0), (1, v1), (4, v4), (5, v5), (6, v6), (7, v7), (8, v8), (9, v9), (10, v10), (11, v11), (12, v12), (19, v19), (54, v54)], tips, lk, bx⟩ k = runK cf sg tips r7_11 ⟨clk + 1, [(0, v0), (1, v1), (4, v4), (5, v5), (6, v6), (7, v7), (8, v8), (9, v9), (10, v10), (11, v11), (12, v12), (19, v19), (54, v54)], tips, lk, bx⟩ (endK 13 k) := execK_region
def c7_12 : VC := .ret
@[simp] theorem e7_12 {e : Env} : execK cf sg m c7_12 ⟨clk, e, tips, lk, bx⟩ k = execK cf sg m (.ret) ⟨clk, e, tips, lk, bx⟩ k := rfl
def c7_10 : VC := .seq c7_11 c7_12
@[simp] theorem e7_10 {e : Env} : execK cf sg m c7_10 ⟨clk, e, tips, lk, bx⟩ k = execK cf sg m (.seq c7_11 c7_12) ⟨clk, e, tips, lk, bx⟩ k := rfl
def c7_13 : VC := .skip
@[simp] theorem e7_13 {e : Env} : execK cf sg m c7_13 ⟨clk, e, tips, lk, bx⟩ k = execK cf sg m (.skip) ⟨clk, e, tips, lk, bx⟩ k := rfl
def c7_9 : VC := .cond (.tmp 19) c7_10 c7_13
@[simp] theorem e7_9 {e : Env} : execK cf sg m c7_9 ⟨clk, e, tips, lk, bx⟩ k = execK cf sg m (.cond (.tmp 19) c7_10 c7_13) ⟨clk, e, tips, lk, bx⟩ k := rfl
def c7_7 : VC := .seq c7_8 c7_9
@[simp] theorem e7_7 {e : Env} : execK cf sg m c7_7 ⟨clk, e, tips, lk, bx⟩ k = execK cf sg m (.seq c7_8 c7_9) ⟨clk, e, tips, lk, bx⟩ k := rfl
@[simp] def r7_15 : List VOper := [⟨some 21, .load (.r 5) true 15 (.tmp 5), none⟩, ⟨some 6, .allocR [.int .u8 0, .int .u8 0, .int .u8 0, .int .u8 0, .int .u8 0, .int .u8 0, .int .u8 0, .int .u8 0, .int .u8 0, .int .u8 0, .int .u8 0, .int .u8 0, .int .i64 0, .int .i64 0, .nils], none⟩, ⟨none, .store (.r 6) 15 (.tmp 6) (.tmp 21), none⟩]
def c7_15 : VC := .region r7_15
@[simp] theorem e7_15 {v0 v1 v4 v5 v6 v7 v8 v9 v10 v11 v12 v19 v54 : V} : execK cf sg m c7_15 ⟨clk, [(0, v0), (1, v1), (4, v4), (5, v5), (6, v6), (7, v7), (8, v8), (9, v9), (10, v10), (11, v11), (12, v12), (19, v19), (54, v54)], tips, lk, bx⟩ k = runK cf sg tips r7_15 ⟨clk + 1, [(0, v0), (1, v1), (4, v4), (5, v5), (6, v6), (7, v7), (8, v8), (9, v9), (10, v10), (11, v11), (12, v12), (19, v19), (54, v54)], tips, lk, bx⟩ (endK 13 k) := execK_region
@[simp] def r7_17 : List VOper := [⟨some 22, .mv (.tmp 1), none⟩, ⟨some 23, .call 9 [.tmp 22, .const (.int .i64 4094)] true [], none⟩, ⟨some 24, .bin .add (.const (.int .i64 1)) (.tmp 23), none⟩, ⟨some 25, .fieldA 12 (.tmp 6), none⟩, ⟨none, .store (.r 6) 1 (.tmp 25) (.tmp 24), none⟩]
def c7_17 : VC := .region r7_17
@[simp] theorem e7_17 {v0 v1 v4 v5 v6 v7 v8 v9 v10 v11 v12 v19 v54 : V} : execK cf sg m c7_17 ⟨clk, [(0, v0), (1, v1), (4, v4), (5, v5), (6, v6), (7, v7), (8, v8), (9, v9), (10, v10), (11, v11), (12, v12), (19, v19), (54, v54)], tips, lk, bx⟩ k = runK cf sg tips r7_17 ⟨clk + 1, [(0, v0), (1, v1), (4, v4), (5, v5), (6, v6), (7, v7), (8, v8), (9, v9), (10, v10), (11, v11), (12, v12), (19, v19), (54, v54)], tips, lk, bx⟩ (endK 13 k) := execK_region
@[simp] def r7_19 : List VOper := [⟨some 27, .load (.r 5) true 15 (.tmp 5), none⟩, ⟨some 28, .call 27 [.tmp 27] true [], none⟩, ⟨some 26, .mv (.tmp 28), none⟩, ⟨some 29, .extract 0 (.tmp 26), none⟩, ⟨some 30, .extract 1 (.tmp 26), none⟩, ⟨some 7, .mv (.tmp 29), none⟩, ⟨some 8, .mv (.tmp 30), none⟩]
def c7_19 : VC := .region r7_19
@[simp] theorem e7_19 {v0 v1 v4 v5 v6 v7 v8 v9 v10 v11 v12 v19 v54 : V} : execK cf sg m c7_19 ⟨clk, [(0, v0), (1, v1), (4, v4), (5, v5), (6, v6), (7, v7), (8, v8), (9, v9), (10, v10), (11, v11), (12, v12), (19, v19), (54, v54)], tips, lk, bx⟩ k = runK cf sg tips r7_19 ⟨clk + 1, [(0, v0), (1, v1), (4, v4), (5, v5), (6, v6), (7, v7), (8, v8), (9, v9), (10, v10), (11, v11), (12, v12), (19, v19), (54, v54)], tips, lk, bx⟩ (endK 13 k) := execK_region
@[simp] def r7_21 : List VOper := [⟨some 32, .load (.r 6) true 15 (.tmp 6), none⟩, ⟨some 33, .call 27 [.tmp 32] true [], none⟩, ⟨some 31, .mv (.tmp 33), none⟩, ⟨some 34, .extract 0 (.tmp 31), none⟩, ⟨some 35, .extract 1 (.tmp 31), none⟩, ⟨some 9, .mv (.tmp 34), none⟩, ⟨some 10, .mv (.tmp 35), none⟩]
def c7_21 : VC := .region r7_21
@[simp] theorem e7_21 {v0 v1 v4 v5 v6 v7 v8 v9 v10 v11 v12 v19 v54 : V} : execK cf sg m c7_21 ⟨clk, [(0, v0), (1, v1), (4, v4), (5, v5), (6, v6), (7, v7), (8, v8), (9, v9), (10, v10), (11, v11), (12, v12), (19, v19), (54, v54)], tips, lk, bx⟩ k = runK cf sg tips r7_21 ⟨clk + 1, [(0, v0), (1, v1), (4, v4), (5, v5), (6, v6), (7, v7), (8, v8), (9, v9), (10, v10), (11, v11), (12, v12), (19, v19), (54, v54)], tips, lk, bx⟩ (endK 13 k) := execK_region
@[simp] def r7_24 : List VOper := [⟨some 36, .mv (.tmp 8), none⟩, ⟨some 37, .bin .neq (.tmp 36) (.const (.int .i64 0)), none⟩, ⟨some 38, .mv (.tmp 37), none⟩, ⟨some 39, .mv (.tmp 10), some (38, false)⟩, ⟨some 40, .bin .neq (.tmp 39) (.const (.int .i64 0)), some (38, false)⟩, ⟨some 41, .pick (.tmp 38) (.const (.bool true)) (.tmp 40), none⟩, ⟨some 42, .mv (.tmp 41), none⟩, ⟨some 43, .mv (.tmp 7), some (42, false)⟩, ⟨some 44, .len false (.tmp 43), some (42, false)⟩, ⟨some 45, .bin .lss (.tmp 44) (.const (.int .i64 14)), some (42, false)⟩, ⟨some 46, .pick (.tmp 42) (.const (.bool true)) (.tmp 45), none⟩, ⟨some 47, .mv (.tmp 46), none⟩, ⟨some 48, .mv (.tmp 9), some (47, false)⟩, ⟨some 49, .len false (.tmp 48), some (47, false)⟩, ⟨some 50, .mv (.tmp 7), some (47, false)⟩, ⟨some 51, .len false (.tmp 50), some (47, false)⟩, ⟨some 52, .bin .add (.tmp 51) (.const (.int .i64 4)), some (47, false)⟩, ⟨some 53, .bin .neq (.tmp 49) (.tmp 52), some (47, false)⟩, ⟨some 54, .pick (.tmp 47) (.const (.bool true)) (.tmp 53), none⟩]
def c7_24 : VC := .region r7_24
@[simp] theorem e7_24 {v0 v1 v4 v5 v6 v7 v8 v9 v10 v11 v12 v19 v54 : V} : execK cf sg m c7_24 ⟨clk, [(0, v0), (1, v1), (4, v4), (5, v5), (6, v6), (7, v7), (8, v8), (9, v9), (10, v10), (11, v11), (12, v12), (19, v19), (54, v54)], tips, lk, bx⟩ k = runK cf sg tips r7_24 ⟨clk + 1, [(0, v0), (1, v1), (4, v4), (5, v5), (6, v6), (7, v7), (8, v8), (9, v9), (10, v10), (11, v11), (12, v12), (19, v19), (54, v54)], tips, lk, bx⟩ (endK 13 k) := execK_region
@[simp] def r7_27 : List VOper := [⟨some 4, .mv (.const (.bool false)), none⟩]
def c7_27 : VC := .region r7_27
@[simp] theorem e7_27 {v0 v1 v4 v5 v6 v7 v8 v9 v10 v11 v12 v19 v54 : V} : execK cf sg m c7_27 ⟨clk, [(0, v0), (1, v1), (4, v4), (5, v5), (6, v6), (7, v7), (8, v8), (9, v9), (10, v10), (11, v11), (12, v12), (19, v19), (54, v54)], tips, lk, bx⟩ k = runK cf sg tips r7_27 ⟨clk + 1, [(0, v0), (1, v1), (4, v4), (5, v5), (6, v6), (7, v7), (8, v8), (9, v9), (10, v10), (11, v11), (12, v12), (19, v19), (54, v54)], tips, lk, bx⟩ (endK 13 k) := execK_region
def c7_28 : VC := .ret
@[simp] theorem e7_28 {e : Env} : execK cf sg m c7_28 ⟨clk, e, tips, lk, bx⟩ k = execK cf sg m (.ret) ⟨clk, e, tips, lk, bx⟩ k := rfl
def c7_26 : VC := .seq c7_27 c7_28
@[simp] theorem e7_26 {e : Env} : execK cf sg m c7_26 ⟨clk, e, tips, lk, bx⟩ k = execK cf sg m (.seq c7_27 c7_28) ⟨clk, e, tips, lk, bx⟩ k := rfl
def c7_29 : VC := .skip
@[simp] theorem e7_29 {e : Env} : execK cf sg m c7_29 ⟨clk, e, tips, lk, bx⟩ k = execK cf sg m (.skip) ⟨clk, e, tips, lk, bx⟩ k := rfl
def c7_25 : VC := .cond (.tmp 54) c7_26 c7_29
@[simp] theorem e7_25 {e : Env} : execK cf sg m c7_25 ⟨clk, e, tips, lk, bx⟩ k = execK cf sg m (.cond (.tmp 54) c7_26 c7_29) ⟨clk, e, tips, lk, bx⟩ k := rfl
def c7_23 : VC := .seq c7_24 c7_25
@[simp] theorem e7_23 {e : Env} : execK cf sg m c7_23 ⟨clk, e, tips, lk, bx⟩ k = execK cf sg m (.seq c7_24 c7_25) ⟨clk, e, tips, lk, bx⟩ k := rfl
@[simp] def r7_31 : List VOper := [⟨some 56, .mv (.tmp 9), none⟩, ⟨some 57, .cut 1 (.tmp 56) none (some (.const (.int .i64 12))), none⟩, ⟨some 58, .append 1 1 false (.const .nils) (.tmp 57) [11], none⟩, ⟨some 59, .mv (.tmp 9), none⟩, ⟨some 60, .cut 1 (.tmp 59) (some (.const (.int .i64 16))) none, none⟩, ⟨some 61, .append 1 1 false (.tmp 58) (.tmp 60) [11], none⟩, ⟨some 62, .call 31 [.tmp 61] true [11], none⟩, ⟨some 55, .mv (.tmp 62), none⟩, ⟨some 63, .extract 0 (.tmp 55), none⟩, ⟨some 64, .extract 1 (.tmp 55), none⟩, ⟨some 11, .allocR [.int .u8 0, .int .u8 0, .int .u8 0, .int .u8 0, .int .u8 0, .int .u8 0, .int .u8 0, .int .u8 0, .int .u8 0, .int .u8 0, .int .u8 0, .int .u8 0, .int .i64 0, .int .i64 0, .nils], none⟩, ⟨none, .store (.r 11) 15 (.tmp 11) (.tmp 63), none⟩, ⟨some 12, .mv (.tmp 64), none⟩]
def c7_31 : VC := .region r7_31
@[simp] theorem e7_31 {v0 v1 v4 v5 v6 v7 v8 v9 v10 v11 v12 v19 v54 : V} : execK cf sg m c7_31 ⟨clk, [(0, v0), (1, v1), (4, v4), (5, v5), (6, v6), (7, v7), (8, v8), (9, v9), (10, v10), (11, v11), (12, v12), (19, v19), (54, v54)], tips, lk, bx⟩ k = runK cf sg tips r7_31 ⟨clk + 1, [(0, v0), (1, v1), (4, v4), (5, v5), (6, v6), (7, v7), (8, v8), (9, v9), (10, v10), (11, v11), (12, v12), (19, v19), (54, v54)], tips, lk, bx⟩ (endK 13 k) := execK_region
@[simp] def r7_33 : List VOper := [⟨some 65, .mv (.tmp 9), none⟩, ⟨some 66, .cut 1 (.tmp 65) none (some (.const (.int .i64 12))), none⟩, ⟨some 67, .toStr (.tmp 66) [], none⟩, ⟨some 68, .mv (.tmp 7), none⟩, ⟨some 69, .cut 1 (.tmp 68) none (some (.const (.int .i64 12))), none⟩, ⟨some 70, .toStr (.tmp 69) [], none⟩, ⟨some 71, .bin .eql (.tmp 67) (.tmp 70), none⟩, ⟨some 72, .mv (.tmp 71), none⟩, ⟨some 73, .mv (.tmp 9), some (72, true)⟩, ⟨some 74, .cut 1 (.tmp 73) (some (.const (.int .i64 16))) none, some (72, true)⟩, ⟨some 75, .toStr (.tmp 74) [], some (72, true)⟩, ⟨some 76, .mv (.tmp 7), some (72, true)⟩, ⟨some 77, .cut 1 (.tmp 76) (some (.const (.int .i64 12))) none, some (72, true)⟩, ⟨some 78, .toStr (.tmp 77) [], some (72, true)⟩, ⟨some 79, .bin .eql (.tmp 75) (.tmp 78), some (72, true)⟩, ⟨some 80, .pick (.tmp 72) (.tmp 79) (.const (.bool false)), none⟩, ⟨some 81, .mv (.tmp 80), none⟩, ⟨some 82, .mv (.tmp 12), some (81, true)⟩, ⟨some 83, .bin .eql (.tmp 82) (.const (.int .i64 0)), some (81, true)⟩, ⟨some 84, .pick (.tmp 81) (.tmp 83) (.const (.bool false)), none⟩, ⟨some 85, .mv (.tmp 84), none⟩, ⟨some 86, .load (.r 11) true 15 (.tmp 11), some (85, true)⟩, ⟨some 87, .load (.r 5) true 15 (.tmp 5), some (85, true)⟩, ⟨some 88, .call 33 [.tmp 86, .tmp 87] true [], some (85, true)⟩, ⟨some 89, .pick (.tmp 85) (.tmp 88) (.const (.bool false)), none⟩, ⟨some 90, .mv (.tmp 89), none⟩, ⟨some 91, .call 8 [] true [], some (90, true)⟩, ⟨some 92, .pick (.tmp 90) (.tmp 91) (.const (.bool false)), none⟩, ⟨some 4, .mv (.tmp 92), none⟩]
def c7_33 : VC := .region r7_33
@[simp] theorem e7_33 {v0 v1 v4 v5 v6 v7 v8 v9 v10 v11 v12 v19 v54 : V} : execK cf sg m c7_33 ⟨clk, [(0, v0), (1, v1), (4, v4), (5, v5), (6, v6), (7, v7), (8, v8), (9, v9), (10, v10), (11, v11), (12, v12), (19, v19), (54, v54)], tips, lk, bx⟩ k = runK cf sg tips r7_33 ⟨clk + 1, [(0, v0), (1, v1), (4, v4), (5, v5), (6, v6), (7, v7), (8, v8), (9, v9), (10, v10), (11, v11), (12, v12), (19, v19), (54, v54)], tips, lk, bx⟩ (endK 13 k) := execK_region
def c7_34 : VC := .ret
@[simp] theorem e7_34 {e : Env} : execK cf sg m c7_34 ⟨clk, e, tips, lk, bx⟩ k = execK cf sg m (.ret) ⟨clk, e, tips, lk, bx⟩ k := rfl
def c7_32 : VC := .seq c7_33 c7_34
@[simp] theorem e7_32 {e : Env} : execK cf sg m c7_32 ⟨clk, e, tips, lk, bx⟩ k = execK cf sg m (.seq c7_33 c7_34) ⟨clk, e, tips, lk, bx⟩ k := rfl
def c7_30 : VC := .seq c7_31 c7_32
@[simp] theorem e7_30 {e : Env} : execK cf sg m c7_30 ⟨clk, e, tips, lk, bx⟩ k = execK cf sg m (.seq c7_31 c7_32) ⟨clk, e, tips, lk, bx⟩ k := rfl
def c7_22 : VC := .seq c7_23 c7_30
@[simp] theorem e7_22 {e : Env} : execK cf sg m c7_22 ⟨clk, e, tips, lk, bx⟩ k = execK cf sg m (.seq c7_23 c7_30) ⟨clk, e, tips, lk, bx⟩ k := rfl
def c7_20 : VC := .seq c7_21 c7_22
@[simp] theorem e7_20 {e : Env} : execK cf sg m c7_20 ⟨clk, e, tips, lk, bx⟩ k = execK cf sg m (.seq c7_21 c7_22) ⟨clk, e, tips, lk, bx⟩ k := rfl
def c7_18 : VC := .seq c7_19 c7_20
@[simp] theorem e7_18 {e : Env} : execK cf sg m c7_18 ⟨clk, e, tips, lk, bx⟩ k = execK cf sg m (.seq c7_19 c7_20) ⟨clk, e, tips, lk, bx⟩ k := rfl
def c7_16 : VC := .seq c7_17 c7_18
@[simp] theorem e7_16 {e : Env} : execK cf sg m c7_16 ⟨clk, e, tips, lk, bx⟩ k = execK cf sg m (.seq c7_17 c7_18) ⟨clk, e, tips, lk, bx⟩ k := rfl
def c7_14 : VC := .seq c7_15 c7_16
@[simp] theorem e7_14 {e : Env} : execK cf sg m c7_14 ⟨clk, e, tips, lk, bx⟩ k = execK cf sg m (.seq c7_15 c7_16) ⟨clk, e, tips, lk, bx⟩ k := rfl
def c7_6 : VC := .seq c7_7 c7_14
@[simp] theorem e7_6 {e : Env} : execK cf sg m c7_6 ⟨clk, e, tips, lk, bx⟩ k = execK cf sg m (.seq c7_7 c7_14) ⟨clk, e, tips, lk, bx⟩ k := rfl
def c7_4 : VC := .seq c7_5 c7_6
@[simp] theorem e7_4 {e : Env} : execK cf sg m c7_4 ⟨clk, e, tips, lk, bx⟩ k = execK cf sg m (.seq c7_5 c7_6) ⟨clk, e, tips, lk, bx⟩ k := rfl
def c7_2 : VC := .seq c7_3 c7_4
@[simp] theorem e7_2 {e : Env} : execK cf sg m c7_2 ⟨clk, e, tips, lk, bx⟩ k = execK cf sg m (.seq c7_3 c7_4) ⟨clk, e, tips, lk, bx⟩ k := rfl
def c7_0 : VC := .seq c7_1 c7_2
@[simp] theorem e7_0 {e : Env} : execK cf sg m c7_0 ⟨clk, e, tips, lk, bx⟩ k = execK cf sg m (.seq c7_1 c7_2) ⟨clk, e, tips, lk, bx⟩ k := rfl
def hh7 : Hints := { esc := [], rt := [(5, .r 5), (16, .r 5), (6, .r 6), (25, .r 6), (11, .r 11)], cut := [], quiet := [14, 18, 20, 23, 28, 33, 62, 88, 91], avoid := [(58, [11]), (61, [11]), (62, [11])] }
def vf7 : VF := ⟨[0, 1, 4, 5, 6, 7, 8, 9, 10, 11, 12, 19, 54], [], false, c7_0, [.tmp 4]⟩
@[simp] theorem res7 : vf7.res = [.tmp 4] := rfl
theorem tab7 : compileFn Try.prog hh7 vf7.kept vf7.cons Try.f7 = some vf7 := by kernel_rfl

/- exchangepoint/exchangepointlaw04.awake -/
@[simp] def r8_1 : List VOper := [⟨some 0, .mv (.const (.bool false)), none⟩]
def c8_1 : VC := .region r8_1
@[simp] theorem e8_1 {v0 v1 v2 v3 : V} : execK cf sg m c8_1 ⟨clk, [(0, v0), (1, v1), (2, v2), (3, v3)], tips, lk, bx⟩ k = runK cf sg tips r8_1 ⟨clk + 1, [(0, v0), (1, v1), (2, v2), (3, v3)], tips, lk, bx⟩ (endK 4 k) := execK_region
@[simp] def r8_3 : List VOper := [⟨some 4, .build [.bool false, .int .u64 0, .int .u64 0] [(0, 1, .const (.bool true)), (2, 1, .const (.int .u64 1))], none⟩, ⟨some 5, .call 21 [.tmp 4] true [], none⟩, ⟨some 1, .allocR [.int .u8 0, .int .u8 0, .int .u8 0, .int .u8 0, .int .u8 0, .int .u8 0], none⟩, ⟨none, .store (.r 1) 6 (.tmp 1) (.tmp 5), none⟩]
def c8_3 : VC := .region r8_3
@[simp] theorem e8_3 {v0 v1 v2 v3 : V} : execK cf sg m c8_3 ⟨clk, [(0, v0), (1, v1), (2, v2), (3, v3)], tips, lk, bx⟩ k = runK cf sg tips r8_3 ⟨clk + 1, [(0, v0), (1, v1), (2, v2), (3, v3)], tips, lk, bx⟩ (endK 4 k) := execK_region
@[simp] def r8_5 : List VOper := [⟨some 7, .call 19 [.const (.str [48, 49, 58, 56, 48, 58, 99, 50, 58, 48, 48, 58, 48, 48, 58, 48, 50])] true [], none⟩, ⟨some 6, .mv (.tmp 7), none⟩, ⟨some 8, .extract 0 (.tmp 6), none⟩, ⟨some 9, .extract 1 (.tmp 6), none⟩, ⟨some 2, .allocR [.int .u8 0, .int .u8 0, .int .u8 0, .int .u8 0, .int .u8 0, .int .u8 0], none⟩, ⟨none, .store (.r 2) 6 (.tmp 2) (.tmp 8), none⟩, ⟨some 3, .mv (.tmp 9), none⟩]
def c8_5 : VC := .region r8_5
@[simp] theorem e8_5 {v0 v1 v2 v3 : V} : execK cf sg m c8_5 ⟨clk, [(0, v0), (1, v1), (2, v2), (3, v3)], tips, lk, bx⟩ k = runK cf sg tips r8_5 ⟨clk + 1, [(0, v0), (1, v1), (2, v2), (3, v3)], tips, lk, bx⟩ (endK 4 k) := execK_region
@[simp] def r8_7 : List VOper := [⟨some 10, .load (.r 1) true 6 (.tmp 1), none⟩, ⟨some 11, .call 10 [.tmp 10] true [], none⟩, ⟨some 12, .bin .eql (.tmp 11) (.const (.str [51, 51, 58, 51, 51, 58, 102, 102, 58, 48, 48, 58, 48, 48, 58, 48, 49])), none⟩, ⟨some 13, .mv (.tmp 12), none⟩, ⟨some 14, .mv (.tmp 3), some (13, true)⟩, ⟨some 15, .bin .eql (.tmp 14) (.const (.int .i64 0)), some (13, true)⟩, ⟨some 16, .pick (.tmp 13) (.tmp 15) (.const (.bool false)), none⟩, ⟨some 17, .mv (.tmp 16), none⟩, ⟨some 18, .load (.r 2) true 6 (.tmp 2), some (17, true)⟩, ⟨some 19, .call 14 [.tmp 18] true [], some (17, true)⟩, ⟨some 20, .pick (.tmp 17) (.tmp 19) (.const (.bool false)), none⟩, ⟨some 21, .mv (.tmp 20), none⟩, ⟨some 22, .load (.r 2) true 6 (.tmp 2), some (21, true)⟩, ⟨some 23, .call 12 [.tmp 22] true [], some (21, true)⟩, ⟨some 24, .pick (.tmp 21) (.tmp 23) (.const (.bool false)), none⟩, ⟨some 0, .mv (.tmp 24), none⟩]
def c8_7 : VC := .region r8_7
@[simp] theorem e8_7 {v0 v1 v2 v3 : V} : execK cf sg m c8_7 ⟨clk, [(0, v0), (1, v1), (2, v2), (3, v3)], tips, lk, bx⟩ k = runK cf sg tips r8_7 ⟨clk + 1, [(0, v0), (1, v1), (2, v2), (3, v3)], tips, lk, bx⟩ (endK 4 k) := execK_region
def c8_8 : VC := .ret
@[simp] theorem e8_8 {e : Env} : execK cf sg m c8_8 ⟨clk, e, tips, lk, bx⟩ k = execK cf sg m (.ret) ⟨clk, e, tips, lk, bx⟩ k := rfl
def c8_6 : VC := .seq c8_7 c8_8
@[simp] theorem e8_6 {e : Env} : execK cf sg m c8_6 ⟨clk, e, tips, lk, bx⟩ k = execK cf sg m (.seq c8_7 c8_8) ⟨clk, e, tips, lk, bx⟩ k := rfl
def c8_4 : VC := .seq c8_5 c8_6
@[simp] theorem e8_4 {e : Env} : execK cf sg m c8_4 ⟨clk, e, tips, lk, bx⟩ k = execK cf sg m (.seq c8_5 c8_6) ⟨clk, e, tips, lk, bx⟩ k := rfl
def c8_2 : VC := .seq c8_3 c8_4
@[simp] theorem e8_2 {e : Env} : execK cf sg m c8_2 ⟨clk, e, tips, lk, bx⟩ k = execK cf sg m (.seq c8_3 c8_4) ⟨clk, e, tips, lk, bx⟩ k := rfl
def c8_0 : VC := .seq c8_1 c8_2
@[simp] theorem e8_0 {e : Env} : execK cf sg m c8_0 ⟨clk, e, tips, lk, bx⟩ k = execK cf sg m (.seq c8_1 c8_2) ⟨clk, e, tips, lk, bx⟩ k := rfl
def hh8 : Hints := { esc := [], rt := [(1, .r 1), (2, .r 2)], cut := [], quiet := [5, 7, 11, 19, 23], avoid := [] }
def vf8 : VF := ⟨[0, 1, 2, 3], [], true, c8_0, [.tmp 0]⟩
@[simp] theorem res8 : vf8.res = [.tmp 0] := rfl
theorem tab8 : compileFn Try.prog hh8 vf8.kept vf8.cons Try.f8 = some vf8 := by kernel_rfl

/- exchangepoint/exchangepointmake.Mod -/
@[simp] def r9_1 : List VOper := [⟨some 4, .mv (.const (.int .i64 0)), none⟩]
def c9_1 : VC := .region r9_1
@[simp] theorem e9_1 {v0 v1 v4 v5 v10 : V} : execK cf sg m c9_1 ⟨clk, [(0, v0), (1, v1), (4, v4), (5, v5), (10, v10)], tips, lk, bx⟩ k = runK cf sg tips r9_1 ⟨clk + 1, [(0, v0), (1, v1), (4, v4), (5, v5), (10, v10)], tips, lk, bx⟩ (endK 5 k) := execK_region
@[simp] def r9_3 : List VOper := [⟨some 6, .mv (.tmp 0), none⟩, ⟨some 7, .mv (.tmp 1), none⟩, ⟨some 8, .bin .rem (.tmp 6) (.tmp 7), none⟩, ⟨some 5, .mv (.tmp 8), none⟩]
def c9_3 : VC := .region r9_3
@[simp] theorem e9_3 {v0 v1 v4 v5 v10 : V} : execK cf sg m c9_3 ⟨clk, [(0, v0), (1, v1), (4, v4), (5, v5), (10, v10)], tips, lk, bx⟩ k = runK cf sg tips r9_3 ⟨clk + 1, [(0, v0), (1, v1), (4, v4), (5, v5), (10, v10)], tips, lk, bx⟩ (endK 5 k) := execK_region
@[simp] def r9_6 : List VOper := [⟨some 9, .mv (.tmp 5), none⟩, ⟨some 10, .bin .lss (.tmp 9) (.const (.int .i64 0)), none⟩]
def c9_6 : VC := .region r9_6
@[simp] theorem e9_6 {v0 v1 v4 v5 v10 : V} : execK cf sg m c9_6 ⟨clk, [(0, v0), (1, v1), (4, v4), (5, v5), (10, v10)], tips, lk, bx⟩ k = runK cf sg tips r9_6 ⟨clk + 1, [(0, v0), (1, v1), (4, v4), (5, v5), (10, v10)], tips, lk, bx⟩ (endK 5 k) := execK_region
@[simp] def r9_8 : List VOper := [⟨some 11, .mv (.tmp 5), none⟩, ⟨some 12, .mv (.tmp 1), none⟩, ⟨some 13, .bin .add (.tmp 11) (.tmp 12), none⟩, ⟨some 5, .mv (.tmp 13), none⟩]
def c9_8 : VC := .region r9_8
@[simp] theorem e9_8 {v0 v1 v4 v5 v10 : V} : execK cf sg m c9_8 ⟨clk, [(0, v0), (1, v1), (4, v4), (5, v5), (10, v10)], tips, lk, bx⟩ k = runK cf sg tips r9_8 ⟨clk + 1, [(0, v0), (1, v1), (4, v4), (5, v5), (10, v10)], tips, lk, bx⟩ (endK 5 k) := execK_region
def c9_9 : VC := .skip
@[simp] theorem e9_9 {e : Env} : execK cf sg m c9_9 ⟨clk, e, tips, lk, bx⟩ k = execK cf sg m (.skip) ⟨clk, e, tips, lk, bx⟩ k := rfl
def c9_7 : VC := .cond (.tmp 10) c9_8 c9_9
@[simp] theorem e9_7 {e : Env} : execK cf sg m c9_7 ⟨clk, e, tips, lk, bx⟩ k = execK cf sg m (.cond (.tmp 10) c9_8 c9_9) ⟨clk, e, tips, lk, bx⟩ k := rfl
def c9_5 : VC := .seq c9_6 c9_7
@[simp] theorem e9_5 {e : Env} : execK cf sg m c9_5 ⟨clk, e, tips, lk, bx⟩ k = execK cf sg m (.seq c9_6 c9_7) ⟨clk, e, tips, lk, bx⟩ k := rfl
@[simp] def r9_11 : List VOper := [⟨some 14, .mv (.tmp 5), none⟩, ⟨some 4, .mv (.tmp 14), none⟩]
def c9_11 : VC := .region r9_11
@[simp] theorem e9_11 {v0 v1 v4 v5 v10 : V} : execK cf sg m c9_11 ⟨clk, [(0, v0), (1, v1), (4, v4), (5, v5), (10, v10)], tips, lk, bx⟩ k = runK cf sg tips r9_11 ⟨clk + 1, [(0, v0), (1, v1), (4, v4), (5, v5), (10, v10)], tips, lk, bx⟩ (endK 5 k) := execK_region
def c9_12 : VC := .ret
@[simp] theorem e9_12 {e : Env} : execK cf sg m c9_12 ⟨clk, e, tips, lk, bx⟩ k = execK cf sg m (.ret) ⟨clk, e, tips, lk, bx⟩ k := rfl
def c9_10 : VC := .seq c9_11 c9_12
@[simp] theorem e9_10 {e : Env} : execK cf sg m c9_10 ⟨clk, e, tips, lk, bx⟩ k = execK cf sg m (.seq c9_11 c9_12) ⟨clk, e, tips, lk, bx⟩ k := rfl
def c9_4 : VC := .seq c9_5 c9_10
@[simp] theorem e9_4 {e : Env} : execK cf sg m c9_4 ⟨clk, e, tips, lk, bx⟩ k = execK cf sg m (.seq c9_5 c9_10) ⟨clk, e, tips, lk, bx⟩ k := rfl
def c9_2 : VC := .seq c9_3 c9_4
@[simp] theorem e9_2 {e : Env} : execK cf sg m c9_2 ⟨clk, e, tips, lk, bx⟩ k = execK cf sg m (.seq c9_3 c9_4) ⟨clk, e, tips, lk, bx⟩ k := rfl
def c9_0 : VC := .seq c9_1 c9_2
@[simp] theorem e9_0 {e : Env} : execK cf sg m c9_0 ⟨clk, e, tips, lk, bx⟩ k = execK cf sg m (.seq c9_1 c9_2) ⟨clk, e, tips, lk, bx⟩ k := rfl
def hh9 : Hints := { esc := [], rt := [], cut := [], quiet := [], avoid := [] }
def vf9 : VF := ⟨[0, 1, 4, 5, 10], [], true, c9_0, [.tmp 4]⟩
@[simp] theorem res9 : vf9.res = [.tmp 4] := rfl
theorem tab9 : compileFn Try.prog hh9 vf9.kept vf9.cons Try.f9 = some vf9 := by kernel_rfl

/- exchangepoint/ether.Print -/
@[simp] def r10_1 : List VOper := [⟨some 1, .boxR 6 (.tmp 0), none⟩, ⟨some 2, .mv (.const (.str [])), none⟩]
def c10_1 : VC := .region r10_1
@[simp] theorem e10_1 {v0 v1 v2 v3 v5 v6 v7 v8 : V} : execK cf sg m c10_1 ⟨clk, [(0, v0), (1, v1), (2, v2), (3, v3), (5, v5), (6, v6), (7, v7), (8, v8)], tips, lk, bx⟩ k = runK cf sg tips r10_1 ⟨clk + 1, [(0, v0), (1, v1), (2, v2), (3, v3), (5, v5), (6, v6), (7, v7), (8, v8)], tips, lk, bx⟩ (endK 8 k) := execK_region
@[simp] def r10_3 : List VOper := [⟨some 3, .mv (.const .nils), none⟩]
def c10_3 : VC := .region r10_3
@[simp] theorem e10_3 {v0 v1 v2 v3 v5 v6 v7 v8 : V} : execK cf sg m c10_3 ⟨clk, [(0, v0), (1, v1), (2, v2), (3, v3), (5, v5), (6, v6), (7, v7), (8, v8)], tips, lk, bx⟩ k = runK cf sg tips r10_3 ⟨clk + 1, [(0, v0), (1, v1), (2, v2), (3, v3), (5, v5), (6, v6), (7, v7), (8, v8)], tips, lk, bx⟩ (endK 8 k) := execK_region
@[simp] def r10_6 : List VOper := [⟨some 6, .load (.r 1) true 6 (.tmp 1), none⟩, ⟨some 7, .mv (.const (.int .i64 0)), none⟩]
def c10_6 : VC := .region r10_6
@[simp] theorem e10_6 {v0 v1 v2 v3 v5 v6 v7 v8 : V} : execK cf sg m c10_6 ⟨clk, [(0, v0), (1, v1), (2, v2), (3, v3), (5, v5), (6, v6), (7, v7), (8, v8)], tips, lk, bx⟩ k = runK cf sg tips r10_6 ⟨clk + 1, [(0, v0), (1, v1), (2, v2), (3, v3), (5, v5), (6, v6), (7, v7), (8, v8)], tips, lk, bx⟩ (endK 8 k) := execK_region
@[simp] def r10_10 : List VOper := [⟨some 8, .bin .lss (.tmp 7) (.const (.int .i64 6)), none⟩]
def c10_10 : VC := .region r10_10
@[simp] theorem e10_10 {v0 v1 v2 v3 v5 v6 v7 v8 : V} : execK cf sg m c10_10 ⟨clk, [(0, v0), (1, v1), (2, v2), (3, v3), (5, v5), (6, v6), (7, v7), (8, v8)], tips, lk, bx⟩ k = runK cf sg tips r10_10 ⟨clk + 1, [(0, v0), (1, v1), (2, v2), (3, v3), (5, v5), (6, v6), (7, v7), (8, v8)], tips, lk, bx⟩ (endK 8 k) := execK_region
def c10_13 : VC := .skip
@[simp] theorem e10_13 {e : Env} : execK cf sg m c10_13 ⟨clk, e, tips, lk, bx⟩ k = execK cf sg m (.skip) ⟨clk, e, tips, lk, bx⟩ k := rfl
def c10_14 : VC := .exit 0
@[simp] theorem e10_14 {e : Env} : execK cf sg m c10_14 ⟨clk, e, tips, lk, bx⟩ k = execK cf sg m (.exit 0) ⟨clk, e, tips, lk, bx⟩ k := rfl
def c10_12 : VC := .cond (.tmp 8) c10_13 c10_14
@[simp] theorem e10_12 {e : Env} : execK cf sg m c10_12 ⟨clk, e, tips, lk, bx⟩ k = execK cf sg m (.cond (.tmp 8) c10_13 c10_14) ⟨clk, e, tips, lk, bx⟩ k := rfl
@[simp] def r10_18 : List VOper := [⟨some 9, .ixA false 6 1 (.tmp 6) (.tmp 7), none⟩, ⟨some 5, .mv (.tmp 9), none⟩]
def c10_18 : VC := .region r10_18
@[simp] theorem e10_18 {v0 v1 v2 v3 v5 v6 v7 v8 : V} : execK cf sg m c10_18 ⟨clk, [(0, v0), (1, v1), (2, v2), (3, v3), (5, v5), (6, v6), (7, v7), (8, v8)], tips, lk, bx⟩ k = runK cf sg tips r10_18 ⟨clk + 1, [(0, v0), (1, v1), (2, v2), (3, v3), (5, v5), (6, v6), (7, v7), (8, v8)], tips, lk, bx⟩ (endK 8 k) := execK_region
@[simp] def r10_19 : List VOper := [⟨some 10, .mv (.tmp 3), none⟩, ⟨some 11, .mv (.tmp 5), none⟩, ⟨some 12, .bin .shr (.tmp 11) (.const (.int .u64 4)), none⟩, ⟨some 13, .ixS (.const (.str [48, 49, 50, 51, 52, 53, 54, 55, 56, 57, 97, 98, 99, 100, 101, 102])) (.tmp 12), none⟩, ⟨some 14, .mv (.tmp 5), none⟩, ⟨some 15, .bin .and (.tmp 14) (.const (.int .u8 15)), none⟩, ⟨some 16, .ixS (.const (.str [48, 49, 50, 51, 52, 53, 54, 55, 56, 57, 97, 98, 99, 100, 101, 102])) (.tmp 15), none⟩, ⟨some 17, .bslice false 1 2 [.int .u8 0] [(0, 1, .tmp 13), (1, 1, .tmp 16)], none⟩, ⟨some 18, .toStr (.tmp 17) [], none⟩, ⟨some 19, .bslice false 1 1 [.str []] [(0, 1, .tmp 18)], none⟩, ⟨some 20, .append 1 16 false (.tmp 10) (.tmp 19) [], none⟩, ⟨some 3, .mv (.tmp 20), none⟩]
def c10_19 : VC := .region r10_19
@[simp] theorem e10_19 {v0 v1 v2 v3 v5 v6 v7 v8 : V} : execK cf sg m c10_19 ⟨clk, [(0, v0), (1, v1), (2, v2), (3, v3), (5, v5), (6, v6), (7, v7), (8, v8)], tips, lk, bx⟩ k = runK cf sg (bump tips [(nmOf 17 0), (nmOf 19 0)]) r10_19 ⟨clk + 1, [(0, v0), (1, v1), (2, v2), (3, v3), (5, v5), (6, v6), (7, v7), (8, v8)], bump tips [(nmOf 17 0), (nmOf 19 0)], updL lk false [(nmOf 17 0), (nmOf 19 0)], bx⟩ (endK 8 k) := execK_region
def c10_17 : VC := .seq c10_18 c10_19
@[simp] theorem e10_17 {e : Env} : execK cf sg m c10_17 ⟨clk, e, tips, lk, bx⟩ k = execK cf sg m (.seq c10_18 c10_19) ⟨clk, e, tips, lk, bx⟩ k := rfl
def c10_16 : VC := .block 1 c10_17
@[simp] theorem e10_16 {e : Env} : execK cf sg m c10_16 ⟨clk, e, tips, lk, bx⟩ k = execK cf sg m (.block 1 c10_17) ⟨clk, e, tips, lk, bx⟩ k := rfl
@[simp] def r10_20 : List VOper := [⟨some 21, .bin .add (.tmp 7) (.const (.int .i64 1)), none⟩, ⟨some 7, .mv (.tmp 21), none⟩]
def c10_20 : VC := .region r10_20
@[simp] theorem e10_20 {v0 v1 v2 v3 v5 v6 v7 v8 : V} : execK cf sg m c10_20 ⟨clk, [(0, v0), (1, v1), (2, v2), (3, v3), (5, v5), (6, v6), (7, v7), (8, v8)], tips, lk, bx⟩ k = runK cf sg tips r10_20 ⟨clk + 1, [(0, v0), (1, v1), (2, v2), (3, v3), (5, v5), (6, v6), (7, v7), (8, v8)], tips, lk, bx⟩ (endK 8 k) := execK_region
def c10_15 : VC := .seq c10_16 c10_20
@[simp] theorem e10_15 {e : Env} : execK cf sg m c10_15 ⟨clk, e, tips, lk, bx⟩ k = execK cf sg m (.seq c10_16 c10_20) ⟨clk, e, tips, lk, bx⟩ k := rfl
def c10_11 : VC := .seq c10_12 c10_15
@[simp] theorem e10_11 {e : Env} : execK cf sg m c10_11 ⟨clk, e, tips, lk, bx⟩ k = execK cf sg m (.seq c10_12 c10_15) ⟨clk, e, tips, lk, bx⟩ k := rfl
def c10_9 : VC := .seq c10_10 c10_11
@[simp] theorem e10_9 {e : Env} : execK cf sg m c10_9 ⟨clk, e, tips, lk, bx⟩ k = execK cf sg m (.seq c10_10 c10_11) ⟨clk, e, tips, lk, bx⟩ k := rfl
def c10_8 : VC := .loop c10_9
@[simp] theorem e10_8 {e : Env} : execK cf sg m c10_8 ⟨clk, e, tips, lk, bx⟩ k = execK cf sg m (.loop c10_9) ⟨clk, e, tips, lk, bx⟩ k := rfl
def c10_7 : VC := .block 0 c10_8
@[simp] theorem e10_7 {e : Env} : execK cf sg m c10_7 ⟨clk, e, tips, lk, bx⟩ k = execK cf sg m (.block 0 c10_8) ⟨clk, e, tips, lk, bx⟩ k := rfl
def c10_5 : VC := .seq c10_6 c10_7
@[simp] theorem e10_5 {e : Env} : execK cf sg m c10_5 ⟨clk, e, tips, lk, bx⟩ k = execK cf sg m (.seq c10_6 c10_7) ⟨clk, e, tips, lk, bx⟩ k := rfl
@[simp] def r10_22 : List VOper := [⟨some 22, .mv (.tmp 3), none⟩, ⟨some 23, .call 34 [.tmp 22, .const (.str [58])] true [], none⟩, ⟨some 2, .mv (.tmp 23), none⟩]
def c10_22 : VC := .region r10_22
@[simp] theorem e10_22 {v0 v1 v2 v3 v5 v6 v7 v8 : V} : execK cf sg m c10_22 ⟨clk, [(0, v0), (1, v1), (2, v2), (3, v3), (5, v5), (6, v6), (7, v7), (8, v8)], tips, lk, bx⟩ k = runK cf sg tips r10_22 ⟨clk + 1, [(0, v0), (1, v1), (2, v2), (3, v3), (5, v5), (6, v6), (7, v7), (8, v8)], tips, lk, bx⟩ (endK 8 k) := execK_region
def c10_23 : VC := .ret
@[simp] theorem e10_23 {e : Env} : execK cf sg m c10_23 ⟨clk, e, tips, lk, bx⟩ k = execK cf sg m (.ret) ⟨clk, e, tips, lk, bx⟩ k := rfl
def c10_21 : VC := .seq c10_22 c10_23
@[simp] theorem e10_21 {e : Env} : execK cf sg m c10_21 ⟨clk, e, tips, lk, bx⟩ k = execK cf sg m (.seq c10_22 c10_23) ⟨clk, e, tips, lk, bx⟩ k := rfl
def c10_4 : VC := .seq c10_5 c10_21
@[simp] theorem e10_4 {e : Env} : execK cf sg m c10_4 ⟨clk, e, tips, lk, bx⟩ k = execK cf sg m (.seq c10_5 c10_21) ⟨clk, e, tips, lk, bx⟩ k := rfl
def c10_2 : VC := .seq c10_3 c10_4
@[simp] theorem e10_2 {e : Env} : execK cf sg m c10_2 ⟨clk, e, tips, lk, bx⟩ k = execK cf sg m (.seq c10_3 c10_4) ⟨clk, e, tips, lk, bx⟩ k := rfl
def c10_0 : VC := .seq c10_1 c10_2
@[simp] theorem e10_0 {e : Env} : execK cf sg m c10_0 ⟨clk, e, tips, lk, bx⟩ k = execK cf sg m (.seq c10_1 c10_2) ⟨clk, e, tips, lk, bx⟩ k := rfl
def hh10 : Hints := { esc := [], rt := [(1, .r 1)], cut := [], quiet := [23], avoid := [] }
def vf10 : VF := ⟨[0, 1, 2, 3, 5, 6, 7, 8], [], true, c10_0, [.tmp 2]⟩
@[simp] theorem res10 : vf10.res = [.tmp 2] := rfl
theorem tab10 : compileFn Try.prog hh10 vf10.kept vf10.cons Try.f10 = some vf10 := by kernel_rfl

/- exchangepoint/exchangepointref04.Print -/
@[simp] def r11_1 : List VOper := [⟨some 1, .boxR 6 (.tmp 0), none⟩, ⟨some 2, .mv (.const (.str [])), none⟩]
def c11_1 : VC := .region r11_1
@[simp] theorem e11_1 {v0 v1 v2 v3 v4 v5 v6 v7 v8 v12 : V} : execK cf sg m c11_1 ⟨clk, [(0, v0), (1, v1), (2, v2), (3, v3), (4, v4), (5, v5), (6, v6), (7, v7), (8, v8), (12, v12)], tips, lk, bx⟩ k = runK cf sg tips r11_1 ⟨clk + 1, [(0, v0), (1, v1), (2, v2), (3, v3), (4, v4), (5, v5), (6, v6), (7, v7), (8, v8), (12, v12)], tips, lk, bx⟩ (endK 10 k) := execK_region
@[simp] def r11_3 : List VOper := [⟨some 3, .mv (.const .nils), none⟩]
def c11_3 : VC := .region r11_3
@[simp] theorem e11_3 {v0 v1 v2 v3 v4 v5 v6 v7 v8 v12 : V} : execK cf sg m c11_3 ⟨clk, [(0, v0), (1, v1), (2, v2), (3, v3), (4, v4), (5, v5), (6, v6), (7, v7), (8, v8), (12, v12)], tips, lk, bx⟩ k = runK cf sg tips r11_3 ⟨clk + 1, [(0, v0), (1, v1), (2, v2), (3, v3), (4, v4), (5, v5), (6, v6), (7, v7), (8, v8), (12, v12)], tips, lk, bx⟩ (endK 10 k) := execK_region
@[simp] def r11_6 : List VOper := [⟨some 6, .load (.r 1) true 6 (.tmp 1), none⟩, ⟨some 7, .mv (.const (.int .i64 0)), none⟩]
def c11_6 : VC := .region r11_6
@[simp] theorem e11_6 {v0 v1 v2 v3 v4 v5 v6 v7 v8 v12 : V} : execK cf sg m c11_6 ⟨clk, [(0, v0), (1, v1), (2, v2), (3, v3), (4, v4), (5, v5), (6, v6), (7, v7), (8, v8), (12, v12)], tips, lk, bx⟩ k = runK cf sg tips r11_6 ⟨clk + 1, [(0, v0), (1, v1), (2, v2), (3, v3), (4, v4), (5, v5), (6, v6), (7, v7), (8, v8), (12, v12)], tips, lk, bx⟩ (endK 10 k) := execK_region
@[simp] def r11_10 : List VOper := [⟨some 8, .bin .lss (.tmp 7) (.const (.int .i64 6)), none⟩]
def c11_10 : VC := .region r11_10
@[simp] theorem e11_10 {v0 v1 v2 v3 v4 v5 v6 v7 v8 v12 : V} : execK cf sg m c11_10 ⟨clk, [(0, v0), (1, v1), (2, v2), (3, v3), (4, v4), (5, v5), (6, v6), (7, v7), (8, v8), (12, v12)], tips, lk, bx⟩ k = runK cf sg tips r11_10 ⟨clk + 1, [(0, v0), (1, v1), (2, v2), (3, v3), (4, v4), (5, v5), (6, v6), (7, v7), (8, v8), (12, v12)], tips, lk, bx⟩ (endK 10 k) := execK_region
def c11_13 : VC := .skip
@[simp] theorem e11_13 {e : Env} : execK cf sg m c11_13 ⟨clk, e, tips, lk, bx⟩ k = execK cf sg m (.skip) ⟨clk, e, tips, lk, bx⟩ k := rfl
def c11_14 : VC := .exit 0
@[simp] theorem e11_14 {e : Env} : execK cf sg m c11_14 ⟨clk, e, tips, lk, bx⟩ k = execK cf sg m (.exit 0) ⟨clk, e, tips, lk, bx⟩ k := rfl
def c11_12 : VC := .cond (.tmp 8) c11_13 c11_14
@[simp] theorem e11_12 {e : Env} : execK cf sg m c11_12 ⟨clk, e, tips, lk, bx⟩ k = execK cf sg m (.cond (.tmp 8) c11_13 c11_14) ⟨clk, e, tips, lk, bx⟩ k := rfl
@[simp] def r11_18 : List VOper := [⟨some 9, .mv (.tmp 7), none⟩, ⟨some 10, .ixA false 6 1 (.tmp 6) (.tmp 7), none⟩, ⟨some 4, .mv (.tmp 9), none⟩, ⟨some 5, .mv (.tmp 10), none⟩]
def c11_18 : VC := .region r11_18
@[simp] theorem e11_18 {v0 v1 v2 v3 v4 v5 v6 v7 v8 v12 : V} : execK cf sg m c11_18 ⟨clk, [(0, v0), (1, v1), (2, v2), (3, v3), (4, v4), (5, v5), (6, v6), (7, v7), (8, v8), (12, v12)], tips, lk, bx⟩ k = runK cf sg tips r11_18 ⟨clk + 1, [(0, v0), (1, v1), (2, v2), (3, v3), (4, v4), (5, v5), (6, v6), (7, v7), (8, v8), (12, v12)], tips, lk, bx⟩ (endK 10 k) := execK_region
@[simp] def r11_21 : List VOper := [⟨some 11, .mv (.tmp 4), none⟩, ⟨some 12, .bin .gtr (.tmp 11) (.const (.int .i64 0)), none⟩]
def c11_21 : VC := .region r11_21
@[simp] theorem e11_21 {v0 v1 v2 v3 v4 v5 v6 v7 v8 v12 : V} : execK cf sg m c11_21 ⟨clk, [(0, v0), (1, v1), (2, v2), (3, v3), (4, v4), (5, v5), (6, v6), (7, v7), (8, v8), (12, v12)], tips, lk, bx⟩ k = runK cf sg tips r11_21 ⟨clk + 1, [(0, v0), (1, v1), (2, v2), (3, v3), (4, v4), (5, v5), (6, v6), (7, v7), (8, v8), (12, v12)], tips, lk, bx⟩ (endK 10 k) := execK_region
@[simp] def r11_23 : List VOper := [⟨some 13, .mv (.tmp 3), none⟩, ⟨some 14, .bslice false 1 1 [.int .u8 0] [(0, 1, .const (.int .u8 58))], none⟩, ⟨some 15, .append 1 1 false (.tmp 13) (.tmp 14) [], none⟩, ⟨some 3, .mv (.tmp 15), none⟩]
def c11_23 : VC := .region r11_23
@[simp] theorem e11_23 {v0 v1 v2 v3 v4 v5 v6 v7 v8 v12 : V} : execK cf sg m c11_23 ⟨clk, [(0, v0), (1, v1), (2, v2), (3, v3), (4, v4), (5, v5), (6, v6), (7, v7), (8, v8), (12, v12)], tips, lk, bx⟩ k = runK cf sg (bump tips [(nmOf 14 0)]) r11_23 ⟨clk + 1, [(0, v0), (1, v1), (2, v2), (3, v3), (4, v4), (5, v5), (6, v6), (7, v7), (8, v8), (12, v12)], bump tips [(nmOf 14 0)], updL lk false [(nmOf 14 0)], bx⟩ (endK 10 k) := execK_region
def c11_24 : VC := .skip
@[simp] theorem e11_24 {e : Env} : execK cf sg m c11_24 ⟨clk, e, tips, lk, bx⟩ k = execK cf sg m (.skip) ⟨clk, e, tips, lk, bx⟩ k := rfl
def c11_22 : VC := .cond (.tmp 12) c11_23 c11_24
@[simp] theorem e11_22 {e : Env} : execK cf sg m c11_22 ⟨clk, e, tips, lk, bx⟩ k = execK cf sg m (.cond (.tmp 12) c11_23 c11_24) ⟨clk, e, tips, lk, bx⟩ k := rfl
def c11_20 : VC := .seq c11_21 c11_22
@[simp] theorem e11_20 {e : Env} : execK cf sg m c11_20 ⟨clk, e, tips, lk, bx⟩ k = execK cf sg m (.seq c11_21 c11_22) ⟨clk, e, tips, lk, bx⟩ k := rfl
@[simp] def r11_25 : List VOper := [⟨some 16, .mv (.tmp 3), none⟩, ⟨some 17, .mv (.tmp 5), none⟩, ⟨some 18, .bin .shr (.tmp 17) (.const (.int .u64 4)), none⟩, ⟨some 19, .ixS (.const (.str [48, 49, 50, 51, 52, 53, 54, 55, 56, 57, 97, 98, 99, 100, 101, 102])) (.tmp 18), none⟩, ⟨some 20, .mv (.tmp 5), none⟩, ⟨some 21, .bin .and (.tmp 20) (.const (.int .u8 15)), none⟩, ⟨some 22, .ixS (.const (.str [48, 49, 50, 51, 52, 53, 54, 55, 56, 57, 97, 98, 99, 100, 101, 102])) (.tmp 21), none⟩, ⟨some 23, .bslice false 1 2 [.int .u8 0] [(0, 1, .tmp 19), (1, 1, .tmp 22)], none⟩, ⟨some 24, .append 1 1 false (.tmp 16) (.tmp 23) [], none⟩, ⟨some 3, .mv (.tmp 24), none⟩]
def c11_25 : VC := .region r11_25
@[simp] theorem e11_25 {v0 v1 v2 v3 v4 v5 v6 v7 v8 v12 : V} : execK cf sg m c11_25 ⟨clk, [(0, v0), (1, v1), (2, v2), (3, v3), (4, v4), (5, v5), (6, v6), (7, v7), (8, v8), (12, v12)], tips, lk, bx⟩ k = runK cf sg (bump tips [(nmOf 23 0)]) r11_25 ⟨clk + 1, [(0, v0), (1, v1), (2, v2), (3, v3), (4, v4), (5, v5), (6, v6), (7, v7), (8, v8), (12, v12)], bump tips [(nmOf 23 0)], updL lk false [(nmOf 23 0)], bx⟩ (endK 10 k) := execK_region
def c11_19 : VC := .seq c11_20 c11_25
@[simp] theorem e11_19 {e : Env} : execK cf sg m c11_19 ⟨clk, e, tips, lk, bx⟩ k = execK cf sg m (.seq c11_20 c11_25) ⟨clk, e, tips, lk, bx⟩ k := rfl
def c11_17 : VC := .seq c11_18 c11_19
@[simp] theorem e11_17 {e : Env} : execK cf sg m c11_17 ⟨clk, e, tips, lk, bx⟩ k = execK cf sg m (.seq c11_18 c11_19) ⟨clk, e, tips, lk, bx⟩ k := rfl
def c11_16 : VC := .block 1 c11_17
@[simp] theorem e11_16 {e : Env} : execK cf sg m c11_16 ⟨clk, e, tips, lk, bx⟩ k = execK cf sg m (.block 1 c11_17) ⟨clk, e, tips, lk, bx⟩ k := rfl
@[simp] def r11_26 : List VOper := [⟨some 25, .bin .add (.tmp 7) (.const (.int .i64 1)), none⟩, ⟨some 7, .mv (.tmp 25), none⟩]
def c11_26 : VC := .region r11_26
@[simp] theorem e11_26 {v0 v1 v2 v3 v4 v5 v6 v7 v8 v12 : V} : execK cf sg m c11_26 ⟨clk, [(0, v0), (1, v1), (2, v2), (3, v3), (4, v4), (5, v5), (6, v6), (7, v7), (8, v8), (12, v12)], tips, lk, bx⟩ k = runK cf sg tips r11_26 ⟨clk + 1, [(0, v0), (1, v1), (2, v2), (3, v3), (4, v4), (5, v5), (6, v6), (7, v7), (8, v8), (12, v12)], tips, lk, bx⟩ (endK 10 k) := execK_region
def c11_15 : VC := .seq c11_16 c11_26
@[simp] theorem e11_15 {e : Env} : execK cf sg m c11_15 ⟨clk, e, tips, lk, bx⟩ k = execK cf sg m (.seq c11_16 c11_26) ⟨clk, e, tips, lk, bx⟩ k := rfl
def c11_11 : VC := .seq c11_12 c11_15
@[simp] theorem e11_11 {e : Env} : execK cf sg m c11_11 ⟨clk, e, tips, lk, bx⟩ k = execK cf sg m (.seq c11_12 c11_15) ⟨clk, e, tips, lk, bx⟩ k := rfl
def c11_9 : VC := .seq c11_10 c11_11
@[simp] theorem e11_9 {e : Env} : execK cf sg m c11_9 ⟨clk, e, tips, lk, bx⟩ k = execK cf sg m (.seq c11_10 c11_11) ⟨clk, e, tips, lk, bx⟩ k := rfl
def c11_8 : VC := .loop c11_9
@[simp] theorem e11_8 {e : Env} : execK cf sg m c11_8 ⟨clk, e, tips, lk, bx⟩ k = execK cf sg m (.loop c11_9) ⟨clk, e, tips, lk, bx⟩ k := rfl
def c11_7 : VC := .block 0 c11_8
@[simp] theorem e11_7 {e : Env} : execK cf sg m c11_7 ⟨clk, e, tips, lk, bx⟩ k = execK cf sg m (.block 0 c11_8) ⟨clk, e, tips, lk, bx⟩ k := rfl
def c11_5 : VC := .seq c11_6 c11_7
@[simp] theorem e11_5 {e : Env} : execK cf sg m c11_5 ⟨clk, e, tips, lk, bx⟩ k = execK cf sg m (.seq c11_6 c11_7) ⟨clk, e, tips, lk, bx⟩ k := rfl
@[simp] def r11_28 : List VOper := [⟨some 26, .mv (.tmp 3), none⟩, ⟨some 27, .toStr (.tmp 26) [], none⟩, ⟨some 2, .mv (.tmp 27), none⟩]
def c11_28 : VC := .region r11_28
@[simp] theorem e11_28 {v0 v1 v2 v3 v4 v5 v6 v7 v8 v12 : V} : execK cf sg m c11_28 ⟨clk, [(0, v0), (1, v1), (2, v2), (3, v3), (4, v4), (5, v5), (6, v6), (7, v7), (8, v8), (12, v12)], tips, lk, bx⟩ k = runK cf sg tips r11_28 ⟨clk + 1, [(0, v0), (1, v1), (2, v2), (3, v3), (4, v4), (5, v5), (6, v6), (7, v7), (8, v8), (12, v12)], tips, lk, bx⟩ (endK 10 k) := execK_region
def c11_29 : VC := .ret
@[simp] theorem e11_29 {e : Env} : execK cf sg m c11_29 ⟨clk, e, tips, lk, bx⟩ k = execK cf sg m (.ret) ⟨clk, e, tips, lk, bx⟩ k := rfl
def c11_27 : VC := .seq c11_28 c11_29
@[simp] theorem e11_27 {e : Env} : execK cf sg m c11_27 ⟨clk, e, tips, lk, bx⟩ k = execK cf sg m (.seq c11_28 c11_29) ⟨clk, e, tips, lk, bx⟩ k := rfl
def c11_4 : VC := .seq c11_5 c11_27
@[simp] theorem e11_4 {e : Env} : execK cf sg m c11_4 ⟨clk, e, tips, lk, bx⟩ k = execK cf sg m (.seq c11_5 c11_27) ⟨clk, e, tips, lk, bx⟩ k := rfl
def c11_2 : VC := .seq c11_3 c11_4
@[simp] theorem e11_2 {e : Env} : execK cf sg m c11_2 ⟨clk, e, tips, lk, bx⟩ k = execK cf sg m (.seq c11_3 c11_4) ⟨clk, e, tips, lk, bx⟩ k := rfl
def c11_0 : VC := .seq c11_1 c11_2
@[simp] theorem e11_0 {e : Env} : execK cf sg m c11_0 ⟨clk, e, tips, lk, bx⟩ k = execK cf sg m (.seq c11_1 c11_2) ⟨clk, e, tips, lk, bx⟩ k := rfl
def hh11 : Hints := { esc := [], rt := [(1, .r 1)], cut := [], quiet := [], avoid := [] }
def vf11 : VF := ⟨[0, 1, 2, 3, 4, 5, 6, 7, 8, 12], [], true, c11_0, [.tmp 2]⟩
@[simp] theorem res11 : vf11.res = [.tmp 2] := rfl
theorem tab11 : compileFn Try.prog hh11 vf11.kept vf11.cons Try.f11 = some vf11 := by kernel_rfl

/- exchangepoint/ether.Group -/
@[simp] def r12_1 : List VOper := [⟨some 1, .boxR 6 (.tmp 0), none⟩, ⟨some 2, .mv (.const (.bool false)), none⟩]
def c12_1 : VC := .region r12_1
@[simp] theorem e12_1 {v0 v1 v2 : V} : execK cf sg m c12_1 ⟨clk, [(0, v0), (1, v1), (2, v2)], tips, lk, bx⟩ k = runK cf sg tips r12_1 ⟨clk + 1, [(0, v0), (1, v1), (2, v2)], tips, lk, bx⟩ (endK 3 k) := execK_region
@[simp] def r12_3 : List VOper := [⟨some 3, .idxA 6 1 (.tmp 1) (.const (.int .i64 0)), none⟩, ⟨some 4, .load (.r 1) false 1 (.tmp 3), none⟩, ⟨some 5, .bin .and (.tmp 4) (.const (.int .u8 1)), none⟩, ⟨some 6, .bin .eql (.tmp 5) (.const (.int .u8 1)), none⟩, ⟨some 2, .mv (.tmp 6), none⟩]
def c12_3 : VC := .region r12_3
@[simp] theorem e12_3 {v0 v1 v2 : V} : execK cf sg m c12_3 ⟨clk, [(0, v0), (1, v1), (2, v2)], tips, lk, bx⟩ k = runK cf sg tips r12_3 ⟨clk + 1, [(0, v0), (1, v1), (2, v2)], tips, lk, bx⟩ (endK 3 k) := execK_region
def c12_4 : VC := .ret
@[simp] theorem e12_4 {e : Env} : execK cf sg m c12_4 ⟨clk, e, tips, lk, bx⟩ k = execK cf sg m (.ret) ⟨clk, e, tips, lk, bx⟩ k := rfl
def c12_2 : VC := .seq c12_3 c12_4
@[simp] theorem e12_2 {e : Env} : execK cf sg m c12_2 ⟨clk, e, tips, lk, bx⟩ k = execK cf sg m (.seq c12_3 c12_4) ⟨clk, e, tips, lk, bx⟩ k := rfl
def c12_0 : VC := .seq c12_1 c12_2
@[simp] theorem e12_0 {e : Env} : execK cf sg m c12_0 ⟨clk, e, tips, lk, bx⟩ k = execK cf sg m (.seq c12_1 c12_2) ⟨clk, e, tips, lk, bx⟩ k := rfl
def hh12 : Hints := { esc := [], rt := [(3, .r 1)], cut := [], quiet := [], avoid := [] }
def vf12 : VF := ⟨[0, 1, 2], [], true, c12_0, [.tmp 2]⟩
@[simp] theorem res12 : vf12.res = [.tmp 2] := rfl
theorem tab12 : compileFn Try.prog hh12 vf12.kept vf12.cons Try.f12 = some vf12 := by kernel_rfl

/- exchangepoint/exchangepointref04.Group -/
@[simp] def r13_1 : List VOper := [⟨some 1, .boxR 6 (.tmp 0), none⟩, ⟨some 2, .mv (.const (.bool false)), none⟩]
def c13_1 : VC := .region r13_1
@[simp] theorem e13_1 {v0 v1 v2 : V} : execK cf sg m c13_1 ⟨clk, [(0, v0), (1, v1), (2, v2)], tips, lk, bx⟩ k = runK cf sg tips r13_1 ⟨clk + 1, [(0, v0), (1, v1), (2, v2)], tips, lk, bx⟩ (endK 3 k) := execK_region
@[simp] def r13_3 : List VOper := [⟨some 3, .idxA 6 1 (.tmp 1) (.const (.int .i64 0)), none⟩, ⟨some 4, .load (.r 1) false 1 (.tmp 3), none⟩, ⟨some 5, .bin .rem (.tmp 4) (.const (.int .u8 2)), none⟩, ⟨some 6, .bin .eql (.tmp 5) (.const (.int .u8 1)), none⟩, ⟨some 2, .mv (.tmp 6), none⟩]
def c13_3 : VC := .region r13_3
@[simp] theorem e13_3 {v0 v1 v2 : V} : execK cf sg m c13_3 ⟨clk, [(0, v0), (1, v1), (2, v2)], tips, lk, bx⟩ k = runK cf sg tips r13_3 ⟨clk + 1, [(0, v0), (1, v1), (2, v2)], tips, lk, bx⟩ (endK 3 k) := execK_region
def c13_4 : VC := .ret
@[simp] theorem e13_4 {e : Env} : execK cf sg m c13_4 ⟨clk, e, tips, lk, bx⟩ k = execK cf sg m (.ret) ⟨clk, e, tips, lk, bx⟩ k := rfl
def c13_2 : VC := .seq c13_3 c13_4
@[simp] theorem e13_2 {e : Env} : execK cf sg m c13_2 ⟨clk, e, tips, lk, bx⟩ k = execK cf sg m (.seq c13_3 c13_4) ⟨clk, e, tips, lk, bx⟩ k := rfl
def c13_0 : VC := .seq c13_1 c13_2
@[simp] theorem e13_0 {e : Env} : execK cf sg m c13_0 ⟨clk, e, tips, lk, bx⟩ k = execK cf sg m (.seq c13_1 c13_2) ⟨clk, e, tips, lk, bx⟩ k := rfl
def hh13 : Hints := { esc := [], rt := [(3, .r 1)], cut := [], quiet := [], avoid := [] }
def vf13 : VF := ⟨[0, 1, 2], [], true, c13_0, [.tmp 2]⟩
@[simp] theorem res13 : vf13.res = [.tmp 2] := rfl
theorem tab13 : compileFn Try.prog hh13 vf13.kept vf13.cons Try.f13 = some vf13 := by kernel_rfl

/- exchangepoint/ether.Reserved -/
@[simp] def r14_1 : List VOper := [⟨some 1, .boxR 6 (.tmp 0), none⟩, ⟨some 2, .mv (.const (.bool false)), none⟩]
def c14_1 : VC := .region r14_1
@[simp] theorem e14_1 {v0 v1 v2 v3 : V} : execK cf sg m c14_1 ⟨clk, [(0, v0), (1, v1), (2, v2), (3, v3)], tips, lk, bx⟩ k = runK cf sg tips r14_1 ⟨clk + 1, [(0, v0), (1, v1), (2, v2), (3, v3)], tips, lk, bx⟩ (endK 4 k) := execK_region
@[simp] def r14_3 : List VOper := [⟨some 4, .idxA 6 1 (.tmp 1) (.const (.int .i64 5)), none⟩, ⟨some 5, .load (.r 1) false 1 (.tmp 4), none⟩, ⟨some 3, .mv (.tmp 5), none⟩]
def c14_3 : VC := .region r14_3
@[simp] theorem e14_3 {v0 v1 v2 v3 : V} : execK cf sg m c14_3 ⟨clk, [(0, v0), (1, v1), (2, v2), (3, v3)], tips, lk, bx⟩ k = runK cf sg tips r14_3 ⟨clk + 1, [(0, v0), (1, v1), (2, v2), (3, v3)], tips, lk, bx⟩ (endK 4 k) := execK_region
@[simp] def r14_5 : List VOper := [⟨some 6, .idxA 6 1 (.tmp 1) (.const (.int .i64 5)), none⟩, ⟨none, .store (.r 1) 1 (.tmp 6) (.const (.int .u8 0)), none⟩]
def c14_5 : VC := .region r14_5
@[simp] theorem e14_5 {v0 v1 v2 v3 : V} : execK cf sg m c14_5 ⟨clk, [(0, v0), (1, v1), (2, v2), (3, v3)], tips, lk, bx⟩ k = runK cf sg tips r14_5 ⟨clk + 1, [(0, v0), (1, v1), (2, v2), (3, v3)], tips, lk, bx⟩ (endK 4 k) := execK_region
@[simp] def r14_7 : List VOper := [⟨some 7, .load (.r 1) true 6 (.tmp 1), none⟩, ⟨some 8, .build [.int .u8 0, .int .u8 0, .int .u8 0, .int .u8 0, .int .u8 0, .int .u8 0] [(0, 1, .const (.int .u8 1)), (1, 1, .const (.int .u8 128)), (2, 1, .const (.int .u8 194))], none⟩, ⟨some 9, .eq false (.flat [.i, .i, .i, .i, .i, .i]) (.tmp 7) (.tmp 8), none⟩, ⟨some 10, .mv (.tmp 9), none⟩, ⟨some 11, .mv (.tmp 3), some (10, true)⟩, ⟨some 12, .bin .leq (.tmp 11) (.const (.int .u8 15)), some (10, true)⟩, ⟨some 13, .pick (.tmp 10) (.tmp 12) (.const (.bool false)), none⟩, ⟨some 2, .mv (.tmp 13), none⟩]
def c14_7 : VC := .region r14_7
@[simp] theorem e14_7 {v0 v1 v2 v3 : V} : execK cf sg m c14_7 ⟨clk, [(0, v0), (1, v1), (2, v2), (3, v3)], tips, lk, bx⟩ k = runK cf sg tips r14_7 ⟨clk + 1, [(0, v0), (1, v1), (2, v2), (3, v3)], tips, lk, bx⟩ (endK 4 k) := execK_region
def c14_8 : VC := .ret
@[simp] theorem e14_8 {e : Env} : execK cf sg m c14_8 ⟨clk, e, tips, lk, bx⟩ k = execK cf sg m (.ret) ⟨clk, e, tips, lk, bx⟩ k := rfl
def c14_6 : VC := .seq c14_7 c14_8
@[simp] theorem e14_6 {e : Env} : execK cf sg m c14_6 ⟨clk, e, tips, lk, bx⟩ k = execK cf sg m (.seq c14_7 c14_8) ⟨clk, e, tips, lk, bx⟩ k := rfl
def c14_4 : VC := .seq c14_5 c14_6
@[simp] theorem e14_4 {e : Env} : execK cf sg m c14_4 ⟨clk, e, tips, lk, bx⟩ k = execK cf sg m (.seq c14_5 c14_6) ⟨clk, e, tips, lk, bx⟩ k := rfl
def c14_2 : VC := .seq c14_3 c14_4
@[simp] theorem e14_2 {e : Env} : execK cf sg m c14_2 ⟨clk, e, tips, lk, bx⟩ k = execK cf sg m (.seq c14_3 c14_4) ⟨clk, e, tips, lk, bx⟩ k := rfl
def c14_0 : VC := .seq c14_1 c14_2
@[simp] theorem e14_0 {e : Env} : execK cf sg m c14_0 ⟨clk, e, tips, lk, bx⟩ k = execK cf sg m (.seq c14_1 c14_2) ⟨clk, e, tips, lk, bx⟩ k := rfl
def hh14 : Hints := { esc := [], rt := [(1, .r 1), (4, .r 1), (6, .r 1)], cut := [], quiet := [], avoid := [] }
def vf14 : VF := ⟨[0, 1, 2, 3], [], true, c14_0, [.tmp 2]⟩
@[simp] theorem res14 : vf14.res = [.tmp 2] := rfl
theorem tab14 : compileFn Try.prog hh14 vf14.kept vf14.cons Try.f14 = some vf14 := by kernel_rfl

end Go.Proofs.Ytndaipcfahfkkaa
